/- Part 3 of the means of the proof: a verified abstract evaluator, the prepared functions, and contracts of functions. It states nothing of the claim by itself. -/
import Derived.Test.YthcgjgfjoodliaaDoorB2
import Derived.KernelRfl
import Derived.Test.YthcgjgfjoodliaaDoorProg
set_option maxRecDepth 4000
set_option linter.unusedSimpArgs false
set_option linter.unusedVariables false
namespace Go.Abs
open Go
/-! ### Walks that end in some state of a kind: the state is picked on the way -/
def TX (P : Program) (nt : Nat) (c : TCode) (Q : AExit -> St -> Prop) (s : St) : Prop := ∃ e s', Q e s' /\ TW P nt c (fun e2 s2 => e2 = e /\ s2 = s') s
section
variable {P : Program} {nt : Nat} {Q Q' : AExit -> St -> Prop} {s : St}
theorem Xi {c : TCode} (h : ∀ e s, Q e s -> Q' e s) (k : TW P nt c Q s) : TW P nt c Q' s := fun code E g a w hm hp hn hfl r =>
 wpIn_mono (k code E g a w hm hp hn hfl r) fun e a' w' hq => by
  cases e <;> simp only [AQ] at hq ⊢ <;> try exact hq
  all_goals
   obtain ⟨s', g', hq, r'⟩ := hq
   exact ⟨s', g', h _ _ hq, r'⟩
/-! #### A region's walk picks its state -/
theorem Qap {op : BinOp} {bt : Bool} {p q : D} {kk : D -> Prop} (h : Qbe op bt p q kk) : ∃ d, kk d /\ ∀ k2 : D -> Prop, k2 d -> Qbe op bt p q k2 := by
 cases p <;> cases q <;> simp only [Qbe] at h ⊢ <;> try exact h.elim
 ·obtain ⟨h1, h2⟩ := h
  cases op <;> simp only [Cw] at h2 ⊢
  case quo => exact ⟨_, h2.2, fun k2 hk => ⟨h1, h2.1, hk⟩⟩
  case rem => exact ⟨_, h2.2, fun k2 hk => ⟨h1, h2.1, hk⟩⟩
  case shl => exact ⟨_, h2.2, fun k2 hk => ⟨h1, h2.1, hk⟩⟩
  case shr => exact ⟨_, h2.2, fun k2 hk => ⟨h1, h2.1, hk⟩⟩
  all_goals exact ⟨_, h2, fun k2 hk => ⟨h1, hk⟩⟩
 ·obtain ⟨h1, h2⟩ := h
  cases op <;> simp only [Qan] at h2 ⊢ <;> try exact h2.elim
  all_goals exact ⟨_, h2, fun k2 hk => ⟨h1, hk⟩⟩
 ·cases op <;> simp only [Qaq] at h ⊢ <;> try exact h.elim
  case add => exact ⟨_, h.2, fun k2 hk => ⟨h.1, hk⟩⟩
  all_goals exact ⟨_, h, fun k2 hk => hk⟩
 ·obtain ⟨h1, h2, h3, h4⟩ := h
  exact ⟨_, h4, fun k2 hk => ⟨h1, h2, h3, hk⟩⟩
theorem D7 {dr : Bool} {op : AOp} {dst : Option Nat} {k : St -> Prop} (h : P4 P dr op dst s k) : ∃ s', k s' /\ ∀ k2 : St -> Prop, k2 s' -> P4 P dr op dst s k2 := by
 cases op <;> simp only [P4] at h ⊢
 case mov x => obtain ⟨d, h1, h2⟩ := h; exact ⟨_, h2, fun k2 hk => ⟨d, h1, hk⟩⟩
 case pick c x y => obtain ⟨cd, h1, t, h2, d, h3, h4⟩ := h; exact ⟨_, h4, fun k2 hk => ⟨cd, h1, t, h2, d, h3, hk⟩⟩
 case alloc et cells => obtain ⟨t, h1, h2, h3⟩ := h; exact ⟨_, h3, fun k2 hk => ⟨t, h1, h2, hk⟩⟩
 case box et x => obtain ⟨t, h1, v, h2, cells, h3, h4, h5⟩ := h; exact ⟨_, h5, fun k2 hk => ⟨t, h1, v, h2, cells, h3, h4, hk⟩⟩
 case build zero parts => obtain ⟨qs, h1, ds, h2, h3⟩ := h; exact ⟨_, h3, fun k2 hk => ⟨qs, h1, ds, h2, hk⟩⟩
 case buildSlice esz et parts =>
  rcases h with ⟨t, h1, rows, h2, h3, h4⟩ | ⟨rows, h2, h3, h4⟩
  ·exact ⟨_, h4, fun k2 hk => .inl ⟨t, h1, rows, h2, h3, hk⟩⟩
  ·exact ⟨_, h4, fun k2 hk => .inr ⟨rows, h2, h3, hk⟩⟩
 case load agg sz x =>
  obtain ⟨p, h1, cells, h2, h3⟩ := h
  cases agg with
  | true => exact ⟨_, h3.2, fun k2 hk => ⟨p, h1, cells, h2, h3.1, hk⟩⟩
  | false => obtain ⟨d, h4, h5⟩ := h3; exact ⟨_, h5, fun k2 hk => ⟨p, h1, cells, h2, d, h4, hk⟩⟩
 case store sz x v =>
  obtain ⟨p, h1, h2⟩ := h
  cases p <;> simp only [QcU] at h2 <;> try exact h2.elim
  obtain ⟨b, h3, row, h4, q, h5, cells, h6, h7, h8, h9⟩ := h2
  exact ⟨_, h9, fun k2 hk => ⟨_, h1, b, h3, row, h4, q, h5, cells, h6, h7, h8, hk⟩⟩
 case nilCheck x => obtain ⟨p, h1, h2, h3⟩ := h; exact ⟨_, h3, fun k2 hk => ⟨p, h1, h2, hk⟩⟩
 case bin op bt x y =>
  obtain ⟨p, h1, q, h2, h3⟩ := h
  obtain ⟨d, h4, h5⟩ := Qap h3
  exact ⟨_, h4, fun k2 hk => ⟨p, h1, q, h2, h5 _ hk⟩⟩
 case eqs neg ks x y => obtain ⟨p, h1, q, h2, xs, h3, ys, h4, b, h5, h6⟩ := h; exact ⟨_, h6, fun k2 hk => ⟨p, h1, q, h2, xs, h3, ys, h4, b, h5, hk⟩⟩
 case un op x =>
  obtain ⟨p, h1, h2⟩ := h
  cases op <;> cases p <;> simp only [unK] at h2 <;> try exact h2.elim
  all_goals exact ⟨_, h2, fun k2 hk => ⟨_, h1, hk⟩⟩
 case conv kk x => obtain ⟨p, h1, d, h2, h3⟩ := h; exact ⟨_, h3, fun k2 hk => ⟨p, h1, d, h2, hk⟩⟩
 case capF x =>
  obtain ⟨p, h1, h2⟩ := h
  cases p <;> simp only [Qbg] at h2 <;> try exact h2.elim
  exact ⟨_, h2, fun k2 hk => ⟨_, h1, hk⟩⟩
 case appz esz et bytes zero x y =>
  obtain ⟨t, h1, p, h2, h3⟩ := h
  cases p <;> simp only [Qbg] at h3 <;> try exact h3.elim
  obtain ⟨h4, q, h5, n, h6, h7, h8, h9, h10, h11⟩ := h3
  exact ⟨_, h11, fun k2 hk => ⟨t, h1, _, h2, h4, q, h5, n, h6, h7, h8, h9, h10, hk⟩⟩
 case slice esz x lo hi mx =>
  rcases h with h | ⟨h0, hlo, p, h1, h2⟩
  rotate_left
  ·cases p <;> simp only [Ce] at h2 <;> try exact h2.elim
   ·exact ⟨_, h2.2, fun k2 hk => .inr ⟨h0, hlo, _, h1, h2.1, hk⟩⟩
   ·obtain ⟨m, h3, h4, h5, h6⟩ := h2
    exact ⟨_, h6, fun k2 hk => .inr ⟨h0, hlo, _, h1, m, h3, h4, h5, hk⟩⟩
  obtain ⟨p, h1, rows, h2, l, h3, hh, h4, h5, h6, h7, h8, h9⟩ := h
  cases mx with
  | none => exact ⟨_, h9, fun k2 hk => .inl ⟨p, h1, rows, h2, l, h3, hh, h4, h5, h6, h7, h8, hk⟩⟩
  | some m =>
   obtain ⟨h10, h11, h12⟩ := h9
   exact ⟨_, h12, fun k2 hk => .inl ⟨p, h1, rows, h2, l, h3, hh, h4, h5, h6, h7, h8, h10, h11, hk⟩⟩
 case sliceStr x lo hi => obtain ⟨p, h1, c, h2, l, h3, hh, h4, h5, h6, h7, h8⟩ := h; exact ⟨_, h8, fun k2 hk => ⟨p, h1, c, h2, l, h3, hh, h4, h5, h6, h7, hk⟩⟩
 case fieldAddr off x =>
  obtain ⟨p, h1, h2⟩ := h
  cases p <;> simp only [MP] at h2 <;> try exact h2.elim
  all_goals exact ⟨_, h2.2, fun k2 hk => ⟨_, h1, h2.1, hk⟩⟩
 case field agg off sz x =>
  obtain ⟨p, h1, cells, h2, h3⟩ := h
  cases agg with
  | true => exact ⟨_, h3.2, fun k2 hk => ⟨p, h1, cells, h2, h3.1, hk⟩⟩
  | false => obtain ⟨d, h4, h5⟩ := h3; exact ⟨_, h5, fun k2 hk => ⟨p, h1, cells, h2, d, h4, hk⟩⟩
 case indexAddr esz x i =>
  obtain ⟨n, h1, p, h2, h3⟩ := h
  cases n <;> try (simp only [RF] at h3; done)
  cases p <;> simp only [RF] at h3 <;> try exact h3.elim
  ·obtain ⟨row, h4, h5, h6, h7⟩ := h3; exact ⟨_, h7, fun k2 hk => ⟨_, h1, _, h2, row, h4, h5, h6, hk⟩⟩
  ·obtain ⟨row, h4, h5, h6, h7⟩ := h3; exact ⟨_, h7, fun k2 hk => ⟨_, h1, _, h2, row, h4, h5, h6, hk⟩⟩
  ·obtain ⟨b, h4, h5, h6, h7, h8, h9⟩ := h3; exact ⟨_, h9, fun k2 hk => ⟨_, h1, _, h2, b, h4, h5, h6, h7, h8, hk⟩⟩
 case indexStr x i =>
  obtain ⟨n, h1, p, h2, h3⟩ := h
  cases n <;> try (simp only [Hc] at h3; done)
  cases p <;> simp only [Hc] at h3 <;> try exact h3.elim
  obtain ⟨c, h4, h5, h6⟩ := h3
  exact ⟨_, h6, fun k2 hk => ⟨_, h1, _, h2, c, h4, h5, hk⟩⟩
 case extract i x => obtain ⟨p, h1, ds, h2, d, h3, h4⟩ := h; exact ⟨_, h4, fun k2 hk => ⟨p, h1, ds, h2, d, h3, hk⟩⟩
 case len x => obtain ⟨p, h1, n, h2, h3⟩ := h; exact ⟨_, h3, fun k2 hk => ⟨p, h1, n, h2, hk⟩⟩
 case lenStr x => obtain ⟨p, h1, l, h2, h3⟩ := h; exact ⟨_, h3, fun k2 hk => ⟨p, h1, l, h2, hk⟩⟩
 case min x y =>
  obtain ⟨p, h1, q, h2, h3⟩ := h
  cases p <;> try (simp only [Qb5] at h3; done)
  cases q <;> simp only [Qb5] at h3 <;> try exact h3.elim
  exact ⟨_, h3, fun k2 hk => ⟨_, h1, _, h2, hk⟩⟩
 case append esz et bytes x y =>
  obtain ⟨p, h1, q, h2, h3⟩ := h
  have happ : ∀ (ys : List (List D)) (pr : Bool), By dr esz et bytes dst s p ys pr k -> ∃ s', k s' /\ ∀ k2 : St -> Prop, k2 s' -> By dr esz et bytes dst s p ys pr k2 := by
   intro ys pr h5
   cases p <;> simp only [By] at h5 <;> try exact h5.elim
   ·obtain ⟨t, h6, h7, h8, h9, h10, h11, h12⟩ := h5
    exact ⟨_, h12, fun k2 hk => ⟨t, h6, h7, h8, h9, h10, h11, hk⟩⟩
   ·obtain ⟨hd, hk0, b, h6, h7, h8, h9, h10, h12, h13, h14⟩ := h5
    exact ⟨_, h14, fun k2 hk => ⟨hd, hk0, b, h6, h7, h8, h9, h10, h12, h13, hk⟩⟩
  cases q <;> simp only [Bm] at h3 <;> try exact h3.elim
  ·obtain ⟨s', q1, q2⟩ := happ _ _ h3.2
   exact ⟨s', q1, fun k2 hk => ⟨p, h1, _, h2, h3.1, q2 k2 hk⟩⟩
  ·obtain ⟨s', q1, q2⟩ := happ _ _ h3.2
   exact ⟨s', q1, fun k2 hk => ⟨p, h1, _, h2, h3.1, q2 k2 hk⟩⟩
  ·obtain ⟨b, h4, h5, h6, h7⟩ := h3
   obtain ⟨s', q1, q2⟩ := happ _ _ h7
   exact ⟨s', q1, fun k2 hk => ⟨p, h1, _, h2, b, h4, h5, h6, q2 k2 hk⟩⟩
 case makeSlice esz et bytes zero x y =>
  obtain ⟨p, h1, q, h2, h3⟩ := h
  cases p <;> try (simp only [DL] at h3; done)
  cases q <;> simp only [DL] at h3 <;> try exact h3.elim
  obtain ⟨t, h4, h5, h6, h7, h8, h9, h10⟩ := h3
  exact ⟨_, h10, fun k2 hk => ⟨_, h1, _, h2, t, h4, h5, h6, h7, h8, h9, hk⟩⟩
 case range x => obtain ⟨t, h1, p, h2, l, h3, h4, h5⟩ := h; exact ⟨_, h5, fun k2 hk => ⟨t, h1, p, h2, l, h3, h4, hk⟩⟩
 case next x =>
  obtain ⟨hd, p, h1, h2⟩ := h
  unfold QaE at h2
  split at h2
  ·obtain ⟨l, q, h3, h4⟩ := h2
   rcases h4 with ⟨h4, h5⟩ | ⟨h4, h5⟩
   ·exact ⟨_, h5, fun k2 hk => ⟨hd, _, h1, l, q, h3, .inl ⟨h4, hk⟩⟩⟩
   ·exact ⟨_, h5, fun k2 hk => ⟨hd, _, h1, l, q, h3, .inr ⟨h4, hk⟩⟩⟩
  ·exact h2.elim
 case indexArr len esz x i =>
  obtain ⟨nd, h1, p, h2, h3⟩ := h
  cases nd <;> try (simp only [QcF] at h3; done)
  obtain ⟨h4, h5, h6⟩ := h3
  cases p <;> simp only [MP] at h6 <;> try exact h6.elim
  all_goals exact ⟨_, h6.2, fun k2 hk => ⟨_, h1, _, h2, h4, h5, h6.1, hk⟩⟩
 case indexAgg agg len esz x i =>
  obtain ⟨nd, h1, n, h2, p, h3, cells, h4, h5, h6, h7⟩ := h
  cases agg with
  | true => exact ⟨_, h7.2, fun k2 hk => ⟨nd, h1, n, h2, p, h3, cells, h4, h5, h6, h7.1, hk⟩⟩
  | false => obtain ⟨d, h8, h9⟩ := h7; exact ⟨_, h9, fun k2 hk => ⟨nd, h1, n, h2, p, h3, cells, h4, h5, h6, d, h8, hk⟩⟩
 case call f args => obtain ⟨ds, h1, d, h2, h3, h4⟩ := h; exact ⟨_, h4, fun k2 hk => ⟨ds, h1, d, h2, h3, hk⟩⟩
 case mkfn f xs => obtain ⟨ds, h1, h2, h3⟩ := h; exact ⟨_, h3, fun k2 hk => ⟨ds, h1, h2, hk⟩⟩
 case mkbn f xs => obtain ⟨ds, h1, h2, h3⟩ := h; exact ⟨_, h3, fun k2 hk => ⟨ds, h1, h2, hk⟩⟩
 case callV x az =>
  obtain ⟨p, h1, h2⟩ := h
  rcases h2 with h2 | ⟨rfl, h2⟩
  ·cases p <;> simp only [QcJ] at h2 <;> try exact h2.elim
   obtain ⟨h3, ds, h4, d, h5, h6, h7⟩ := h2
   exact ⟨_, h7, fun k2 hk => ⟨_, h1, .inl ⟨h3, ds, h4, d, h5, h6, hk⟩⟩⟩
  ·cases p <;> simp only [QcG] at h2 <;> try exact h2.elim
   obtain ⟨h3, d, h5, h6, h7⟩ := h2
   exact ⟨_, h7, fun k2 hk => ⟨_, h1, .inr ⟨rfl, h3, d, h5, h6, hk⟩⟩⟩
theorem Hq {K : St -> Prop} : ∀ {l : List AOper} {dr : Dr} {s : St}, run P dr l K s -> ∃ s', K s' /\ ∀ k2 : St -> Prop, k2 s' -> run P dr l k2 s
 | [], _, s, h => ⟨s, h, fun _ hk => hk⟩
 | ⟨dst, op, none⟩ :: r, dr, s, h => by
  simp only [run] at h ⊢
  rcases h with ⟨h1, h2⟩ | ⟨p, q, d, ef, h1, h2, h3⟩ | ⟨f, args, HF, Hn, Hu, d, h1, h2, h3, h5⟩ | ⟨s', d, bx, h1, h2, h3, h5⟩
  ·obtain ⟨s1, h3, h4⟩ := D7 h2
   obtain ⟨s2, h5, h6⟩ := Hq h3
   exact ⟨s2, h5, fun k2 hk => .inl ⟨h1, h4 _ (h6 k2 hk)⟩⟩
  ·obtain ⟨s2, h6, h7⟩ := Hq h3
   exact ⟨s2, h6, fun k2 hk => .inr (.inl ⟨p, q, d, ef, h1, h2, h7 k2 hk⟩)⟩
  ·obtain ⟨s2, h6, h7⟩ := Hq h5
   exact ⟨s2, h6, fun k2 hk => .inr (.inr (.inl ⟨f, args, HF, Hn, Hu, d, h1, h2, h3, h7 k2 hk⟩))⟩
  ·obtain ⟨s2, h6, h7⟩ := Hq h5
   exact ⟨s2, h6, fun k2 hk => .inr (.inr (.inr ⟨s', d, bx, h1, h2, h3, h7 k2 hk⟩))⟩
 | ⟨dst, op, some (t, b)⟩ :: r, dr, s, h => by
  simp only [run] at h ⊢
  obtain ⟨d, h0, h⟩ := h
  have hA : ((dr.ok r.length (J9 op (pk op s)) (Js op (wk op s)) = true /\ P4 P dr.dr op dst s fun s' => run P (dr.nx (NH op dst r) (J9 op (pk op s)) (Js op (wk op s))) r K s') \/
    (∃ p q d ef, EF P dr.B op dst s p q d ef /\ dr.ok r.length (J9 op p) (Js op q) = true /\ run P (dr.nx (K9 dst.toList r) (J9 op p) (Js op q)) r K (s.eff dst d ef)) \/
    (∃ f args HF Hn Hu d, dr = .fixed /\ H3 s op f args /\ Kd P f args s HF Hn Hu d /\ run P dr r K (St.apply { s with H := Hn ++ (Hu ++ s.H) } dst d none)) \/
    ∃ s' d bx, dr = .fixed /\ s.le s' /\ Xz P ⟨dst, op, none⟩ s' d bx /\ run P dr r K (s'.apply dst d bx)) ->
    ∃ s', K s' /\ ∀ k2 : St -> Prop, k2 s' -> ((dr.ok r.length (J9 op (pk op s)) (Js op (wk op s)) = true /\ P4 P dr.dr op dst s fun s' => run P (dr.nx (NH op dst r) (J9 op (pk op s)) (Js op (wk op s))) r k2 s') \/
    (∃ p q d ef, EF P dr.B op dst s p q d ef /\ dr.ok r.length (J9 op p) (Js op q) = true /\ run P (dr.nx (K9 dst.toList r) (J9 op p) (Js op q)) r k2 (s.eff dst d ef)) \/
    (∃ f args HF Hn Hu d, dr = .fixed /\ H3 s op f args /\ Kd P f args s HF Hn Hu d /\ run P dr r k2 (St.apply { s with H := Hn ++ (Hu ++ s.H) } dst d none)) \/
    ∃ s' d bx, dr = .fixed /\ s.le s' /\ Xz P ⟨dst, op, none⟩ s' d bx /\ run P dr r k2 (s'.apply dst d bx)) := fun h => by
   rcases h with ⟨h1, h2⟩ | ⟨p, q, d, ef, h1, h2, h3⟩ | ⟨f, args, HF, Hn, Hu, d, h1, h2, h3, h5⟩ | ⟨s', d, bx, h1, h2, h3, h5⟩
   ·obtain ⟨s1, h3, h4⟩ := D7 h2
    obtain ⟨s2, h5, h6⟩ := Hq h3
    exact ⟨s2, h5, fun k2 hk => .inl ⟨h1, h4 _ (h6 k2 hk)⟩⟩
   ·obtain ⟨s2, h6, h7⟩ := Hq h3
    exact ⟨s2, h6, fun k2 hk => .inr (.inl ⟨p, q, d, ef, h1, h2, h7 k2 hk⟩)⟩
   ·obtain ⟨s2, h6, h7⟩ := Hq h5
    exact ⟨s2, h6, fun k2 hk => .inr (.inr (.inl ⟨f, args, HF, Hn, Hu, d, h1, h2, h3, h7 k2 hk⟩))⟩
   ·obtain ⟨s2, h6, h7⟩ := Hq h5
    exact ⟨s2, h6, fun k2 hk => .inr (.inr (.inr ⟨s', d, bx, h1, h2, h3, h7 k2 hk⟩))⟩
  have hB : run P dr r K (s.apply dst .undef none) -> ∃ s', K s' /\ ∀ k2 : St -> Prop, k2 s' -> run P dr r k2 (s.apply dst .undef none) := Hq
  cases d <;> simp only [MS] at h <;> try exact h.elim
  ·obtain ⟨s2, h1, h2⟩ := hB h
   exact ⟨s2, h1, fun k2 hk => ⟨_, h0, h2 k2 hk⟩⟩
  ·rename_i c
   cases c <;> cases b
   ·obtain ⟨s2, h1, h2⟩ := hA (h.1 rfl)
    exact ⟨s2, h1, fun k2 hk => ⟨_, h0, ⟨fun _ => h2 k2 hk, fun h => by cases h⟩⟩⟩
   ·obtain ⟨s2, h1, h2⟩ := hB (h.2 rfl)
    exact ⟨s2, h1, fun k2 hk => ⟨_, h0, ⟨(fun h => by cases h), fun _ => h2 k2 hk⟩⟩⟩
   ·obtain ⟨s2, h1, h2⟩ := hB (h.2 rfl)
    exact ⟨s2, h1, fun k2 hk => ⟨_, h0, ⟨(fun h => by cases h), fun _ => h2 k2 hk⟩⟩⟩
   ·obtain ⟨s2, h1, h2⟩ := hA (h.1 rfl)
    exact ⟨s2, h1, fun k2 hk => ⟨_, h0, ⟨fun _ => h2 k2 hk, fun h => by cases h⟩⟩⟩
/-! #### The rules -/
variable {l : List Nat} {b : TCode} {id i : Nat}
theorem QZ {dr : Bool} {ops : List AOper} (h : ∀ K : St -> Prop, (∀ fr H, TX P nt b Q ⟨Q7 l fr, H⟩ -> K ⟨fr, H⟩) -> run P (Dr.of s.H dr) ops K s) : TX P nt (.seq (.region dr ops) l b) Q s := by
 obtain ⟨s1, ⟨e, s2, h1, h2⟩, h3⟩ := Hq (h (fun st => TX P nt b Q ⟨Q7 l st.fr, st.H⟩) fun fr H h => h)
 exact ⟨e, s2, h1, Qb fun K hK => h3 K (hK s1.fr s1.H h2)⟩
theorem ZS {dr : Bool} {ops : List AOper} (h : ∀ K : St -> Prop, (∀ s', Q .normal s' -> K s') -> run P (Dr.of s.H dr) ops K s) : TX P nt (.region dr ops) Q s := by
 obtain ⟨s1, h1, h3⟩ := Hq (h (Q .normal) fun _ h => h)
 exact ⟨.normal, s1, h1, Za fun K hK => h3 K (hK s1 ⟨rfl, rfl⟩)⟩
def Qcb (P : Program) (nt : Nat) (l : List Nat) (b : TCode) (Q : AExit -> St -> Prop) : AExit -> St -> Prop
 | .normal, s => TX P nt b Q ⟨Q7 l s.fr, s.H⟩
 | e, s => Q e s
theorem XK {a : TCode} (h : TX P nt a (Qcb P nt l b Q) s) : TX P nt (.seq a l b) Q s := by
 obtain ⟨e, s1, h1, h2⟩ := h
 cases e with
 | normal =>
  obtain ⟨e2, s2, h3, h4⟩ := h1
  exact ⟨e2, s2, h3, QD (Xi (fun _ _ ⟨p, q⟩ => by subst p q; exact h4) h2)⟩
 | exit n => exact ⟨.exit n, s1, h1, QD (Xi (fun _ _ ⟨p, q⟩ => by subst p q; exact ⟨rfl, rfl⟩) h2)⟩
 | ret => exact ⟨.ret, s1, h1, QD (Xi (fun _ _ ⟨p, q⟩ => by subst p q; exact ⟨rfl, rfl⟩) h2)⟩
theorem YR {c : Opd} {x y : TCode} {t : Bool} (hc : s.ev c = some (.bool t)) (h1 : t = true -> TX P nt x Q s) (h2 : t = false -> TX P nt y Q s) : TX P nt (.cond c x y) Q s := by
 cases t
 ·obtain ⟨e, s1, h3, h4⟩ := h2 rfl; exact ⟨e, s1, h3, Zy hc h4⟩
 ·obtain ⟨e, s1, h3, h4⟩ := h1 rfl; exact ⟨e, s1, h3, Zg hc h4⟩
theorem LJ {c : Opd} {x y : TCode} (hc : s.ev c = some (.bool false)) (h1 : TX P nt y Q s) : TX P nt (.cond c x y) Q s := YR hc (fun h => by cases h) (fun _ => h1)
theorem Yu {a : TCode} (h : TX P nt a (Jz id Q) s) : TX P nt (.block id a) Q s := by
 obtain ⟨e, s1, h1, h2⟩ := h
 cases e with
 | normal => exact ⟨.normal, s1, h1, QI (Xi (fun _ _ ⟨p, q⟩ => by subst p q; exact ⟨rfl, rfl⟩) h2)⟩
 | ret => exact ⟨.ret, s1, h1, QI (Xi (fun _ _ ⟨p, q⟩ => by subst p q; exact ⟨rfl, rfl⟩) h2)⟩
 | exit n =>
  by_cases hn : n = id
  ·subst hn
   simp only [Jz, if_true] at h1
   exact ⟨.normal, s1, h1, QI (Xi (fun _ _ ⟨p, q⟩ => by subst p q; simp only [Jz, if_true]; exact ⟨trivial, trivial⟩) h2)⟩
  ·simp only [Jz, if_neg hn] at h1
   exact ⟨.exit n, s1, h1, QI (Xi (fun _ _ ⟨p, q⟩ => by subst p q; simp only [Jz, if_neg hn]; exact ⟨trivial, trivial⟩) h2)⟩
theorem GA (h : Q (.exit id) s) : TX P nt (.exit id) Q s := ⟨_, s, h, ZC ⟨rfl, rfl⟩⟩
theorem Fj (h : Q .ret s) : TX P nt .ret Q s := ⟨_, s, h, Qn ⟨rfl, rfl⟩⟩
theorem Xc (h : Q .normal s) : TX P nt .skip Q s := ⟨_, s, h, Qt ⟨rfl, rfl⟩⟩
theorem LK {c : TCode} {s' : St} (h : s.le s') (hw : TX P nt c Q s') : TX P nt c Q s := let ⟨e, s1, h1, h2⟩ := hw; ⟨e, s1, h1, Qae h h2⟩
inductive Rounds (P : Program) (nt : Nat) (a : TCode) (e : AExit) (s' : St) : Nat -> St -> Prop
 | stop {s : St} : TW P nt a (fun e2 s2 => e2 = e /\ s2 = s') s -> e ≠ .normal -> Rounds P nt a e s' 0 s
 | next {s t s2 : St} {n : Nat} : TW P nt a (fun e2 s3 => e2 = .normal /\ s3 = t) s -> t.le s2 -> Rounds P nt a e s' n s2 -> Rounds P nt a e s' (n + 1) s
theorem Rounds.tw {a : TCode} {e : AExit} {s' : St} {n : Nat} (h : Rounds P nt a e s' n s) : TW P nt (.loop a) (fun e2 s2 => e2 = e /\ s2 = s') s := by
 refine Yb (ι := Nat × St) (fun j => j.2) (fun j => Rounds P nt a e s' j.1 j.2) (fun j => j.1) (n, s) (le_refl _) h fun j hj => ?_
 obtain ⟨m, st⟩ := j
 dsimp only at hj ⊢
 cases hj with
 | stop h1 h2 =>
  refine Xi (fun e2 s2 ⟨p, q⟩ => ?_) h1
  subst p q
  cases e2 with
  | normal => exact absurd rfl h2
  | exit n => exact ⟨rfl, rfl⟩
  | ret => exact ⟨rfl, rfl⟩
 | next h1 h2 h3 =>
  refine Xi (fun e2 s2 ⟨p, q⟩ => ?_) h1
  subst p q
  exact ⟨(_, _), h2, h3, Nat.lt_succ_self _⟩
theorem FG {ι : Type} {a : TCode} (st : ι -> St) (I : ι -> Prop) (μ : ι -> Nat) (i0 : ι) (h0 : s.le (st i0)) (hI : I i0) (round : ∀ i, I i -> TX P nt a (M7 st I μ i Q) (st i)) : TX P nt (.loop a) Q s := by
 refine LK h0 ?_
 have key : ∀ n i, μ i = n -> I i -> ∃ e s', Q e s' /\ ∃ m, Rounds P nt a e s' m (st i) := by
  intro n
  induction n using Nat.strongRecOn with
  | _ n ih =>
   intro i hn hi
   obtain ⟨e, s1, h1, h2⟩ := round i hi
   cases e with
   | normal =>
    obtain ⟨j, hle, hj, hlt⟩ := h1
    obtain ⟨e, s', h3, m, h4⟩ := ih (μ j) (hn ▸ hlt) j rfl hj
    exact ⟨e, s', h3, m + 1, .next h2 hle h4⟩
   | exit k => exact ⟨_, _, h1, 0, .stop h2 Wg⟩
   | ret => exact ⟨_, _, h1, 0, .stop h2 Wg⟩
 obtain ⟨e, s', h1, m, h2⟩ := key _ i0 rfl hI
 exact ⟨e, s', h1, h2.tw⟩
theorem QbF {ι : Type} (st : ι -> St) (I : ι -> Prop) {a : TCode} (h : TX P nt a (CU st I Q) s) (k : ∀ j, I j -> TX P nt b Q (st j)) : TX P nt (.seq a l b) Q s := by
 obtain ⟨e, s1, h1, h2⟩ := h
 cases e with
 | normal =>
  obtain ⟨j, hle, hI⟩ := h1
  obtain ⟨e2, s2, h3, h4⟩ := k j hI
  refine ⟨e2, s2, h3, LI (ι := Unit) (fun _ => st j) (fun _ => True) (Xi (fun _ _ ⟨p, q⟩ => by subst p q; exact ⟨(), hle, trivial⟩) h2) fun _ _ => h4⟩
 | exit n => exact ⟨.exit n, s1, h1, QD (Xi (fun _ _ ⟨p, q⟩ => by subst p q; exact ⟨rfl, rfl⟩) h2)⟩
 | ret => exact ⟨.ret, s1, h1, QD (Xi (fun _ _ ⟨p, q⟩ => by subst p q; exact ⟨rfl, rfl⟩) h2)⟩
theorem QG {fr fr' : QeF} {H : QeE} (h : Q7 l fr = fr') (k : TX P nt b Q ⟨fr', H⟩) : TX P nt b Q ⟨Q7 l fr, H⟩ := h ▸ k
theorem QY {fr fr' : QeF} {H : QeE} (h : Q7 l fr = fr') (k : TX P nt b Q ⟨fr', H⟩) : Qcb P nt l b Q .normal ⟨fr, H⟩ := by
 simp only [Qcb, h]; exact k
theorem Xx (h : Q (.exit id) s) : Qcb P nt l b Q (.exit id) s := h
theorem Ng (h : Q .ret s) : Qcb P nt l b Q .ret s := h
end
section
variable {P : Program}
theorem Ok.ofX {f : Nat} {fn : Func} {tf : TFn} {ds : List D} {R : D -> Prop} (hm : P.follows .mixedOrders = true) (hf : P.funcs[f]? = some fn) (hp : QF P fn = some tf.erase) (hn : ds.length <= tf.nt)
  (h : TX P tf.nt tf.body (fun e s => ∃ d, R d /\ Post tf.rs d e s) ⟨Sh 0 ds, []⟩) (hg : Mp f = [] := by rfl) : ∃ d, R d /\ Ok P f ds d := by
 obtain ⟨e, s, ⟨d, h1, h2⟩, h3⟩ := h
 exact ⟨d, h1, Ok.ofT hm hf hp hn (Xi (fun _ _ ⟨p, q⟩ => by subst p q; exact h2) h3) hg⟩
theorem OkH.ofX {f : Nat} {fn : Func} {tf : TFn} {ds : List D} {H : QeE} {R : D -> QeE -> Prop} (hm : P.follows .mixedOrders = true) (hf : P.funcs[f]? = some fn) (hp : QF P fn = some tf.erase) (hn : ds.length <= tf.nt)
  (h : TX P tf.nt tf.body (fun e s => ∃ d H', R d H' /\ (∀ k, 1000000 <= k -> (lk H k).isSome = true -> (lk H' k).isSome = true) /\ (∀ k b, lk H' k = some b -> 500000 <= k /\ ∀ j ∈ b.ids, (lk H' j).isSome = true) /\ Rb tf.rs d H' e s) ⟨Sh 0 ds, H⟩) (hg : Mp f = [] := by rfl) : ∃ d H', R d H' /\ OkH P f ds H d H' := by
 obtain ⟨e, s, ⟨d, H', h1, h2, h3, h4⟩, h5⟩ := h
 exact ⟨d, H', h1, OkH.ofT hm hf hp hn h2 h3 (Xi (fun _ _ ⟨p, q⟩ => by subst p q; exact h4) h5) hg⟩
end
section
variable {fr : QeF} {H H' : QeE} {t : Nat}
theorem Jn {e : AExit} {p d : D} (h : lk fr t = some p) (hd : Cj ME ⟨fr, H⟩ p = d) (hH : ∀ k b, lk H' k = some b -> lk H k = some b) (he : e = .ret \/ e = .normal := by first | exact .inl rfl | exact .inr rfl) : Rb [.tmp t] d H' e ⟨fr, H⟩ := by
 subst hd; rcases he with rfl | rfl <;> exact ⟨.inr ⟨_, rfl, _, h, rfl⟩, hH⟩
theorem Xe {e : AExit} {sz : Nat} {p : D} {cells cs : List D} {d : D} (h : lk fr t = some p) (ha : St.atO ⟨fr, H⟩ p = some cells) (hl : Nat.ble sz cells.length = true) (hc : cells.take sz = cs) (hd : Cj ME ⟨fr, H⟩ (.agg cs) = d) (hH : ∀ k b, lk H' k = some b -> lk H k = some b) (he : e = .ret \/ e = .normal := by first | exact .inl rfl | exact .inr rfl) : Rb [.cell t true sz] d H' e ⟨fr, H⟩ := by
 subst hc hd
 rcases he with rfl | rfl <;> exact ⟨.inr ⟨_, rfl, p, cells, h, Rh.2 ha, by simp only [if_true]; exact ⟨QeH hl, trivial⟩⟩, hH⟩
end
theorem LV {P : Program} {f : Nat} {args : List Opd} {s : St} {ds ds' : List D} {k t n' : Nat} {b b' : Box} (ha : Ze s args = some ds) (hb : lk s.H k = some b) (hp : b.pr = true) (hk : k < 1000000) (hn : lk s.H t = none) (ht : t < 1000000) (hds : ∀ x ∈ ds, ∀ j ∈ x.ids, j = k) (hkd : ∃ x ∈ ds, k ∈ x.ids) (hp' : b'.pr = true)
  (hu : ds.map (QcD k) = ds') (hok : OkH P f ds' [(500000, b)] (.osl 500000 n') [(500000, b')]) : Lj P f args s [] k t b b' n' := by
 subst hu
 exact ⟨ds, ha, hb, hp, hk, hn, ht, (fun j x hj => by cases hj), (fun j x hj => by cases hj), (fun x hx j hj => .inl (hds x hx j hj)), hkd, hp', hok⟩
section
variable {fr : QeF} {H : QeE} {t u : Nat}
theorem Post.eq {rs : List P6} {d d' : D} {e : AExit} {s : St} (h : Post rs d e s) (hd : d = d') : Post rs d' e s := hd ▸ h
theorem XG {e : AExit} {sz : Nat} {p q d' : D} {cells cs ds : List D} (h : lk fr t = some p) (ha : St.atO ⟨fr, H⟩ p = some cells) (hl : Nat.ble sz cells.length = true) (hc : cells.take sz = cs) (h2 : lk fr u = some q) (hd : XZ ⟨fr, H⟩ (.agg cs) = .agg ds /\ XZ ⟨fr, H⟩ q = d')
  (he : e = .ret \/ e = .normal := by first | exact .inl rfl | exact .inr rfl) : Post [.cell t true sz, .tmp u] (.tup [.agg ds, d']) e ⟨fr, H⟩ := by
 subst hc
 obtain ⟨h3, rfl⟩ := hd
 have : R1 ⟨fr, H⟩ [.cell t true sz, .tmp u] [.agg ds, XZ ⟨fr, H⟩ q] :=
  ⟨_, _, rfl, ⟨p, cells, h, Rh.2 ha, by simp only [if_true]; exact ⟨QeH hl, h3.symm⟩⟩, _, _, rfl, ⟨q, h2, rfl⟩, rfl⟩
 rcases he with rfl | rfl <;> exact ⟨_, rfl, this⟩
end
theorem XB {m k : Nat} {b0 b : Box} (h : lk [(m, b0)] k = some b) : k = m /\ b = b0 := by
 rw [Qj] at h
 split at h
 ·rename_i e; cases h; exact ⟨e.symm, rfl⟩
 ·cases h
theorem OkH.mv {P : Program} {f : Nat} {fn : Func} {tf : TFn} {ds : List D} {d : D} {b b' : Box} (hm : P.follows .mixedOrders = true) (hf : P.funcs[f]? = some fn) (hp : QF P fn = some tf.erase) (hn : ds.length <= tf.nt) (hb : b'.pr = true)
  (h : TW P tf.nt tf.body (Rb tf.rs d [(500000, b')]) ⟨Sh 0 ds, [(500000, b)]⟩) (hg : Mp f = [] := by rfl) : OkH P f ds [(500000, b)] d [(500000, b')] := by
 refine OkH.ofT hm hf hp hn (fun k hk h1 => ?_) (fun k x hk => ?_) h hg
 ·obtain ⟨y, hy⟩ := QeN.1 h1
  obtain ⟨rfl, _⟩ := XB hy
  omega
 ·obtain ⟨rfl, rfl⟩ := XB hk
  refine ⟨Nat.le_refl _, fun j hj => ?_⟩
  simp [Box.ids, hb] at hj
theorem S5 {H : QeE} {m : Nat} {b0 : Box} (h : lk H m = some b0) : ∀ k b, lk [(m, b0)] k = some b -> lk H k = some b := fun k b hk => by
 obtain ⟨rfl, rfl⟩ := XB hk; exact h
theorem ZU {s : St} {k i off : Nat} {b : Box} {row : List D} (hb : lk s.H k = some b) (hr : b.rows[i]? = some row) : s.atO (.ref k i off) = some (row.drop off) := by
 simp only [St.atO, hb, hr]
theorem SL {l : List Nat} {fr fr1 : QeF} {H : QeE} {t u n : Nat} {b : Box} (m : Nat) (hk : Q7 l fr = fr1) (hp : (fr1.all fun p => p.2.ids.isEmpty) = true) (hu : lk fr u = some (.osl t n)) (hb : lk H t = some b) (hpr : b.pr = true)
  (hB : QbH H [] = true := by rfl) (ht : t < 1000000 := by decide) (hm : m < 1000000 := by decide) : St.le ⟨fr, H⟩ ⟨(u, .osl m n) :: fr1, [(m, b)]⟩ := fun E g a w r => by
 obtain ⟨g', r'⟩ := SN t m ht hm ⟨fr, H⟩ E g a w r
 have hsw : KU t m t = m := by unfold KU; rw [if_pos rfl]
 have hsm : KU t m m = t := by have := Fg t m t; rw [hsw] at this; exact this
 have hren : b.ren (KU t m) = b := Box.ren_pure ((r.bx t b hb).2.1 hpr)
 have hids : ∀ v d, lk fr1 v = some d -> d.ids = [] := fun v d h => by
  simp only [QeR] at hp
  have := hp (v, d) (Z3 h)
  simpa using this
 refine ⟨g', r'.less (fun v d h => ?_) (fun j x h => ?_) (fun v d h j hj => ?_) (fun j x h i hi => ?_) fun j hj hs => ?_⟩
 ·simp only [St.ren, Z0]
  rw [Qj] at h
  split at h
  ·rename_i e
   cases h; subst e
   rw [hu]
   simp only [Option.map_some, D.ren, D.renS, hsw]
  ·have h2 : lk fr v = some d := by subst hk; exact Xn l fr v d h
   rw [h2, Option.map_some]
   have h3 := hids v d h
   congr 1
   cases d <;> first | rfl | (simp [D.ids, D.sid] at h3; done) | skip
   ·rename_i cs
    simp only [D.ren]
    congr 1
    have one : ∀ d : D, d.sid = [] -> d.renS (KU t m) = d := fun d hd => by cases d <;> first | rfl | (simp [D.sid] at hd)
    simp only [D.ids, List.flatMap_eq_nil_iff] at h3
    exact Y0 fun x hx => one x (h3 x hx)
   ·rename_i f cs
    simp only [D.ren]
    congr 1
    have one : ∀ d : D, d.sid = [] -> d.renS (KU t m) = d := fun d hd => by cases d <;> first | rfl | (simp [D.sid] at hd)
    simp only [D.ids, List.flatMap_eq_nil_iff] at h3
    exact Y0 fun x hx => one x (h3 x hx)
 ·obtain ⟨rfl, rfl⟩ := XB h
  show lk (HY (KU t j) H) j = some x
  rw [N2 (Fg t j), hsm, hb, Option.map_some, hren]
 ·rw [Qj] at h
  split at h
  ·cases h
   simp [D.ids, D.sid] at hj; subst hj; simp [Qj]
  ·rw [hids v d h] at hj; cases hj
 ·obtain ⟨rfl, rfl⟩ := XB h
  simp [Box.ids, hpr] at hi
 ·exfalso
  have hs' : (lk (HY (KU t m) H) j).isSome = true := hs
  rw [N2 (Fg t m), QeZ] at hs'
  have hj' : KU t m j = j := by unfold KU; rw [if_neg Wa, if_neg Wa]
  rw [hj'] at hs'
  have := Sr hB j hj hs'
  cases this
theorem OkH.lent {P : Program} {f : Nat} {fn : Func} {tf : TFn} {ds : List D} {d : D} {k : Nat} {b b' : Box} (hk : 1000000 <= k) (hm : P.follows .mixedOrders = true) (hf : P.funcs[f]? = some fn) (hp : QF P fn = some tf.erase) (hn : ds.length <= tf.nt) (hb : b'.pr = true)
  (h : TW P tf.nt tf.body (Rb tf.rs d ((k, b') :: [(k, b)])) ⟨Sh 0 ds, [(k, b)]⟩) (hg : Mp f = [] := by rfl) : OkH P f ds [(k, b)] d ((k, b') :: [(k, b)]) := by
 refine OkH.ofT hm hf hp hn (fun j hj h1 => ?_) (fun j x hj => ?_) h hg
 ·obtain ⟨y, hy⟩ := QeN.1 h1
  obtain ⟨rfl, _⟩ := XB hy
  rw [Qj, if_pos rfl]; rfl
 ·rw [Qj] at hj
  split at hj
  ·rename_i e; subst e; cases hj
   exact ⟨Wa, fun i hi => by simp [Box.ids, hb] at hi⟩
  ·rename_i e
   obtain ⟨rfl, _⟩ := XB hj
   exact absurd rfl e
theorem Qa0 {H : QeE} {m : Nat} {b0 b1 : Box} (h : lk H m = some b0) : ∀ k b, lk ((m, b0) :: [(m, b1)]) k = some b -> lk H k = some b := fun k b hk => by
 rw [Qj] at hk
 split at hk
 ·rename_i e; subst e; cases hk; exact h
 ·rename_i e
  obtain ⟨rfl, _⟩ := XB hk
  exact absurd rfl e
section
variable {P : Program} {dr : Dr} {r : List AOper} {K : St -> Prop} {fr : QeF} {H : QeE} {t : Nat} {bt : Bool} {x y : Opd} {ki kj : IntKind} {m n z : Int}
theorem Rc (hx : St.ev ⟨fr, H⟩ x = some (.int ki m)) (hy : St.ev ⟨fr, H⟩ y = some (.int ki n)) (k : run P dr r K ⟨(t, .int ki (Kf .and ki m n)) :: fr, H⟩) : run P dr (⟨some t, .bin .and bt x y, none⟩ :: r) K ⟨fr, H⟩ := QN rfl rfl ⟨_, hx, _, hy, .inr rfl, k⟩
theorem Qc1 (hx : St.ev ⟨fr, H⟩ x = some (.int ki m)) (hy : St.ev ⟨fr, H⟩ y = some (.int ki n)) (k : run P dr r K ⟨(t, .int ki (Kf .or ki m n)) :: fr, H⟩) : run P dr (⟨some t, .bin .or bt x y, none⟩ :: r) K ⟨fr, H⟩ := QN rfl rfl ⟨_, hx, _, hy, .inr rfl, k⟩
theorem Ti (hx : St.ev ⟨fr, H⟩ x = some (.int ki m)) (hy : St.ev ⟨fr, H⟩ y = some (.int ki n)) (k : run P dr r K ⟨(t, .int ki (Kf .andNot ki m n)) :: fr, H⟩) : run P dr (⟨some t, .bin .andNot bt x y, none⟩ :: r) K ⟨fr, H⟩ := QN rfl rfl ⟨_, hx, _, hy, .inr rfl, k⟩
theorem QcA (hx : St.ev ⟨fr, H⟩ x = some (.int ki m)) (hy : St.ev ⟨fr, H⟩ y = some (.int kj n)) (h0 : 0 <= n) (hz : ki.wrap (m * 2 ^ min n.toNat ki.bits) = z) (k : run P dr r K ⟨(t, .int ki z) :: fr, H⟩) : run P dr (⟨some t, .bin .shl bt x y, none⟩ :: r) K ⟨fr, H⟩ := by
 subst hz; exact QN rfl rfl ⟨_, hx, _, hy, .inl rfl, h0, k⟩
theorem Qac (hx : St.ev ⟨fr, H⟩ x = some (.int ki m)) (hy : St.ev ⟨fr, H⟩ y = some (.int kj n)) (h0 : 0 <= n) (k : run P dr r K ⟨(t, .int ki (m.fdiv (2 ^ min n.toNat ki.bits))) :: fr, H⟩) : run P dr (⟨some t, .bin .shr bt x y, none⟩ :: r) K ⟨fr, H⟩ :=
 QN rfl rfl ⟨_, hx, _, hy, .inl rfl, h0, k⟩
end
end Go.Abs
namespace Go.Abs
open Go
theorem Fv {H : QeE} {S : Nat -> Bool} {d : D} (h : ∀ k ∈ d.sid, S k = false) : d.fzS H S = d := by
 cases d <;> try rfl
 ·rename_i k n
  simp only [D.fzS]; rw [if_neg (by rw [h k (by simp [D.sid])]; simp)]
 ·rename_i k i o
  simp only [D.fzS]; rw [if_neg (by rw [h k (by simp [D.sid])]; simp)]
theorem Rz {H : QeE} {S : Nat -> Bool} {d : D} (h : ∀ k ∈ d.ids, S k = false) : d.fz H S = d := by
 cases d
 case agg cs =>
  simp only [D.fz]
  rw [Y0 fun x hx => Fv fun k hk => h k (QeO.2 ⟨x, hx, hk⟩)]
 case clo f cs =>
  simp only [D.fz]
  rw [Y0 fun x hx => Fv fun k hk => h k (QeO.2 ⟨x, hx, hk⟩)]
 case osl k n => exact Fv (d := .osl k n) h
 case ref k i o => exact Fv (d := .ref k i o) h
 all_goals rfl
theorem XL {H : QeE} {S : Nat -> Bool} {b : Box} (h : b.pr = true \/ ∀ k ∈ b.ids, S k = false) : b.fz H S = b := by
 unfold Box.fz
 split
 ·rfl
 ·rename_i hp
  have h' := h.resolve_left hp
  have hids : b.ids = b.rows.flatMap fun r => r.flatMap D.sid := by unfold Box.ids; rw [if_neg hp]
  rw [hids] at h'
  have key : ∀ rows : List (List D), (∀ k ∈ rows.flatMap (fun r => r.flatMap D.sid), S k = false) -> (rows.map fun r => r.map (D.fzS H S)) = rows := by
   intro rows
   induction rows with
   | nil => intro _; rfl
   | cons r rs ih =>
    intro h'
    rw [List.map_cons, ih (fun k hk => h' k (by rw [List.flatMap_cons]; exact QeW _ hk)),
     Y0 fun x hx => Fv fun k hk => h' k (by rw [List.flatMap_cons]; exact List.mem_append_left _ (QeO.2 ⟨x, hx, hk⟩))]
  have this := key b.rows h'
  rw [this]
theorem Yx {α : Type} {f : α -> List D} {l : List α} : Qbh (.sl (l.map f)) = some (l.length : Int) := by simp [Qbh]
section
variable {P : Program} {dr : Dr} {r : List AOper} {K : St -> Prop} {fr : QeF} {H : QeE} {t : Nat}
end
end Go.Abs
namespace Go.Abs
open Go
/-! ### Walks over boxes that are lent, of which little is known -/
def Big (H : QeE) : Prop := ∀ k b, lk H k = some b -> 1000000 <= k
def Closed (H : QeE) : Prop := ∀ k b, lk H k = some b -> ∀ j ∈ b.ids, (lk H j).isSome = true
theorem Big.none {H : QeE} (h : Big H) {k : Nat} (hk : k < 1000000) : lk H k = none := by
 cases hh : lk H k with
 | none => rfl
 | some b => have := h k b hh; omega
theorem Qg {α : Type} {H : List (Nat × α)} {k k' : Nat} {x b : α} (h : k' ≠ k) (e : lk H k = some b) : lk ((k', x) :: H) k = some b := by rw [Qj, if_neg h]; exact e
theorem Zf {α : Type} {H : List (Nat × α)} {k k' : Nat} {x : α} (h : k' ≠ k) (e : lk H k = none) : lk ((k', x) :: H) k = none := by rw [Qj, if_neg h]; exact e
theorem Qp {α : Type} {k : Nat} {v : α} {l : List (Nat × α)} : lk ((k, v) :: l) k = some v := by rw [Qj, if_pos rfl]
theorem Big.cons {H : QeE} (h : Big H) {k : Nat} {b : Box} (hk : 1000000 <= k) : Big ((k, b) :: H) := fun j x hj => by
 rw [Qj] at hj
 split at hj
 ·rename_i e; subst e; exact hk
 ·exact h j x hj
theorem QJ {H : QeE} {k j : Nat} {b : Box} (h : (lk H j).isSome = true) : (lk ((k, b) :: H) j).isSome = true := by
 rw [Qj]; split
 ·rfl
 ·exact h
theorem QL {k : Nat} {b : Box} {l : QeE} : (lk ((k, b) :: l) k).isSome = true := by rw [Qp]; rfl
theorem Q9 {l : QeE} {k : Nat} {b : Box} (h : lk l k = some b) : (lk l k).isSome = true := by rw [h]; rfl
def Qbr (b : Box) : Prop := b.ids = []
theorem X7 {b : Box} (h : b.pr = true) : b.ids = [] := by simp [Box.ids, h]
theorem Closed.cons {H : QeE} (h : Closed H) {k : Nat} {b : Box} (hb : ∀ j ∈ b.ids, (lk H j).isSome = true) : Closed ((k, b) :: H) := fun j x hj i hi => by
 rw [Qj] at hj
 split at hj
 ·cases hj; exact QJ (hb i hi)
 ·exact QJ (h j x hj i hi)
theorem Closed.pr {H : QeE} (h : Closed H) {k : Nat} {b : Box} (hb : b.pr = true) : Closed ((k, b) :: H) := h.cons fun j hj => by rw [X7 hb] at hj; cases hj
theorem BH {l : List Nat} {fr fr1 fr' : QeF} {H H' : QeE} (hf : Q7 l fr = fr1) (ef : fr1 = fr') (hH : ∀ k b, lk H' k = some b -> lk H k = some b) (hfr : ∀ p ∈ fr', ∀ k ∈ p.2.ids, (lk H' k).isSome = true) (hcl : Closed H') (hbig : ∀ k, 1000000 <= k -> (lk H k).isSome = true -> (lk H' k).isSome = true) : St.le ⟨fr, H⟩ ⟨fr', H'⟩ := by
 subst hf ef
 intro E g a w r
 exact ⟨g, r.less (fun t d h => Xn l fr t d h) hH (fun t d h k hk => hfr (t, d) (Z3 h) k hk) hcl hbig⟩
theorem KD {fr fr' : QeF} {H H' : QeE} (ef : fr = fr') (hH : ∀ k, lk H k = lk H' k) : St.le ⟨fr, H⟩ ⟨fr', H'⟩ := by
 subst ef; exact PC ⟨fun _ => rfl, hH⟩
theorem N0 {A H0 : QeE} {k : Nat} {b : Box} (h : lk (A ++ H0) k = some b) : (k, b) ∈ A \/ (lk A k = none /\ lk H0 k = some b) := by
 rw [ZP] at h
 split at h
 ·rename_i v hv; cases h; exact .inl (Z3 hv)
 ·rename_i hv; exact .inr ⟨hv, h⟩
theorem QbX {l : List Nat} {fr fr1 fr' : QeF} {H A H0 : QeE} (hf : Q7 l fr = fr1) (ef : fr1 = fr') (hA : ∀ p ∈ A, lk H p.1 = some p.2 /\ p.2.pr = true) (h0 : ∀ k b, lk A k = none -> lk H0 k = some b -> lk H k = some b) (hfr : ∀ p ∈ fr', ∀ k ∈ p.2.ids, (lk (A ++ H0) k).isSome = true) (hcl : Closed H0)
  (hbig : ∀ k, 1000000 <= k -> (lk H k).isSome = true -> (lk (A ++ H0) k).isSome = true) : St.le ⟨fr, H⟩ ⟨fr', A ++ H0⟩ := by
 have up : ∀ j, (lk H0 j).isSome = true -> (lk (A ++ H0) j).isSome = true := fun j hj => by
  rw [ZP]; split
  ·rfl
  ·exact hj
 refine BH hf ef (fun k b hk => ?_) hfr (fun k b hk j hj => ?_) hbig
 ·rcases N0 hk with h | ⟨h1, h2⟩
  ·exact (hA _ h).1
  ·exact h0 k b h1 h2
 ·rcases N0 hk with h | ⟨h1, h2⟩
  ·rw [X7 (hA _ h).2] at hj; cases hj
  ·exact up j (hcl k b h2 j hj)
theorem Mn {H : QeE} : Big (upH H) := fun k b hk => by
 obtain ⟨j, b0, rfl, _, _⟩ := YE hk
 unfold upN; omega
theorem Kr {H : QeE} (h : Closed H) : Closed (upH H) := fun k b hk j hj => by
 obtain ⟨i, b0, rfl, h1, rfl⟩ := YE hk
 rw [Box.ren_ids] at hj
 obtain ⟨j0, hj0, rfl⟩ := QeV.1 hj
 rw [XO, QeZ]
 exact h i b0 h1 j0 hj0
theorem MJ {P : Program} {f : Nat} {args : List Opd} {s : St} {ds ds' : List D} {HF : QeE} {k : Nat} {b b' : Box} {d : D} (ha : Ze s args = some ds) (hF : ∀ j x, lk HF j = some x -> lk s.H j = some x) (hcl : Closed HF) (hds : ∀ x ∈ ds, ∀ j ∈ x.ids, (lk HF j).isSome = true)
  (hk : (lk HF k).isSome = true) (hb : b.pr = true) (hd : d.ids = []) (hu : ds.map QcE = ds') (hr : b.ren upN = b') (hok : OkH P f ds' (upH HF) d ((upN k, b') :: upH HF)) : Kd P f args s HF [] [(k, b)] d := by
 subst hu hr
 refine ⟨ds, ha, hF, hcl, hds, fun j x hj => ?_, (fun j x hj => by cases hj), (fun j hj => by rw [hd] at hj; cases hj), .inl hok⟩
 rw [Qj] at hj
 split at hj
 ·rename_i e; cases hj; subst e; exact ⟨hk, fun i hi => by rw [X7 hb] at hi; cases hi⟩
 ·cases hj
theorem Z6 {H : QeE} {k : Nat} {b : Box} (hB : Big H) (hC : Closed H) (hk : 1000000 <= k) (hb : b.pr = true) : (∀ j, 1000000 <= j -> (lk H j).isSome = true -> (lk ((k, b) :: H) j).isSome = true) /\ (∀ j x, lk ((k, b) :: H) j = some x -> 500000 <= j /\ ∀ i ∈ x.ids, (lk ((k, b) :: H) i).isSome = true) :=
 ⟨fun _ _ h => QJ h, fun j x hj => ⟨by have := hB.cons (b := b) hk j x hj; omega, hC.pr hb j x hj⟩⟩
theorem Ga {l : List Nat} {fr fr1 fr' : QeF} {B A A' H0 : QeE} (hf : Q7 l fr = fr1) (ef : fr1 = fr') (hA : ∀ p ∈ A, lk B p.1 = some p.2 /\ p.2.pr = true) (eA : A = A') (hBA : ∀ p ∈ B, 1000000 <= p.1 -> (lk A p.1).isSome = true) (hb : Big H0) (hcl : Closed H0) (hfr : ∀ p ∈ fr', ∀ k ∈ p.2.ids, (lk (A' ++ H0) k).isSome = true) : St.le ⟨fr, B ++ H0⟩ ⟨fr', A' ++ H0⟩ := by
 subst eA
 have noB : ∀ k b, lk H0 k = some b -> lk A k = none -> lk B k = none := fun k b h1 h2 => by
  cases h : lk B k with
  | none => rfl
  | some x =>
   have := hBA (k, x) (Z3 h) (hb k b h1)
   simp only at this
   rw [h2] at this; cases this
 refine QbX hf ef (fun p hp => ?_) (fun k b h1 h2 => ?_) hfr hcl fun k hk hs => ?_
 ·obtain ⟨q1, q2⟩ := hA p hp
  exact ⟨Yo q1, q2⟩
 ·rw [YO (noB k b h2 h1)]; exact h2
 ·rw [ZP] at hs ⊢
  cases h : lk B k with
  | some x =>
   have := hBA (k, x) (Z3 h) hk
   obtain ⟨y, hy⟩ := QeN.1 this
   simp only at hy
   rw [hy]; rfl
  | none =>
   rw [h] at hs
   cases h2 : lk A k with
   | some x => rfl
   | none => exact hs
theorem YN {B H : QeE} {kg : Nat} {g : Box} (hb : Big H) (h1 : lk B kg = some g) (h2 : ∀ p ∈ B, 1000000 <= p.1 -> p.1 = kg) : ∀ k b, lk ((kg, g) :: H) k = some b -> lk (B ++ H) k = some b := fun k b hk => by
 rw [Qj] at hk
 split at hk
 ·rename_i e; cases hk; subst e; exact Yo h1
 ·rename_i e
  rw [ZP]
  cases h : lk B k with
  | none => exact hk
  | some x => exact absurd (h2 (k, x) (Z3 h) (hb k b hk)).symm e
def scr (k : Nat) (H : QeE) : QeE := H.map fun p => (p.1, p.2.scrub k)
theorem R5 {k : Nat} {b : Box} (h : k ∉ b.ids) : b.scrub k = b := by
 unfold Box.scrub
 split
 ·rfl
 ·rename_i hp
  have hids : b.ids = b.rows.flatMap fun r => r.flatMap D.sid := by unfold Box.ids; rw [if_neg hp]
  rw [hids] at h
  have key : ∀ rows : List (List D), (k ∉ rows.flatMap fun r => r.flatMap D.sid) -> (rows.map fun r => r.map (D.scrubC k)) = rows := by
   intro rows
   induction rows with
   | nil => intro _; rfl
   | cons r rs ih =>
    intro h'
    rw [List.flatMap_cons, QeS] at h'
    rw [List.map_cons, ih (fun hh => h' (.inr hh)), Y0 fun x hx => ?_]
    have hx' : k ∉ x.sid := fun hk => h' (.inl (QeO.2 ⟨x, hx, hk⟩))
    cases x <;> try rfl
    ·rename_i j n
     simp only [D.sid, QeQ] at hx'
     simp only [D.scrubC]
     first | rfl | rw [if_neg (fun e => hx' e.symm)] | rw [if_neg (fun e => hx' e)]
    ·rename_i j i o
     simp only [D.sid, QeQ] at hx'
     simp only [D.scrubC]
     first | rfl | rw [if_neg (fun e => hx' e.symm)] | rw [if_neg (fun e => hx' e)]
  rw [key b.rows h]
theorem BJ {k : Nat} : ∀ {H : QeE} {j : Nat}, lk (scr k H) j = (lk H j).map (Box.scrub k)
 | [], _ => rfl
 | (i, b) :: H, j => by
  show (if i = j then some (b.scrub k) else lk (scr k H) j) = _
  rw [Qj, BJ]
  split <;> rfl
theorem PE {H : QeE} {k j : Nat} (hB : Big H) (hC : Closed H) (hk : k < 1000000) : lk (scr k H) j = lk H j := by
 rw [BJ]
 cases h : lk H j with
 | none => rfl
 | some b =>
  rw [Option.map_some, R5 fun hi => ?_]
  obtain ⟨x, hx⟩ := QeN.1 (hC j b h k hi)
  have := hB k x hx
  omega
theorem QbZ {fr : QeF} {B H0 : QeE} (k : Nat) (hB : Big H0) (hC : Closed H0) (hk : k < 1000000 := by decide) : St.le ⟨fr, B ++ scr k H0⟩ ⟨fr, B ++ H0⟩ :=
 PC ⟨fun _ => rfl, fun j => by
  show lk (B ++ scr k H0) j = lk (B ++ H0) j
  rw [ZP, ZP, PE hB hC hk]⟩
theorem SM {l : List Nat} {fr fr1 : QeF} {B A H0 : QeE} (k t : Nat) {n : Nat} {b : Box} (hf : Q7 l fr = fr1) (ht : lk fr t = some (.osl k n)) (hb : lk B k = some b) (hp : b.pr = true) (hn : n = b.rows.length) (c1 : ∀ p ∈ fr1, k ∉ p.2.ids)
  (hA : ∀ p ∈ A, p.1 ≠ k /\ lk B p.1 = some p.2 /\ p.2.pr = true) (hBA : ∀ p ∈ B, 1000000 <= p.1 -> (lk A p.1).isSome = true) (hB : Big H0) (hC : Closed H0) (hfr : ∀ p ∈ fr1, ∀ j ∈ p.2.ids, (lk (A ++ H0) j).isSome = true) (hk : k < 1000000 := by decide) : St.le ⟨fr, B ++ H0⟩ ⟨(t, .sl b.rows) :: fr1, A ++ H0⟩ := by
 intro E g a w r
 obtain ⟨g', _, r'⟩ := r.freeze k hk
 subst hf
 have hbB : lk (B ++ H0) k = some b := Yo hb
 have hS : ∀ (x : D), k ∉ x.ids -> x.fz (B ++ H0) (· == k) = x := fun x hx => Rz fun j hj => by
  simp only [beq_eq_false_iff_ne, ne_eq]; rintro rfl; exact hx hj
 have hH0k : ∀ j x, lk H0 j = some x -> k ∉ x.ids := fun j x h hi => by
  obtain ⟨y, hy⟩ := QeN.1 (hC j x h k hi)
  have := hB k y hy
  omega
 have noB : ∀ j x, lk H0 j = some x -> lk A j = none -> lk B j = none := fun j x h1 h2 => by
  cases h : lk B j with
  | none => rfl
  | some y =>
   have := hBA (j, y) (Z3 h) (hB j x h1)
   simp only at this
   rw [h2] at this; cases this
 have boxOf : ∀ j x, lk (A ++ H0) j = some x -> j ≠ k /\ lk (B ++ H0) j = some x /\ (x.pr = true \/ k ∉ x.ids) := fun j x h => by
  rcases N0 h with h | ⟨h1, h2⟩
  ·obtain ⟨q1, q2, q3⟩ := hA _ h
   exact ⟨q1, Yo q2, .inl q3⟩
  ·refine ⟨fun e => ?_, ?_, .inr (hH0k j x h2)⟩
   ·subst e; have := hB _ x h2; omega
   ·rw [YO (noB j x h2 h1)]; exact h2
 refine ⟨g', r'.less (fun u d h => ?_) (fun j x h => ?_) (fun u d h j hj => ?_) (fun j x h i hi => ?_) fun j hj hs => ?_⟩
 ·simp only [St.freeze, Z0]
  rw [Qj] at h
  split at h
  ·rename_i e; cases h; subst e
   rw [ht]; simp only [Option.map_some]
   congr 1
   simp only [D.fz, D.fzS, beq_self_eq_true, if_true, hbB, hp, hn, and_self]
  ·have h1 := Xn l fr u d h
   rw [h1, Option.map_some, hS d (c1 (u, d) (Z3 h))]
 ·obtain ⟨q1, q2, q3⟩ := boxOf j x h
  simp only [St.freeze, G0]
  rw [if_neg q1, Z0 (Box.fz (B ++ H0) (· == k)), q2, Option.map_some]
  congr 1
  refine XL (q3.imp id fun h3 i hi => ?_)
  simp only [beq_eq_false_iff_ne, ne_eq]; rintro rfl; exact h3 hi
 ·rw [Qj] at h
  split at h
  ·cases h; simp [D.ids, D.sid] at hj
  ·exact hfr (u, d) (Z3 h) j hj
 ·rcases N0 h with h | ⟨h1, h2⟩
  ·rw [X7 (hA _ h).2.2] at hi; cases hi
  ·have := hC j x h2 i hi
   rw [ZP]; split
   ·rfl
   ·exact this
 ·have hs' : (lk (B ++ H0) j).isSome = true := by
   simp only [St.freeze, G0] at hs
   rw [if_neg Wa, Z0 (Box.fz (B ++ H0) (· == k)), QeZ] at hs
   exact hs
  rw [ZP] at hs' ⊢
  cases h : lk B j with
  | some x =>
   have := hBA (j, x) (Z3 h) hj
   obtain ⟨y, hy⟩ := QeN.1 this
   simp only at hy
   rw [hy]; rfl
  | none =>
   rw [h] at hs'
   cases h2 : lk A j with
   | some x => rfl
   | none => exact hs'
section
variable {P : Program} {r : List AOper} {K : St -> Prop} {fr : QeF} {H : QeE} {t : Nat}
theorem B8 {esz et bytes kk n : Nat} {x y : Opd} {b : Box} {ys : List (List D)} {q : D} {pr : Bool} (hx : St.ev ⟨fr, H⟩ x = some (.osl kk n)) (hy : St.ev ⟨fr, H⟩ y = some q) (hq : kk ∉ q.ids) (hs : St.src ⟨fr, H⟩ esz q ys pr) (hn : lk H t = none)
  (hb : lk H kk = some b) (hl : n = b.rows.length) (he : b.esz = esz) (het : b.et = et) (hbb : (n + ys.length) * bytes <= 140737488355328) (hc : n + ys.length <= 4611686018427387904)
  (k : run P .fixed r K ⟨(t, .osl t (n + ys.length)) :: fr, (t, ⟨b.rows ++ ys, esz, et, b.pr && pr⟩) :: (kk, Z1) :: H⟩) (hk0 : kk < 1000000 := by decide) (ht0 : t < 1000000 := by decide) : run P .fixed (⟨some t, .append esz et bytes x y, none⟩ :: r) K ⟨fr, H⟩ :=
 .inr (.inl ⟨_, _, _, _, ⟨t, kk, n, b, q, ys, pr, rfl, hx, hk0, hn, ht0, hb, hl, he, het, hy, hq, hs, hbb, hc, rfl, rfl, rfl, rfl⟩, rfl, k⟩)
end
/-! ### The same over boxes whose names are greater than N -/
def Qc0 (N : Nat) (H : QeE) : Prop := ∀ k b, lk H k = some b -> N <= k
def Cm (H : QeE) : Prop := ∀ p ∈ H, p.2.pr = true
theorem BU {k : Nat} : ∀ {H : QeE}, Cm H -> scr k H = H
 | [], _ => rfl
 | (j, b) :: H, h => by
  show (j, b.scrub k) :: scr k H = _
  have hb : b.scrub k = b := by unfold Box.scrub; rw [if_pos (h (j, b) Wg)]
  rw [hb, BU fun p hp => h p (by simp [hp])]
theorem PD {fr : QeF} {B H0 : QeE} (k : Nat) (h : Cm H0) : St.le ⟨fr, B ++ scr k H0⟩ ⟨fr, B ++ H0⟩ := by rw [BU h]; exact le_refl _
theorem SO {l : List Nat} {fr fr1 fr' : QeF} {B A A' H0 : QeE} {N : Nat} (hf : Q7 l fr = fr1) (ef : fr1 = fr') (hA : ∀ p ∈ A, lk B p.1 = some p.2) (eA : A = A') (hcA : ∀ p ∈ A', ∀ j ∈ p.2.ids, (lk (A' ++ H0) j).isSome = true) (hBA : ∀ p ∈ B, N <= p.1 -> (lk A p.1).isSome = true) (hb : Qc0 N H0) (hpr : Cm H0) (hfr : ∀ p ∈ fr', ∀ k ∈ p.2.ids, (lk (A' ++ H0) k).isSome = true) (hN : N <= 1000000 := by decide) : St.le ⟨fr, B ++ H0⟩ ⟨fr', A' ++ H0⟩ := by
 subst eA
 have noB : ∀ k b, lk H0 k = some b -> lk A k = none -> lk B k = none := fun k b h1 h2 => by
  cases h : lk B k with
  | none => rfl
  | some x =>
   have := hBA (k, x) (Z3 h) (hb k b h1)
   simp only at this
   rw [h2] at this; cases this
 refine BH hf ef (fun k b hk => ?_) hfr (fun k b hk j hj => ?_) fun k hk hs => ?_
 ·rcases N0 hk with h | ⟨h1, h2⟩
  ·exact Yo (hA _ h)
  ·rw [YO (noB k b h2 h1)]; exact h2
 ·rcases N0 hk with h | ⟨h1, h2⟩
  ·exact hcA _ h j hj
  ·rw [X7 (hpr _ (Z3 h2))] at hj; cases hj
 ·rw [ZP] at hs ⊢
  cases h : lk B k with
  | some x =>
   have := hBA (k, x) (Z3 h) (Qe0 hN hk)
   obtain ⟨y, hy⟩ := QeN.1 this
   simp only at hy
   rw [hy]; rfl
  | none =>
   rw [h] at hs
   cases h2 : lk A k with
   | some x => rfl
   | none => exact hs
/-! ### Cells told az plain slices -/
theorem canS_cell {d : D} : d.canS.isCell = d.isCell := by cases d <;> rfl
theorem Hx {d : D} : d.canS.sid = d.sid := by cases d <;> rfl
theorem RepS.canS {g : Gh} {d : D} {v : Value} (h : RepS g d v) : RepS g d.canS v := by
 cases d <;> simp only [D.canS] <;> try exact h
 simp only [RepS, RepP] at h ⊢
 obtain ⟨a0, q1, q2⟩ := h
 exact ⟨a0, _, q1, Nat.le_refl _, q2⟩
theorem CellsC.canS {g : Gh} {c : Array Value} : ∀ {off : Nat} {ds : List D}, CellsC g c off ds -> CellsC g c off (ds.map D.canS)
 | _, [], _ => by simp only [List.map_nil, CellsC]
 | off, d :: ds, h => by
  simp only [CellsC, List.map_cons] at h ⊢
  obtain ⟨⟨h1, x, h2, h3⟩, h4⟩ := h
  exact ⟨⟨canS_cell.trans h1, x, h2, h3.canS⟩, h4.canS⟩
theorem RowsC.canAt {g : Gh} {c : Array Value} : ∀ {off : Nat} {rs : List (List D)} (i : Nat), RowsC g c off rs -> RowsC g c off (rs.modify i fun r => r.map D.canS)
 | _, [], i, h => by cases i <;> exact h
 | off, r :: rs, 0, h => by
  simp only [RowsC, List.modify_zero_cons] at h ⊢
  exact ⟨h.1.canS, by rw [List.length_map]; exact h.2⟩
 | off, r :: rs, i + 1, h => by
  simp only [RowsC, List.modify_succ_cons] at h ⊢
  exact ⟨h.1, RowsC.canAt i h.2⟩
theorem Kk {α : Type} {f : α -> α} : ∀ {l : List α} {i : Nat} {x : α}, x ∈ l.modify i f -> x ∈ l \/ ∃ y ∈ l, x = f y
 | [], i, x, h => by cases i <;> exact absurd h Wg
 | a :: l, 0, x, h => by
  simp only [List.modify_zero_cons, QeJ] at h
  rcases h with rfl | h
  ·exact .inr ⟨a, by simp, rfl⟩
  ·exact .inl (by simp [h])
 | a :: l, i + 1, x, h => by
  simp only [List.modify_succ_cons, QeJ] at h
  rcases h with rfl | h
  ·exact .inl Wg
  ·rcases Kk h with h | ⟨y, hy, e⟩
   ·exact .inl (by simp [h])
   ·exact .inr ⟨y, by simp [hy], e⟩
theorem F2 {fr : QeF} {H : QeE} {k : Nat} {b : Box} (i : Nat) (hb : lk H k = some b) : St.le ⟨fr, H⟩ ⟨fr, (k, { b with rows := b.rows.modify i fun r => r.map D.canS }) :: H⟩ := fun E g a w r => by
 have hsid : ∀ (r : List D), (r.map D.canS).flatMap D.sid = r.flatMap D.sid := fun r => by
  induction r with
  | nil => rfl
  | cons d r ih => rw [List.map_cons, List.flatMap_cons, List.flatMap_cons, Hx, ih]
 have hids : ∀ j, j ∈ Box.ids { b with rows := b.rows.modify i fun r => r.map D.canS } -> j ∈ b.ids := fun j hj => by
  unfold Box.ids at hj ⊢
  simp only at hj
  split at hj
  ·cases hj
  ·rename_i hp
   rw [if_neg hp]
   obtain ⟨row, hrow, hk⟩ := QeO.1 hj
   rcases Kk hrow with h | ⟨y, hy, rfl⟩
   ·exact QeO.2 ⟨row, h, hk⟩
   ·rw [hsid] at hk; exact QeO.2 ⟨y, hy, hk⟩
 have hsome : ∀ j, (lk ((k, ({ b with rows := b.rows.modify i fun r => r.map D.canS } : Box)) :: H) j).isSome = (lk H j).isSome := fun j => by
  rw [Qj]; split
  ·rename_i e; subst e; rw [hb]; rfl
  ·rfl
 have hget : ∀ j b', lk ((k, ({ b with rows := b.rows.modify i fun r => r.map D.canS } : Box)) :: H) j = some b' -> (j = k /\ b' = { b with rows := b.rows.modify i fun r => r.map D.canS }) \/ (j ≠ k /\ lk H j = some b') := fun j b' h => by
  rw [Qj] at h
  split at h
  ·rename_i e; cases h; exact .inl ⟨e.symm, rfl⟩
  ·rename_i e; exact .inr ⟨Ne.symm e, h⟩
 refine ⟨g, r.nt, r.df, r.fr, fun t d h j hj => (hsome j).trans (r.wfF t d h j hj), fun j b' h i' hi => ?_, fun j b' h => ?_, fun j j' b1 b2 B e e' h1 h2 h3 h4 => ?_, r.kr, r.ext, r.kx, fun j hj => let ⟨h1, h2, h3, h4⟩ := r.kp j hj; ⟨h1, h2, h3, (hsome j).trans h4⟩⟩
 ·rcases hget j b' h with ⟨rfl, rfl⟩ | ⟨_, h⟩
  ·rw [hsome]; exact r.wfH _ b hb i' (hids i' hi)
  ·rw [hsome]; exact r.wfH j b' h i' hi
 ·rcases hget j b' h with ⟨rfl, rfl⟩ | ⟨_, h⟩
  ·obtain ⟨h1, h2, h3⟩ := r.bx _ b hb
   by_cases hr : b.rows = []
   ·have e : ({ b with rows := b.rows.modify i fun r => r.map D.canS } : Box) = b := by
     obtain ⟨rows, e1, e2, e3⟩ := b
     simp only at hr
     subst hr
     cases i <;> rfl
    rw [e]; exact ⟨h1, h2, h3⟩
   ·refine ⟨fun row hrow => ?_, fun hp row hrow d hd => ?_, .inr ?_⟩
    ·rcases Kk hrow with h | ⟨y, hy, rfl⟩
     ·exact h1 row h
     ·rw [List.length_map]; exact h1 y hy
    ·rcases Kk hrow with h | ⟨y, hy, rfl⟩
     ·exact h2 hp row h d hd
     ·obtain ⟨d0, hd0, rfl⟩ := QeV.1 hd
      rw [Hx]; exact h2 hp y hy d0 hd0
    ·obtain ⟨_, B, c, q1, q2, q3, q4, q5⟩ := h3.resolve_left fun h => hr h.1
     refine ⟨.inl fun e => hr ?_, B, c, q1, q2, q3, q4.canAt i, q5⟩
     have := congrArg List.length e
     simp only [List.length_modify, List.length_nil] at this
     exact List.eq_nil_of_length_eq_zero this
  ·exact r.bx j b' h
 ·have : ∀ j b', lk ((k, ({ b with rows := b.rows.modify i fun r => r.map D.canS } : Box)) :: H) j = some b' -> ∃ b'', lk H j = some b'' := fun j b' h => by
   rcases hget j b' h with ⟨rfl, _⟩ | ⟨_, h⟩
   ·exact ⟨b, hb⟩
   ·exact ⟨b', h⟩
  obtain ⟨c1, q1⟩ := this j b1 h1
  obtain ⟨c2, q2⟩ := this j' b2 h2
  exact r.inj j j' c1 c2 B e e' q1 q2 h3 h4
theorem DD {fr fr' : QeF} {H H' : QeE} (k : Nat) (hk : k < 1000000) (hF : ∀ t d, lk fr' t = some d -> ∃ d0, lk fr t = some d0 /\ d0.fz H (· == k) = d) (hH : ∀ j b, lk H' j = some b -> j ≠ k /\ ∃ b0, lk H j = some b0 /\ b0.fz H (· == k) = b)
  (wfF : ∀ t d, lk fr' t = some d -> ∀ j ∈ d.ids, (lk H' j).isSome = true) (wfH : Closed H') (hbig : ∀ j, 1000000 <= j -> (lk H j).isSome = true -> (lk H' j).isSome = true) : St.le ⟨fr, H⟩ ⟨fr', H'⟩ := by
 intro E g a w r
 obtain ⟨g', _, r'⟩ := r.freeze k hk
 refine ⟨g', r'.less (fun u d h => ?_) (fun j x h => ?_) wfF wfH fun j hj hs => hbig j hj ?_⟩
 ·obtain ⟨d0, q1, q2⟩ := hF u d h
  simp only [St.freeze, Z0, q1, Option.map_some, q2]
 ·obtain ⟨q1, b0, q2, q3⟩ := hH j x h
  simp only [St.freeze, G0]
  rw [if_neg q1, Z0 (Box.fz H (· == k)), q2, Option.map_some, q3]
 ·simp only [St.freeze, G0] at hs
  rw [if_neg Wa, Z0 (Box.fz H (· == k)), QeZ] at hs
  exact hs
theorem QaH {fr fr' : QeF} {H H' : QeE} (S : Nat -> Bool) (hS : ∀ k, S k = true -> k < 1000000) (hF : ∀ t d, lk fr' t = some d -> ∃ d0, lk fr t = some d0 /\ d0.fz H S = d) (hH : ∀ j b, lk H' j = some b -> S j = false /\ ∃ b0, lk H j = some b0 /\ b0.fz H S = b)
  (wfF : ∀ t d, lk fr' t = some d -> ∀ j ∈ d.ids, (lk H' j).isSome = true) (wfH : Closed H') (hbig : ∀ j, 1000000 <= j -> (lk H j).isSome = true -> (lk H' j).isSome = true) : St.le ⟨fr, H⟩ ⟨fr', H'⟩ := by
 intro E g a w r
 obtain ⟨g', _, r'⟩ := r.freezeS S hS
 refine ⟨g', r'.less (fun u d h => ?_) (fun j x h => ?_) wfF wfH fun j hj hs => hbig j hj ?_⟩
 ·obtain ⟨d0, q1, q2⟩ := hF u d h
  simp only [St.freezeS, Z0, q1, Option.map_some, q2]
 ·obtain ⟨q1, b0, q2, q3⟩ := hH j x h
  simp only [St.freezeS, N1]
  rw [if_neg (by rw [q1]; simp), Z0 (Box.fz H S), q2, Option.map_some, q3]
 ·simp only [St.freezeS, N1] at hs
  split at hs
  ·cases hs
  ·rw [Z0 (Box.fz H S), QeZ] at hs
   exact hs
theorem Zh (n : Nat) (p : List Nat) : Ju n p [] = true := by simp [Ju]
theorem Zi {n k : Nat} {R : List (Nat × List Nat)} : Ju n [k] R = R.all fun e => e.1 != k || e.2.contains n := by simp [Ju]
theorem Zj {n k j : Nat} {R : List (Nat × List Nat)} : Ju n [k, j] R = ((R.all fun e => e.1 != k || e.2.contains n) && R.all fun e => e.1 != j || e.2.contains n) := by simp [Ju]
theorem Zx {P ds : List Nat} {n k : Nat} (h : ds.contains n = true) : ((P.map fun x => (x, ds)).all fun e => e.1 != k || e.2.contains n) = true := by
 rw [QeR]
 intro e he
 obtain ⟨x, _, rfl⟩ := QeV.1 he
 rw [h, Bool.or_true]
end Go.Abs
namespace Go.Abs
open Go
theorem QbY {fr fr1 : QeF} {H H1 : QeE} {l lH : List Nat} (kA kR : Nat) (pr' : Bool) {bA bR : Box} {rows' : List (List D)} (hf : Q7 l fr = fr1) (hH : HX lH H = H1) (hA : lk H kA = some bA) (hR : lk H kR = some bR) (hpA : bA.pr = false) (hp : bR.pr = true)
  (hfz : (bA.rows.map fun r => r.map (D.fzS H (· == kR))) = rows') (hpr : pr' = true -> rows' ≠ [] /\ ∀ r ∈ rows', ∀ d ∈ r, d.sid = []) (hne : kA ≠ kR) (c1 : (fr1.all fun p => !p.2.ids.contains kR) = true) (c2 : (H1.all fun p => p.1 != kR && (p.2.pr || !p.2.ids.contains kR)) = true)
  (hw : wfB ((kA, ⟨rows', bA.esz, bA.et, pr'⟩) :: H1) fr1 = true) (hbk : QbH H ((kA, ⟨rows', bA.esz, bA.et, pr'⟩) :: H1) = true) (hk : kR < 1000000 := by decide) : St.le ⟨fr, H⟩ ⟨fr1, (kA, ⟨rows', bA.esz, bA.et, pr'⟩) :: H1⟩ := by
 subst hf hH
 simp only [wfB, QeL, QeR] at hw
 simp only [QeR, Bool.not_eq_true', List.contains_eq_mem, decide_eq_false_iff_not] at c1
 simp only [QeR, QeL, Bool.or_eq_true, Bool.not_eq_true', List.contains_eq_mem, decide_eq_false_iff_not, bne_iff_ne, ne_eq] at c2
 have hsome : ∀ j, (lk ((kA, (⟨rows', bA.esz, bA.et, false⟩ : Box)) :: HX lH H) j).isSome = (lk ((kA, (⟨rows', bA.esz, bA.et, pr'⟩ : Box)) :: HX lH H) j).isSome := fun j => by
  rw [Qj, Qj]; split <;> rfl
 have hids : ∀ j, j ∈ Box.ids ⟨rows', bA.esz, bA.et, false⟩ -> (lk ((kA, (⟨rows', bA.esz, bA.et, pr'⟩ : Box)) :: HX lH H) j).isSome = true := fun j hj => by
  cases hc : pr'
  ·rw [hc] at hw; exact hw.2 (kA, ⟨rows', bA.esz, bA.et, false⟩) Wg j hj
  ·exfalso
   unfold Box.ids at hj
   simp only [QeP, if_false] at hj
   obtain ⟨r, hr, hj⟩ := QeO.1 hj
   obtain ⟨d, hd, hj⟩ := QeO.1 hj
   rw [(hpr hc).2 r hr d hd] at hj; cases hj
 have h1 : St.le ⟨fr, H⟩ ⟨Q7 l fr, (kA, ⟨rows', bA.esz, bA.et, false⟩) :: HX lH H⟩ := by
  refine DD kR hk (fun t d h => ⟨d, Xn l fr t d h, Rz fun j hj => ?_⟩) (fun j b h => ?_) (fun t d h j hj => ?_) (fun j b h i hi => ?_) fun j hj hs => ?_
  ·simp only [beq_eq_false_iff_ne, ne_eq]; rintro rfl; exact c1 (t, d) (Z3 h) hj
  ·rw [Qj] at h
   split at h
   ·rename_i e; cases h; subst e
    refine ⟨hne, bA, hA, ?_⟩
    unfold Box.fz; rw [if_neg (by rw [hpA]; simp)]
    rw [hfz, hpA]
   ·have := c2 (j, b) (Z3 h)
    refine ⟨this.1, b, F4 lH H j b h, XL (this.2.imp id fun h3 i hi => ?_)⟩
    simp only [beq_eq_false_iff_ne, ne_eq]; rintro rfl; exact h3 hi
  ·rw [hsome]; exact hw.1 (t, d) (Z3 h) j hj
  ·rw [hsome]
   rw [Qj] at h
   split at h
   ·cases h; exact hids i hi
   ·exact hw.2 (j, b) (List.mem_cons_of_mem _ (Z3 h)) i hi
  ·rw [hsome]; exact Sr hbk j hj hs
 cases hc : pr'
 ·exact h1
 ·refine le_trans h1 (le_trans (PB (k := kA) (by rw [Qj, if_pos rfl]) (hpr hc).1 (hpr hc).2) (PC ⟨fun _ => rfl, fun j => ?_⟩))
  show lk ((kA, _) :: (kA, _) :: HX lH H) j = lk ((kA, _) :: HX lH H) j
  rw [Qj, Qj, Qj]
  split <;> rfl
end Go.Abs
namespace Go.Abs
open Go
theorem Z.{u} {α : Sort u} {a : α} : a = a := rfl
theorem qB : (∀ (p : Prop) [Decidable p], (decide p = true) = p) /\ (∀ (p : Prop) [Decidable p], (decide p = false) ↔ ¬ p) /\ (∀ a b : Bool, ((!a) = b) = (a = !b)) /\ (!true) = false /\ (!false) = true := ⟨fun _ _ => decide_eq_true_eq, fun _ _ => decide_eq_false_iff_not, fun a b => by simp, rfl, rfl⟩
theorem qA : (∀ (p : Prop) [Decidable p], (decide p = true) = p) /\ (∀ (p : Prop) [Decidable p], (decide p = false) ↔ ¬ p) /\ (∀ a b : Bool, ((!a) = b) = (a = !b)) /\ (!true) = false /\ (!false) = true /\ (∀ (α β : Type) (f : α -> β) (l : List α), (l.map f).length = l.length) := ⟨qB.1, qB.2.1, qB.2.2.1, rfl, rfl, fun _ _ _ _ => List.length_map _⟩
theorem qa {p : Prop} [Decidable p] : (decide p = true) = p := decide_eq_true_eq
theorem qb {p : Prop} [Decidable p] : (decide p = false) ↔ ¬ p := decide_eq_false_iff_not
theorem qc {a b : Bool} : ((!a) = b) = (a = !b) := by simp
theorem qd : (!true) = false := rfl
theorem qe : (!false) = true := rfl
section
variable {fr : QeF} {t0 t1 t2 t3 t4 t5 t6 t7 t8 t9 t10 t11 t12 t13 t14 t15 t16 t17 t18 t19 t20 t21 t22 t23 : Nat} {d0 d1 d2 d3 d4 d5 d6 d7 d8 d9 d10 d11 d12 d13 d14 d15 d16 d17 d18 d19 d20 d21 d22 d23 : D}
abbrev kE (fr : QeF) (t : Nat) (d : D) : Prop := lk fr t = some d
theorem kp1 (h0 : kE fr t0 d0) : Q7 [t0] fr = [(t0, d0)] := YY h0 ZJ
theorem kp2 (h0 : kE fr t0 d0) (h1 : kE fr t1 d1) : Q7 [t0, t1] fr = [(t0, d0), (t1, d1)] := YY h0 (kp1 h1)
theorem kp3 (h0 : kE fr t0 d0) (h1 : kE fr t1 d1) (h2 : kE fr t2 d2) : Q7 [t0, t1, t2] fr = [(t0, d0), (t1, d1), (t2, d2)] := YY h0 (kp2 h1 h2)
theorem kp4 (h0 : kE fr t0 d0) (h1 : kE fr t1 d1) (h2 : kE fr t2 d2) (h3 : kE fr t3 d3) : Q7 [t0, t1, t2, t3] fr = [(t0, d0), (t1, d1), (t2, d2), (t3, d3)] := YY h0 (kp3 h1 h2 h3)
theorem kp5 (h0 : kE fr t0 d0) (h1 : kE fr t1 d1) (h2 : kE fr t2 d2) (h3 : kE fr t3 d3) (h4 : kE fr t4 d4) : Q7 [t0, t1, t2, t3, t4] fr = [(t0, d0), (t1, d1), (t2, d2), (t3, d3), (t4, d4)] := YY h0 (kp4 h1 h2 h3 h4)
theorem kp6 (h0 : kE fr t0 d0) (h1 : kE fr t1 d1) (h2 : kE fr t2 d2) (h3 : kE fr t3 d3) (h4 : kE fr t4 d4) (h5 : kE fr t5 d5) : Q7 [t0, t1, t2, t3, t4, t5] fr = [(t0, d0), (t1, d1), (t2, d2), (t3, d3), (t4, d4), (t5, d5)] := YY h0 (kp5 h1 h2 h3 h4 h5)
theorem kp7 (h0 : kE fr t0 d0) (h1 : kE fr t1 d1) (h2 : kE fr t2 d2) (h3 : kE fr t3 d3) (h4 : kE fr t4 d4) (h5 : kE fr t5 d5) (h6 : kE fr t6 d6) : Q7 [t0, t1, t2, t3, t4, t5, t6] fr = [(t0, d0), (t1, d1), (t2, d2), (t3, d3), (t4, d4), (t5, d5), (t6, d6)] := YY h0 (kp6 h1 h2 h3 h4 h5 h6)
theorem kp8 (h0 : kE fr t0 d0) (h1 : kE fr t1 d1) (h2 : kE fr t2 d2) (h3 : kE fr t3 d3) (h4 : kE fr t4 d4) (h5 : kE fr t5 d5) (h6 : kE fr t6 d6) (h7 : kE fr t7 d7) : Q7 [t0, t1, t2, t3, t4, t5, t6, t7] fr = [(t0, d0), (t1, d1), (t2, d2), (t3, d3), (t4, d4), (t5, d5), (t6, d6), (t7, d7)] := YY h0 (kp7 h1 h2 h3 h4 h5 h6 h7)
theorem kp9 (h0 : kE fr t0 d0) (h1 : kE fr t1 d1) (h2 : kE fr t2 d2) (h3 : kE fr t3 d3) (h4 : kE fr t4 d4) (h5 : kE fr t5 d5) (h6 : kE fr t6 d6) (h7 : kE fr t7 d7) (h8 : kE fr t8 d8) : Q7 [t0, t1, t2, t3, t4, t5, t6, t7, t8] fr = [(t0, d0), (t1, d1), (t2, d2), (t3, d3), (t4, d4), (t5, d5), (t6, d6), (t7, d7), (t8, d8)] := YY h0 (kp8 h1 h2 h3 h4 h5 h6 h7 h8)
theorem Qcw (h0 : kE fr t0 d0) (h1 : kE fr t1 d1) (h2 : kE fr t2 d2) (h3 : kE fr t3 d3) (h4 : kE fr t4 d4) (h5 : kE fr t5 d5) (h6 : kE fr t6 d6) (h7 : kE fr t7 d7) (h8 : kE fr t8 d8) (h9 : kE fr t9 d9) : Q7 [t0, t1, t2, t3, t4, t5, t6, t7, t8, t9] fr = [(t0, d0), (t1, d1), (t2, d2), (t3, d3), (t4, d4), (t5, d5), (t6, d6), (t7, d7), (t8, d8), (t9, d9)] := YY h0 (kp9 h1 h2 h3 h4 h5 h6 h7 h8 h9)
end
section
variable {P : Program} {nt : Nat} {Q : AExit -> St -> Prop} {l : List Nat} {b : TCode} {K : St -> Prop} {H : QeE} {fr fr' : QeF} {r : List AOper} {dr : Dr} {x y z v : Opd} {p q : D} {t u : Nat}
variable {t0 t1 t2 t3 t4 t5 t6 t7 t8 : Nat} {d0 d1 d2 d3 d4 d5 d6 d7 d8 : D}
theorem kc (hK : ∀ fr H, TW P nt b Q ⟨Q7 l fr, H⟩ -> K ⟨fr, H⟩) (h : Q7 l fr = fr') (k : TW P nt b Q ⟨fr', H⟩) : K ⟨fr, H⟩ := hK _ _ (Sq h k)
theorem kc1 (hK : ∀ fr H, TW P nt b Q ⟨Q7 [t0] fr, H⟩ -> K ⟨fr, H⟩) (h0 : kE fr t0 d0) (k : TW P nt b Q ⟨[(t0, d0)], H⟩) : K ⟨fr, H⟩ := kc hK (kp1 h0) k
theorem ks1 (h0 : kE fr t0 d0) (k : TW P nt b Q ⟨[(t0, d0)], H⟩) : D5 P nt [t0] b Q .normal ⟨fr, H⟩ := Zs (kp1 h0) k
theorem kc2 (hK : ∀ fr H, TW P nt b Q ⟨Q7 [t0, t1] fr, H⟩ -> K ⟨fr, H⟩) (h0 : kE fr t0 d0) (h1 : kE fr t1 d1) (k : TW P nt b Q ⟨[(t0, d0), (t1, d1)], H⟩) : K ⟨fr, H⟩ := kc hK (kp2 h0 h1) k
theorem ks2 (h0 : kE fr t0 d0) (h1 : kE fr t1 d1) (k : TW P nt b Q ⟨[(t0, d0), (t1, d1)], H⟩) : D5 P nt [t0, t1] b Q .normal ⟨fr, H⟩ := Zs (kp2 h0 h1) k
theorem kc3 (hK : ∀ fr H, TW P nt b Q ⟨Q7 [t0, t1, t2] fr, H⟩ -> K ⟨fr, H⟩) (h0 : kE fr t0 d0) (h1 : kE fr t1 d1) (h2 : kE fr t2 d2) (k : TW P nt b Q ⟨[(t0, d0), (t1, d1), (t2, d2)], H⟩) : K ⟨fr, H⟩ := kc hK (kp3 h0 h1 h2) k
theorem ks3 (h0 : kE fr t0 d0) (h1 : kE fr t1 d1) (h2 : kE fr t2 d2) (k : TW P nt b Q ⟨[(t0, d0), (t1, d1), (t2, d2)], H⟩) : D5 P nt [t0, t1, t2] b Q .normal ⟨fr, H⟩ := Zs (kp3 h0 h1 h2) k
theorem kc4 (hK : ∀ fr H, TW P nt b Q ⟨Q7 [t0, t1, t2, t3] fr, H⟩ -> K ⟨fr, H⟩) (h0 : kE fr t0 d0) (h1 : kE fr t1 d1) (h2 : kE fr t2 d2) (h3 : kE fr t3 d3) (k : TW P nt b Q ⟨[(t0, d0), (t1, d1), (t2, d2), (t3, d3)], H⟩) : K ⟨fr, H⟩ := kc hK (kp4 h0 h1 h2 h3) k
theorem ks4 (h0 : kE fr t0 d0) (h1 : kE fr t1 d1) (h2 : kE fr t2 d2) (h3 : kE fr t3 d3) (k : TW P nt b Q ⟨[(t0, d0), (t1, d1), (t2, d2), (t3, d3)], H⟩) : D5 P nt [t0, t1, t2, t3] b Q .normal ⟨fr, H⟩ := Zs (kp4 h0 h1 h2 h3) k
theorem kc5 (hK : ∀ fr H, TW P nt b Q ⟨Q7 [t0, t1, t2, t3, t4] fr, H⟩ -> K ⟨fr, H⟩) (h0 : kE fr t0 d0) (h1 : kE fr t1 d1) (h2 : kE fr t2 d2) (h3 : kE fr t3 d3) (h4 : kE fr t4 d4) (k : TW P nt b Q ⟨[(t0, d0), (t1, d1), (t2, d2), (t3, d3), (t4, d4)], H⟩) : K ⟨fr, H⟩ := kc hK (kp5 h0 h1 h2 h3 h4) k
theorem ks5 (h0 : kE fr t0 d0) (h1 : kE fr t1 d1) (h2 : kE fr t2 d2) (h3 : kE fr t3 d3) (h4 : kE fr t4 d4) (k : TW P nt b Q ⟨[(t0, d0), (t1, d1), (t2, d2), (t3, d3), (t4, d4)], H⟩) : D5 P nt [t0, t1, t2, t3, t4] b Q .normal ⟨fr, H⟩ := Zs (kp5 h0 h1 h2 h3 h4) k
theorem kc6 (hK : ∀ fr H, TW P nt b Q ⟨Q7 [t0, t1, t2, t3, t4, t5] fr, H⟩ -> K ⟨fr, H⟩) (h0 : kE fr t0 d0) (h1 : kE fr t1 d1) (h2 : kE fr t2 d2) (h3 : kE fr t3 d3) (h4 : kE fr t4 d4) (h5 : kE fr t5 d5) (k : TW P nt b Q ⟨[(t0, d0), (t1, d1), (t2, d2), (t3, d3), (t4, d4), (t5, d5)], H⟩) : K ⟨fr, H⟩ := kc hK (kp6 h0 h1 h2 h3 h4 h5) k
theorem ks6 (h0 : kE fr t0 d0) (h1 : kE fr t1 d1) (h2 : kE fr t2 d2) (h3 : kE fr t3 d3) (h4 : kE fr t4 d4) (h5 : kE fr t5 d5) (k : TW P nt b Q ⟨[(t0, d0), (t1, d1), (t2, d2), (t3, d3), (t4, d4), (t5, d5)], H⟩) : D5 P nt [t0, t1, t2, t3, t4, t5] b Q .normal ⟨fr, H⟩ := Zs (kp6 h0 h1 h2 h3 h4 h5) k
theorem kc7 (hK : ∀ fr H, TW P nt b Q ⟨Q7 [t0, t1, t2, t3, t4, t5, t6] fr, H⟩ -> K ⟨fr, H⟩) (h0 : kE fr t0 d0) (h1 : kE fr t1 d1) (h2 : kE fr t2 d2) (h3 : kE fr t3 d3) (h4 : kE fr t4 d4) (h5 : kE fr t5 d5) (h6 : kE fr t6 d6) (k : TW P nt b Q ⟨[(t0, d0), (t1, d1), (t2, d2), (t3, d3), (t4, d4), (t5, d5), (t6, d6)], H⟩) : K ⟨fr, H⟩ := kc hK (kp7 h0 h1 h2 h3 h4 h5 h6) k
theorem kc8 (hK : ∀ fr H, TW P nt b Q ⟨Q7 [t0, t1, t2, t3, t4, t5, t6, t7] fr, H⟩ -> K ⟨fr, H⟩) (h0 : kE fr t0 d0) (h1 : kE fr t1 d1) (h2 : kE fr t2 d2) (h3 : kE fr t3 d3) (h4 : kE fr t4 d4) (h5 : kE fr t5 d5) (h6 : kE fr t6 d6) (h7 : kE fr t7 d7) (k : TW P nt b Q ⟨[(t0, d0), (t1, d1), (t2, d2), (t3, d3), (t4, d4), (t5, d5), (t6, d6), (t7, d7)], H⟩) : K ⟨fr, H⟩ := kc hK (kp8 h0 h1 h2 h3 h4 h5 h6 h7) k
theorem gn2 {o0 : AOp} {g0 : Nat} {b0 : Bool} {w0 : Nat} {o1 : AOp} {g1 : Nat} {b1 : Bool} {w1 : Nat} (h0 : lk (fr) g0 = some (.bool (!b0))) (h1 : lk ((w0, .undef) :: fr) g1 = some (.bool (!b1))) (k : run P dr r K ⟨(w1, .undef) :: (w0, .undef) :: fr, H⟩) : run P dr (⟨some w0, o0, some (g0, b0)⟩ :: ⟨some w1, o1, some (g1, b1)⟩ :: r) K ⟨fr, H⟩ := (XT h0 (XT h1 k))
theorem gn3 {o0 : AOp} {g0 : Nat} {b0 : Bool} {w0 : Nat} {o1 : AOp} {g1 : Nat} {b1 : Bool} {w1 : Nat} {o2 : AOp} {g2 : Nat} {b2 : Bool} {w2 : Nat} (h0 : lk (fr) g0 = some (.bool (!b0))) (h1 : lk ((w0, .undef) :: fr) g1 = some (.bool (!b1))) (h2 : lk ((w1, .undef) :: (w0, .undef) :: fr) g2 = some (.bool (!b2))) (k : run P dr r K ⟨(w2, .undef) :: (w1, .undef) :: (w0, .undef) :: fr, H⟩) : run P dr (⟨some w0, o0, some (g0, b0)⟩ :: ⟨some w1, o1, some (g1, b1)⟩ :: ⟨some w2, o2, some (g2, b2)⟩ :: r) K ⟨fr, H⟩ := (XT h0 (XT h1 (XT h2 k)))
theorem gn4 {o0 : AOp} {g0 : Nat} {b0 : Bool} {w0 : Nat} {o1 : AOp} {g1 : Nat} {b1 : Bool} {w1 : Nat} {o2 : AOp} {g2 : Nat} {b2 : Bool} {w2 : Nat} {o3 : AOp} {g3 : Nat} {b3 : Bool} {w3 : Nat} (h0 : lk (fr) g0 = some (.bool (!b0))) (h1 : lk ((w0, .undef) :: fr) g1 = some (.bool (!b1))) (h2 : lk ((w1, .undef) :: (w0, .undef) :: fr) g2 = some (.bool (!b2))) (h3 : lk ((w2, .undef) :: (w1, .undef) :: (w0, .undef) :: fr) g3 = some (.bool (!b3))) (k : run P dr r K ⟨(w3, .undef) :: (w2, .undef) :: (w1, .undef) :: (w0, .undef) :: fr, H⟩) : run P dr (⟨some w0, o0, some (g0, b0)⟩ :: ⟨some w1, o1, some (g1, b1)⟩ :: ⟨some w2, o2, some (g2, b2)⟩ :: ⟨some w3, o3, some (g3, b3)⟩ :: r) K ⟨fr, H⟩ := (XT h0 (XT h1 (XT h2 (XT h3 k))))
theorem mv2 (hx : St.ev ⟨fr, H⟩ x = some p) (hy : St.ev ⟨(t, p) :: fr, H⟩ y = some q) (k : run P dr r K ⟨(u, q) :: (t, p) :: fr, H⟩) : run P dr (⟨some t, .mov x, none⟩ :: ⟨some u, .mov y, none⟩ :: r) K ⟨fr, H⟩ := Qa hx (Qa hy k)
end
end Go.Abs
namespace Go.Proofs
open Go Go.Abs
set_option maxRecDepth 100000
abbrev oo (t : Nat) (op : AOp) : AOper := ⟨some t,op,none⟩
abbrev om (t x : Nat) : AOper := ⟨some t,.mov (.s x),none⟩
abbrev oL (t n x : Nat) : AOper := ⟨some t,.load true n (.s x),none⟩
abbrev ol (t n x : Nat) : AOper := ⟨some t,.load false n (.s x),none⟩
abbrev oA (t n x : Nat) : AOper := ⟨some t,.fieldAddr n (.s x),none⟩
abbrev oe (t n x : Nat) : AOper := ⟨some t,.extract n (.s x),none⟩
abbrev oT (t g : Nat) (op : AOp) : AOper := ⟨some t,op,some (g,true)⟩
abbrev oF (t g : Nat) (op : AOp) : AOper := ⟨some t,op,some (g,false)⟩
abbrev jf : Opd := .c (.bool false)
abbrev je : Opd := .c (.fsl [])
abbrev jv (t : Nat) (x : Opd) : AOper := ⟨some t,.mov x,none⟩
abbrev jw (t : Nat) (x : Int) : AOper := ⟨some t,.mov (.c (.int .i64 x)),none⟩
abbrev jp (t x y : Nat) : AOper := ⟨some t,.pick (.s x) (.s y) (.c (.bool false)),none⟩
abbrev jh (t x : Nat) : AOper := ⟨some t,.nilCheck (.s x),none⟩
abbrev jA (t g n x : Nat) : AOper := ⟨some t,.fieldAddr n (.s x),some (g,true)⟩
abbrev ja (t g n x : Nat) : AOper := ⟨some t,.fieldAddr n (.s x),some (g,false)⟩
abbrev jY (t g : Nat) (o : BinOp) (x : Nat) (y : Int) : AOper := ⟨some t,.bin o false (.s x) (.c (.int .i64 y)),some (g,true)⟩
abbrev jy (t g : Nat) (o : BinOp) (x : Nat) (y : Int) : AOper := ⟨some t,.bin o false (.s x) (.c (.int .i64 y)),some (g,false)⟩
abbrev jS (n a b : Nat) : AOper := ⟨none,.store n (.s a) (.s b),none⟩
abbrev jI (n : Int) : Opd := .c (.int .i64 n)
abbrev jn (t x : Nat) : AOper := ⟨some t,.len (.s x),none⟩
abbrev jB (t : Nat) (o : BinOp) (x y : Nat) : AOper := ⟨some t,.bin o false (.s x) (.s y),none⟩
abbrev jb (t : Nat) (o : BinOp) (x : Nat) (y : Int) : AOper := ⟨some t,.bin o false (.s x) (.c (.int .i64 y)),none⟩
abbrev jx (t e x y : Nat) : AOper := ⟨some t,.indexAddr e (.s x) (.s y),none⟩
abbrev jc (t f : Nat) (l : List Opd) : AOper := ⟨some t,.call f l,none⟩
abbrev jo (t e x : Nat) : AOper := ⟨some t,.box e (.s x),none⟩
abbrev jT (t g x : Nat) : AOper := ⟨some t,.mov (.s x),some (g,true)⟩
abbrev jF (t g x : Nat) : AOper := ⟨some t,.mov (.s x),some (g,false)⟩
abbrev jL (t g n x : Nat) : AOper := ⟨some t,.load true n (.s x),some (g,true)⟩
abbrev jl (t g n x : Nat) : AOper := ⟨some t,.load false n (.s x),some (g,true)⟩
abbrev jM (t g n x : Nat) : AOper := ⟨some t,.load true n (.s x),some (g,false)⟩
abbrev jm (t g n x : Nat) : AOper := ⟨some t,.load false n (.s x),some (g,false)⟩
abbrev jC (c : Nat) (a b : TCode) : TCode := .cond (.s c) a b
abbrev jr (l : List AOper) : TCode := .region false l
abbrev jR (l : List AOper) : TCode := .region true l
abbrev jq (a : TCode) (v : List Nat) (b : TCode) : TCode := .seq a v b
abbrev jk (n : Nat) (a : TCode) : TCode := .block n (.loop a)
def tf3 : TFn := ⟨85,[.tmp 6],jq (jr [jv 6 jf]) [0,1,2,900000] (jq (jr [om 16 0,jc 17 4 [.s 16,jI 5],oo 7 (.alloc 25 [(.fsl [])]),jS 1 7 17]) [1,2,7,900000] (jq (jR [oL 18 1 7,om 19 1,jc 20 5 [.s 18,.s 19],oL 21 1 7,om 22 2,jc 23 5 [.s 21,.s 22],oo 8 (.alloc 31 [(.int .i64 0),(.fsl []),(.fsl [])]),oo 9 (.alloc 31 [(.int .i64 0),(.fsl []),(.fsl [])]),jS 3 8 20,jS 3 9 23]) [7,8,9,900000] (jq (jr [oA 24 0 8,ol 25 1 24,oA 26 0 9,jS 1 26 25]) [7,8,9,900000] (jq (jR [oL 27 3 8,oL 28 3 8,oL 29 3 8,oo 10 (.alloc 31 [(.int .i64 0),(.fsl []),(.fsl [])]),oo 11 (.alloc 31 [(.int .i64 0),(.fsl []),(.fsl [])]),oo 12 (.alloc 31 [(.int .i64 0),(.fsl []),(.fsl [])]),jS 3 10 27,jS 3 11 28,jS 3 12 29]) [7,8,9,10,11,12,900000] (jq (jR [oA 30 1 8,oL 31 2 30,oA 32 1 9,oL 33 2 32,jc 34 6 [.s 31,.s 33],oA 35 1 8,oL 36 2 35,oA 37 1 9,oL 38 2 37,jc 39 7 [.s 36,.s 38],oA 40 1 8,oL 41 2 40,jc 42 8 [.s 41],oA 43 1 10,jS 2 43 34,oA 44 1 11,jS 2 44 39,oA 45 1 12,jS 2 45 42]) [7,8,9,10,11,12,900000] (jq (jR [oL 46 1 7,oL 47 3 8,jc 48 9 [.s 46,.s 47,.s 900000],oL 49 1 7,oL 50 3 9,jc 51 9 [.s 49,.s 50,.s 900000],oL 52 1 7,oA 53 0 8,ol 54 1 53,jc 55 10 [.s 52,.s 54],om 13 48,om 14 51,om 15 55]) [7,10,11,12,13,14,15,900000] (jq (jr [oL 56 1 7,oL 57 3 10,jc 58 9 [.s 56,.s 57,.s 900000],om 59 13,om 60 14,jB 61 .or 59 60,jB 62 .eql 58 61,om 63 62,jL 64 63 1 7,jL 65 63 3 11,oT 66 63 (.call 9 [.s 64,.s 65,.s 900000]),jT 67 63 13,jT 68 63 14,oT 69 63 (.bin .and false (.s 67) (.s 68)),oT 70 63 (.bin .eql false (.s 66) (.s 69)),jp 71 63 70,om 72 71,jL 73 72 1 7,jL 74 72 3 12,oT 75 72 (.call 9 [.s 73,.s 74,.s 900000]),jT 76 72 15,jT 77 72 13,oT 78 72 (.bin .sub false (.s 76) (.s 77)),jY 79 72 .sub 78 1,oT 80 72 (.bin .eql false (.s 75) (.s 79)),jp 81 72 80,om 82 81,oT 83 82 (.call 11 [.s 900000]),jp 84 82 83,om 6 84]) [6] .ret)))))))⟩
def tf4 : TFn := ⟨90,[.cell 4 true 1],jq (jr [oo 4 (.alloc 25 [(.fsl [])])]) [0,1,4] (jq (jr [om 10 0,oo 11 (.build [(.fsl []),(.int .i64 0)] [(0,1,(.s 10))]),jo 12 41 11,om 5 12]) [1,4,5] (jq (jr [om 13 5,om 14 1,jc 15 12 [.s 13,.s 14],om 6 15]) [4,5,6] (jq (jR [om 16 6,oo 17 (.indexAddr 3 (.s 16) (jI 0)),oA 18 2 17,ol 19 1 18,om 20 5,om 21 6,jc 22 13 [.s 20,.s 21,jI 3],oo 23 (.indexAddr 8 (.s 19) (jI 0)),oA 24 6 23,jS 1 24 22]) [4,5,6] (jq (jq (jr [jw 7 1]) [4,5,6,7] (jk 0 (jq (jq (jr [om 25 7,om 26 6,jn 27 26,jB 28 .lss 25 27]) [4,5,6,7,28] (jC 28 .skip (.exit 0))) [4,5,6,7] (jq (.block 1 (jq (jr [jw 8 0]) [4,5,6,7,8] (jk 2 (jq (jq (jr [om 31 8,om 32 6,om 33 7,jx 34 3 32 33,oA 35 2 34,ol 36 1 35,jn 37 36,jB 38 .lss 31 37]) [4,5,6,7,8,38] (jC 38 .skip (.exit 2))) [4,5,6,7,8] (jq (.block 3 (jq (jr [om 41 6,om 42 7,jx 43 3 41 42,oA 44 2 43,ol 45 1 44,om 46 8,jx 47 8 45 46,om 9 47]) [4,5,6,7,8,9] (jq (jq (jr [om 48 6,om 49 7,jx 50 3 48 49,oA 51 1 50,ol 52 1 51,oo 53 (.bin .neq false (.s 52) (.c (.str [])))]) [4,5,6,7,8,9,53] (jC 53 (jr [om 54 9,om 55 7,jb 56 .sub 55 1,om 57 9,jh 58 57,oA 59 0 58,oL 60 5 59,jc 61 14 [.s 60],oo 62 (.build [(.int .i64 0),(.fsl []),(.fsl [])] [(0,1,(.s 56)),(1,2,(.s 61))]),oo 63 (.buildSlice 3 31 [.s 62]),oo 64 (.buildSlice 1 47 [.s 63]),jh 65 54,oA 66 6 65,jS 1 66 64]) .skip)) [4,5,6,7,8,9] (jq (jR [om 67 9,om 68 9,jh 69 68,oA 70 6 69,ol 71 1 70,om 72 5,om 73 6,jc 74 13 [.s 72,.s 73,jI 2],oo 75 (.append 1 47 24 (.s 71) (.s 74)),jh 76 67,oA 77 6 76,jS 1 77 75]) [4,5,6,7,8,9] (jq (jr [om 78 5,jc 79 15 [.s 78,jI 4],jb 80 .eql 79 0]) [4,5,6,7,8,9,80] (jC 80 (jr [om 81 9,om 82 5,om 83 6,jc 84 16 [.s 82,.s 83],oo 85 (.buildSlice 3 31 [.s 84]),jh 86 81,oA 87 7 86,jS 1 87 85]) .skip)))))) [4,5,6,7,8] (jr [om 39 8,jb 40 .add 39 1,om 8 40])))))) [4,5,6,7] (jr [om 29 7,jb 30 .add 29 1,om 7 30]))))) [4,6] (jq (jr [om 88 6,oo 89 (.build [(.fsl [])] [(0,1,(.s 88))]),jS 1 4 89]) [4] .ret)))))⟩
def tf5 : TFn := ⟨20,[.cell 4 true 3],jq (jr [jo 2 25 0,oo 4 (.alloc 31 [(.int .i64 0),(.fsl []),(.fsl [])])]) [1,2,4] (jq (jr [om 5 1,jc 6 17 [.s 5,jI 1073741824],om 1 6]) [1,2,4] (jq (jr [om 7 1,om 8 1,jb 9 .quo 8 7,om 10 1,jb 11 .quo 10 56,om 12 1,jb 13 .quo 12 300,oo 14 (.buildSlice 1 3 [.s 7,.s 9,.s 11,.s 13]),oo 15 (.build [(.fsl []),(.int .i64 0)] [(0,1,(.s 14))]),jo 16 41 15,oA 17 0 2,ol 18 1 17,jc 19 16 [.s 16,.s 18],jS 3 4 19]) [4] .ret))⟩
def tf6 : TFn := ⟨25,[.cell 4 true 2],jq (jr [jo 2 29 0,jo 3 29 1,oo 4 (.alloc 29 [(.fsl []),(.fsl [])])]) [2,3,4] (jq (jq (jr [oL 5 2 2,jc 6 18 [.s 5],oo 7 (.un .not (.s 6)),om 8 7,jM 9 8 2 3,oF 10 8 (.call 18 [.s 9]),oF 11 8 (.un .not (.s 10)),oo 12 (.pick (.s 8) (.c (.bool true)) (.s 11))]) [2,3,4,12] (jC 12 (jq (jr [jc 13 19 [],jS 2 4 13]) [4] .ret) .skip)) [2,3,4] (jq (jR [oA 14 0 2,ol 15 1 14,oA 16 0 3,ol 17 1 16,jc 18 20 [.s 15,.s 17],oA 19 1 2,ol 20 1 19,oA 21 1 3,ol 22 1 21,jc 23 20 [.s 20,.s 22],oo 24 (.build [(.fsl []),(.fsl [])] [(0,1,(.s 18)),(1,1,(.s 23))]),jS 2 4 24]) [4] .ret))⟩
def tf7 : TFn := ⟨25,[.cell 4 true 2],jq (jr [jo 2 29 0,jo 3 29 1,oo 4 (.alloc 29 [(.fsl []),(.fsl [])])]) [2,3,4] (jq (jq (jr [oL 5 2 2,jc 6 18 [.s 5],oo 7 (.un .not (.s 6)),om 8 7,jM 9 8 2 3,oF 10 8 (.call 18 [.s 9]),oF 11 8 (.un .not (.s 10)),oo 12 (.pick (.s 8) (.c (.bool true)) (.s 11))]) [2,3,4,12] (jC 12 (jq (jr [jc 13 19 [],jS 2 4 13]) [4] .ret) .skip)) [2,3,4] (jq (jR [oA 14 0 2,ol 15 1 14,oA 16 0 3,ol 17 1 16,jc 18 21 [.s 15,.s 17],oA 19 1 2,ol 20 1 19,oA 21 1 3,ol 22 1 21,jc 23 21 [.s 20,.s 22],oo 24 (.build [(.fsl []),(.fsl [])] [(0,1,(.s 18)),(1,1,(.s 23))]),jS 2 4 24]) [4] .ret))⟩
def tf8 : TFn := ⟨14,[.cell 2 true 2],jq (jr [jo 1 29 0,oo 2 (.alloc 29 [(.fsl []),(.fsl [])])]) [1,2] (jq (jq (jr [oL 3 2 1,jc 4 18 [.s 3],oo 5 (.un .not (.s 4))]) [1,2,5] (jC 5 (jq (jr [jc 6 19 [],jS 2 2 6]) [2] .ret) .skip)) [1,2] (jq (jR [oA 7 0 1,ol 8 1 7,jc 9 22 [.s 8],oA 10 1 1,ol 11 1 10,jc 12 22 [.s 11],oo 13 (.build [(.fsl []),(.fsl [])] [(0,1,(.s 9)),(1,1,(.s 12))]),jS 2 2 13]) [2] .ret))⟩
def tf9 : TFn := ⟨33,[.tmp 4],jq (jr [jo 2 25 0,jo 3 31 1,jw 4 0]) [2,3,4,900000] (jq (jr [oo 5 (.alloc 3 [(.int .i64 0)]),⟨none,.store 1 (.s 5) (jI 0),none⟩]) [2,3,4,5,900000] (jq (jq (jr [oL 7 1 2,oA 8 0 3,ol 9 1 8,jc 10 24 [.s 7,.s 9],jb 11 .andNot 10 1,jc 12 23 [.s 11]]) [2,3,4,5,12,900000] (.block 0 (.rangeF (.s 12) 13 6 (.block 1 (jq (jR [oA 14 1 3,oL 15 2 14,oA 16 0 2,ol 17 1 16,oA 18 0 3,ol 19 1 18,jx 20 3 17 19,oA 21 2 20,ol 22 1 21,om 23 6,jx 24 8 22 23,oA 25 0 24,oL 26 5 25,jc 27 25 [.s 15,.s 26,.s 900000]]) [5,6,27] (jC 27 (jR [ol 28 1 5,om 29 6,jc 30 26 [.s 29],jB 31 .or 28 30,jS 1 5 31]) .skip)))))) [5] (jq (jr [ol 32 1 5,om 4 32]) [4] .ret)))⟩
def tf10 : TFn := ⟨25,[.tmp 4],jq (jr [jo 2 25 0,jw 4 0]) [1,2] (jq (jq (jr [om 5 1,jb 6 .lss 5 0,om 7 6,jF 8 7 1,ja 9 7 0 2,jm 10 7 1 9,oF 11 7 (.len (.s 10)),oF 12 7 (.bin .geq false (.s 8) (.s 11)),oo 13 (.pick (.s 7) (.c (.bool true)) (.s 12))]) [1,2,13] (jC 13 (jq (jr [jw 4 0]) [4] .ret) .skip)) [1,2] (jq (jr [oA 14 0 2,ol 15 1 14,om 16 1,jx 17 3 15 16,oA 18 2 17,ol 19 1 18,jn 20 19,oo 21 (.min (.s 20) (jI 16)),jb 22 .add 21 1,jc 23 27 [.s 22],jb 24 .sub 23 1,om 4 24]) [4] .ret))⟩
def tf11 : TFn := ⟨35,[.tmp 0],jq (jr [jv 0 jf]) [900000] (jq (jr [jc 2 28 [],oo 1 (.alloc 25 [(.fsl [])]),jS 1 1 2]) [1,900000] (jq (jR [oL 3 1 1,jc 4 24 [.s 3,jI 1],jb 5 .eql 4 7,om 6 5,jL 7 6 1 1,jA 8 6 0 1,jl 9 6 1 8,oT 10 6 (.indexAddr 3 (.s 9) (jI 1)),jA 11 6 2 10,jl 12 6 1 11,oT 13 6 (.indexAddr 8 (.s 12) (jI 1)),jA 14 6 0 13,jL 15 6 5 14,oT 16 6 (.call 14 [.s 15]),oT 17 6 (.build [(.int .i64 0),(.fsl []),(.fsl [])] [(0,1,(jI 1)),(1,2,(.s 16))]),oT 18 6 (.call 9 [.s 7,.s 17,.s 900000]),jY 19 6 .eql 18 4,jp 20 6 19,om 21 20,jL 22 21 1 1,oT 23 21 (.buildSlice 1 3 [jI 0,(.c (.int .i64 (-1)))]),oT 24 21 (.call 29 [.s 22,.s 23,jI 1]),jY 25 21 .eql 24 1,jp 26 21 25,om 27 26,oT 28 27 (.call 30 [jI 6,jI 7]),jY 29 27 .eql 28 2,jp 30 27 29,om 31 30,oT 32 31 (.call 30 [jI 1,jI 6]),jY 33 31 .eql 32 0,jp 34 31 33,om 0 34]) [0] .ret))⟩
def tf12 : TFn := ⟨100,[.tmp 4],jq (jr [jv 4 je]) [0,1] (jq (jr [oo 14 (.buildSlice 1 9 [(.c (.str [97,110,116])),(.c (.str [98,101,101])),(.c (.str [99,111,119])),(.c (.str [100,111,103])),(.c (.str [101,108,107]))]),om 5 14]) [0,1,5] (jq (jr [oo 15 (.build [(.int .i64 0),(.int .i64 0),(.int .i64 0),(.str []),(.str []),(.int .i64 0),(.fsl []),(.fsl [])] [(5,1,(.c (.int .i64 (-1))))]),oo 16 (.buildSlice 8 49 [.s 15]),oo 17 (.build [(.str []),(.str []),(.fsl [])] [(2,1,(.s 16))]),oo 18 (.buildSlice 3 52 [.s 17]),om 6 18]) [0,1,5,6] (jq (jr [jc 19 31 [],om 7 19]) [0,1,5,6,7] (jq (jq (jr [jw 8 0]) [0,1,5,6,7,8] (jk 0 (jq (jq (jr [om 20 8,om 21 0,om 22 1,jc 23 15 [.s 21,.s 22],oo 24 (.bin .add false (jI 1) (.s 23)),jB 25 .lss 20 24,om 26 25,jT 27 26 8,jT 28 26 5,oT 29 26 (.len (.s 28)),oT 30 26 (.bin .lss false (.s 27) (.s 29)),jp 31 26 30]) [0,1,5,6,7,8,31] (jC 31 .skip (.exit 0))) [0,1,5,6,7,8] (jq (.block 1 (jq (jr [jv 9 je]) [0,1,5,6,7,8,9] (jq (jr [om 34 0,jc 35 15 [.s 34,jI 16],om 10 35]) [0,1,5,6,7,8,9,10] (jq (jq (jr [jw 11 0]) [0,1,5,6,7,8,9,10,11] (jk 2 (jq (jq (jr [om 36 11,om 37 7,jn 38 37,jB 39 .lss 36 38]) [0,1,5,6,7,8,9,10,11,39] (jC 39 .skip (.exit 2))) [0,1,5,6,7,8,9,10,11] (jq (.block 3 (jq (jr [om 42 10,om 43 11,oo 44 (.conv .u64 (.s 43)),jB 45 .shr 42 44,jb 46 .and 45 1,jb 47 .eql 46 1]) [0,1,5,6,7,8,9,10,11,47] (jC 47 (jr [om 48 9,om 49 7,om 50 11,jx 51 5 49 50,oL 52 5 51,oo 53 (.build [(.int .i64 0),(.int .i64 0),(.int .i64 0),(.str []),(.str []),(.int .i64 0),(.fsl []),(.fsl [])] [(0,5,(.s 52))]),oo 54 (.buildSlice 8 49 [.s 53]),oo 55 (.append 8 49 112 (.s 48) (.s 54)),om 9 55]) .skip))) [0,1,5,6,7,8,9,10,11] (jr [om 40 11,jb 41 .add 40 1,om 11 41]))))) [0,1,5,6,7,8,9] (jq (jr [om 56 6,om 57 5,om 58 8,jx 59 1 57 58,ol 60 1 59,om 61 9,oo 62 (.build [(.str []),(.str []),(.fsl [])] [(0,1,(.s 60)),(2,1,(.s 61))]),oo 63 (.buildSlice 3 52 [.s 62]),oo 64 (.append 3 52 56 (.s 56) (.s 63)),om 6 64]) [0,1,5,6,7,8,9] (jq (jr [om 65 8,jb 66 .lss 65 2,om 67 66,jT 68 67 0,oT 69 67 (.call 15 [.s 68,jI 3]),jY 70 67 .eql 69 0,jp 71 67 70]) [0,1,5,6,7,8,9,71] (jC 71 (jq (jr [jv 12 je]) [0,1,5,6,7,8,9,12] (jq (jq (jr [jw 13 0]) [0,1,5,6,7,8,9,12,13] (jk 4 (jq (jq (jr [om 72 13,om 73 9,jn 74 73,jB 75 .lss 72 74]) [0,1,5,6,7,8,9,12,13,75] (jC 75 .skip (.exit 4))) [0,1,5,6,7,8,9,12,13] (jq (.block 5 (jq (jr [om 78 0,jc 79 15 [.s 78,jI 3],jb 80 .gtr 79 0]) [0,1,5,6,7,8,9,12,13,80] (jC 80 (jr [om 81 12,om 82 9,om 83 13,jx 84 8 82 83,oA 85 0 84,oL 86 5 85,oo 87 (.build [(.int .i64 0),(.int .i64 0),(.int .i64 0),(.str []),(.str []),(.int .i64 0),(.fsl []),(.fsl [])] [(0,5,(.s 86))]),oo 88 (.buildSlice 8 49 [.s 87]),oo 89 (.append 8 49 112 (.s 81) (.s 88)),om 12 89]) .skip))) [0,1,5,6,7,8,9,12,13] (jr [om 76 13,jb 77 .add 76 1,om 13 77]))))) [0,1,5,6,7,8,12] (jr [om 90 6,om 91 5,om 92 8,jx 93 1 91 92,ol 94 1 93,om 95 12,oo 96 (.build [(.str []),(.str []),(.fsl [])] [(0,1,(.s 94)),(1,1,(.c (.str [102]))),(2,1,(.s 95))]),oo 97 (.buildSlice 3 52 [.s 96]),oo 98 (.append 3 52 56 (.s 90) (.s 97)),om 6 98]))) .skip))))))) [0,1,5,6,7,8] (jr [om 32 8,jb 33 .add 32 1,om 8 33]))))) [6] (jq (jr [om 99 6,om 4 99]) [4] .ret)))))⟩
def tf13 : TFn := ⟨36,[.tmp 6],jq (jr [jv 6 je]) [0,1,2] (jq (jr [jv 7 je]) [0,1,2,7] (jq (jq (jr [om 10 0,om 11 2,jb 12 .add 11 1,jc 13 15 [.s 10,.s 12],om 8 13]) [0,1,7,8] (jk 0 (jq (jq (jr [om 14 8,jb 15 .gtr 14 0]) [0,1,7,8,15] (jC 15 .skip (.exit 0))) [0,1,7,8] (jq (.block 1 (jq (jr [om 18 0,om 19 1,jc 20 16 [.s 18,.s 19],oo 21 (.buildSlice 3 31 [.s 20]),om 9 21]) [0,1,7,8,9] (jq (jq (jr [om 22 0,jc 23 15 [.s 22,jI 3],jb 24 .eql 23 0]) [0,1,7,8,9,24] (jC 24 (jr [om 25 9,om 26 0,om 27 1,jc 28 16 [.s 26,.s 27],oo 29 (.buildSlice 3 31 [.s 28]),oo 30 (.append 3 31 56 (.s 25) (.s 29)),om 9 30]) .skip)) [0,1,7,8,9] (jr [om 31 7,om 32 9,oo 33 (.buildSlice 1 47 [.s 32]),oo 34 (.append 1 47 24 (.s 31) (.s 33)),om 7 34])))) [0,1,7,8] (jr [om 16 8,jb 17 .sub 16 1,om 8 17]))))) [7] (jq (jr [om 35 7,om 6 35]) [6] .ret)))⟩
def tf14 : TFn := ⟨24,[.cell 2 true 2],jq (jr [jo 1 46 0,oo 2 (.alloc 29 [(.fsl []),(.fsl [])])]) [1,2] (jq (jq (jr [oL 3 5 1,jc 4 32 [.s 3],oo 5 (.un .not (.s 4))]) [1,2,5] (jC 5 (jq (jr [jc 6 19 [],jS 2 2 6]) [2] .ret) .skip)) [1,2] (jq (jq (jr [oA 7 3 1,ol 8 1 7,oo 9 (.bin .neq false (.s 8) (.c (.str [])))]) [1,2,9] (jC 9 (jq (jR [oL 10 5 1,jc 11 33 [.s 10],oL 12 5 1,jc 13 34 [.s 12],oo 14 (.build [(.int .i64 0),(.int .i64 0),(.int .i64 0),(.int .i64 0),(.str []),(.str []),(.bool false),(.int .i64 0),(.int .i64 0),(.int .i64 0),(.int .i64 0),(.str []),(.str []),(.bool false)] [(0,7,(.s 11)),(7,7,(.s 13))]),oo 15 (.buildSlice 14 77 [.s 14]),oo 16 (.build [(.fsl []),(.fsl [])] [(1,1,(.s 15))]),jS 2 2 16]) [2] .ret) .skip)) [1,2] (jq (jR [oL 17 5 1,jc 18 35 [.s 17],oL 19 5 1,jc 20 36 [.s 19],oo 21 (.build [(.int .i64 0),(.int .i64 0),(.int .i64 0),(.int .i64 0),(.str []),(.str []),(.bool false),(.int .i64 0),(.int .i64 0),(.int .i64 0),(.int .i64 0),(.str []),(.str []),(.bool false)] [(0,7,(.s 18)),(7,7,(.s 20))]),oo 22 (.buildSlice 14 77 [.s 21]),oo 23 (.build [(.fsl []),(.fsl [])] [(0,1,(.s 22))]),jS 2 2 23]) [2] .ret)))⟩
def tf15 : TFn := ⟨24,[.tmp 4],jq (jr [jw 4 0]) [0,1] (jq (jr [om 5 0,jh 6 5,oA 7 1 6,ol 8 1 7,jb 9 .add 8 1,jh 10 5,oA 11 1 10,jS 1 11 9]) [0,1] (jq (jR [om 12 0,jh 13 12,oA 14 0 13,ol 15 1 14,om 16 0,jh 17 16,oA 18 1 17,ol 19 1 18,jb 20 .sub 19 1,jc 21 37 [.s 15,.s 20],om 22 1,jc 23 17 [.s 21,.s 22],om 4 23]) [4] .ret))⟩
def tf16 : TFn := ⟨21,[.cell 4 true 3],jq (jr [oo 4 (.alloc 31 [(.int .i64 0),(.fsl []),(.fsl [])])]) [0,1,4] (jq (jr [om 6 0,om 7 1,jn 8 7,jb 9 .sub 8 1,jc 10 15 [.s 6,.s 9],oo 11 (.bin .add false (jI 1) (.s 10)),om 5 11]) [0,1,4,5] (jq (jr [om 12 5,om 13 0,om 14 1,om 15 5,jx 16 3 14 15,oA 17 2 16,ol 18 1 17,jc 19 38 [.s 13,.s 18],oo 20 (.build [(.int .i64 0),(.fsl []),(.fsl [])] [(0,1,(.s 12)),(1,2,(.s 19))]),jS 3 4 20]) [4] .ret))⟩
def tf17 : TFn := ⟨17,[.tmp 4],jq (jr [jw 4 0]) [0,1] (jq (jq (jr [om 6 1,jb 7 .lss 6 1]) [0,1,7] (jC 7 (jq (jr [jw 4 0]) [4] .ret) .skip)) [0,1] (jq (jr [om 8 0,om 9 1,jB 10 .rem 8 9,om 5 10]) [1,5] (jq (jq (jr [om 11 5,jb 12 .lss 11 0]) [1,5,12] (jC 12 (jq (jr [om 13 5,om 14 1,jB 15 .add 13 14,om 4 15]) [4] .ret) .skip)) [5] (jq (jr [om 16 5,om 4 16]) [4] .ret))))⟩
def tf18 : TFn := ⟨39,[.tmp 2],jq (jr [jo 1 29 0,jv 2 jf]) [1] (jq (jq (jr [oA 4 0 1,ol 5 1 4,jc 6 39 [.s 5],oo 7 (.un .not (.s 6)),om 8 7,ja 9 8 1 1,jm 10 8 1 9,oF 11 8 (.call 39 [.s 10]),oF 12 8 (.un .not (.s 11)),oo 13 (.pick (.s 8) (.c (.bool true)) (.s 12))]) [1,13] (jC 13 (jq (jr [jv 2 jf]) [2] .ret) .skip)) [1] (jq (jq (jr [jw 3 0]) [1,3] (jk 0 (jq (jq (jr [om 14 3,oA 15 0 1,ol 16 1 15,jn 17 16,jB 18 .lss 14 17]) [1,3,18] (jC 18 .skip (.exit 0))) [1,3] (jq (.block 1 (jq (jr [oA 21 0 1,ol 22 1 21,om 23 3,jx 24 14 22 23,oA 25 0 24,oL 26 7 25,jc 27 40 [.s 26],oo 28 (.un .not (.s 27)),om 29 28,ja 30 29 0 1,jm 31 29 1 30,jF 32 29 3,oF 33 29 (.indexAddr 14 (.s 31) (.s 32)),ja 34 29 7 33,jM 35 29 7 34,oF 36 29 (.call 40 [.s 35]),oF 37 29 (.un .not (.s 36)),oo 38 (.pick (.s 29) (.c (.bool true)) (.s 37))]) [1,3,38] (jC 38 (jq (jr [jv 2 jf]) [2] .ret) .skip))) [1,3] (jr [om 19 3,jb 20 .add 19 1,om 3 20]))))) [] (jq (jr [oo 2 (.mov (.c (.bool true)))]) [2] .ret)))⟩
def tf19 : TFn := ⟨2,[.cell 0 true 2],jq (jr [oo 0 (.alloc 29 [(.fsl []),(.fsl [])])]) [0] (jq (jr [oo 1 (.build [(.fsl []),(.fsl [])] []),jS 2 0 1]) [0] .ret)⟩
def tf20 : TFn := ⟨24,[.tmp 4],jq (jr [jv 4 je]) [0,1] (jq (jq (jr [om 7 0,jc 8 39 [.s 7],oo 9 (.un .not (.s 8)),om 10 9,jF 11 10 1,oF 12 10 (.call 39 [.s 11]),oF 13 10 (.un .not (.s 12)),oo 14 (.pick (.s 10) (.c (.bool true)) (.s 13))]) [0,1,14] (jC 14 (jq (jr [jv 4 je]) [4] .ret) .skip)) [0,1] (jq (jr [om 16 0,oo 17 (.append 14 77 144 je (.s 16)),om 18 1,oo 19 (.append 14 77 144 (.s 17) (.s 18)),jc 20 41 [.s 19],om 15 20,oe 21 0 15,oe 22 1 15,om 5 21,om 6 22]) [5] (jq (jr [om 23 5,om 4 23]) [4] .ret)))⟩
def tf21 : TFn := ⟨64,[.tmp 4],jq (jr [jv 4 je]) [0,1] (jq (jq (jr [om 8 0,jc 9 39 [.s 8],oo 10 (.un .not (.s 9)),om 11 10,jF 12 11 1,oF 13 11 (.call 39 [.s 12]),oF 14 11 (.un .not (.s 13)),oo 15 (.pick (.s 11) (.c (.bool true)) (.s 14))]) [0,1,15] (jC 15 (jq (jr [jv 4 je]) [4] .ret) .skip)) [0,1] (jq (jr [jv 5 je]) [0,1,5] (jq (jr [om 16 0,oo 17 (.append 14 77 144 je (.s 16)),om 18 1,oo 19 (.append 14 77 144 (.s 17) (.s 18)),jc 20 42 [.s 19],om 6 20]) [0,1,5,6] (jq (jq (jr [jw 7 0]) [0,1,5,6,7] (jk 0 (jq (jq (jr [om 21 7,jb 22 .add 21 1,om 23 6,jn 24 23,jB 25 .lss 22 24]) [0,1,5,6,7,25] (jC 25 .skip (.exit 0))) [0,1,5,6,7] (jq (.block 1 (jq (jR [om 28 0,om 29 6,om 30 7,jx 31 7 29 30,oL 32 7 31,om 33 6,om 34 7,jb 35 .add 34 1,jx 36 7 33 35,oL 37 7 36,jc 38 43 [.s 28,.s 32,.s 37],om 39 38,jT 40 39 1,jT 41 39 6,jT 42 39 7,oT 43 39 (.indexAddr 7 (.s 41) (.s 42)),jL 44 39 7 43,jT 45 39 6,jT 46 39 7,jY 47 39 .add 46 1,oT 48 39 (.indexAddr 7 (.s 45) (.s 47)),jL 49 39 7 48,oT 50 39 (.call 43 [.s 40,.s 44,.s 49]),jp 51 39 50]) [0,1,5,6,7,51] (jC 51 (jR [om 52 5,om 53 6,om 54 7,jx 55 7 53 54,oL 56 7 55,om 57 6,om 58 7,jb 59 .add 58 1,jx 60 7 57 59,oL 61 7 60,jc 62 44 [.s 52,.s 56,.s 61],om 5 62]) .skip))) [0,1,5,6,7] (jr [om 26 7,jb 27 .add 26 1,om 7 27]))))) [5] (jq (jr [om 63 5,om 4 63]) [4] .ret)))))⟩
def tf22 : TFn := ⟨42,[.tmp 2],jq (jr [jv 2 je]) [0] (jq (jq (jr [om 6 0,jc 7 39 [.s 6],oo 8 (.un .not (.s 7))]) [0,8] (jC 8 (jq (jr [jv 2 je]) [2] .ret) .skip)) [0] (jq (jr [jv 3 je]) [0,3] (jq (jr [om 9 0,jc 10 42 [.s 9],om 4 10]) [0,3,4] (jq (jq (jr [jw 5 0]) [0,3,4,5] (jk 0 (jq (jq (jr [om 11 5,jb 12 .add 11 1,om 13 4,jn 14 13,jB 15 .lss 12 14]) [0,3,4,5,15] (jC 15 .skip (.exit 0))) [0,3,4,5] (jq (.block 1 (jq (jR [om 18 0,om 19 4,om 20 5,jx 21 7 19 20,oL 22 7 21,om 23 4,om 24 5,jb 25 .add 24 1,jx 26 7 23 25,oL 27 7 26,jc 28 43 [.s 18,.s 22,.s 27],oo 29 (.un .not (.s 28))]) [0,3,4,5,29] (jC 29 (jR [om 30 3,om 31 4,om 32 5,jx 33 7 31 32,oL 34 7 33,om 35 4,om 36 5,jb 37 .add 36 1,jx 38 7 35 37,oL 39 7 38,jc 40 44 [.s 30,.s 34,.s 39],om 3 40]) .skip))) [0,3,4,5] (jr [om 16 5,jb 17 .add 16 1,om 5 17]))))) [3] (jq (jr [om 41 3,om 2 41]) [2] .ret)))))⟩
def tf23 : TFn := ⟨4,[.tmp 2],jq (jr [jo 1 3 0,oo 2 (.mov (.c (.val .nilFunc)))]) [1] (jq (jr [oo 3 (.mkfn 45 [.s 1]),om 2 3]) [2] .ret)⟩
def tf24 : TFn := ⟨18,[.tmp 4],jq (jr [jo 2 25 0,jw 4 0]) [1,2] (jq (jq (jr [oL 5 1 2,om 6 1,jc 7 46 [.s 5,.s 6],oo 8 (.un .not (.s 7))]) [1,2,8] (jC 8 (jq (jr [jw 4 0]) [4] .ret) .skip)) [1,2] (jq (jr [oA 9 0 2,ol 10 1 9,om 11 1,jx 12 3 10 11,oA 13 2 12,ol 14 1 13,jn 15 14,jc 16 26 [.s 15],jb 17 .sub 16 1,om 4 17]) [4] .ret))⟩
def tf25 : TFn := ⟨24,[.tmp 4],jq (jr [jo 2 29 0,jo 3 46 1,jv 4 jf]) [2,3,900000] (jq (jq (jr [oL 5 2 2,jc 6 47 [.s 5,.s 900000],oo 7 (.un .not (.s 6)),om 8 7,jM 9 8 5 3,oF 10 8 (.call 48 [.s 9]),oF 11 8 (.un .not (.s 10)),oo 12 (.pick (.s 8) (.c (.bool true)) (.s 11))]) [2,3,12] (jC 12 (jq (jr [jv 4 jf]) [4] .ret) .skip)) [2,3] (jq (jq (jr [oA 13 3 3,ol 14 1 13,oo 15 (.bin .eql false (.s 14) (.c (.str [])))]) [2,3,15] (jC 15 (jq (jr [oA 16 0 2,ol 17 1 16,oL 18 5 3,jc 19 49 [.s 17,.s 18],om 4 19]) [4] .ret) .skip)) [2,3] (jq (jr [oA 20 1 2,ol 21 1 20,oL 22 5 3,jc 23 49 [.s 21,.s 22],om 4 23]) [4] .ret)))⟩
def tf26 : TFn := ⟨6,[.tmp 2],jq (jr [jw 2 0]) [0] (jq (jr [om 3 0,jb 4 .add 3 1,oo 5 (.bin .shl false (jI 1) (.s 4)),om 2 5]) [2] .ret)⟩
def tf27 : TFn := ⟨13,[.tmp 2],jq (jr [jw 2 0]) [0] (jq (jr [jw 3 1]) [0,3] (jq (jq (jr [jw 4 0]) [0,3,4] (jk 0 (jq (jq (jr [om 5 4,om 6 0,jB 7 .lss 5 6]) [0,3,4,7] (jC 7 .skip (.exit 0))) [0,3,4] (jq (.block 1 (jr [om 10 3,jb 11 .mul 10 2,om 3 11])) [0,3,4] (jr [om 8 4,jb 9 .add 8 1,om 4 9]))))) [3] (jq (jr [om 12 3,om 2 12]) [2] .ret)))⟩
def tf28 : TFn := ⟨18,[.cell 0 true 1],jq (jr [oo 0 (.alloc 25 [(.fsl [])])]) [0] (jq (jr [jc 2 31 [],om 1 2]) [0,1] (jq (jR [oo 3 (.build [(.int .i64 0),(.int .i64 0),(.int .i64 0),(.str []),(.str []),(.int .i64 0),(.fsl []),(.fsl [])] [(5,1,(.c (.int .i64 (-1))))]),oo 4 (.buildSlice 8 49 [.s 3]),oo 5 (.build [(.str []),(.str []),(.fsl [])] [(2,1,(.s 4))]),om 6 1,oo 7 (.indexAddr 5 (.s 6) (jI 0)),oL 8 5 7,oo 9 (.build [(.int .i64 0),(.int .i64 0),(.int .i64 0),(.str []),(.str []),(.int .i64 0),(.fsl []),(.fsl [])] [(0,5,(.s 8))]),om 10 1,oo 11 (.indexAddr 5 (.s 10) (jI 1)),oL 12 5 11,oo 13 (.build [(.int .i64 0),(.int .i64 0),(.int .i64 0),(.str []),(.str []),(.int .i64 0),(.fsl []),(.fsl [])] [(0,5,(.s 12))]),oo 14 (.buildSlice 8 49 [.s 9,.s 13]),oo 15 (.build [(.str []),(.str []),(.fsl [])] [(0,1,(.c (.str [97,110,116]))),(2,1,(.s 14))]),oo 16 (.buildSlice 3 52 [.s 5,.s 15]),oo 17 (.build [(.fsl [])] [(0,1,(.s 16))]),jS 1 0 17]) [0] .ret))⟩
def tf29 : TFn := ⟨43,[.tmp 6],jq (jr [jo 3 25 0,jw 6 0]) [1,2,3] (jq (jq (jR [oL 7 1 3,om 8 2,jc 9 46 [.s 7,.s 8],oo 10 (.un .not (.s 9)),om 11 10,jF 12 11 2,jF 13 11 1,oF 14 11 (.len (.s 13)),oF 15 11 (.bin .geq false (.s 12) (.s 14)),oo 16 (.pick (.s 11) (.c (.bool true)) (.s 15)),om 17 16,jF 18 17 1,jF 19 17 2,oF 20 17 (.indexAddr 1 (.s 18) (.s 19)),jm 21 17 1 20,oF 22 17 (.bin .lss false (.s 21) (.c (.int .i64 (-1)))),oo 23 (.pick (.s 17) (.c (.bool true)) (.s 22)),om 24 23,jF 25 24 1,jF 26 24 2,oF 27 24 (.indexAddr 1 (.s 25) (.s 26)),jm 28 24 1 27,ja 29 24 0 3,jm 30 24 1 29,jF 31 24 2,oF 32 24 (.indexAddr 3 (.s 30) (.s 31)),ja 33 24 2 32,jm 34 24 1 33,oF 35 24 (.len (.s 34)),oF 36 24 (.bin .geq false (.s 28) (.s 35)),oo 37 (.pick (.s 24) (.c (.bool true)) (.s 36))]) [1,2,37] (jC 37 (jq (jr [jw 6 0]) [6] .ret) .skip)) [1,2] (jq (jr [om 38 1,om 39 2,jx 40 1 38 39,ol 41 1 40,jc 42 26 [.s 41],om 6 42]) [6] .ret))⟩
def tf30 : TFn := ⟨15,[.tmp 4],jq (jr [jw 4 0]) [0,1] (jq (.block 0 (jq (jr [om 6 0,om 7 1,jB 8 .andNot 6 7,jb 9 .eql 8 0,om 5 9]) [0,1,5] (jC 5 (jq (jr [jw 4 2]) [4] .ret) (jq (jr [om 11 0,om 12 1,jB 13 .and 11 12,jb 14 .eql 13 0,om 10 14]) [10] (jC 10 (jq (jr [jw 4 0]) [4] .ret) .skip))))) [] (jq (jr [jw 4 1]) [4] .ret))⟩
def tf31 : TFn := ⟨6,[.tmp 0],jq (jr [jv 0 je]) [] (jq (jr [oo 1 (.build [(.int .i64 0),(.int .i64 0),(.int .i64 0),(.str []),(.str [])] [(0,1,(jI 1))]),oo 2 (.build [(.int .i64 0),(.int .i64 0),(.int .i64 0),(.str []),(.str [])] [(0,1,(jI 1)),(1,1,(jI 2))]),oo 3 (.build [(.int .i64 0),(.int .i64 0),(.int .i64 0),(.str []),(.str [])] [(0,1,(jI 2)),(3,1,(.c (.str [97,46,49])))]),oo 4 (.build [(.int .i64 0),(.int .i64 0),(.int .i64 0),(.str []),(.str [])] [(0,1,(jI 2))]),oo 5 (.buildSlice 5 46 [.s 1,.s 2,.s 3,.s 4]),om 0 5]) [0] .ret)⟩
def tf32 : TFn := ⟨26,[.tmp 2],jq (jr [jo 1 46 0,jv 2 jf]) [1] (jq (jr [oA 3 0 1,ol 4 1 3,jc 5 50 [.s 4],om 6 5,jA 7 6 1 1,jl 8 6 1 7,oT 9 6 (.call 50 [.s 8]),jp 10 6 9,om 11 10,jA 12 11 2 1,jl 13 11 1 12,oT 14 11 (.call 50 [.s 13]),jp 15 11 14,om 16 15,jA 17 16 3 1,jl 18 16 1 17,oT 19 16 (.call 51 [.s 18,(.c (.bool true))]),jp 20 16 19,om 21 20,jA 22 21 4 1,jl 23 21 1 22,oT 24 21 (.call 51 [.s 23,jf]),jp 25 21 24,om 2 25]) [2] .ret)⟩
def tf33 : TFn := ⟨6,[.cell 2 true 7],jq (jr [jo 1 46 0,oo 2 (.alloc 74 [(.int .i64 0),(.int .i64 0),(.int .i64 0),(.int .i64 0),(.str []),(.str []),(.bool false)])]) [1,2] (jq (jr [oL 3 5 1,jc 4 52 [.s 3],oo 5 (.build [(.int .i64 0),(.int .i64 0),(.int .i64 0),(.int .i64 0),(.str []),(.str []),(.bool false)] [(1,5,(.s 4))]),jS 7 2 5]) [2] .ret)⟩
def tf34 : TFn := ⟨6,[.cell 2 true 7],jq (jr [jo 1 46 0,oo 2 (.alloc 74 [(.int .i64 0),(.int .i64 0),(.int .i64 0),(.int .i64 0),(.str []),(.str []),(.bool false)])]) [1,2] (jq (jr [oL 3 5 1,jc 4 52 [.s 3],oo 5 (.build [(.int .i64 0),(.int .i64 0),(.int .i64 0),(.int .i64 0),(.str []),(.str []),(.bool false)] [(1,5,(.s 4)),(6,1,(.c (.bool true)))]),jS 7 2 5]) [2] .ret)⟩
def tf35 : TFn := ⟨14,[.cell 2 true 7],jq (jr [jo 1 46 0,oo 2 (.alloc 74 [(.int .i64 0),(.int .i64 0),(.int .i64 0),(.int .i64 0),(.str []),(.str []),(.bool false)])]) [1,2] (jq (jq (jr [oL 3 5 1,jc 4 53 [.s 3]]) [1,2,4] (jC 4 (jq (jr [jc 5 54 [],jS 7 2 5]) [2] .ret) .skip)) [1,2] (jq (jr [oA 6 0 1,ol 7 1 6,oA 8 1 1,ol 9 1 8,oA 10 2 1,ol 11 1 10,oo 12 (.build [(.int .i64 0),(.int .i64 0),(.int .i64 0),(.str []),(.str [])] [(0,1,(.s 7)),(1,1,(.s 9)),(2,1,(.s 11))]),jc 13 33 [.s 12],jS 7 2 13]) [2] .ret))⟩
def tf36 : TFn := ⟨21,[.cell 2 true 7],jq (jr [jo 1 46 0,oo 2 (.alloc 74 [(.int .i64 0),(.int .i64 0),(.int .i64 0),(.int .i64 0),(.str []),(.str []),(.bool false)])]) [1,2] (jq (jr [oA 6 0 1,ol 7 1 6,oA 8 1 1,ol 9 1 8,oA 10 2 1,ol 11 1 10,oo 12 (.build [(.int .i64 0),(.int .i64 0),(.int .i64 0),(.str []),(.str [])] [(0,1,(.s 7)),(1,1,(.s 9)),(2,1,(.s 11))]),jc 13 55 [.s 12],om 5 13,oe 14 0 5,oe 15 1 5,oo 3 (.alloc 46 [(.int .i64 0),(.int .i64 0),(.int .i64 0),(.str []),(.str [])]),jS 5 3 14,om 4 15]) [2,3,4] (jq (jq (jr [om 16 4,oo 17 (.un .not (.s 16))]) [2,3,17] (jC 17 (jq (jr [jc 18 56 [],jS 7 2 18]) [2] .ret) .skip)) [2,3] (jq (jr [oL 19 5 3,jc 20 33 [.s 19],jS 7 2 20]) [2] .ret)))⟩
def tf37 : TFn := ⟨19,[.tmp 4],jq (jr [jw 4 0]) [0,1] (jq (jq (jr [om 5 1,jb 6 .lss 5 0,om 7 6,jF 8 7 1,jF 9 7 0,oF 10 7 (.len (.s 9)),oF 11 7 (.bin .geq false (.s 8) (.s 10)),oo 12 (.pick (.s 7) (.c (.bool true)) (.s 11))]) [0,1,12] (jC 12 (jq (jr [om 13 1,jb 14 .rem 13 3,om 4 14]) [4] .ret) .skip)) [0,1] (jq (jr [om 15 0,om 16 1,jx 17 1 15 16,ol 18 1 17,om 4 18]) [4] .ret))⟩
def tf38 : TFn := ⟨41,[.cell 4 true 2],jq (jr [oo 4 (.alloc 29 [(.fsl []),(.fsl [])])]) [0,1,4] (jq (jr [om 8 0,jc 9 15 [.s 8,jI 8],om 5 9]) [0,1,4,5] (jq (jr [jc 10 19 [],oo 6 (.alloc 29 [(.fsl []),(.fsl [])]),jS 2 6 10]) [0,1,4,5,6] (jq (jq (jr [jw 7 0]) [0,1,4,5,6,7] (jk 0 (jq (jq (jr [om 11 7,om 12 1,jn 13 12,jB 14 .lss 11 13]) [0,1,4,5,6,7,14] (jC 14 .skip (.exit 0))) [0,1,4,5,6,7] (jq (.block 1 (jq (jr [om 17 5,om 18 7,oo 19 (.conv .u64 (.s 18)),jB 20 .shr 17 19,jb 21 .and 20 1,jb 22 .eql 21 1]) [0,1,4,5,6,7,22] (jC 22 (jR [oL 23 2 6,om 24 1,om 25 7,jx 26 8 24 25,oA 27 0 26,oL 28 5 27,jc 29 14 [.s 28],jc 30 6 [.s 23,.s 29],jS 2 6 30]) .skip))) [0,1,4,5,6,7] (jr [om 15 7,jb 16 .add 15 1,om 7 16]))))) [0,4,6] (jq (jq (jr [om 31 0,jc 32 15 [.s 31,jI 6]]) [4,6,32] (.block 2 (jq (jr [jb 34 .eql 32 0,om 33 34]) [4,6,32,33] (jC 33 (jq (jr [jc 35 57 [],jS 2 4 35]) [4] .ret) (jq (jr [jb 37 .eql 32 1,om 36 37]) [4,6,36] (jC 36 (jq (jr [oL 38 2 6,jc 39 8 [.s 38],jS 2 4 39]) [4] .ret) .skip)))))) [4,6] (jq (jr [oL 40 2 6,jS 2 4 40]) [4] .ret)))))⟩
def tf39 : TFn := ⟨35,[.tmp 2],jq (jr [jv 2 jf]) [0] (jq (jq (jr [jw 3 0]) [0,3] (jk 0 (jq (jq (jr [om 4 3,om 5 0,jn 6 5,jB 7 .lss 4 6]) [0,3,7] (jC 7 .skip (.exit 0))) [0,3] (jq (.block 1 (jq (jR [om 10 0,om 11 3,jx 12 14 10 11,oL 13 14 12,jc 14 58 [.s 13],oo 15 (.un .not (.s 14)),om 16 15,jF 17 16 3,jy 18 16 .gtr 17 0,jF 19 16 18,jT 20 19 0,jT 21 19 3,jY 22 19 .sub 21 1,oT 23 19 (.indexAddr 14 (.s 20) (.s 22)),jA 24 19 7 23,jL 25 19 7 24,jT 26 19 0,jT 27 19 3,oT 28 19 (.indexAddr 14 (.s 26) (.s 27)),jA 29 19 0 28,jL 30 19 7 29,oT 31 19 (.call 59 [.s 25,.s 30]),jY 32 19 .geq 31 0,oF 33 16 (.pick (.s 19) (.s 32) jf),oo 34 (.pick (.s 16) (.c (.bool true)) (.s 33))]) [0,3,34] (jC 34 (jq (jr [jv 2 jf]) [2] .ret) .skip))) [0,3] (jr [om 8 3,jb 9 .add 8 1,om 3 9]))))) [] (jq (jr [oo 2 (.mov (.c (.bool true)))]) [2] .ret))⟩
def tf40 : TFn := ⟨23,[.tmp 2],jq (jr [jo 1 74 0,jv 2 jf]) [1] (jq (jr [oA 3 0 1,ol 4 1 3,jb 5 .neq 4 0,om 6 5,ja 7 6 6 1,jm 8 6 1 7,oF 9 6 (.un .not (.s 8)),jF 10 6 9,jA 11 10 1 1,jA 12 10 3 11,jl 13 10 1 12,oT 14 10 (.bin .eql false (.s 13) (.c (.str []))),oF 15 6 (.pick (.s 10) (.s 14) jf),jF 16 6 15,jA 17 16 1 1,jL 18 16 5 17,oT 19 16 (.call 53 [.s 18]),oT 20 16 (.un .not (.s 19)),oF 21 6 (.pick (.s 16) (.s 20) jf),oo 22 (.pick (.s 6) (.c (.bool true)) (.s 21)),om 2 22]) [2] .ret)⟩
def tf41 : TFn := ⟨52,[.tmp 2,.tmp 3],jq (jr [jv 2 je,jv 3 jf]) [0] (jq (jq (jr [jw 4 0]) [0,4] (jk 0 (jq (jq (jr [om 8 4,om 9 0,jn 10 9,jB 11 .lss 8 10]) [0,4,11] (jC 11 .skip (.exit 0))) [0,4] (jq (.block 1 (jq (jr [om 14 0,om 15 4,jx 16 14 14 15,oL 17 14 16,jc 18 58 [.s 17],oo 19 (.un .not (.s 18))]) [0,4,19] (jC 19 (jq (jr [jv 2 je,jv 3 jf]) [2,3] .ret) .skip))) [0,4] (jr [om 12 4,jb 13 .add 12 1,om 4 13]))))) [0] (jq (jr [jv 5 je]) [0,5] (jq (jr [om 20 0,jc 21 42 [.s 20],om 6 21]) [0,5,6] (jq (jq (jr [jw 7 0]) [0,5,6,7] (jk 2 (jq (jq (jr [om 22 7,jb 23 .add 22 1,om 24 6,jn 25 24,jB 26 .lss 23 25]) [0,5,6,7,26] (jC 26 .skip (.exit 2))) [0,5,6,7] (jq (.block 3 (jq (jR [om 29 0,om 30 6,om 31 7,jx 32 7 30 31,oL 33 7 32,om 34 6,om 35 7,jb 36 .add 35 1,jx 37 7 34 36,oL 38 7 37,jc 39 43 [.s 29,.s 33,.s 38]]) [0,5,6,7,39] (jC 39 (jR [om 40 5,om 41 6,om 42 7,jx 43 7 41 42,oL 44 7 43,om 45 6,om 46 7,jb 47 .add 46 1,jx 48 7 45 47,oL 49 7 48,jc 50 44 [.s 40,.s 44,.s 49],om 5 50]) .skip))) [0,5,6,7] (jr [om 27 7,jb 28 .add 27 1,om 7 28]))))) [5] (jq (jr [om 51 5,om 2 51,oo 3 (.mov (.c (.bool true)))]) [2,3] .ret)))))⟩
def tf42 : TFn := ⟨28,[.tmp 2],jq (jr [jv 2 je]) [0] (jq (jr [jc 5 54 [],jc 6 56 [],oo 7 (.buildSlice 7 74 [.s 5,.s 6]),om 3 7]) [0,3] (jq (jq (jr [jw 4 0]) [0,3,4] (jk 0 (jq (jq (jr [om 8 4,om 9 0,jn 10 9,jB 11 .lss 8 10]) [0,3,4,11] (jC 11 .skip (.exit 0))) [0,3,4] (jq (.block 1 (jR [om 14 3,om 15 0,om 16 4,jx 17 14 15 16,oA 18 0 17,oL 19 7 18,jc 20 60 [.s 14,.s 19],om 21 0,om 22 4,jx 23 14 21 22,oA 24 7 23,oL 25 7 24,jc 26 60 [.s 20,.s 25],om 3 26])) [0,3,4] (jr [om 12 4,jb 13 .add 12 1,om 4 13]))))) [3] (jq (jr [om 27 3,om 2 27]) [2] .ret)))⟩
def tf43 : TFn := ⟨32,[.tmp 6],jq (jr [jo 4 74 1,jo 5 74 2,jv 6 jf]) [0,4,5] (jq (jq (jr [jw 7 0]) [0,4,5,7] (jk 0 (jq (jq (jr [om 8 7,om 9 0,jn 10 9,jB 11 .lss 8 10]) [0,4,5,7,11] (jC 11 .skip (.exit 0))) [0,4,5,7] (jq (.block 1 (jq (jR [om 14 0,om 15 7,jx 16 14 14 15,oA 17 0 16,oL 18 7 17,oL 19 7 4,jc 20 59 [.s 18,.s 19],jb 21 .leq 20 0,om 22 21,jL 23 22 7 5,jT 24 22 0,jT 25 22 7,oT 26 22 (.indexAddr 14 (.s 24) (.s 25)),jA 27 22 7 26,jL 28 22 7 27,oT 29 22 (.call 59 [.s 23,.s 28]),jY 30 22 .leq 29 0,jp 31 22 30]) [0,4,5,7,31] (jC 31 (jq (jr [oo 6 (.mov (.c (.bool true)))]) [6] .ret) .skip))) [0,4,5,7] (jr [om 12 7,jb 13 .add 12 1,om 7 13]))))) [] (jq (jr [jv 6 jf]) [6] .ret))⟩
def tf44 : TFn := ⟨35,[.tmp 6],jq (jr [jo 4 74 1,jo 5 74 2,jv 6 je]) [0,4,5] (jq (jq (jr [om 8 0,jn 9 8,jb 10 .sub 9 1,om 7 10]) [0,4,5,7] (jq (jR [om 11 7,jb 12 .geq 11 0,om 13 12,jT 14 13 0,jT 15 13 7,oT 16 13 (.indexAddr 14 (.s 14) (.s 15)),jA 17 13 7 16,jL 18 13 7 17,jL 19 13 7 4,oT 20 13 (.call 59 [.s 18,.s 19]),jY 21 13 .eql 20 0,jp 22 13 21]) [0,4,5,7,22] (jC 22 (jq (jr [om 23 0,om 24 7,oL 25 7 5,jx 26 14 23 24,oA 27 7 26,jS 7 27 25]) [0] (jq (jr [om 28 0,om 6 28]) [6] .ret)) .skip))) [0,4,5] (jq (jr [om 29 0,oL 30 7 4,oL 31 7 5,oo 32 (.build [(.int .i64 0),(.int .i64 0),(.int .i64 0),(.int .i64 0),(.str []),(.str []),(.bool false),(.int .i64 0),(.int .i64 0),(.int .i64 0),(.int .i64 0),(.str []),(.str []),(.bool false)] [(0,7,(.s 30)),(7,7,(.s 31))]),oo 33 (.buildSlice 14 77 [.s 32]),oo 34 (.append 14 77 144 (.s 29) (.s 33)),om 6 34]) [6] .ret))⟩
def tf45 : TFn := ⟨19,[],jq (jr [oo 3 (.mov (.c (.int .i64 (-1))))]) [0,1,3] (jk 0 (jq (jq (jr [om 4 3,jb 5 .lss 4 16]) [0,1,3,5] (jC 5 .skip (.exit 0))) [0,1,3] (jq (.block 1 (jq (jR [ol 8 1 1,om 9 3,jc 10 26 [.s 9],jB 11 .and 8 10,jb 12 .neq 11 0,om 13 12,jT 14 13 0,jT 15 13 3,oT 16 13 (.callV (.s 14) [.s 15]),oT 17 13 (.un .not (.s 16)),jp 18 13 17]) [0,1,3,18] (jC 18 .ret .skip))) [0,1,3] (jr [om 6 3,jb 7 .add 6 1,om 3 7]))))⟩
def tf46 : TFn := ⟨14,[.tmp 4],jq (jr [jo 2 25 0,jv 4 jf]) [1,2] (jq (jr [om 5 1,jb 6 .geq 5 0,om 7 6,jT 8 7 1,jA 9 7 0 2,jl 10 7 1 9,oT 11 7 (.len (.s 10)),oT 12 7 (.bin .lss false (.s 8) (.s 11)),jp 13 7 12,om 4 13]) [4] .ret)⟩
def tf47 : TFn := ⟨31,[.tmp 2],jq (jr [jo 1 29 0,jv 2 jf]) [1,900000] (jq (jq (jr [oA 5 0 1,ol 6 1 5,jn 7 6,jw 8 0]) [1,6,7,8,900000] (jk 0 (jq (jr [jB 9 .lss 8 7]) [1,6,7,8,9,900000] (jq (jC 9 .skip (.exit 0)) [1,6,7,8,900000] (jq (.block 1 (jq (jr [jx 10 14 6 8,oL 11 14 10,oo 4 (.alloc 77 [(.int .i64 0),(.int .i64 0),(.int .i64 0),(.int .i64 0),(.str []),(.str []),(.bool false),(.int .i64 0),(.int .i64 0),(.int .i64 0),(.int .i64 0),(.str []),(.str []),(.bool false)]),jS 14 4 11]) [1,4,6,7,8,900000] (jq (jr [oA 12 0 4,oL 13 7 12,jc 14 61 [.s 13,.s 900000],oo 15 (.un .not (.s 14)),om 16 15,ja 17 16 7 4,jM 18 16 7 17,oF 19 16 (.call 61 [.s 18,.s 900000]),oF 20 16 (.un .not (.s 19)),oo 21 (.pick (.s 16) (.c (.bool true)) (.s 20))]) [1,6,7,8,21,900000] (jC 21 (jq (jr [jv 2 jf]) [2] .ret) .skip)))) [1,6,7,8,900000] (jr [jb 22 .add 8 1,om 8 22])))))) [1] (jq (jr [oA 23 0 1,ol 24 1 23,jc 25 62 [.s 24],om 26 25,jA 27 26 1 1,jl 28 26 1 27,oT 29 26 (.call 62 [.s 28]),jp 30 26 29,om 2 30]) [2] .ret))⟩
def tf48 : TFn := ⟨36,[.tmp 2],jq (jr [jo 1 46 0,jv 2 jf]) [1] (jq (jr [oA 3 0 1,ol 4 1 3,jc 5 63 [.s 4],om 6 5,jA 7 6 1 1,jl 8 6 1 7,oT 9 6 (.call 63 [.s 8]),jp 10 6 9,om 11 10,jA 12 11 2 1,jl 13 11 1 12,oT 14 11 (.call 63 [.s 13]),jp 15 11 14,om 16 15,jA 17 16 3 1,jl 18 16 1 17,oT 19 16 (.bin .eql false (.s 18) (.c (.str []))),jT 20 16 19,ja 21 20 3 1,jm 22 20 1 21,oF 23 20 (.call 64 [.s 22]),oT 24 16 (.pick (.s 20) (.c (.bool true)) (.s 23)),jp 25 16 24,om 26 25,jA 27 26 4 1,jl 28 26 1 27,oT 29 26 (.bin .eql false (.s 28) (.c (.str []))),jT 30 26 29,ja 31 30 4 1,jm 32 30 1 31,oF 33 30 (.call 65 [.s 32]),oT 34 26 (.pick (.s 30) (.c (.bool true)) (.s 33)),jp 35 26 34,om 2 35]) [2] .ret)⟩
def tf49 : TFn := ⟨20,[.tmp 4],jq (jr [jo 3 46 1,jv 4 jf]) [0,3] (jq (jq (jr [om 7 0,jc 8 62 [.s 7],oo 9 (.un .not (.s 8))]) [0,3,9] (jC 9 (jq (jr [jv 4 jf]) [4] .ret) .skip)) [0,3] (jq (jq (jr [om 10 0,jn 11 10,jw 12 0]) [3,10,11,12] (jk 0 (jq (jr [jB 13 .lss 12 11]) [3,10,11,12,13] (jq (jC 13 .skip (.exit 0)) [3,10,11,12] (jq (.block 1 (jq (jr [jx 14 14 10 12,oL 15 14 14,oo 6 (.alloc 77 [(.int .i64 0),(.int .i64 0),(.int .i64 0),(.int .i64 0),(.str []),(.str []),(.bool false),(.int .i64 0),(.int .i64 0),(.int .i64 0),(.int .i64 0),(.str []),(.str []),(.bool false)]),jS 14 6 15]) [3,6,10,11,12] (jq (jr [oL 16 14 6,oL 17 5 3,jc 18 66 [.s 16,.s 17]]) [3,10,11,12,18] (jC 18 (jq (jr [oo 4 (.mov (.c (.bool true)))]) [4] .ret) .skip)))) [3,10,11,12] (jr [jb 19 .add 12 1,om 12 19])))))) [] (jq (jr [jv 4 jf]) [4] .ret)))⟩
def tf50 : TFn := ⟨9,[.tmp 2],jq (jr [jv 2 jf]) [0] (jq (jr [om 3 0,jb 4 .geq 3 0,om 5 4,jT 6 5 0,jY 7 5 .leq 6 9999,jp 8 5 7,om 2 8]) [2] .ret)⟩
def tf51 : TFn := ⟨48,[.tmp 4],jq (jr [jv 4 jf]) [0,1] (jq (jq (jr [om 9 0,oo 10 (.bin .eql false (.s 9) (.c (.str [])))]) [0,1,10] (jC 10 (jq (jr [oo 4 (.mov (.c (.bool true)))]) [4] .ret) .skip)) [0,1] (jq (jr [om 11 0,jc 12 67 [.s 11,(.c (.int .u8 46))],om 5 12]) [1,5] (jq (jq (jr [om 13 5,jn 14 13,jb 15 .gtr 14 4]) [1,5,15] (jC 15 (jq (jr [jv 4 jf]) [4] .ret) .skip)) [1,5] (jq (jq (jr [jw 6 0]) [1,5,6] (jk 0 (jq (jq (jr [om 16 6,om 17 5,jn 18 17,jB 19 .lss 16 18]) [1,5,6,19] (jC 19 .skip (.exit 0))) [1,5,6] (jq (.block 1 (jq (jq (jr [om 22 5,om 23 6,jx 24 1 22 23,ol 25 1 24,jc 26 68 [.s 25],oo 27 (.un .not (.s 26))]) [1,5,6,27] (jC 27 (jq (jr [jv 4 jf]) [4] .ret) .skip)) [1,5,6] (jq (jr [om 29 5,om 30 6,jx 31 1 29 30,ol 32 1 31,jc 33 69 [.s 32],om 28 33,oe 34 0 28,oe 35 1 28,om 7 34,om 8 35]) [1,5,6,8] (jq (jr [om 36 1,om 37 36,jT 38 37 5,jT 39 37 6,oT 40 37 (.indexAddr 1 (.s 38) (.s 39)),jl 41 37 1 40,oT 42 37 (.call 70 [.s 41]),jp 43 37 42,om 44 43,jT 45 44 8,oT 46 44 (.un .not (.s 45)),jp 47 44 46]) [1,5,6,47] (jC 47 (jq (jr [jv 4 jf]) [4] .ret) .skip))))) [1,5,6] (jr [om 20 6,jb 21 .add 20 1,om 6 21]))))) [] (jq (jr [oo 4 (.mov (.c (.bool true)))]) [4] .ret)))))⟩
def tf52 : TFn := ⟨5,[.cell 2 true 5],jq (jr [jo 1 46 0,oo 2 (.alloc 46 [(.int .i64 0),(.int .i64 0),(.int .i64 0),(.str []),(.str [])])]) [1,2] (jq (jr [oA 3 4 1,⟨none,.store 1 (.s 3) (.c (.str [])),none⟩]) [1,2] (jq (jr [oL 4 5 1,jS 5 2 4]) [2] .ret))⟩
def tf53 : TFn := ⟨16,[.tmp 2],jq (jr [jo 1 46 0,jv 2 jf]) [1] (jq (jr [oA 3 0 1,ol 4 1 3,jb 5 .eql 4 0,om 6 5,jA 7 6 1 1,jl 8 6 1 7,jY 9 6 .eql 8 0,jp 10 6 9,om 11 10,jA 12 11 2 1,jl 13 11 1 12,jY 14 11 .eql 13 0,jp 15 11 14,om 2 15]) [2] .ret)⟩
def tf54 : TFn := ⟨2,[.cell 0 true 7],jq (jr [oo 0 (.alloc 74 [(.int .i64 0),(.int .i64 0),(.int .i64 0),(.int .i64 0),(.str []),(.str []),(.bool false)])]) [0] (jq (jr [oo 1 (.build [(.int .i64 0),(.int .i64 0),(.int .i64 0),(.int .i64 0),(.str []),(.str []),(.bool false)] [(0,1,(.c (.int .i64 (-1))))]),jS 7 0 1]) [0] .ret)⟩
def tf55 : TFn := ⟨34,[.cell 2 true 5,.tmp 3],jq (jr [jo 1 46 0,oo 2 (.alloc 46 [(.int .i64 0),(.int .i64 0),(.int .i64 0),(.str []),(.str [])]),jv 3 jf]) [1,2] (jq (jq (jr [oL 7 5 1,jc 8 32 [.s 7],oo 9 (.un .not (.s 8))]) [1,2,9] (jC 9 (jq (jr [oo 10 (.build [(.int .i64 0),(.int .i64 0),(.int .i64 0),(.str []),(.str [])] []),jS 5 2 10,jv 3 jf]) [2,3] .ret) .skip)) [1,2] (jq (jq (jr [oA 11 3 1,ol 12 1 11,oo 13 (.bin .neq false (.s 12) (.c (.str [])))]) [1,2,13] (jC 13 (jq (jr [oA 14 0 1,ol 15 1 14,oA 16 1 1,ol 17 1 16,oA 18 2 1,ol 19 1 18,oo 20 (.build [(.int .i64 0),(.int .i64 0),(.int .i64 0),(.str []),(.str [])] [(0,1,(.s 15)),(1,1,(.s 17)),(2,1,(.s 19))]),jS 5 2 20,oo 3 (.mov (.c (.bool true)))]) [2,3] .ret) .skip)) [1,2] (jq (jq (jr [jw 4 2]) [1,2,4] (jk 0 (jq (jq (jr [om 21 4,jb 22 .geq 21 0]) [1,2,4,22] (jC 22 .skip (.exit 0))) [1,2,4] (jq (.block 1 (jq (jr [oL 26 5 1,om 27 4,jc 28 71 [.s 26,.s 27],om 25 28,oe 29 0 25,oe 30 1 25,oo 5 (.alloc 46 [(.int .i64 0),(.int .i64 0),(.int .i64 0),(.str []),(.str [])]),jS 5 5 29,om 6 30]) [1,2,4,5,6] (jq (jr [om 31 6]) [1,2,4,5,31] (jC 31 (jq (jr [oL 32 5 5,jS 5 2 32,oo 3 (.mov (.c (.bool true)))]) [2,3] .ret) .skip)))) [1,2,4] (jr [om 23 4,jb 24 .sub 23 1,om 4 24]))))) [2] (jq (jr [oo 33 (.build [(.int .i64 0),(.int .i64 0),(.int .i64 0),(.str []),(.str [])] []),jS 5 2 33,jv 3 jf]) [2,3] .ret))))⟩
def tf56 : TFn := ⟨2,[.cell 0 true 7],jq (jr [oo 0 (.alloc 74 [(.int .i64 0),(.int .i64 0),(.int .i64 0),(.int .i64 0),(.str []),(.str []),(.bool false)])]) [0] (jq (jr [oo 1 (.build [(.int .i64 0),(.int .i64 0),(.int .i64 0),(.int .i64 0),(.str []),(.str []),(.bool false)] [(0,1,(jI 1))]),jS 7 0 1]) [0] .ret)⟩
def tf57 : TFn := ⟨4,[.cell 0 true 2],jq (jr [oo 0 (.alloc 29 [(.fsl []),(.fsl [])])]) [0] (jq (jr [jc 1 72 [],jc 2 72 [],oo 3 (.build [(.fsl []),(.fsl [])] [(0,1,(.s 1)),(1,1,(.s 2))]),jS 2 0 3]) [0] .ret)⟩
def tf58 : TFn := ⟨19,[.tmp 2],jq (jr [jo 1 77 0,jv 2 jf]) [1] (jq (jr [oA 3 0 1,oL 4 7 3,jc 5 73 [.s 4],om 6 5,jA 7 6 7 1,jL 8 6 7 7,oT 9 6 (.call 73 [.s 8]),jp 10 6 9,om 11 10,jA 12 11 0 1,jL 13 11 7 12,jA 14 11 7 1,jL 15 11 7 14,oT 16 11 (.call 59 [.s 13,.s 15]),jY 17 11 .lss 16 0,jp 18 11 17,om 2 18]) [2] .ret)⟩
def tf59 : TFn := ⟨46,[.tmp 4],jq (jr [jo 2 74 0,jo 3 74 1,jw 4 0]) [2,3] (jq (jq (jr [oL 6 7 2,jc 7 73 [.s 6],oo 8 (.un .not (.s 7)),om 9 8,jM 10 9 7 3,oF 11 9 (.call 73 [.s 10]),oF 12 9 (.un .not (.s 11)),oo 13 (.pick (.s 9) (.c (.bool true)) (.s 12))]) [2,3,13] (jC 13 (jq (jr [jw 4 0]) [4] .ret) .skip)) [2,3] (jq (jq (jr [oA 14 0 2,ol 15 1 14,oA 16 0 3,ol 17 1 16,jB 18 .neq 15 17,om 19 18,ja 20 19 0 2,jm 21 19 1 20,jy 22 19 .neq 21 0,oo 23 (.pick (.s 19) (.c (.bool true)) (.s 22))]) [2,3,23] (jC 23 (jq (jr [oA 24 0 2,ol 25 1 24,oA 26 0 3,ol 27 1 26,jc 28 74 [.s 25,.s 27],om 4 28]) [4] .ret) .skip)) [2,3] (jq (jq (jr [oA 29 1 2,oL 30 5 29,oA 31 1 3,oL 32 5 31,jc 33 75 [.s 30,.s 32],om 5 33]) [2,3,5] (jq (jr [om 34 5,jb 35 .neq 34 0]) [2,3,5,35] (jC 35 (jq (jr [om 36 5,om 4 36]) [4] .ret) .skip))) [2,3] (jq (.block 0 (jq (jr [oA 38 6 2,ol 39 1 38,oA 40 6 3,ol 41 1 40,oo 42 (.bin .eql true (.s 39) (.s 41)),om 37 42]) [3,37] (jC 37 (jq (jr [jw 4 0]) [4] .ret) (jq (jr [oA 44 6 3,ol 45 1 44,om 43 45]) [43] (jC 43 (jq (jr [oo 4 (.mov (.c (.int .i64 (-1))))]) [4] .ret) .skip))))) [] (jq (jr [jw 4 1]) [4] .ret)))))⟩
def tf60 : TFn := ⟨46,[.tmp 4],jq (jr [jo 3 74 1,jv 4 je]) [0,3] (jq (jr [jw 5 0]) [0,3,5] (jq (jk 0 (jq (jq (jR [om 6 5,om 7 0,jn 8 7,jB 9 .lss 6 8,om 10 9,jT 11 10 0,jT 12 10 5,oT 13 10 (.indexAddr 7 (.s 11) (.s 12)),jL 14 10 7 13,jL 15 10 7 3,oT 16 10 (.call 59 [.s 14,.s 15]),jY 17 10 .lss 16 0,jp 18 10 17]) [0,3,5,18] (jC 18 .skip (.exit 0))) [0,3,5] (.block 1 (jr [om 19 5,jb 20 .add 19 1,om 5 20])))) [0,3,5] (jq (jq (jR [om 21 5,om 22 0,jn 23 22,jB 24 .lss 21 23,om 25 24,jT 26 25 0,jT 27 25 5,oT 28 25 (.indexAddr 7 (.s 26) (.s 27)),jL 29 25 7 28,jL 30 25 7 3,oT 31 25 (.call 59 [.s 29,.s 30]),jY 32 25 .eql 31 0,jp 33 25 32]) [0,3,5,33] (jC 33 (jq (jr [om 34 0,om 4 34]) [4] .ret) .skip)) [0,3,5] (jq (jR [om 35 0,om 36 5,oo 37 (.slice 7 (.s 35) none (some (.s 36)) none),oo 38 (.append 7 74 72 je (.s 37)),oL 39 7 3,oo 40 (.buildSlice 7 74 [.s 39]),oo 41 (.append 7 74 72 (.s 38) (.s 40)),om 42 0,om 43 5,oo 44 (.slice 7 (.s 42) (some (.s 43)) none none),oo 45 (.append 7 74 72 (.s 41) (.s 44)),om 4 45]) [4] .ret))))⟩
def tf61 : TFn := ⟨23,[.tmp 2],jq (jr [jo 1 74 0,jv 2 jf]) [1,900000] (jq (jr [oA 3 0 1,ol 4 1 3,jb 5 .neq 4 0,om 6 5,ja 7 6 6 1,jm 8 6 1 7,oF 9 6 (.un .not (.s 8)),jF 10 6 9,jA 11 10 1 1,jA 12 10 3 11,jl 13 10 1 12,oT 14 10 (.bin .eql false (.s 13) (.c (.str []))),oF 15 6 (.pick (.s 10) (.s 14) jf),jF 16 6 15,jA 17 16 1 1,jL 18 16 5 17,jL 19 16 5 900000,oT 20 16 (.eqs true [0,0,0,2,2] (.s 18) (.s 19)),oF 21 6 (.pick (.s 16) (.s 20) jf),oo 22 (.pick (.s 6) (.c (.bool true)) (.s 21)),om 2 22]) [2] .ret)⟩
def tf62 : TFn := ⟨32,[.tmp 2],jq (jr [jv 2 jf]) [0] (jq (jq (jr [om 5 0,jn 6 5,jw 7 0]) [0,5,6,7] (jk 0 (jq (jr [jB 8 .lss 7 6]) [0,5,6,7,8] (jq (jC 8 .skip (.exit 0)) [0,5,6,7] (jq (.block 1 (jq (jr [om 9 7,jx 10 14 5 7,oL 11 14 10,oo 4 (.alloc 77 [(.int .i64 0),(.int .i64 0),(.int .i64 0),(.int .i64 0),(.str []),(.str []),(.bool false),(.int .i64 0),(.int .i64 0),(.int .i64 0),(.int .i64 0),(.str []),(.str []),(.bool false)]),om 3 9,jS 14 4 11]) [0,3,4,5,6,7] (jq (jR [oL 12 14 4,jc 13 76 [.s 12],oo 14 (.un .not (.s 13)),om 15 14,jF 16 15 3,jy 17 15 .gtr 16 0,jF 18 15 17,jT 19 18 0,jT 20 18 3,jY 21 18 .sub 20 1,oT 22 18 (.indexAddr 14 (.s 19) (.s 21)),jA 23 18 7 22,jL 24 18 7 23,jA 25 18 0 4,jL 26 18 7 25,oT 27 18 (.call 77 [.s 24,.s 26]),jY 28 18 .geq 27 0,oF 29 15 (.pick (.s 18) (.s 28) jf),oo 30 (.pick (.s 15) (.c (.bool true)) (.s 29))]) [0,5,6,7,30] (jC 30 (jq (jr [jv 2 jf]) [2] .ret) .skip)))) [0,5,6,7] (jr [jb 31 .add 7 1,om 7 31])))))) [] (jq (jr [oo 2 (.mov (.c (.bool true)))]) [2] .ret))⟩
def tf63 : TFn := ⟨9,[.tmp 2],jq (jr [jv 2 jf]) [0] (jq (jr [om 3 0,jb 4 .geq 3 0,om 5 4,jT 6 5 0,jY 7 5 .leq 6 9999,jp 8 5 7,om 2 8]) [2] .ret)⟩
def tf64 : TFn := ⟨29,[.tmp 2],jq (jr [jv 2 jf]) [0] (jq (jq (jr [om 7 0,jc 8 65 [.s 7],oo 9 (.un .not (.s 8))]) [0,9] (jC 9 (jq (jr [jv 2 jf]) [2] .ret) .skip)) [0] (jq (jq (jr [om 10 0,jc 11 78 [.s 10,(.c (.int .u8 46))],jn 12 11,jw 13 0]) [11,12,13] (jk 0 (jq (jr [jB 14 .lss 13 12]) [11,12,13,14] (jq (jC 14 .skip (.exit 0)) [11,12,13] (jq (.block 1 (jq (jr [jx 15 1 11 13,ol 16 1 15,om 4 16]) [4,11,12,13] (jq (jr [om 18 4,jc 19 79 [.s 18],om 17 19,oe 20 0 17,oe 21 1 17,om 5 20,om 6 21]) [4,6,11,12,13] (jq (jr [om 22 4,jc 23 80 [.s 22],om 24 23,jT 25 24 6,oT 26 24 (.un .not (.s 25)),jp 27 24 26]) [11,12,13,27] (jC 27 (jq (jr [jv 2 jf]) [2] .ret) .skip))))) [11,12,13] (jr [jb 28 .add 13 1,om 13 28])))))) [] (jq (jr [oo 2 (.mov (.c (.bool true)))]) [2] .ret)))⟩
def tf65 : TFn := ⟨52,[.tmp 2],jq (jr [jv 2 jf]) [0] (.scope (jq (jr [om 9 0,jc 10 78 [.s 9,(.c (.int .u8 46))],om 3 10]) [3] (jq (jr [om 11 3,jn 12 11,jb 13 .leq 12 4,om 4 13]) [3,4] (.seq .skip [3,4] (jq (jq (jr [om 14 3,jn 15 14,jw 16 0]) [4,14,15,16] (jk 0 (jq (jr [jB 17 .lss 16 15]) [4,14,15,16,17] (jq (jC 17 .skip (.exit 0)) [4,14,15,16] (jq (.block 1 (jq (jr [jx 18 1 14 16,ol 19 1 18,om 6 19]) [4,6,14,15,16] (jq (jq (jr [om 20 6,oo 21 (.bin .eql false (.s 20) (.c (.str []))),om 22 21,jF 23 22 6,oF 24 22 (.lenStr (.s 23)),jy 25 22 .gtr 24 8,oo 26 (.pick (.s 22) (.c (.bool true)) (.s 25))]) [4,6,14,15,16,26] (jC 26 (jq (jr [jv 4 jf]) [4] (.exit 0)) .skip)) [4,6,14,15,16] (jq (jr [om 27 6,oo 28 (.range (.s 27))]) [4,14,15,16,28] (jk 2 (jq (jr [oo 29 (.next (.s 28)),oe 30 0 29]) [4,14,15,16,28,29,30] (jq (jC 30 .skip (.exit 2)) [4,14,15,16,28,29] (.block 3 (jq (jr [oe 31 2 29,om 8 31]) [4,8,14,15,16,28] (jq (jr [om 32 8,oo 33 (.bin .lss false (.s 32) (.c (.int .i32 97))),om 34 33,jF 35 34 8,oF 36 34 (.bin .gtr false (.s 35) (.c (.int .i32 122))),oo 37 (.pick (.s 34) (.c (.bool true)) (.s 36)),om 38 37,jT 39 38 8,oT 40 38 (.bin .lss false (.s 39) (.c (.int .i32 48))),jT 41 38 40,jF 42 41 8,oF 43 41 (.bin .gtr false (.s 42) (.c (.int .i32 57))),oT 44 38 (.pick (.s 41) (.c (.bool true)) (.s 43)),jp 45 38 44,om 46 45,jT 47 46 8,oT 48 46 (.bin .neq false (.s 47) (.c (.int .i32 45))),jp 49 46 48]) [4,14,15,16,28,49] (jC 49 (jq (jr [jv 4 jf]) [4] (.exit 0)) .skip))))))))))) [4,14,15,16] (jr [jb 50 .add 16 1,om 16 50])))))) [4] (jq (jr [om 51 4,om 2 51]) [2] .ret))))))⟩
def tf66 : TFn := ⟨24,[.tmp 4],jq (jr [jo 2 77 0,jo 3 46 1,jv 4 jf]) [2,3] (jq (jr [oL 5 14 2,jc 6 76 [.s 5],om 7 6,jL 8 7 5 3,oT 9 7 (.call 48 [.s 8]),jp 10 7 9,om 11 10,jA 12 11 0 2,jL 13 11 7 12,jL 14 11 5 3,oT 15 11 (.call 81 [.s 13,.s 14]),jp 16 11 15,om 17 16,jA 18 17 7 2,jL 19 17 7 18,jL 20 17 5 3,oT 21 17 (.call 81 [.s 19,.s 20]),oT 22 17 (.un .not (.s 21)),jp 23 17 22,om 4 23]) [4] .ret)⟩
def tf67 : TFn := ⟨34,[.tmp 4],jq (jr [jv 4 je]) [0,1] (jq (jr [jv 5 je]) [0,1,5] (jq (jr [jw 6 0]) [0,1,5,6] (jq (jq (jr [jw 7 0]) [0,1,5,6,7] (jk 0 (jq (jq (jr [om 8 7,om 9 0,oo 10 (.lenStr (.s 9)),jB 11 .lss 8 10]) [0,1,5,6,7,11] (jC 11 .skip (.exit 0))) [0,1,5,6,7] (jq (.block 1 (jq (jr [om 14 0,om 15 7,oo 16 (.indexStr (.s 14) (.s 15)),om 17 1,jB 18 .eql 16 17]) [0,1,5,6,7,18] (jC 18 (jq (jr [om 19 5,om 20 0,om 21 6,om 22 7,oo 23 (.sliceStr (.s 20) (some (.s 21)) (some (.s 22))),oo 24 (.buildSlice 1 9 [.s 23]),oo 25 (.append 1 9 16 (.s 19) (.s 24)),om 5 25]) [0,1,5,7] (jr [om 26 7,jb 27 .add 26 1,om 6 27])) .skip))) [0,1,5,6,7] (jr [om 12 7,jb 13 .add 12 1,om 7 13]))))) [0,5,6] (jq (jr [om 28 5,om 29 0,om 30 6,oo 31 (.sliceStr (.s 29) (some (.s 30)) none),oo 32 (.buildSlice 1 9 [.s 31]),oo 33 (.append 1 9 16 (.s 28) (.s 32)),om 4 33]) [4] .ret))))⟩
def tf68 : TFn := ⟨40,[.tmp 2],jq (jr [jv 2 jf]) [0] (jq (jq (jr [om 5 0,oo 6 (.lenStr (.s 5)),jb 7 .lss 6 1,om 8 7,jF 9 8 0,oF 10 8 (.lenStr (.s 9)),jy 11 8 .gtr 10 8,oo 12 (.pick (.s 8) (.c (.bool true)) (.s 11))]) [0,12] (jC 12 (jq (jr [jv 2 jf]) [2] .ret) .skip)) [0] (jq (jq (jr [jw 3 0]) [0,3] (jk 0 (jq (jq (jr [om 13 3,om 14 0,oo 15 (.lenStr (.s 14)),jB 16 .lss 13 15]) [0,3,16] (jC 16 .skip (.exit 0))) [0,3] (jq (.block 1 (jq (jr [om 19 0,om 20 3,oo 21 (.indexStr (.s 19) (.s 20)),om 4 21]) [0,3,4] (jq (jr [om 22 4,oo 23 (.bin .lss false (.s 22) (.c (.int .u8 97))),om 24 23,jF 25 24 4,oF 26 24 (.bin .gtr false (.s 25) (.c (.int .u8 122))),oo 27 (.pick (.s 24) (.c (.bool true)) (.s 26)),om 28 27,jT 29 28 4,oT 30 28 (.bin .lss false (.s 29) (.c (.int .u8 48))),jT 31 28 30,jF 32 31 4,oF 33 31 (.bin .gtr false (.s 32) (.c (.int .u8 57))),oT 34 28 (.pick (.s 31) (.c (.bool true)) (.s 33)),jp 35 28 34,om 36 35,jT 37 36 4,oT 38 36 (.bin .neq false (.s 37) (.c (.int .u8 45))),jp 39 36 38]) [0,3,39] (jC 39 (jq (jr [jv 2 jf]) [2] .ret) .skip)))) [0,3] (jr [om 17 3,jb 18 .add 17 1,om 3 18]))))) [] (jq (jr [oo 2 (.mov (.c (.bool true)))]) [2] .ret)))⟩
def tf69 : TFn := ⟨46,[.tmp 2,.tmp 3],jq (jr [jw 2 0,jv 3 jf]) [0] (jq (jq (jr [om 6 0,oo 7 (.lenStr (.s 6)),jb 8 .lss 7 1,om 9 8,jF 10 9 0,oF 11 9 (.lenStr (.s 10)),jy 12 9 .gtr 11 9,oo 13 (.pick (.s 9) (.c (.bool true)) (.s 12)),om 14 13,jF 15 14 0,oF 16 14 (.lenStr (.s 15)),jy 17 14 .gtr 16 1,jF 18 14 17,jT 19 18 0,oT 20 18 (.indexStr (.s 19) (jI 0)),oT 21 18 (.bin .eql false (.s 20) (.c (.int .u8 48))),oF 22 14 (.pick (.s 18) (.s 21) jf),oo 23 (.pick (.s 14) (.c (.bool true)) (.s 22))]) [0,23] (jC 23 (jq (jr [jw 2 0,jv 3 jf]) [2,3] .ret) .skip)) [0] (jq (jr [jw 4 0]) [0,4] (jq (jq (jr [jw 5 0]) [0,4,5] (jk 0 (jq (jq (jr [om 24 5,om 25 0,oo 26 (.lenStr (.s 25)),jB 27 .lss 24 26]) [0,4,5,27] (jC 27 .skip (.exit 0))) [0,4,5] (jq (.block 1 (jq (jq (jr [om 30 0,om 31 5,oo 32 (.indexStr (.s 30) (.s 31)),jc 33 82 [.s 32],oo 34 (.un .not (.s 33))]) [0,4,5,34] (jC 34 (jq (jr [jw 2 0,jv 3 jf]) [2,3] .ret) .skip)) [0,4,5] (jr [om 35 4,jb 36 .mul 35 10,om 37 0,om 38 5,oo 39 (.indexStr (.s 37) (.s 38)),oo 40 (.bin .sub false (.s 39) (.c (.int .u8 48))),oo 41 (.conv .i64 (.s 40)),jB 42 .add 36 41,om 4 42]))) [0,4,5] (jr [om 28 5,jb 29 .add 28 1,om 5 29]))))) [4] (jq (jq (jr [om 43 4,jb 44 .gtr 43 9999]) [4,44] (jC 44 (jq (jr [jw 2 0,jv 3 jf]) [2,3] .ret) .skip)) [4] (jq (jr [om 45 4,om 2 45,oo 3 (.mov (.c (.bool true)))]) [2,3] .ret)))))⟩
def tf70 : TFn := ⟨23,[.tmp 2],jq (jr [jv 2 jf]) [0] (jq (jq (jr [jw 3 0]) [0,3] (jk 0 (jq (jq (jr [om 4 3,om 5 0,oo 6 (.lenStr (.s 5)),jB 7 .lss 4 6]) [0,3,7] (jC 7 .skip (.exit 0))) [0,3] (jq (.block 1 (jq (jr [om 10 0,om 11 3,oo 12 (.indexStr (.s 10) (.s 11)),oo 13 (.bin .lss false (.s 12) (.c (.int .u8 48))),om 14 13,jF 15 14 0,jF 16 14 3,oF 17 14 (.indexStr (.s 15) (.s 16)),oF 18 14 (.bin .gtr false (.s 17) (.c (.int .u8 57))),oo 19 (.pick (.s 14) (.c (.bool true)) (.s 18))]) [0,3,19] (jC 19 (jq (jr [jv 2 jf]) [2] .ret) .skip))) [0,3] (jr [om 8 3,jb 9 .add 8 1,om 3 9]))))) [0] (jq (jr [om 20 0,oo 21 (.lenStr (.s 20)),jb 22 .gtr 21 0,om 2 22]) [2] .ret))⟩
def tf71 : TFn := ⟨47,[.cell 4 true 5,.tmp 5],jq (jr [jo 2 46 0,oo 4 (.alloc 46 [(.int .i64 0),(.int .i64 0),(.int .i64 0),(.str []),(.str [])]),jv 5 jf]) [1,2,4] (jq (jq (jr [oL 7 5 2,jc 8 32 [.s 7],oo 9 (.un .not (.s 8)),om 10 9,jF 11 10 1,jy 12 10 .lss 11 0,oo 13 (.pick (.s 10) (.c (.bool true)) (.s 12)),om 14 13,jF 15 14 1,jy 16 14 .gtr 15 2,oo 17 (.pick (.s 14) (.c (.bool true)) (.s 16))]) [1,2,4,17] (jC 17 (jq (jr [oo 18 (.build [(.int .i64 0),(.int .i64 0),(.int .i64 0),(.str []),(.str [])] []),jS 5 4 18,jv 5 jf]) [4,5] .ret) .skip)) [1,2,4] (jq (jr [oo 6 (.alloc 46 [(.int .i64 0),(.int .i64 0),(.int .i64 0),(.str []),(.str [])])]) [1,2,4,6] (jq (jq (jr [om 19 1]) [2,4,6,19] (.block 0 (jq (jr [jb 29 .eql 19 0,om 28 29]) [2,4,6,19,28] (jC 28 (jr [oA 30 0 2,ol 31 1 30,jb 32 .add 31 1,oo 33 (.build [(.int .i64 0),(.int .i64 0),(.int .i64 0),(.str []),(.str [])] [(0,1,(.s 32))]),jS 5 6 33]) (jq (jr [jb 35 .eql 19 1,om 34 35]) [2,4,6,34] (jC 34 (jr [oA 36 0 2,ol 37 1 36,oA 38 1 2,ol 39 1 38,jb 40 .add 39 1,oo 41 (.build [(.int .i64 0),(.int .i64 0),(.int .i64 0),(.str []),(.str [])] [(0,1,(.s 37)),(1,1,(.s 40))]),jS 5 6 41]) (jr [oA 20 0 2,ol 21 1 20,oA 22 1 2,ol 23 1 22,oA 24 2 2,ol 25 1 24,jb 26 .add 25 1,oo 27 (.build [(.int .i64 0),(.int .i64 0),(.int .i64 0),(.str []),(.str [])] [(0,1,(.s 21)),(1,1,(.s 23)),(2,1,(.s 26))]),jS 5 6 27]))))))) [4,6] (jq (jq (jr [oL 42 5 6,jc 43 32 [.s 42],oo 44 (.un .not (.s 43))]) [4,6,44] (jC 44 (jq (jr [oo 45 (.build [(.int .i64 0),(.int .i64 0),(.int .i64 0),(.str []),(.str [])] []),jS 5 4 45,jv 5 jf]) [4,5] .ret) .skip)) [4,6] (jq (jr [oL 46 5 6,jS 5 4 46,oo 5 (.mov (.c (.bool true)))]) [4,5] .ret)))))⟩
def tf72 : TFn := ⟨5,[.tmp 0],jq (jr [jv 0 je]) [] (jq (jr [jc 1 54 [],jc 2 56 [],oo 3 (.build [(.int .i64 0),(.int .i64 0),(.int .i64 0),(.int .i64 0),(.str []),(.str []),(.bool false),(.int .i64 0),(.int .i64 0),(.int .i64 0),(.int .i64 0),(.str []),(.str []),(.bool false)] [(0,7,(.s 1)),(7,7,(.s 2))]),oo 4 (.buildSlice 14 77 [.s 3]),om 0 4]) [0] .ret)⟩
def tf73 : TFn := ⟨34,[.tmp 2],jq (jr [jo 1 74 0,jv 2 jf]) [1] (jq (jq (jr [oA 3 0 1,ol 4 1 3,jb 5 .eql 4 0]) [1,5] (jC 5 (jq (jr [oA 6 1 1,oL 7 5 6,jc 8 32 [.s 7],om 9 8,jA 10 9 1 1,jA 11 9 4 10,jl 12 9 1 11,oT 13 9 (.bin .eql false (.s 12) (.c (.str []))),jp 14 9 13,om 2 14]) [2] .ret) .skip)) [1] (jq (jr [oA 15 0 1,ol 16 1 15,oo 17 (.bin .eql false (.s 16) (.c (.int .i64 (-1)))),om 18 17,ja 19 18 0 1,jm 20 18 1 19,jy 21 18 .eql 20 1,oo 22 (.pick (.s 18) (.c (.bool true)) (.s 21)),om 23 22,jA 24 23 1 1,jL 25 23 5 24,oT 26 23 (.build [(.int .i64 0),(.int .i64 0),(.int .i64 0),(.str []),(.str [])] []),oT 27 23 (.eqs false [0,0,0,2,2] (.s 25) (.s 26)),jp 28 23 27,om 29 28,jA 30 29 6 1,jl 31 29 1 30,oT 32 29 (.un .not (.s 31)),jp 33 29 32,om 2 33]) [2] .ret))⟩
def tf74 : TFn := ⟨13,[.tmp 4],jq (jr [jw 4 0]) [0,1] (jq (.block 0 (jq (jr [om 6 0,om 7 1,jB 8 .lss 6 7,om 5 8]) [0,1,5] (jC 5 (jq (jr [oo 4 (.mov (.c (.int .i64 (-1))))]) [4] .ret) (jq (jr [om 10 0,om 11 1,jB 12 .gtr 10 11,om 9 12]) [9] (jC 9 (jq (jr [jw 4 1]) [4] .ret) .skip))))) [] (jq (jr [jw 4 0]) [4] .ret))⟩
def tf75 : TFn := ⟨45,[.tmp 4],jq (jr [jo 2 46 0,jo 3 46 1,jw 4 0]) [2,3] (jq (jq (jr [oL 8 5 2,jc 9 32 [.s 8],oo 10 (.un .not (.s 9)),om 11 10,jM 12 11 5 3,oF 13 11 (.call 32 [.s 12]),oF 14 11 (.un .not (.s 13)),oo 15 (.pick (.s 11) (.c (.bool true)) (.s 14))]) [2,3,15] (jC 15 (jq (jr [jw 4 0]) [4] .ret) .skip)) [2,3] (jq (jq (jr [oA 16 0 2,ol 17 1 16,oA 18 0 3,ol 19 1 18,jc 20 74 [.s 17,.s 19],om 5 20]) [2,3,5] (jq (jr [om 21 5,jb 22 .neq 21 0]) [2,3,5,22] (jC 22 (jq (jr [om 23 5,om 4 23]) [4] .ret) .skip))) [2,3] (jq (jq (jr [oA 24 1 2,ol 25 1 24,oA 26 1 3,ol 27 1 26,jc 28 74 [.s 25,.s 27],om 6 28]) [2,3,6] (jq (jr [om 29 6,jb 30 .neq 29 0]) [2,3,6,30] (jC 30 (jq (jr [om 31 6,om 4 31]) [4] .ret) .skip))) [2,3] (jq (jq (jr [oA 32 2 2,ol 33 1 32,oA 34 2 3,ol 35 1 34,jc 36 74 [.s 33,.s 35],om 7 36]) [2,3,7] (jq (jr [om 37 7,jb 38 .neq 37 0]) [2,3,7,38] (jC 38 (jq (jr [om 39 7,om 4 39]) [4] .ret) .skip))) [2,3] (jq (jr [oA 40 3 2,ol 41 1 40,oA 42 3 3,ol 43 1 42,jc 44 83 [.s 41,.s 43],om 4 44]) [4] .ret)))))⟩
def tf76 : TFn := ⟨19,[.tmp 2],jq (jr [jo 1 77 0,jv 2 jf]) [1] (jq (jr [oA 3 0 1,oL 4 7 3,jc 5 84 [.s 4],om 6 5,jA 7 6 7 1,jL 8 6 7 7,oT 9 6 (.call 84 [.s 8]),jp 10 6 9,om 11 10,jA 12 11 0 1,jL 13 11 7 12,jA 14 11 7 1,jL 15 11 7 14,oT 16 11 (.call 77 [.s 13,.s 15]),jY 17 11 .lss 16 0,jp 18 11 17,om 2 18]) [2] .ret)⟩
def tf77 : TFn := ⟨42,[.tmp 4],jq (jr [jo 2 74 0,jo 3 74 1,jw 4 0]) [2,3] (jq (jq (jr [oL 6 7 2,jc 7 84 [.s 6],oo 8 (.un .not (.s 7)),om 9 8,jM 10 9 7 3,oF 11 9 (.call 84 [.s 10]),oF 12 9 (.un .not (.s 11)),oo 13 (.pick (.s 9) (.c (.bool true)) (.s 12))]) [2,3,13] (jC 13 (jq (jr [jw 4 0]) [4] .ret) (jq (jr [oA 14 0 2,ol 15 1 14,jb 16 .neq 15 0,om 17 16,ja 18 17 0 3,jm 19 17 1 18,jy 20 17 .neq 19 0,oo 21 (.pick (.s 17) (.c (.bool true)) (.s 20))]) [2,3,21] (jC 21 (jq (jr [oA 22 0 2,ol 23 1 22,oA 24 0 3,ol 25 1 24,jc 26 85 [.s 23,.s 25],om 4 26]) [4] .ret) (jq (jr [oA 27 1 2,oL 28 5 27,oA 29 1 3,oL 30 5 29,jc 31 86 [.s 28,.s 30],om 5 31]) [2,3,5] (jq (jr [om 32 5,jb 33 .neq 32 0]) [2,3,5,33] (jC 33 (jq (jr [om 34 5,om 4 34]) [4] .ret) (jq (jr [oA 35 6 2,ol 36 1 35,oA 37 6 3,ol 38 1 37,oo 39 (.bin .eql true (.s 36) (.s 38))]) [3,39] (jC 39 (jq (jr [jw 4 0]) [4] .ret) (jq (jr [oA 40 6 3,ol 41 1 40]) [41] (jC 41 (jq (jr [oo 4 (.mov (.c (.int .i64 (-1))))]) [4] .ret) .skip))))))))))) [] (jq (jr [jw 4 1]) [4] .ret))⟩
def tf78 : TFn := ⟨34,[.tmp 4],jq (jr [jv 4 je]) [0,1] (jq (jr [jv 5 je]) [0,1,5] (jq (jr [jw 6 0]) [0,1,5,6] (jq (jq (jr [om 8 0,oo 9 (.lenStr (.s 8)),jw 10 0]) [0,1,5,6,9,10] (jk 0 (jq (jr [jB 11 .lss 10 9]) [0,1,5,6,9,10,11] (jq (jC 11 .skip (.exit 0)) [0,1,5,6,9,10] (jq (.block 1 (jq (jr [om 12 10,om 7 12]) [0,1,5,6,7,9,10] (jq (jr [om 13 0,om 14 7,oo 15 (.indexStr (.s 13) (.s 14)),om 16 1,jB 17 .eql 15 16]) [0,1,5,6,7,9,10,17] (jC 17 (jq (jr [om 18 5,om 19 0,om 20 6,om 21 7,oo 22 (.sliceStr (.s 19) (some (.s 20)) (some (.s 21))),oo 23 (.buildSlice 1 9 [.s 22]),oo 24 (.append 1 9 16 (.s 18) (.s 23)),om 5 24]) [0,1,5,7,9,10] (jr [om 25 7,jb 26 .add 25 1,om 6 26])) .skip)))) [0,1,5,6,9,10] (jr [jb 27 .add 10 1,om 10 27])))))) [0,5,6] (jq (jr [om 28 5,om 29 0,om 30 6,oo 31 (.sliceStr (.s 29) (some (.s 30)) none),oo 32 (.buildSlice 1 9 [.s 31]),oo 33 (.append 1 9 16 (.s 28) (.s 32)),om 4 33]) [4] .ret))))⟩
def tf79 : TFn := ⟨45,[.tmp 2,.tmp 3],jq (jr [jw 2 0,jv 3 jf]) [0] (jq (jq (jr [om 7 0,oo 8 (.bin .eql false (.s 7) (.c (.str []))),om 9 8,jF 10 9 0,oF 11 9 (.lenStr (.s 10)),jy 12 9 .gtr 11 4,oo 13 (.pick (.s 9) (.c (.bool true)) (.s 12)),om 14 13,jF 15 14 0,oF 16 14 (.indexStr (.s 15) (jI 0)),oF 17 14 (.bin .eql false (.s 16) (.c (.int .u8 48))),jF 18 14 17,jT 19 18 0,oT 20 18 (.lenStr (.s 19)),jY 21 18 .gtr 20 1,oF 22 14 (.pick (.s 18) (.s 21) jf),oo 23 (.pick (.s 14) (.c (.bool true)) (.s 22))]) [0,23] (jC 23 (jq (jr [jw 2 0,jv 3 jf]) [2,3] .ret) .skip)) [0] (jq (jr [jw 4 0]) [0,4] (jq (jq (jr [om 24 0,oo 25 (.range (.s 24))]) [4,25] (jk 0 (jq (jr [oo 26 (.next (.s 25)),oe 27 0 26]) [4,25,26,27] (jq (jC 27 .skip (.exit 0)) [4,25,26] (.block 1 (jq (jr [oe 28 2 26,om 6 28]) [4,6,25] (.block 2 (jq (jr [om 30 6,oo 31 (.bin .geq false (.s 30) (.c (.int .i32 48))),om 32 31,jT 33 32 6,oT 34 32 (.bin .leq false (.s 33) (.c (.int .i32 57))),jp 35 32 34,om 29 35]) [4,6,25,29] (jC 29 (jr [om 36 4,oo 37 (.bin .mul false (jI 10) (.s 36)),om 38 6,oo 39 (.bin .sub false (.s 38) (.c (.int .i32 48))),oo 40 (.conv .i64 (.s 39)),jB 41 .add 37 40,om 4 41]) (jq (jr [jw 2 0,jv 3 jf]) [2,3] .ret)))))))))) [4] (jq (jr [om 42 4,om 43 4,jb 44 .leq 43 9999,om 2 42,om 3 44]) [2,3] .ret))))⟩
def tf80 : TFn := ⟨22,[.tmp 2],jq (jr [jv 2 jf]) [0] (jq (jq (jr [om 4 0,oo 5 (.lenStr (.s 4)),jw 6 0]) [0,5,6] (jk 0 (jq (jr [jB 7 .lss 6 5]) [0,5,6,7] (jq (jC 7 .skip (.exit 0)) [0,5,6] (jq (.block 1 (jq (jr [om 8 6,om 3 8]) [0,3,5,6] (jq (jr [om 9 0,om 10 3,oo 11 (.indexStr (.s 9) (.s 10)),oo 12 (.bin .lss false (.s 11) (.c (.int .u8 48))),om 13 12,jF 14 13 0,jF 15 13 3,oF 16 13 (.indexStr (.s 14) (.s 15)),oF 17 13 (.bin .gtr false (.s 16) (.c (.int .u8 57))),oo 18 (.pick (.s 13) (.c (.bool true)) (.s 17))]) [0,5,6,18] (jC 18 (jq (jr [jv 2 jf]) [2] .ret) .skip)))) [0,5,6] (jr [jb 19 .add 6 1,om 6 19])))))) [0] (jq (jr [om 20 0,oo 21 (.bin .neq false (.s 20) (.c (.str []))),om 2 21]) [2] .ret))⟩
def tf81 : TFn := ⟨35,[.tmp 4],jq (jr [jo 2 74 0,jo 3 46 1,jv 4 jf]) [2,3] (jq (jq (jr [oL 6 7 2,jc 7 84 [.s 6],oo 8 (.un .not (.s 7)),om 9 8,jM 10 9 5 3,oF 11 9 (.call 48 [.s 10]),oF 12 9 (.un .not (.s 11)),oo 13 (.pick (.s 9) (.c (.bool true)) (.s 12))]) [2,3,13] (jC 13 (jq (jr [jv 4 jf]) [4] .ret) (jq (jr [oA 14 0 2,ol 15 1 14,jb 16 .neq 15 0]) [2,3,16] (jC 16 (jq (jr [oA 17 0 2,ol 18 1 17,jb 19 .lss 18 0,om 4 19]) [4] .ret) .skip)))) [2,3] (jq (jr [oA 20 1 2,oL 21 5 20,oL 22 5 3,jc 23 86 [.s 21,.s 22],om 5 23]) [2,5] (jq (jr [om 24 5,jb 25 .lss 24 0,om 26 25,jF 27 26 5,jy 28 26 .eql 27 0,jF 29 26 28,jA 30 29 6 2,jl 31 29 1 30,oT 32 29 (.un .not (.s 31)),oF 33 26 (.pick (.s 29) (.s 32) jf),oo 34 (.pick (.s 26) (.c (.bool true)) (.s 33)),om 4 34]) [4] .ret)))⟩
def tf82 : TFn := ⟨9,[.tmp 2],jq (jr [jv 2 jf]) [0] (jq (jr [om 3 0,oo 4 (.bin .geq false (.s 3) (.c (.int .u8 48))),om 5 4,jT 6 5 0,oT 7 5 (.bin .leq false (.s 6) (.c (.int .u8 57))),jp 8 5 7,om 2 8]) [2] .ret)⟩
def tf83 : TFn := ⟨52,[.tmp 4],jq (jr [jw 4 0]) [0,1] (jq (.block 0 (jq (jr [om 10 0,om 11 1,jB 12 .eql 10 11,om 9 12]) [0,1,9] (jC 9 (jq (jr [jw 4 0]) [4] .ret) (jq (jr [om 14 0,oo 15 (.bin .eql false (.s 14) (.c (.str []))),om 13 15]) [0,1,13] (jC 13 (jq (jr [jw 4 1]) [4] .ret) (jq (jr [om 17 1,oo 18 (.bin .eql false (.s 17) (.c (.str []))),om 16 18]) [0,1,16] (jC 16 (jq (jr [oo 4 (.mov (.c (.int .i64 (-1))))]) [4] .ret) .skip))))))) [0,1] (jq (jr [om 19 0,jc 20 67 [.s 19,(.c (.int .u8 46))],om 21 1,jc 22 67 [.s 21,(.c (.int .u8 46))],om 5 20,om 6 22]) [5,6] (jq (jq (jr [jw 7 0]) [5,6,7] (jk 1 (jq (jq (jr [om 23 7,om 24 5,jn 25 24,jB 26 .lss 23 25,om 27 26,jT 28 27 7,jT 29 27 6,oT 30 27 (.len (.s 29)),oT 31 27 (.bin .lss false (.s 28) (.s 30)),jp 32 27 31]) [5,6,7,32] (jC 32 .skip (.exit 1))) [5,6,7] (jq (.block 2 (jq (jR [om 35 5,om 36 7,jx 37 1 35 36,ol 38 1 37,om 39 6,om 40 7,jx 41 1 39 40,ol 42 1 41,jc 43 87 [.s 38,.s 42],om 8 43]) [5,6,7,8] (jq (jr [om 44 8,jb 45 .neq 44 0]) [5,6,7,8,45] (jC 45 (jq (jr [om 46 8,om 4 46]) [4] .ret) .skip)))) [5,6,7] (jr [om 33 7,jb 34 .add 33 1,om 7 34]))))) [5,6] (jq (jr [om 47 5,jn 48 47,om 49 6,jn 50 49,jc 51 74 [.s 48,.s 50],om 4 51]) [4] .ret))))⟩
def tf84 : TFn := ⟨32,[.tmp 2],jq (jr [jo 1 74 0,jv 2 jf]) [1] (jq (jq (jr [oA 3 0 1,ol 4 1 3,oo 5 (.bin .eql false (.s 4) (.c (.int .i64 (-1)))),om 6 5,ja 7 6 0 1,jm 8 6 1 7,jy 9 6 .eql 8 1,oo 10 (.pick (.s 6) (.c (.bool true)) (.s 9))]) [1,10] (jC 10 (jq (jr [oA 11 1 1,oL 12 5 11,oo 13 (.build [(.int .i64 0),(.int .i64 0),(.int .i64 0),(.str []),(.str [])] []),oo 14 (.eqs false [0,0,0,2,2] (.s 12) (.s 13)),om 15 14,jA 16 15 6 1,jl 17 15 1 16,oT 18 15 (.un .not (.s 17)),jp 19 15 18,om 2 19]) [2] .ret) (jq (jr [oA 20 0 1,ol 21 1 20,jb 22 .neq 21 0]) [1,22] (jC 22 (jq (jr [jv 2 jf]) [2] .ret) .skip)))) [1] (jq (jr [oA 23 1 1,oL 24 5 23,jc 25 48 [.s 24],om 26 25,jA 27 26 1 1,jA 28 26 4 27,jl 29 26 1 28,oT 30 26 (.bin .eql false (.s 29) (.c (.str []))),jp 31 26 30,om 2 31]) [2] .ret))⟩
def tf85 : TFn := ⟨20,[.tmp 4],jq (jr [jw 4 0]) [0,1] (jq (jr [om 7 0,jc 8 88 [.s 7],om 5 8]) [0,1,5] (jq (jr [om 9 1,jc 10 88 [.s 9],om 6 10]) [0,1,5,6] (jq (jq (jr [om 11 5]) [0,1,6,11] (jC 11 (jq (jq (jr [om 12 6]) [12] (jC 12 (jq (jr [jw 4 0]) [4] .ret) .skip)) [] (jq (jr [oo 4 (.mov (.c (.int .i64 (-1))))]) [4] .ret)) .skip)) [0,1,6] (jq (jq (jr [om 13 6]) [0,1,13] (jC 13 (jq (jr [jw 4 1]) [4] .ret) .skip)) [0,1] (jq (jq (jr [om 14 0,om 15 1,jB 16 .lss 14 15]) [0,1,16] (jC 16 (jq (jr [oo 4 (.mov (.c (.int .i64 (-1))))]) [4] .ret) .skip)) [0,1] (jq (jq (jr [om 17 0,om 18 1,jB 19 .gtr 17 18]) [19] (jC 19 (jq (jr [jw 4 1]) [4] .ret) .skip)) [] (jq (jr [jw 4 0]) [4] .ret)))))))⟩
def tf86 : TFn := ⟨86,[.tmp 4],jq (jr [jo 2 46 0,jo 3 46 1,jw 4 0]) [2,3] (jq (jq (jR [oL 10 5 2,jc 11 48 [.s 10],oo 12 (.un .not (.s 11)),om 13 12,jM 14 13 5 3,oF 15 13 (.call 48 [.s 14]),oF 16 13 (.un .not (.s 15)),oo 17 (.pick (.s 13) (.c (.bool true)) (.s 16)),om 18 17,jM 19 18 5 2,oF 20 18 (.call 89 [.s 19]),jM 21 18 5 3,oF 22 18 (.call 89 [.s 21]),oF 23 18 (.eqs false [0,0,0,2,2] (.s 20) (.s 22)),oo 24 (.pick (.s 18) (.c (.bool true)) (.s 23))]) [2,3,24] (jC 24 (jq (jr [jw 4 0]) [4] .ret) .skip)) [2,3] (jq (jq (jR [oA 25 0 2,ol 26 1 25,oA 27 0 3,ol 28 1 27,jc 29 85 [.s 26,.s 28],oA 30 1 2,ol 31 1 30,oA 32 1 3,ol 33 1 32,jc 34 85 [.s 31,.s 33],oA 35 2 2,ol 36 1 35,oA 37 2 3,ol 38 1 37,jc 39 85 [.s 36,.s 38],oo 40 (.buildSlice 1 3 [.s 29,.s 34,.s 39]),jc 41 90 [.s 40],om 5 41]) [2,3,5] (jq (jr [om 42 5,jb 43 .neq 42 0]) [2,3,5,43] (jC 43 (jq (jr [om 44 5,om 4 44]) [4] .ret) .skip))) [2,3] (jq (jq (jr [oA 45 3 2,ol 46 1 45,oo 47 (.bin .eql false (.s 46) (.c (.str [])))]) [2,3,47] (jC 47 (jq (jr [jw 4 1]) [4] .ret) .skip)) [2,3] (jq (jq (jr [oA 48 3 3,ol 49 1 48,oo 50 (.bin .eql false (.s 49) (.c (.str [])))]) [2,3,50] (jC 50 (jq (jr [oo 4 (.mov (.c (.int .i64 (-1))))]) [4] .ret) .skip)) [2,3] (jq (jR [oA 51 3 2,ol 52 1 51,jc 53 78 [.s 52,(.c (.int .u8 46))],oA 54 3 3,ol 55 1 54,jc 56 78 [.s 55,(.c (.int .u8 46))],om 6 53,om 7 56]) [6,7] (jq (jq (jr [jw 8 0]) [6,7,8] (jk 0 (jq (jq (jr [om 57 8,om 58 6,jn 59 58,jB 60 .lss 57 59,om 61 60,jT 62 61 8,jT 63 61 7,oT 64 61 (.len (.s 63)),oT 65 61 (.bin .lss false (.s 62) (.s 64)),jp 66 61 65]) [6,7,8,66] (jC 66 .skip (.exit 0))) [6,7,8] (jq (.block 1 (jq (jR [om 69 6,om 70 8,jx 71 1 69 70,ol 72 1 71,om 73 7,om 74 8,jx 75 1 73 74,ol 76 1 75,jc 77 91 [.s 72,.s 76],om 9 77]) [6,7,8,9] (jq (jr [om 78 9,jb 79 .neq 78 0]) [6,7,8,9,79] (jC 79 (jq (jr [om 80 9,om 4 80]) [4] .ret) .skip)))) [6,7,8] (jr [om 67 8,jb 68 .add 67 1,om 8 68]))))) [6,7] (jq (jr [om 81 6,jn 82 81,om 83 7,jn 84 83,jc 85 85 [.s 82,.s 84],om 4 85]) [4] .ret)))))))⟩
def tf87 : TFn := ⟨40,[.tmp 4],jq (jr [jw 4 0]) [0,1] (jq (jr [om 11 0,jc 12 70 [.s 11],om 13 1,jc 14 70 [.s 13],om 5 12,om 6 14]) [0,1,5,6] (jq (.block 0 (jq (jr [om 16 5,om 17 16,jT 18 17 6,jp 19 17 18,om 15 19]) [0,1,5,6,15] (jC 15 (jq (jr [om 21 0,jc 22 69 [.s 21],om 20 22,oe 23 0 20,oe 24 1 20,om 7 23,om 8 24]) [1,7] (jq (jr [om 26 1,jc 27 69 [.s 26],om 25 27,oe 28 0 25,oe 29 1 25,om 9 28,om 10 29]) [7,9] (jq (jr [om 30 7,om 31 9,jc 32 74 [.s 30,.s 31],om 4 32]) [4] .ret))) (jq (jr [om 34 5,om 33 34]) [0,1,6,33] (jC 33 (jq (jr [oo 4 (.mov (.c (.int .i64 (-1))))]) [4] .ret) (jq (jr [om 36 6,om 35 36]) [0,1,35] (jC 35 (jq (jr [jw 4 1]) [4] .ret) .skip))))))) [0,1] (jq (jr [om 37 0,om 38 1,jc 39 92 [.s 37,.s 38],om 4 39]) [4] .ret)))⟩
def tf88 : TFn := ⟨6,[.tmp 2],jq (jr [jv 2 jf]) [0] (jq (jr [om 3 0,om 4 0,jB 5 .neq 3 4,om 2 5]) [2] .ret)⟩
def tf89 : TFn := ⟨5,[.cell 2 true 5],jq (jr [jo 1 46 0,oo 2 (.alloc 46 [(.int .i64 0),(.int .i64 0),(.int .i64 0),(.str []),(.str [])])]) [1,2] (jq (jr [oA 3 4 1,⟨none,.store 1 (.s 3) (.c (.str [])),none⟩]) [1,2] (jq (jr [oL 4 5 1,jS 5 2 4]) [2] .ret))⟩
def tf90 : TFn := ⟨18,[.tmp 2],jq (jr [jw 2 0]) [0] (jq (jr [jw 3 0]) [0,3] (jq (jq (jr [om 6 0,jn 7 6,jw 8 0]) [3,6,7,8] (jk 0 (jq (jr [jB 9 .lss 8 7]) [3,6,7,8,9] (jq (jC 9 .skip (.exit 0)) [3,6,7,8] (jq (.block 1 (jq (jr [jx 10 1 6 8,ol 11 1 10,om 5 11]) [3,5,6,7,8] (jq (jr [om 12 5,om 13 3,jB 14 .neq 12 13]) [3,5,6,7,8,14] (jC 14 (jq (jr [om 15 5,om 2 15]) [2] .ret) .skip)))) [3,6,7,8] (jr [jb 16 .add 8 1,om 8 16])))))) [3] (jq (jr [om 17 3,om 2 17]) [2] .ret)))⟩
def tf91 : TFn := ⟨39,[.tmp 4],jq (jr [jw 4 0]) [0,1] (jq (jr [om 11 0,jc 12 80 [.s 11],om 13 1,jc 14 80 [.s 13],om 5 12,om 6 14]) [0,1,5,6] (jq (jq (jr [om 15 5,om 16 15,jT 17 16 6,jp 18 16 17]) [0,1,5,6,18] (jC 18 (jq (jr [om 20 0,jc 21 79 [.s 20],om 19 21,oe 22 0 19,oe 23 1 19,om 7 22,om 8 23]) [1,7] (jq (jr [om 25 1,jc 26 79 [.s 25],om 24 26,oe 27 0 24,oe 28 1 24,om 9 27,om 10 28]) [7,9] (jq (jr [om 29 7,om 30 9,jc 31 85 [.s 29,.s 30],om 4 31]) [4] .ret))) .skip)) [0,1,5,6] (jq (jq (jr [om 32 5,om 33 6,oo 34 (.bin .neq true (.s 32) (.s 33))]) [0,1,5,34] (jC 34 (jq (jq (jr [om 35 5]) [35] (jC 35 (jq (jr [oo 4 (.mov (.c (.int .i64 (-1))))]) [4] .ret) .skip)) [] (jq (jr [jw 4 1]) [4] .ret)) .skip)) [0,1] (jq (jr [om 36 0,om 37 1,jc 38 93 [.s 36,.s 37],om 4 38]) [4] .ret))))⟩
def tf92 : TFn := ⟨13,[.tmp 4],jq (jr [jw 4 0]) [0,1] (jq (.block 0 (jq (jr [om 6 0,om 7 1,jB 8 .lss 6 7,om 5 8]) [0,1,5] (jC 5 (jq (jr [oo 4 (.mov (.c (.int .i64 (-1))))]) [4] .ret) (jq (jr [om 10 0,om 11 1,jB 12 .gtr 10 11,om 9 12]) [9] (jC 9 (jq (jr [jw 4 1]) [4] .ret) .skip))))) [] (jq (jr [jw 4 0]) [4] .ret))⟩
def tf93 : TFn := ⟨20,[.tmp 4],jq (jr [jw 4 0]) [0,1] (jq (jr [om 7 0,jc 8 94 [.s 7],om 5 8]) [0,1,5] (jq (jr [om 9 1,jc 10 94 [.s 9],om 6 10]) [0,1,5,6] (jq (jq (jr [om 11 5]) [0,1,6,11] (jC 11 (jq (jq (jr [om 12 6]) [12] (jC 12 (jq (jr [jw 4 0]) [4] .ret) .skip)) [] (jq (jr [oo 4 (.mov (.c (.int .i64 (-1))))]) [4] .ret)) .skip)) [0,1,6] (jq (jq (jr [om 13 6]) [0,1,13] (jC 13 (jq (jr [jw 4 1]) [4] .ret) .skip)) [0,1] (jq (jq (jr [om 14 0,om 15 1,jB 16 .lss 14 15]) [0,1,16] (jC 16 (jq (jr [oo 4 (.mov (.c (.int .i64 (-1))))]) [4] .ret) .skip)) [0,1] (jq (jq (jr [om 17 0,om 18 1,jB 19 .gtr 17 18]) [19] (jC 19 (jq (jr [jw 4 1]) [4] .ret) .skip)) [] (jq (jr [jw 4 0]) [4] .ret)))))))⟩
def tf94 : TFn := ⟨6,[.tmp 2],jq (jr [jv 2 jf]) [0] (jq (jr [om 3 0,om 4 0,jB 5 .neq 3 4,om 2 5]) [2] .ret)⟩
theorem tp3 : QF Tryd.prog Tryd.f3 = some tf3.erase := by kernel_rfl
theorem tp4 : QF Tryd.prog Tryd.f4 = some tf4.erase := by kernel_rfl
theorem tp5 : QF Tryd.prog Tryd.f5 = some tf5.erase := by kernel_rfl
theorem tp6 : QF Tryd.prog Tryd.f6 = some tf6.erase := by kernel_rfl
theorem tp7 : QF Tryd.prog Tryd.f7 = some tf7.erase := by kernel_rfl
theorem tp8 : QF Tryd.prog Tryd.f8 = some tf8.erase := by kernel_rfl
theorem tp9 : QF Tryd.prog Tryd.f9 = some tf9.erase := by kernel_rfl
theorem Qdj : QF Tryd.prog Tryd.f10 = some tf10.erase := by kernel_rfl
theorem Qdk : QF Tryd.prog Tryd.f11 = some tf11.erase := by kernel_rfl
theorem Qdl : QF Tryd.prog Tryd.f12 = some tf12.erase := by kernel_rfl
theorem Qdm : QF Tryd.prog Tryd.f13 = some tf13.erase := by kernel_rfl
theorem Qdn : QF Tryd.prog Tryd.f14 = some tf14.erase := by kernel_rfl
theorem Qdo : QF Tryd.prog Tryd.f15 = some tf15.erase := by kernel_rfl
theorem Qc6 : QF Tryd.prog Tryd.f16 = some tf16.erase := by kernel_rfl
theorem Qdp : QF Tryd.prog Tryd.f17 = some tf17.erase := by kernel_rfl
theorem Qdq : QF Tryd.prog Tryd.f18 = some tf18.erase := by kernel_rfl
theorem Qdr : QF Tryd.prog Tryd.f19 = some tf19.erase := by kernel_rfl
theorem Qds : QF Tryd.prog Tryd.f20 = some tf20.erase := by kernel_rfl
theorem Qdt : QF Tryd.prog Tryd.f21 = some tf21.erase := by kernel_rfl
theorem Qdu : QF Tryd.prog Tryd.f22 = some tf22.erase := by kernel_rfl
theorem Qdv : QF Tryd.prog Tryd.f23 = some tf23.erase := by kernel_rfl
theorem Qdw : QF Tryd.prog Tryd.f24 = some tf24.erase := by kernel_rfl
theorem Qdx : QF Tryd.prog Tryd.f25 = some tf25.erase := by kernel_rfl
theorem Qdy : QF Tryd.prog Tryd.f26 = some tf26.erase := by kernel_rfl
theorem Qdz : QF Tryd.prog Tryd.f27 = some tf27.erase := by kernel_rfl
theorem QdA : QF Tryd.prog Tryd.f28 = some tf28.erase := by kernel_rfl
theorem QdB : QF Tryd.prog Tryd.f29 = some tf29.erase := by kernel_rfl
theorem QdC : QF Tryd.prog Tryd.f30 = some tf30.erase := by kernel_rfl
theorem QdD : QF Tryd.prog Tryd.f31 = some tf31.erase := by kernel_rfl
theorem QdE : QF Tryd.prog Tryd.f32 = some tf32.erase := by kernel_rfl
theorem QdF : QF Tryd.prog Tryd.f33 = some tf33.erase := by kernel_rfl
theorem QdG : QF Tryd.prog Tryd.f34 = some tf34.erase := by kernel_rfl
theorem QdH : QF Tryd.prog Tryd.f35 = some tf35.erase := by kernel_rfl
theorem QdI : QF Tryd.prog Tryd.f36 = some tf36.erase := by kernel_rfl
theorem QdJ : QF Tryd.prog Tryd.f37 = some tf37.erase := by kernel_rfl
theorem Qc7 : QF Tryd.prog Tryd.f38 = some tf38.erase := by kernel_rfl
theorem QdK : QF Tryd.prog Tryd.f39 = some tf39.erase := by kernel_rfl
theorem QdL : QF Tryd.prog Tryd.f40 = some tf40.erase := by kernel_rfl
theorem QdM : QF Tryd.prog Tryd.f41 = some tf41.erase := by kernel_rfl
theorem QdN : QF Tryd.prog Tryd.f42 = some tf42.erase := by kernel_rfl
theorem QdO : QF Tryd.prog Tryd.f43 = some tf43.erase := by kernel_rfl
theorem QdP : QF Tryd.prog Tryd.f44 = some tf44.erase := by kernel_rfl
theorem QdQ : QF Tryd.prog Tryd.f45 = some tf45.erase := by kernel_rfl
theorem QdR : QF Tryd.prog Tryd.f46 = some tf46.erase := by kernel_rfl
theorem QdS : QF Tryd.prog Tryd.f47 = some tf47.erase := by kernel_rfl
theorem QdT : QF Tryd.prog Tryd.f48 = some tf48.erase := by kernel_rfl
theorem QdU : QF Tryd.prog Tryd.f49 = some tf49.erase := by kernel_rfl
theorem QdV : QF Tryd.prog Tryd.f50 = some tf50.erase := by kernel_rfl
theorem QdW : QF Tryd.prog Tryd.f51 = some tf51.erase := by kernel_rfl
theorem QdX : QF Tryd.prog Tryd.f52 = some tf52.erase := by kernel_rfl
theorem QdY : QF Tryd.prog Tryd.f53 = some tf53.erase := by kernel_rfl
theorem QdZ : QF Tryd.prog Tryd.f54 = some tf54.erase := by kernel_rfl
theorem Qd0 : QF Tryd.prog Tryd.f55 = some tf55.erase := by kernel_rfl
theorem Qd1 : QF Tryd.prog Tryd.f56 = some tf56.erase := by kernel_rfl
theorem Qd2 : QF Tryd.prog Tryd.f57 = some tf57.erase := by kernel_rfl
theorem Qd3 : QF Tryd.prog Tryd.f58 = some tf58.erase := by kernel_rfl
theorem Qd4 : QF Tryd.prog Tryd.f59 = some tf59.erase := by kernel_rfl
theorem Qd5 : QF Tryd.prog Tryd.f60 = some tf60.erase := by kernel_rfl
theorem Qd6 : QF Tryd.prog Tryd.f61 = some tf61.erase := by kernel_rfl
theorem Qd7 : QF Tryd.prog Tryd.f62 = some tf62.erase := by kernel_rfl
theorem Qd8 : QF Tryd.prog Tryd.f63 = some tf63.erase := by kernel_rfl
theorem Qd9 : QF Tryd.prog Tryd.f64 = some tf64.erase := by kernel_rfl
theorem Qea : QF Tryd.prog Tryd.f65 = some tf65.erase := by kernel_rfl
theorem Qeb : QF Tryd.prog Tryd.f66 = some tf66.erase := by kernel_rfl
theorem Qec : QF Tryd.prog Tryd.f67 = some tf67.erase := by kernel_rfl
theorem Qed : QF Tryd.prog Tryd.f68 = some tf68.erase := by kernel_rfl
theorem Qee : QF Tryd.prog Tryd.f69 = some tf69.erase := by kernel_rfl
theorem Qef : QF Tryd.prog Tryd.f70 = some tf70.erase := by kernel_rfl
theorem Qeg : QF Tryd.prog Tryd.f71 = some tf71.erase := by kernel_rfl
theorem Qeh : QF Tryd.prog Tryd.f72 = some tf72.erase := by kernel_rfl
theorem Qei : QF Tryd.prog Tryd.f73 = some tf73.erase := by kernel_rfl
theorem Qej : QF Tryd.prog Tryd.f74 = some tf74.erase := by kernel_rfl
theorem Qek : QF Tryd.prog Tryd.f75 = some tf75.erase := by kernel_rfl
theorem Qel : QF Tryd.prog Tryd.f76 = some tf76.erase := by kernel_rfl
theorem Qem : QF Tryd.prog Tryd.f77 = some tf77.erase := by kernel_rfl
theorem Qen : QF Tryd.prog Tryd.f78 = some tf78.erase := by kernel_rfl
theorem Qeo : QF Tryd.prog Tryd.f79 = some tf79.erase := by kernel_rfl
theorem Qep : QF Tryd.prog Tryd.f80 = some tf80.erase := by kernel_rfl
theorem Qeq : QF Tryd.prog Tryd.f81 = some tf81.erase := by kernel_rfl
theorem Qer : QF Tryd.prog Tryd.f82 = some tf82.erase := by kernel_rfl
theorem Qes : QF Tryd.prog Tryd.f83 = some tf83.erase := by kernel_rfl
theorem Qet : QF Tryd.prog Tryd.f84 = some tf84.erase := by kernel_rfl
theorem Qeu : QF Tryd.prog Tryd.f85 = some tf85.erase := by kernel_rfl
theorem Qev : QF Tryd.prog Tryd.f86 = some tf86.erase := by kernel_rfl
theorem Qew : QF Tryd.prog Tryd.f87 = some tf87.erase := by kernel_rfl
theorem Qex : QF Tryd.prog Tryd.f88 = some tf88.erase := by kernel_rfl
theorem Qey : QF Tryd.prog Tryd.f89 = some tf89.erase := by kernel_rfl
theorem Qez : QF Tryd.prog Tryd.f90 = some tf90.erase := by kernel_rfl
theorem QeA : QF Tryd.prog Tryd.f91 = some tf91.erase := by kernel_rfl
theorem QeB : QF Tryd.prog Tryd.f92 = some tf92.erase := by kernel_rfl
theorem QeC : QF Tryd.prog Tryd.f93 = some tf93.erase := by kernel_rfl
theorem QeD : QF Tryd.prog Tryd.f94 = some tf94.erase := by kernel_rfl
theorem Z7 : Tryd.prog.follows .mixedOrders = true := by kernel_rfl
end Go.Proofs
namespace M3
open Go Go.Abs
def My (n : Int) : Bool := decide (0 <= n) && decide (n <= 9999)
def ZT (m n : Int) : Int := if m < n then -1 else if n < m then 1 else 0
def Yj (c : UInt8) : Bool := decide (48 <= c.toNat) && decide (c.toNat <= 57)
def Y3 (s : List UInt8) : Bool := s.all Yj && !decide (s = [])
theorem HG {s : List UInt8} {i : Nat} (h : i < s.length) (hd : Yj s[i] = false) : Y3 s = false := by
 have : s.all Yj = false := by
  rw [Bool.eq_false_iff]
  intro ha
  rw [QeR] at ha
  rw [ha _ (QeM h)] at hd
  cases hd
 rw [Y3, this]; rfl
theorem Mb {s : List UInt8} {i : Nat} (hi : s.length <= i) (h : (s.take i).all Yj = true) : Y3 s = !decide (s = []) := by
 rw [QeX hi] at h
 rw [Y3, h]; rfl
def N7 (v n : Int) : Int := if v.tmod n < 0 then v.tmod n + n else v.tmod n
def ZH (l : List Int) : D := .sl (l.map fun x => [.int .i64 x])
theorem Ba {v n : Int} (h : 0 < n) : 0 <= N7 v n := by
 unfold N7
 have h1 := Int.tmod_lt_of_pos v h
 have h2 := Int.lt_tmod_of_pos v h
 split <;> omega
theorem C9 {v n : Int} (h : 0 < n) : N7 v n < n := by
 unfold N7
 have h1 := Int.tmod_lt_of_pos v h
 split <;> omega
end M3
namespace M3
open Go Go.Abs
def J7 (c : Int) : List UInt8 -> List UInt8 -> List (List UInt8)
 | [], cur => [cur]
 | x :: xs, cur => if (x.toNat : Int) = c then cur :: J7 c xs [] else J7 c xs (cur ++ [x])
def Q1 (s : List UInt8) (c : Int) : List (List UInt8) := J7 c s []
def YL (l : List (List UInt8)) : List (List D) := l.map fun x => [.str x]
def SplitI (s : List UInt8) (c : Int) (i k : Nat) (acc : List (List UInt8)) : Prop :=
 i <= s.length /\ k <= i /\ acc.length <= i /\ Q1 s c = acc ++ J7 c (s.drop i) ((s.take i).drop k)
theorem SplitI.zero {s : List UInt8} {c : Int} : SplitI s c 0 0 [] := ⟨QeT _, Nat.le_refl _, Nat.le_refl _, by simp [Q1]⟩
theorem SplitI.hit {s : List UInt8} {c : Int} {i k : Nat} {acc : List (List UInt8)} (h : SplitI s c i k acc) (hi : i < s.length) (he : ((s[i]).toNat : Int) = c) : SplitI s c (i + 1) (i + 1) (acc ++ [(s.take i).drop k]) := by
 obtain ⟨h1, h2, h3, h4⟩ := h
 refine ⟨hi, Nat.le_refl _, by simp; omega, ?_⟩
 rw [QeY hi] at h4
 simp only [J7, he, if_true] at h4
 rw [h4, List.append_assoc]
 simp
theorem SplitI.miss {s : List UInt8} {c : Int} {i k : Nat} {acc : List (List UInt8)} (h : SplitI s c i k acc) (hi : i < s.length) (he : ¬ ((s[i]).toNat : Int) = c) : SplitI s c (i + 1) k acc := by
 obtain ⟨h1, h2, h3, h4⟩ := h
 refine ⟨hi, Wa, Wa, ?_⟩
 rw [QeY hi] at h4
 simp only [J7, he, if_false] at h4
 rw [h4, List.take_succ_eq_append_getElem hi, List.drop_append_of_le_length Wm]
theorem SplitI.done {s : List UInt8} {c : Int} {i k : Nat} {acc : List (List UInt8)} (h : SplitI s c i k acc) (hi : s.length <= i) : Q1 s c = acc ++ [s.drop k] := by
 obtain ⟨h1, h2, h3, h4⟩ := h
 rw [h4, Qe2 hi, QeX hi]
 rfl
end M3
namespace M3
open Go Go.Abs
def KO (a b : List UInt8) : Int := if Op.bytesLess a b = true then -1 else if a = b then 0 else 1
def XP (c : Int) : Bool := decide (48 <= c) && decide (c <= 57)
def ZM (c : UInt8) : Bool := (decide (97 <= c.toNat) && decide (c.toNat <= 122)) || (decide (48 <= c.toNat) && decide (c.toNat <= 57)) || decide (c.toNat = 45)
def KV (s : List UInt8) : Bool := decide (1 <= s.length) && decide (s.length <= 8) && s.all ZM
def val (s : List UInt8) : Nat := s.foldl (fun n c => 10 * n + (c.toNat - 48)) 0
def Ye (s : List UInt8) : Int × Bool :=
 if s.length < 1 \/ 9 < s.length \/ (1 < s.length /\ s.head? = some 48) \/ s.all Yj = false \/ 9999 < val s then (0, false) else ((val s : Int), true)
def MB (a b : List UInt8) : Int :=
 if Y3 a = true /\ Y3 b = true then ZT (Ye a).1 (Ye b).1
 else if Y3 a = true then -1 else if Y3 b = true then 1 else KO a b
def TM : List (List UInt8) -> List (List UInt8) -> Int
 | [], [] => 0
 | [], _ :: _ => -1
 | _ :: _, [] => 1
 | a :: l, b :: m => if MB a b ≠ 0 then MB a b else TM l m
def Gr (a b : List UInt8) : Int := if a = b then 0 else if a = [] then 1 else if b = [] then -1 else TM (Q1 a 46) (Q1 b 46)
def HZ (pre : Bool) (t : List UInt8) : Bool := KV t && !(pre && Y3 t && !(Ye t).2)
def J5 (s : List UInt8) (pre : Bool) : Bool := decide (s = []) || (decide ((Q1 s 46).length <= 4) && (Q1 s 46).all (HZ pre))
def J8 (a b c : Int) (p q : List UInt8) : Bool := My a && My b && My c && J5 p true && J5 q false
def HD (a b c : Int) (p q : List UInt8) (a' b' c' : Int) (p' q' : List UInt8) : Int :=
 if J8 a b c p q = false \/ J8 a' b' c' p' q' = false then 0
 else if ZT a a' ≠ 0 then ZT a a' else if ZT b b' ≠ 0 then ZT b b' else if ZT c c' ≠ 0 then ZT c c' else Gr p p'
theorem Yh {α : Type} {s : List α} {p : α -> Bool} {i : Nat} (h : i < s.length) (hd : p s[i] = false) : s.all p = false := by
 rw [Bool.eq_false_iff]
 intro ha
 rw [QeR] at ha
 rw [ha _ (QeM h)] at hd
 cases hd
theorem Y8 {α : Type} {s : List α} {p : α -> Bool} {i : Nat} (hi : s.length <= i) (h : (s.take i).all p = true) : s.all p = true := by rwa [QeX hi] at h
theorem Nj {s : List UInt8} {i : Nat} (h : i < s.length) : val (s.take (i + 1)) = 10 * val (s.take i) + (s[i].toNat - 48) := by
 rw [List.take_succ_eq_append_getElem h]; simp only [val, List.foldl_append, List.foldl_cons, List.foldl_nil]
theorem Cb : ∀ {s : List UInt8}, s.all Yj = true -> val s < 10 ^ s.length := by
 intro s
 rw [<- List.reverse_reverse s]
 generalize s.reverse = r
 induction r with
 | nil => intro _; decide
 | cons c r ih =>
  intro h
  rw [List.reverse_cons, List.all_append, QeL] at h
  have h1 := ih h.1
  have h2 : Yj c = true := by simpa using h.2
  simp only [Yj, QeL, decide_eq_true_eq] at h2
  rw [List.reverse_cons]
  simp only [val, List.foldl_append, List.foldl_cons, List.foldl_nil, List.length_append, List.length_cons, List.length_nil] at h1 ⊢
  rw [Nat.pow_succ]
  omega
theorem RR {l m : List (List UInt8)} {i : Nat} (h1 : i < l.length) (h2 : i < m.length) (h : MB l[i] m[i] = 0) : TM (l.drop i) (m.drop i) = TM (l.drop (i + 1)) (m.drop (i + 1)) := by
 rw [QeY h1, QeY h2]
 simp [TM, h]
theorem Yq {l m : List (List UInt8)} {i : Nat} (h1 : i < l.length) (h2 : i < m.length) (h : MB l[i] m[i] ≠ 0) : TM (l.drop i) (m.drop i) = MB l[i] m[i] := by
 rw [QeY h1, QeY h2]
 simp [TM, h]
theorem Yp {l m : List (List UInt8)} {i : Nat} (hl : i <= l.length) (hm : i <= m.length) (h : l.length <= i \/ m.length <= i) : TM (l.drop i) (m.drop i) = ZT l.length m.length := by
 rcases Qe5 i l.length with h1 | h1 <;> rcases Qe5 i m.length with h2 | h2
 ·omega
 ·rw [QeY h1, Qe2 h2]
  simp only [TM, ZT]
  rw [if_neg Wa, if_pos Wa]
 ·rw [QeY h2, Qe2 h1]
  simp only [TM, ZT]
  rw [if_pos Wa]
 ·rw [Qe2 h1, Qe2 h2]
  simp only [TM, ZT]
  rw [if_neg Wa, if_neg Wa]
end M3
namespace M3
end M3
namespace M3
theorem QbQ {s : List UInt8} (h : 0 < s.length) (e : ((s[0]).toNat : Int) = 48) : s.head? = some 48 := by
 cases s with
 | nil => simp at h
 | cons x r =>
  simp only [List.getElem_cons_zero] at e
  have : x = 48 := UInt8.toNat_inj.1 (by simpa using (by omega : x.toNat = 48))
  simp [this]
theorem Py {s : List UInt8} (h : 0 < s.length) (e : ¬ ((s[0]).toNat : Int) = 48) : s.head? ≠ some 48 := by
 cases s with
 | nil => simp at h
 | cons x r =>
  simp only [List.getElem_cons_zero] at e
  intro hh
  simp at hh
  subst hh
  exact e rfl
theorem Ma {s : List UInt8} {i : Nat} (h : ¬ (s.length < 1 \/ 9 < s.length \/ (1 < s.length /\ s.head? = some 48))) (hi : s.length <= i) (ha : (s.take i).all Yj = true) (hv : val (s.take i) <= 9999) : Ye s = ((val (s.take i) : Int), true) := by
 have h1 := Y8 hi ha
 rw [QeX hi] at hv ⊢
 rw [Ye, if_neg]
 rintro (q | q | q | q | q)
 ·exact h (.inl q)
 ·exact h (.inr (.inl q))
 ·exact h (.inr (.inr q))
 ·rw [h1] at q; cases q
 ·omega
theorem FB {s : List UInt8} {i : Nat} (hi : s.length <= i) (hv : 9999 < val (s.take i)) : Ye s = (0, false) := by
 rw [QeX hi] at hv
 rw [Ye, if_pos (.inr (.inr (.inr (.inr hv))))]
theorem Xr {s : List UInt8} {i : Nat} (h : i < s.length) (hd : Yj s[i] = false) : Ye s = (0, false) := by
 rw [Ye, if_pos (.inr (.inr (.inr (.inl (Yh h hd)))))]
theorem FC {s : List UInt8} (h : s.length < 1 \/ 9 < s.length) : Ye s = (0, false) := by
 rw [Ye, if_pos (by rcases h with h | h; exact .inl h; exact .inr (.inl h))]
theorem Yz {s : List UInt8} (h : 1 < s.length) (e : ((s[0]).toNat : Int) = 48) : Ye s = (0, false) := by
 rw [Ye, if_pos (.inr (.inr (.inl ⟨h, QbQ Wa e⟩)))]
end M3
namespace M3
open Go Go.Abs
theorem Qm (l : List (List UInt8)) : (YL l).length = l.length := by simp [YL]
theorem X5 {l : List (List UInt8)} {i : Nat} (h : i < l.length) : (YL l)[((i : Nat) : Int).toNat]? = some [.str l[i]] := by simp [YL, h]
theorem KI {c : Int} : ∀ (s cur : List UInt8), (J7 c s cur).length <= s.length + 1 /\ ∀ x ∈ J7 c s cur, x.length <= s.length + cur.length
 | [], cur => by simp [J7]
 | x :: xs, cur => by
  simp only [J7]
  split
  ·obtain ⟨h1, h2⟩ := KI (c := c) xs []
   refine ⟨by simp; omega, fun y hy => ?_⟩
   rcases QeJ.1 hy with rfl | hy
   ·simp <;> omega
   ·have := h2 y hy; simp at this ⊢; omega
  ·obtain ⟨h1, h2⟩ := KI (c := c) xs (cur ++ [x])
   refine ⟨by simp; omega, fun y hy => ?_⟩
   have := h2 y hy; simp at this ⊢; omega
theorem Ff {s : List UInt8} {c : Int} : (Q1 s c).length <= s.length + 1 := (KI s []).1
theorem X9 {s : List UInt8} {c : Int} {i : Nat} (h : i < (Q1 s c).length) (hl : s.length <= 1000000) : ((Q1 s c)[i]).length <= 1000000 := by
 have := (KI (c := c) s []).2 _ (QeM h)
 simp only [List.length_nil, Nat.add_zero] at this
 exact Qe0 this hl
end M3
namespace M3
open Go Go.Abs
theorem G5 {s : List UInt8} {pre : Bool} {i : Nat} (hs : s ≠ []) (h : i < (Q1 s 46).length) (hd : HZ pre (Q1 s 46)[i] = false) : J5 s pre = false := by
 rw [J5, Yh h hd]; simp [hs]
theorem Hg {s : List UInt8} {pre : Bool} {i : Nat} (h4 : (Q1 s 46).length <= 4) (hi : (Q1 s 46).length <= i) (h : ((Q1 s 46).take i).all (HZ pre) = true) : J5 s pre = true := by
 rw [J5, Y8 hi h]; simp [h4]
def Ym : List Int -> Int
 | [] => 0
 | x :: r => if x ≠ 0 then x else Ym r
theorem NM {l : List Int} {i : Nat} (h : i < l.length) (e : ¬ l[i] = 0) : Ym (l.drop i) = l[i] := by
 rw [QeY h]; simp [Ym, e]
theorem Rx {l : List Int} {i : Nat} (h : i < l.length) (e : l[i] = 0) : Ym (l.drop i) = Ym (l.drop (i + 1)) := by
 rw [QeY h]; simp [Ym, e]
end M3
namespace M3
open Go Go.Abs
structure Cu where
 e : Int
 a : Int
 b : Int
 c : Int
 p : List UInt8
 q : List UInt8
 f : Bool
def YZ (e a b c : Int) (p q : List UInt8) (f : Bool) : Bool :=
 if e = 0 then J8 a b c p q && decide (q = [])
 else (decide (e = -1) || decide (e = 1)) && (decide (a = 0) && (decide (b = 0) && (decide (c = 0) && (decide (p = []) && (decide (q = []) && true))))) && !f
def Yt (e a b c : Int) (p q : List UInt8) (f : Bool) (e' a' b' c' : Int) (p' q' : List UInt8) (f' : Bool) : Int :=
 if YZ e a b c p q f = false \/ YZ e' a' b' c' p' q' f' = false then 0
 else if e ≠ e' \/ e ≠ 0 then ZT e e'
 else if HD a b c p q a' b' c' p' q' ≠ 0 then HD a b c p q a' b' c' p' q'
 else if f = f' then 0 else if f' = true then -1 else 1
def Jj (e a b c : Int) (p q : List UInt8) (f : Bool) (a' b' c' : Int) (p' q' : List UInt8) : Bool :=
 if YZ e a b c p q f = false \/ J8 a' b' c' p' q' = false then false
 else if e ≠ 0 then decide (e < 0)
 else decide (HD a b c p q a' b' c' p' q' < 0) || (decide (HD a b c p q a' b' c' p' q' = 0) && !f)
end M3
namespace M3
def Hf (e a b c : Int) (p q : List UInt8) (f : Bool) (e' a' b' c' : Int) (p' q' : List UInt8) (f' : Bool) : Bool :=
 YZ e a b c p q f && YZ e' a' b' c' p' q' f' && decide (Yt e a b c p q f e' a' b' c' p' q' f' < 0)
def Gb (e a b c : Int) (p q : List UInt8) (f : Bool) (e' a' b' c' : Int) (p' q' : List UInt8) (f' : Bool) (x y z : Int) (r s : List UInt8) : Bool :=
 Hf e a b c p q f e' a' b' c' p' q' f' && J8 x y z r s && Jj e a b c p q f x y z r s && !Jj e' a' b' c' p' q' f' x y z r s
end M3
namespace M3
open Go Go.Abs
theorem JM {s : List UInt8} (h : s = [] \/ 4 < s.length) : Ye s = (0, false) := by
 rcases h with rfl | h
 ·rfl
 ·unfold Ye
  split
  ·rfl
  ·rename_i hn
   exfalso
   apply hn
   by_cases h1 : s.head? = some 48
   ·exact .inr (.inr (.inl ⟨Wa, h1⟩))
   ·cases hd : s.all Yj with
    | false => exact .inr (.inr (.inr (.inl rfl)))
    | true =>
     refine .inr (.inr (.inr (.inr ?_)))
     cases s with
     | nil => simp at h
     | cons x r =>
      simp only [List.all_cons, QeL, Yj, decide_eq_true_eq] at hd
      simp only [List.head?_cons, QeK] at h1
      have hx : 1 <= x.toNat - 48 := by
       have : x.toNat ≠ 48 := fun e => h1 (UInt8.toNat_inj.1 (by simpa using e))
       omega
      have key : ∀ (r : List UInt8) (n : Nat), n * 10 ^ r.length <= r.foldl (fun n c => 10 * n + (c.toNat - 48)) n := by
       intro r
       induction r with
       | nil => intro n; simp
       | cons c r ih =>
        intro n
        simp only [List.foldl_cons, List.length_cons]
        refine Qe0 ?_ (ih _)
        rw [Nat.pow_succ, <- Nat.mul_assoc, Nat.mul_right_comm]
        exact Nat.mul_le_mul_right _ Wa
      have h2 := key r (10 * 0 + (x.toNat - 48))
      have h3 : 10 ^ 4 <= 10 ^ r.length := Nat.pow_le_pow_right Wa (by simp at h; omega)
      have h4 : 10 ^ r.length <= (10 * 0 + (x.toNat - 48)) * 10 ^ r.length := Nat.le_mul_of_pos_left _ Wa
      show 9999 < (x :: r).foldl (fun n c => 10 * n + (c.toNat - 48)) 0
      simp only [List.foldl_cons]
      omega
theorem Hi {s : List UInt8} {i : Nat} (h : ¬ (s = [] \/ 4 < s.length \/ (1 < s.length /\ s.head? = some 48))) (hi : s.length <= i) (ha : (s.take i).all Yj = true) : Ye s = ((val (s.take i) : Int), true) := by
 have h1 := Y8 hi ha
 have hv := Cb h1
 have h4 : s.length <= 4 := Nat.le_of_not_lt fun q => h (.inr (.inl q))
 have hp : 10 ^ s.length <= 10 ^ 4 := Nat.pow_le_pow_right Wa h4
 refine Ma ?_ hi ha ?_
 ·rintro (q | q | q)
  ·exact h (.inl (List.eq_nil_of_length_eq_zero Wa))
  ·omega
  ·exact h (.inr (.inr q))
 ·rw [QeX hi]; omega
end M3
namespace M3
open Go Go.Abs
def Gd (s : List UInt8) : Bool := decide ((Q1 s 46).length <= 4) && (Q1 s 46).all KV
theorem QaI {t : List UInt8} (h0 : ¬ t = []) (h8 : t.length <= 8) (h : t.all ZM = true) : KV t = true := by
 have : 1 <= t.length := List.length_pos_iff.2 h0
 simp [KV, h, h8, this]
theorem Xq {t : List UInt8} (h : t = [] \/ 8 < t.length) : KV t = false := by
 rcases h with rfl | h
 ·rfl
 ·simp [KV]; omega
theorem Xp {t : List UInt8} (h : t.all ZM = false) : KV t = false := by simp [KV, h]
theorem ZO {s : List UInt8} {i : Nat} (h : i < (Q1 s 46).length) (hd : KV (Q1 s 46)[i] = false) : Gd s = false := by
 rw [Gd, Yh h hd, Bool.and_false]
theorem YI {s : List UInt8} {i : Nat} (hi : (Q1 s 46).length <= i) (h : ((Q1 s 46).take i).all KV = true) : Gd s = decide ((Q1 s 46).length <= 4) := by
 rw [Gd, Y8 hi h, Bool.and_true]
theorem YF (s : List UInt8) : J5 s false = (decide (s = []) || Gd s) := by
 have : HZ false = KV := by funext t; simp [HZ]
 rw [J5, Gd, this]
end M3
namespace M3
open Go Go.Abs
def FX (t : List UInt8) : Bool := !(Y3 t && !(Ye t).2)
def MC (s : List UInt8) : Bool := Gd s && (Q1 s 46).all FX
theorem SY {s : List UInt8} {i : Nat} (h : i < (Q1 s 46).length) (hd : FX (Q1 s 46)[i] = false) : MC s = false := by
 rw [MC, Yh h hd, Bool.and_false]
theorem PN {s : List UInt8} {i : Nat} (h1 : Gd s = true) (hi : (Q1 s 46).length <= i) (h : ((Q1 s 46).take i).all FX = true) : MC s = true := by
 rw [MC, Y8 hi h, h1]; rfl
theorem Xd (s : List UInt8) : J5 s true = (decide (s = []) || MC s) := by
 have : HZ true = fun t => KV t && FX t := by funext t; simp [HZ, FX]
 rw [J5, MC, Gd, this, Bool.and_assoc]
 congr 2
 induction (Q1 s 46) with
 | nil => rfl
 | cons x xs ih => simp only [List.all_cons, ih]; cases KV x <;> cases FX x <;> simp
theorem M1 {a b : Int} : ZT a b = 0 ↔ a = b := by unfold ZT; (repeat' split) <;> omega
theorem GQ {a b c : Int} {p q : List UInt8} {a' b' c' : Int} {p' q' : List UInt8} (h1 : J8 a b c p q = true) (h2 : J8 a' b' c' p' q' = true)
  (h : (decide (a = a') && (decide (b = b') && (decide (c = c') && (decide (p = p') && (decide (([] : List UInt8) = []) && true))))) = true) : HD a b c p q a' b' c' p' q' = 0 := by
 simp only [QeL, decide_eq_true_eq, and_true] at h
 obtain ⟨rfl, rfl, rfl, rfl⟩ := h
 have e : ∀ x, ZT x x = 0 := fun x => M1.2 rfl
 simp [HD, h1, h2, e, Gr]
theorem Kx {a b c : Int} {p q : List UInt8} {a' b' c' : Int} {p' q' : List UInt8} (h1 : J8 a b c p q = true) (h2 : J8 a' b' c' p' q' = true)
  (h : ¬ Ym [ZT a a', ZT b b', ZT c c'] = 0) : Ym [ZT a a', ZT b b', ZT c c'] = HD a b c p q a' b' c' p' q' := by
 simp only [Ym, HD, h1, h2] at h ⊢
 simp only [Bool.true_eq_false, or_self, if_false]
 repeat' split
 all_goals first | rfl | (exfalso; simp_all)
theorem NG {a b c : Int} {p q : List UInt8} {a' b' c' : Int} {p' q' : List UInt8} (h1 : J8 a b c p q = true) (h2 : J8 a' b' c' p' q' = true) (h : Ym [ZT a a', ZT b b', ZT c c'] = 0) :
  HD a b c p q a' b' c' p' q' = Gr p p' := by
 simp only [Ym] at h
 simp only [HD, h1, h2, Bool.true_eq_false, or_self, if_false]
 repeat' split
 all_goals first | rfl | (exfalso; simp_all)
theorem BB {a b c : Int} {p : List UInt8} {a' b' c' : Int} {p' : List UInt8} (h : (decide (a = a') && (decide (b = b') && (decide (c = c') && (decide (p = p') && (decide (([] : List UInt8) = []) && true))))) = false)
  (h0 : Ym [ZT a a', ZT b b', ZT c c'] = 0) : p ≠ p' := by
 rintro rfl
 have e : ZT a a' = 0 /\ ZT b b' = 0 /\ ZT c c' = 0 := by
  simp only [Ym] at h0
  revert h0
  repeat' split
  all_goals simp_all
 simp only [M1] at e
 simp [e] at h
theorem X2 {a b c : Int} {p q : List UInt8} {a' b' c' : Int} {p' q' : List UInt8} (h1 : J8 a b c p q = true) (h2 : J8 a' b' c' p' q' = true)
  (h : (decide (a = a') && (decide (b = b') && (decide (c = c') && (decide (p = p') && (decide (([] : List UInt8) = []) && true))))) = false)
  (h0 : Ym [ZT a a', ZT b b', ZT c c'] = 0) (hp : p = []) : HD a b c p q a' b' c' p' q' = 1 := by
 rw [NG h1 h2 h0, Gr, if_neg (BB h h0), if_pos hp]
theorem X3 {a b c : Int} {p q : List UInt8} {a' b' c' : Int} {p' q' : List UInt8} (h1 : J8 a b c p q = true) (h2 : J8 a' b' c' p' q' = true)
  (h0 : Ym [ZT a a', ZT b b', ZT c c'] = 0) (hp : ¬ p = []) (hp' : p' = []) : HD a b c p q a' b' c' p' q' = -1 := by
 have : p ≠ p' := fun e => hp (e.trans hp')
 rw [NG h1 h2 h0, Gr, if_neg this, if_neg hp, if_pos hp']
theorem Qav {a b c : Int} {p q : List UInt8} {a' b' c' : Int} {p' q' : List UInt8} (h1 : J8 a b c p q = true) (h2 : J8 a' b' c' p' q' = true)
  (h : (decide (a = a') && (decide (b = b') && (decide (c = c') && (decide (p = p') && (decide (([] : List UInt8) = []) && true))))) = false)
  (h0 : Ym [ZT a a', ZT b b', ZT c c'] = 0) (hp : ¬ p = []) (hp' : ¬ p' = []) : HD a b c p q a' b' c' p' q' = TM ((Q1 p 46).drop 0) ((Q1 p' 46).drop 0) := by
 rw [NG h1 h2 h0, Gr, if_neg (BB h h0), if_neg hp, if_neg hp']; rfl
end M3
namespace M3
open Go Go.Abs
theorem JG {e a b c : Int} {p q : List UInt8} {f : Bool} {e' a' b' c' : Int} {p' q' : List UInt8} {f' : Bool} (h1 : YZ e a b c p q f = true) (h2 : YZ e' a' b' c' p' q' f' = true) (h : ¬ e = 0 \/ ¬ e' = 0) :
  Yt e a b c p q f e' a' b' c' p' q' f' = ZT e e' := by
 rw [Yt, h1, h2, if_neg Wg, if_pos]
 by_cases h0 : e = 0
 ·exact .inl Wa
 ·exact .inr h0
end M3
namespace Go.Proofs
open Go Go.Abs M3
theorem JU {n : Int} : Ok Tryd.prog 63 [.int .i64 n] (.bool (My n)) := by
 refine Ok.ofT Z7 Tryd.func63 Qd8 (QeH Z) ?_
 show TW _ _ tf63.body _ _
 refine Qb fun K hK => Qa Z (kc1 hK Z ?_)
 refine Qb fun K hK => Qa Z (Tj Z Z (Qa Z ?_))
 refine Qs (g := 5) Z (fun h1 => ?_) (fun h1 => ?_)
 ·try rw [h1]
  try simp only [qB] at h1
  refine Qd Z (Qa Z (Qd Z (Co Z Z (Qf Z Z (Qa Z (kc1 hK Z ?_))))))
  refine Qn (Qk Z ?_)
  (repeat clear hK K); simp_all [My] <;> omega
 ·try rw [h1]
  try simp only [qB] at h1
  refine gn2 Z Z (Qf Z Z (Qa Z (kc1 hK Z ?_)))
  refine Qn (Qk Z ?_)
  (repeat clear hK K); simp_all [My] <;> omega
theorem Xk {n : Int} : Ok Tryd.prog 50 [.int .i64 n] (.bool (My n)) := by
 refine Ok.ofT Z7 Tryd.func50 QdV (QeH Z) ?_
 show TW _ _ tf50.body _ _
 refine Qb fun K hK => Qa Z (kc1 hK Z ?_)
 refine Qb fun K hK => Qa Z (Tj Z Z (Qa Z ?_))
 refine Qs (g := 5) Z (fun h1 => ?_) (fun h1 => ?_)
 ·try rw [h1]
  try simp only [qB] at h1
  refine Qd Z (Qa Z (Qd Z (Co Z Z (Qf Z Z (Qa Z (kc1 hK Z ?_))))))
  refine Qn (Qk Z ?_)
  (repeat clear hK K); simp_all [My] <;> omega
 ·try rw [h1]
  try simp only [qB] at h1
  refine gn2 Z Z (Qf Z Z (Qa Z (kc1 hK Z ?_)))
  refine Qn (Qk Z ?_)
  (repeat clear hK K); simp_all [My] <;> omega
theorem KZ {n : Int} : Ok Tryd.prog 88 [.int .i64 n] (.bool false) := by
 refine Ok.ofT Z7 Tryd.func88 Qex (QeH Z) ?_
 show TW _ _ tf88.body _ _
 refine Qb fun K hK => Qa Z (kc1 hK Z ?_)
 refine Qb fun K hK => mv2 Z Z (Y7 Z Z (Qa Z (kc1 hK Z ?_)))
 refine Qn (Qk Z ?_)
 (repeat clear hK K); simp_all
theorem Zu {m n : Int} : Ok Tryd.prog 74 [.int .i64 m, .int .i64 n] (.int .i64 (ZT m n)) := by
 refine Ok.ofT Z7 Tryd.func74 Qej (QeH Z) ?_
 show TW _ _ tf74.body _ _
 refine Qb fun K hK => Qa Z (kc2 hK Z Z ?_)
 refine QD ?_ -- 0
 refine QI (Qb fun K hK => mv2 Z Z (YX Z Z (Qa Z (kc3 hK Z Z Z ?_))))
 refine Qx Z (fun h1 => ?_) (fun h1 => ?_)
 ·try rw [h1]
  try simp only [qB] at h1
  refine Qb fun K hK => Qa Z (kc1 hK Z ?_)
  refine Qn (Qr (Qh (Qq Z ?_)))
  (repeat clear hK K); simp_all [ZT] <;> omega
 ·try rw [h1]
  try simp only [qB] at h1
  refine Qb fun K hK => mv2 Z Z (Fi Z Z (Qa Z (kc1 hK Z ?_)))
  refine Qx Z (fun h2 => ?_) (fun h2 => ?_)
  ·try rw [h2]
   try simp only [qB] at h2
   refine Qb fun K hK => Qa Z (kc1 hK Z ?_)
   refine Qn (Qr (Qh (Qq Z ?_)))
   (repeat clear hK K); simp_all [ZT] <;> omega
  ·try rw [h2]
   try simp only [qB] at h2
   refine Qt (Qi (Zs (ZJ) (Qb fun K hK => Qa Z (kc1 hK Z ?_))))
   refine Qn (Qq Z ?_)
   (repeat clear hK K); simp_all [ZT] <;> omega
theorem ZE {m n : Int} : Ok Tryd.prog 85 [.int .i64 m, .int .i64 n] (.int .i64 (ZT m n)) := by
 refine Ok.ofT Z7 Tryd.func85 Qeu (QeH Z) ?_
 show TW _ _ tf85.body _ _
 refine Qb fun K hK => Qa Z (kc2 hK Z Z ?_)
 refine Qb fun K hK => Qa Z (Qw (KZ) Z Z (.inr Z) (Qa Z (kc3 hK Z Z Z ?_)))
 refine Qb fun K hK => Qa Z (Qw (KZ) Z Z (.inr Z) (Qa Z (kc4 hK Z Z Z Z ?_)))
 refine QD ?_ -- 0
 refine Qb fun K hK => Qa Z (kc4 hK Z Z Z Z ?_)
 refine Qx Z (fun h1 => ?_) (fun h1 => ?_)
 ·try rw [h1]
  try simp only [qB] at h1
  refine QD ?_ -- 1
  refine Qb fun K hK => Qa Z (kc1 hK Z ?_)
  refine Qx Z (fun h2 => ?_) (fun h2 => ?_)
  ·try rw [h2]
   try simp only [qB] at h2
   refine Qb fun K hK => Qa Z (kc1 hK Z ?_)
   refine Qn (Qh (Qh (Qq Z ?_)))
   (repeat clear hK K); simp_all [ZT] <;> omega
  ·try rw [h2]
   try simp only [qB] at h2
   refine Qt (Zs (ZJ) (Qb fun K hK => Qa Z (kc1 hK Z ?_)))
   refine Qn (Qh (Qq Z ?_))
   (repeat clear hK K); simp_all [ZT] <;> omega
 ·try rw [h1]
  try simp only [qB] at h1
  refine Qt (ks3 Z Z Z ?_)
  refine QD ?_ -- 2
  refine Qb fun K hK => Qa Z (kc3 hK Z Z Z ?_)
  refine Qx Z (fun h3 => ?_) (fun h3 => ?_)
  ·try rw [h3]
   try simp only [qB] at h3
   refine Qb fun K hK => Qa Z (kc1 hK Z ?_)
   refine Qn (Qh (Qq Z ?_))
   (repeat clear hK K); simp_all [ZT] <;> omega
  ·try rw [h3]
   try simp only [qB] at h3
   refine Qt (ks2 Z Z ?_)
   refine QD ?_ -- 3
   refine Qb fun K hK => mv2 Z Z (YX Z Z (kc3 hK Z Z Z ?_))
   refine Qx Z (fun h4 => ?_) (fun h4 => ?_)
   ·try rw [h4]
    try simp only [qB] at h4
    refine Qb fun K hK => Qa Z (kc1 hK Z ?_)
    refine Qn (Qh (Qq Z ?_))
    (repeat clear hK K); simp_all [ZT] <;> omega
   ·try rw [h4]
    try simp only [qB] at h4
    refine Qt (ks2 Z Z ?_)
    refine QD ?_ -- 4
    refine Qb fun K hK => mv2 Z Z (Fi Z Z (kc1 hK Z ?_))
    refine Qx Z (fun h5 => ?_) (fun h5 => ?_)
    ·try rw [h5]
     try simp only [qB] at h5
     refine Qb fun K hK => Qa Z (kc1 hK Z ?_)
     refine Qn (Qh (Qq Z ?_))
     (repeat clear hK K); simp_all [ZT] <;> omega
    ·try rw [h5]
     try simp only [qB] at h5
     refine Qt (Zs (ZJ) (Qb fun K hK => Qa Z (kc1 hK Z ?_)))
     refine Qn (Qq Z ?_)
     (repeat clear hK K); simp_all [ZT] <;> omega
theorem _root_.Wo {p : Prop} (h : p := by simp [Yj]; omega) : p := h
theorem _root_.Wc {p : Prop} (h : p := by first | exact Qo (by omega) (by omega) | exact QO (by omega) (by omega) | exact Q2 (by omega) (by omega) | rfl) : p := h
theorem XD {s : List UInt8} (hl : s.length <= 1000000) : Ok Tryd.prog 80 [.str s] (.bool (Y3 s)) := by
 refine Ok.ofT Z7 Tryd.func80 Qep (QeH Z) ?_
 show TW _ _ tf80.body _ _
 refine Qb fun K hK => Qa Z (kc1 hK Z ?_)
 refine QD ?_ -- 0
 refine Qb fun K hK => Qa Z (Yl Z (Qa Z (kc3 hK Z Z Z ?_)))
 refine QI ?_
 refine Yb (ι := Nat) (fun i => ⟨[(0, .str s), (5, .int .i64 s.length), (6, .int .i64 i)], []⟩) (fun i => i <= s.length /\ (s.take i).all Yj = true) (fun i => s.length - i) 0 ?_ ?_ ?_
 ·exact Q4 (kp3 rfl rfl rfl)
 ·exact ⟨QeT _, rfl⟩
 intro i hI
 try dsimp only
 refine Qb fun K hK => YX Z Z (kc4 hK Z Z Z Z ?_)
 refine QD ?_ -- 1
 refine Qx Z (fun h1 => ?_) (fun h1 => ?_)
 ·try rw [h1]
  try simp only [qB] at h1
  refine Qt (ks3 Z Z Z ?_)
  refine QD ?_ -- 2
  refine QI (Qb fun K hK => mv2 Z Z (kc4 hK Z Z Z Z ?_))
  refine Qb fun K hK => mv2 Z Z (Yg Z Z Wa (Hb Wa) (YX Z Z (Qa Z ?_)))
  refine Qs (g := 13) Z (fun h2 => ?_) (fun h2 => ?_)
  ·try rw [h2]
   try simp only [qB] at h2
   refine gn4 Z Z Z Z (Qf Z Z (kc4 hK Z Z Z Z ?_))
   refine Zg Z (Qb fun K hK => Qa Z (kc1 hK Z ?_))
   refine Qn (Qr (Qh (Q5 (Qr (Qh (Qk Z ?_))))))
   exact (HG (i := i) Wa Wo).symm
  ·try rw [h2]
   try simp only [qB] at h2
   refine Qd Z (Qa Z (Qd Z (Qa Z (Qd Z (Yg Z Z Wa (Hb Wa) (Qd Z (Fi Z Z (Qf Z Z (kc4 hK Z Z Z Z ?_)))))))))
   refine Qx Z (fun h3 => ?_) (fun h3 => ?_)
   ·try rw [h3]
    try simp only [qB] at h3
    refine Qb fun K hK => Qa Z (kc1 hK Z ?_)
    refine Qn (Qr (Qh (Q5 (Qr (Qh (Qk Z ?_))))))
    exact (HG (i := i) Wa Wo).symm
   ·try rw [h3]
    try simp only [qB] at h3
    refine Qt (Qi (ks3 Z Z Z (Za fun K hK => Zc Z Z Wc (Qa Z (hK _ ?_)))))
    refine Ql (i + 1) ?_ ?_ ?_
    ·exact Q4 (kp3 rfl rfl rfl)
    ·exact ⟨Wa, Zb Wa hI.2 Wo⟩
    ·first | omega | (simp only; omega) | (dsimp only; omega)
 ·try rw [h1]
  try simp only [qB] at h1
  refine ZC (QP (Qz (QH (ks1 Z (Qb fun K hK => Qa Z (Li Z Z (Qa Z (kc1 hK Z ?_))))))))
  refine Qn (Qk Z ?_)
  exact (Mb (i := i) Wa hI.2).symm
theorem YU {s : List UInt8} {c : Int} (hl : s.length <= 1000000) : Ok Tryd.prog 67 [.str s, .int .u8 c] (.sl (YL (Q1 s c))) := by
 refine Ok.ofT Z7 Tryd.func67 Qec (QeH Z) ?_
 show TW _ _ tf67.body _ _
 refine Qb fun K hK => Qa Z (kc2 hK Z Z ?_)
 refine Qb fun K hK => Qa Z (kc3 hK Z Z Z ?_)
 refine Qb fun K hK => Qa Z (kc4 hK Z Z Z Z ?_)
 refine QD ?_ -- 0
 refine Qb fun K hK => Qa Z (kc5 hK Z Z Z Z Z ?_)
 refine QI ?_
 refine Yb (ι := Nat × Nat × List (List UInt8)) (fun ⟨i, k, acc⟩ => ⟨[(0, .str s), (1, .int .u8 c), (5, .osl 25 acc.length), (6, .int .i64 k), (7, .int .i64 i)], [(25, ⟨YL acc, 1, 9, true⟩)]⟩) (fun ⟨i, k, acc⟩ => SplitI s c i k acc) (fun ⟨i, k, acc⟩ => s.length - i) (0, 0, []) ?_ ?_ ?_
 ·exact le_trans (XN 5 25 1 9 rfl rfl) (Zw (l := [0, 1, 5, 6, 7]) (lH := [25]) (kp5 rfl rfl rfl rfl rfl) (Qv rfl Qy) rfl rfl rfl)
 ·exact SplitI.zero
 intro ⟨i, k, acc⟩ hI
 have hI1 := hI.1
 have hI2 := hI.2.1
 have hI3 := hI.2.2.1
 try dsimp only
 refine QD ?_ -- 1
 refine Qb fun K hK => mv2 Z Z (Yl Z (YX Z Z (kc6 hK Z Z Z Z Z Z ?_)))
 refine Qx Z (fun h1 => ?_) (fun h1 => ?_)
 ·try rw [h1]
  try simp only [qB] at h1
  refine Qt (ks5 Z Z Z Z Z ?_)
  refine QD ?_ -- 2
  refine QI (Qb fun K hK => mv2 Z Z (Yg Z Z Wa (Hb Wa) (Qa Z (Yr Z Z (kc6 hK Z Z Z Z Z Z ?_)))))
  refine Qx Z (fun h2 => ?_) (fun h2 => ?_)
  ·try rw [h2]
   try simp only [qB] at h2
   refine Qb fun K hK => mv2 Z Z (mv2 Z Z (Hv Z Z Z Wa Wa Wa Z (QK Z Z (KW Z Z (fun _ h => Hs Z Z Z h) Z (by simp [YL]) Z Z Z Wm Wm (Qa Z (kc4 hK Z Z Z Z ?_))))))
   refine Za fun K hK => Qa Z (Zc Z Z Wc (Qa Z (hK _ ?_)))
   refine Qi (ks5 Z Z Z Z Z (Za fun K hK => Qa Z (Zc Z Z Wc (Qa Z (hK _ ?_)))))
   refine Ql (i + 1, i + 1, acc ++ [(s.take i).drop k]) ?_ ?_ ?_
   ·exact Zw (l := [0, 1, 5, 6, 7]) (lH := [25]) (kp5 rfl rfl rfl rfl rfl) (Qv rfl Qy) (by simp [YL, D.scrub]) (by simp [YL, Box.scrub]) rfl
   ·exact hI.hit Wa Wd
   ·show s.length - (i + 1) < s.length - i; omega
  ·try rw [h2]
   try simp only [qB] at h2
   refine Qt (Qi (ks5 Z Z Z Z Z (Za fun K hK => Qa Z (Zc Z Z Wc (Qa Z (hK _ ?_))))))
   refine Ql (i + 1, k, acc) ?_ ?_ ?_
   ·exact Zw (l := [0, 1, 5, 6, 7]) (lH := [25]) (kp5 rfl rfl rfl rfl rfl) (Qv rfl Qy) (by simp [YL, D.scrub]) (by simp [YL, Box.scrub]) rfl
   ·exact hI.miss Wa Wd
   ·show s.length - (i + 1) < s.length - i; omega
 ·try rw [h1]
  try simp only [qB] at h1
  refine ZC (QP (Qz (QH (ks3 Z Z Z (Qb fun K hK => mv2 Z Z (Qa Z (Hv Z Z Z Wa Wa Wa Z (QK Z Z (KW Z Z (fun _ h => Hs Z Z Z h) Z (by simp [YL]) Z Z Z Wm Wm ?_)))))))))
  refine Qa Z (kc1 hK Z ?_)
  refine Qn (ZV Z ?_)
  rw [hI.done Wa]; simp [XZ, D.fz, D.fzS, GB, lk, D.can, D.canS, YL]
theorem X1 {s : List UInt8} {c : Int} (hl : s.length <= 1000000) : Ok Tryd.prog 78 [.str s, .int .u8 c] (.sl (YL (Q1 s c))) := by
 refine Ok.ofT Z7 Tryd.func78 Qen (QeH Z) ?_
 show TW _ _ tf78.body _ _
 refine Qb fun K hK => Qa Z (kc2 hK Z Z ?_)
 refine Qb fun K hK => Qa Z (kc3 hK Z Z Z ?_)
 refine Qb fun K hK => Qa Z (kc4 hK Z Z Z Z ?_)
 refine QD ?_ -- 0
 refine Qb fun K hK => Qa Z (Yl Z (Qa Z (kc6 hK Z Z Z Z Z Z ?_)))
 refine QI ?_
 refine Yb (ι := Nat × Nat × List (List UInt8)) (fun ⟨i, k, acc⟩ => ⟨[(0, .str s), (1, .int .u8 c), (5, .osl 24 acc.length), (6, .int .i64 k), (9, .int .i64 s.length), (10, .int .i64 i)], [(24, ⟨YL acc, 1, 9, true⟩)]⟩) (fun ⟨i, k, acc⟩ => SplitI s c i k acc) (fun ⟨i, k, acc⟩ => s.length - i) (0, 0, []) ?_ ?_ ?_
 ·exact le_trans (XN 5 24 1 9 rfl rfl) (Zw (l := [0, 1, 5, 6, 9, 10]) (lH := [24]) (kp6 rfl rfl rfl rfl rfl rfl) (Qv rfl Qy) rfl rfl rfl)
 ·exact SplitI.zero
 intro ⟨i, k, acc⟩ hI
 have hI1 := hI.1
 have hI2 := hI.2.1
 have hI3 := hI.2.2.1
 try dsimp only
 refine Qb fun K hK => YX Z Z (kc7 hK Z Z Z Z Z Z Z ?_)
 refine QD ?_ -- 1
 refine Qx Z (fun h1 => ?_) (fun h1 => ?_)
 ·try rw [h1]
  try simp only [qB] at h1
  refine Qt (ks6 Z Z Z Z Z Z ?_)
  refine QD ?_ -- 2
  refine QI (Qb fun K hK => mv2 Z Z (kc7 hK Z Z Z Z Z Z Z ?_))
  refine Qb fun K hK => mv2 Z Z (Yg Z Z Wa (Hb Wa) (Qa Z (Yr Z Z (kc8 hK Z Z Z Z Z Z Z Z ?_))))
  refine Qx Z (fun h2 => ?_) (fun h2 => ?_)
  ·try rw [h2]
   try simp only [qB] at h2
   refine Qb fun K hK => mv2 Z Z (mv2 Z Z (Hv Z Z Z Wa Wa Wa Z (QK Z Z (KW Z Z (fun _ h => Hs Z Z Z h) Z (by simp [YL]) Z Z Z Wm Wm (Qa Z (kc6 hK Z Z Z Z Z Z ?_))))))
   refine Za fun K hK => Qa Z (Zc Z Z Wc (Qa Z (hK _ ?_)))
   refine Qi (ks6 Z Z Z Z Z Z (Za fun K hK => Zc Z Z Wc (Qa Z (hK _ ?_))))
   refine Ql (i + 1, i + 1, acc ++ [(s.take i).drop k]) ?_ ?_ ?_
   ·exact Zw (l := [0, 1, 5, 6, 9, 10]) (lH := [24]) (kp6 rfl rfl rfl rfl rfl rfl) (Qv rfl Qy) (by simp [YL, D.scrub]) (by simp [YL, Box.scrub]) rfl
   ·exact hI.hit Wa Wd
   ·show s.length - (i + 1) < s.length - i; omega
  ·try rw [h2]
   try simp only [qB] at h2
   refine Qt (Qi (ks6 Z Z Z Z Z Z (Za fun K hK => Zc Z Z Wc (Qa Z (hK _ ?_)))))
   refine Ql (i + 1, k, acc) ?_ ?_ ?_
   ·exact Zw (l := [0, 1, 5, 6, 9, 10]) (lH := [24]) (kp6 rfl rfl rfl rfl rfl rfl) (Qv rfl Qy) (by simp [YL, D.scrub]) (by simp [YL, Box.scrub]) rfl
   ·exact hI.miss Wa Wd
   ·show s.length - (i + 1) < s.length - i; omega
 ·try rw [h1]
  try simp only [qB] at h1
  refine ZC (QP (Qz (QH (ks3 Z Z Z (Qb fun K hK => mv2 Z Z (Qa Z (Hv Z Z Z Wa Wa Wa Z (QK Z Z (KW Z Z (fun _ h => Hs Z Z Z h) Z (by simp [YL]) Z Z Z Wm Wm ?_)))))))))
  refine Qa Z (kc1 hK Z ?_)
  refine Qn (ZV Z ?_)
  rw [hI.done Wa]; simp [XZ, D.fz, D.fzS, GB, lk, D.can, D.canS, YL]
open Go Go.Abs M3
theorem JB {s : List UInt8} : Ok Tryd.prog 94 [.str s] (.bool false) := by
 refine Ok.ofT Z7 Tryd.func94 QeD (QeH Z) ?_
 show TW _ _ tf94.body _ _
 refine Qb fun K hK => Qa Z (kc1 hK Z ?_)
 refine Qb fun K hK => mv2 Z Z (Li Z Z (Qa Z (kc1 hK Z ?_)))
 refine Qn (Qk Z ?_)
 simp
theorem XU {a b : List UInt8} : Ok Tryd.prog 93 [.str a, .str b] (.int .i64 (KO a b)) := by
 refine Ok.ofT Z7 Tryd.func93 QeC (QeH Z) ?_
 show TW _ _ tf93.body _ _
 refine Qb fun K hK => Qa Z (kc2 hK Z Z ?_)
 refine Qb fun K hK => Qa Z (Qw (JB) Z Z (.inr Z) (Qa Z (kc3 hK Z Z Z ?_)))
 refine Qb fun K hK => Qa Z (Qw (JB) Z Z (.inr Z) (Qa Z (kc4 hK Z Z Z Z ?_)))
 refine QD ?_ -- 0
 refine Qb fun K hK => Qa Z (kc4 hK Z Z Z Z ?_)
 refine Qx Z (fun h1 => ?_) (fun h1 => ?_)
 ·try rw [h1]
  try simp only [qB] at h1
  refine QD ?_ -- 1
  refine Qb fun K hK => Qa Z (kc1 hK Z ?_)
  refine Qx Z (fun h2 => ?_) (fun h2 => ?_)
  ·try rw [h2]
   try simp only [qB] at h2
   refine Qb fun K hK => Qa Z (kc1 hK Z ?_)
   refine Qn (Qh (Qh (Qq Z ?_)))
   (repeat clear hK K); simp_all [KO]
  ·try rw [h2]
   try simp only [qB] at h2
   refine Qt (Zs (ZJ) (Qb fun K hK => Qa Z (kc1 hK Z ?_)))
   refine Qn (Qh (Qq Z ?_))
   (repeat clear hK K); simp_all [KO]
 ·try rw [h1]
  try simp only [qB] at h1
  refine Qt (ks3 Z Z Z ?_)
  refine QD ?_ -- 2
  refine Qb fun K hK => Qa Z (kc3 hK Z Z Z ?_)
  refine Qx Z (fun h3 => ?_) (fun h3 => ?_)
  ·try rw [h3]
   try simp only [qB] at h3
   refine Qb fun K hK => Qa Z (kc1 hK Z ?_)
   refine Qn (Qh (Qq Z ?_))
   (repeat clear hK K); simp_all [KO]
  ·try rw [h3]
   try simp only [qB] at h3
   refine Qt (ks2 Z Z ?_)
   refine QD ?_ -- 3
   refine Qb fun K hK => mv2 Z Z (Qbx Z Z (kc3 hK Z Z Z ?_))
   refine Qx Z (fun h4 => ?_) (fun h4 => ?_)
   ·try rw [h4]
    try simp only [qB] at h4
    refine Qb fun K hK => Qa Z (kc1 hK Z ?_)
    refine Qn (Qh (Qq Z ?_))
    (repeat clear hK K); simp_all [KO]
   ·try rw [h4]
    try simp only [qB] at h4
    refine Qt (ks2 Z Z ?_)
    refine QD ?_ -- 4
    refine Qb fun K hK => mv2 Z Z (Qbv Z Z (kc1 hK Z ?_))
    refine Qx Z (fun h5 => ?_) (fun h5 => ?_)
    ·try rw [h5]
     try simp only [qB] at h5
     refine Qb fun K hK => Qa Z (kc1 hK Z ?_)
     refine Qn (Qh (Qq Z ?_))
     (repeat clear hK K); simp_all [KO]
    ·try rw [h5]
     try simp only [qB] at h5
     refine Qt (Zs (ZJ) (Qb fun K hK => Qa Z (kc1 hK Z ?_)))
     refine Qn (Qq Z ?_)
     (repeat clear hK K); simp_all [KO]
theorem HT {a b : List UInt8} : Ok Tryd.prog 92 [.str a, .str b] (.int .i64 (KO a b)) := by
 refine Ok.ofT Z7 Tryd.func92 QeB (QeH Z) ?_
 show TW _ _ tf92.body _ _
 refine Qb fun K hK => Qa Z (kc2 hK Z Z ?_)
 refine QD ?_ -- 0
 refine QI (Qb fun K hK => mv2 Z Z (Qbx Z Z (Qa Z (kc3 hK Z Z Z ?_))))
 refine Qx Z (fun h1 => ?_) (fun h1 => ?_)
 ·try rw [h1]
  try simp only [qB] at h1
  refine Qb fun K hK => Qa Z (kc1 hK Z ?_)
  refine Qn (Qr (Qh (Qq Z ?_)))
  (repeat clear hK K); simp_all [KO]
 ·try rw [h1]
  try simp only [qB] at h1
  refine Qb fun K hK => mv2 Z Z (Qbv Z Z (Qa Z (kc1 hK Z ?_)))
  refine Qx Z (fun h2 => ?_) (fun h2 => ?_)
  ·try rw [h2]
   try simp only [qB] at h2
   refine Qb fun K hK => Qa Z (kc1 hK Z ?_)
   refine Qn (Qr (Qh (Qq Z ?_)))
   (repeat clear hK K); simp_all [KO]
  ·try rw [h2]
   try simp only [qB] at h2
   refine Qt (Qi (Zs (ZJ) (Qb fun K hK => Qa Z (kc1 hK Z ?_))))
   refine Qn (Qq Z ?_)
   (repeat clear hK K); simp_all [KO]
theorem HR {c : Int} : Ok Tryd.prog 82 [.int .u8 c] (.bool (XP c)) := by
 refine Ok.ofT Z7 Tryd.func82 Qer (QeH Z) ?_
 show TW _ _ tf82.body _ _
 refine Qb fun K hK => Qa Z (kc1 hK Z ?_)
 refine Qb fun K hK => Qa Z (Tj Z Z (Qa Z ?_))
 refine Qs (g := 5) Z (fun h1 => ?_) (fun h1 => ?_)
 ·try rw [h1]
  try simp only [qB] at h1
  refine Qd Z (Qa Z (Qd Z (Co Z Z (Qf Z Z (Qa Z (kc1 hK Z ?_))))))
  refine Qn (Qk Z ?_)
  (repeat clear hK K); simp_all [XP] <;> omega
 ·try rw [h1]
  try simp only [qB] at h1
  refine gn2 Z Z (Qf Z Z (Qa Z (kc1 hK Z ?_)))
  refine Qn (Qk Z ?_)
  (repeat clear hK K); simp_all [XP] <;> omega
theorem Yv {s : List UInt8} (hl : s.length <= 1000000) : Ok Tryd.prog 70 [.str s] (.bool (Y3 s)) := by
 refine Ok.ofT Z7 Tryd.func70 Qef (QeH Z) ?_
 show TW _ _ tf70.body _ _
 refine Qb fun K hK => Qa Z (kc1 hK Z ?_)
 refine QD ?_ -- 0
 refine Qb fun K hK => Qa Z (kc2 hK Z Z ?_)
 refine QI ?_
 refine Yb (ι := Nat) (fun i => ⟨[(0, .str s), (3, .int .i64 i)], []⟩) (fun i => i <= s.length /\ (s.take i).all Yj = true) (fun i => s.length - i) 0 ?_ ?_ ?_
 ·exact Q4 (kp2 rfl rfl)
 ·exact ⟨QeT _, rfl⟩
 intro i hI
 try dsimp only
 refine QD ?_ -- 1
 refine Qb fun K hK => mv2 Z Z (Yl Z (YX Z Z (kc3 hK Z Z Z ?_)))
 refine Qx Z (fun h1 => ?_) (fun h1 => ?_)
 ·try rw [h1]
  try simp only [qB] at h1
  refine Qt (ks2 Z Z ?_)
  refine QD ?_ -- 2
  refine QI (Qb fun K hK => mv2 Z Z (Yg Z Z Wa (Hb Wa) (YX Z Z (Qa Z ?_))))
  refine Qs (g := 14) Z (fun h2 => ?_) (fun h2 => ?_)
  ·try rw [h2]
   try simp only [qB] at h2
   refine gn4 Z Z Z Z (Qf Z Z (kc3 hK Z Z Z ?_))
   refine Zg Z (Qb fun K hK => Qa Z (kc1 hK Z ?_))
   refine Qn (Qr (Qh (Q5 (Qr (Qh (Qk Z ?_))))))
   exact (HG (i := i) Wa Wo).symm
  ·try rw [h2]
   try simp only [qB] at h2
   refine Qd Z (Qa Z (Qd Z (Qa Z (Qd Z (Yg Z Z Wa (Hb Wa) (Qd Z (Fi Z Z (Qf Z Z (kc3 hK Z Z Z ?_)))))))))
   refine Qx Z (fun h3 => ?_) (fun h3 => ?_)
   ·try rw [h3]
    try simp only [qB] at h3
    refine Qb fun K hK => Qa Z (kc1 hK Z ?_)
    refine Qn (Qr (Qh (Q5 (Qr (Qh (Qk Z ?_))))))
    exact (HG (i := i) Wa Wo).symm
   ·try rw [h3]
    try simp only [qB] at h3
    refine Qt (Qi (ks2 Z Z (Za fun K hK => Qa Z (Zc Z Z Wc (Qa Z (hK _ ?_))))))
    refine Ql (i + 1) ?_ ?_ ?_
    ·exact Q4 (kp2 rfl rfl)
    ·exact ⟨Wa, Zb Wa hI.2 Wo⟩
    ·first | omega | (simp only; omega) | (dsimp only; omega)
 ·try rw [h1]
  try simp only [qB] at h1
  refine ZC (QP (Qz (QH (ks1 Z (Qb fun K hK => Qa Z (Yl Z (Fi Z Z (Qa Z (kc1 hK Z ?_)))))))))
  refine Qn (Qk Z ?_)
  rw [Mb (i := i) Wa hI.2]; cases s <;> simp
theorem _root_.Wn {p : Prop} (h : p := by simp [ZM]; omega) : p := h
theorem GJ {s : List UInt8} (hl : s.length <= 1000000) : Ok Tryd.prog 68 [.str s] (.bool (KV s)) := by
 refine Ok.ofT Z7 Tryd.func68 Qed (QeH Z) ?_
 show TW _ _ tf68.body _ _
 refine Qb fun K hK => Qa Z (kc1 hK Z ?_)
 refine QD ?_ -- 0
 refine Qb fun K hK => Qa Z (Yl Z (YX Z Z (Qa Z ?_)))
 refine Qs (g := 8) Z (fun h1 => ?_) (fun h1 => ?_)
 ·try rw [h1]
  try simp only [qB] at h1
  refine gn3 Z Z Z (Qf Z Z (kc2 hK Z Z ?_))
  refine Zg Z (Qb fun K hK => Qa Z (kc1 hK Z ?_))
  refine Qn (Qh (Qk Z ?_))
  first | (have hz := Y8 (p := ZM) (s := s) (i := i) Wa hI.2; simp [KV, hz]; omega) | (have hz := Yh (p := ZM) (s := s) (i := i) Wa Wn; simp [KV, hz]; done) | (simp [KV]; omega)
 ·try rw [h1]
  try simp only [qB] at h1
  refine Qd Z (Qa Z (Qd Z (Yl Z (Qd Z (Fi Z Z (Qf Z Z (kc2 hK Z Z ?_)))))))
  refine Qx Z (fun h2 => ?_) (fun h2 => ?_)
  ·try rw [h2]
   try simp only [qB] at h2
   refine Qb fun K hK => Qa Z (kc1 hK Z ?_)
   refine Qn (Qh (Qk Z ?_))
   first | (have hz := Y8 (p := ZM) (s := s) (i := i) Wa hI.2; simp [KV, hz]; omega) | (have hz := Yh (p := ZM) (s := s) (i := i) Wa Wn; simp [KV, hz]; done) | (simp [KV]; omega)
  ·try rw [h2]
   try simp only [qB] at h2
   refine Qt (ks1 Z ?_)
   refine QD ?_ -- 1
   refine Qb fun K hK => Qa Z (kc2 hK Z Z ?_)
   refine QI ?_
   refine Yb (ι := Nat) (fun i => ⟨[(0, .str s), (3, .int .i64 i)], []⟩) (fun i => i <= s.length /\ (s.take i).all ZM = true) (fun i => s.length - i) 0 ?_ ?_ ?_
   ·exact Q4 (kp2 rfl rfl)
   ·exact ⟨QeT _, rfl⟩
   intro i hI
   try dsimp only
   refine QD ?_ -- 2
   refine Qb fun K hK => mv2 Z Z (Yl Z (YX Z Z (kc3 hK Z Z Z ?_)))
   refine Qx Z (fun h3 => ?_) (fun h3 => ?_)
   ·try rw [h3]
    try simp only [qB] at h3
    refine Qt (ks2 Z Z ?_)
    refine QD ?_ -- 3
    refine QI (Qb fun K hK => mv2 Z Z (Yg Z Z Wa (Hb Wa) (Qa Z (kc3 hK Z Z Z ?_))))
    refine Qb fun K hK => Qa Z (YX Z Z (Qa Z ?_))
    refine Qs (g := 24) Z (fun h4 => ?_) (fun h4 => ?_)
    ·try rw [h4]
     try simp only [qB] at h4
     refine gn2 Z Z (Qf Z Z (Qa Z (Qd Z (Qa Z (Qd Z (YX Z Z (Qd Z (Qa Z ?_))))))))
     refine Qs (g := 31) Z (fun h5 => ?_) (fun h5 => ?_)
     ·try rw [h5]
      try simp only [qB] at h5
      refine gn2 Z Z (Qd Z (Qf Z Z (Qf Z Z (Qa Z (Qd Z (Qa Z (Qd Z (Y7 Z Z (Qf Z Z (kc3 hK Z Z Z ?_))))))))))
      refine Qx Z (fun h6 => ?_) (fun h6 => ?_)
      ·try rw [h6]
       try simp only [qB] at h6
       refine Qb fun K hK => Qa Z (kc1 hK Z ?_)
       refine Qn (Qr (Qh (Q5 (Qr (Qh (Qk Z ?_))))))
       first | (have hz := Y8 (p := ZM) (s := s) (i := i) Wa hI.2; simp [KV, hz]; omega) | (have hz := Yh (p := ZM) (s := s) (i := i) Wa Wn; simp [KV, hz]; done) | (simp [KV]; omega)
      ·try rw [h6]
       try simp only [qB] at h6
       refine Qt (Qi (ks2 Z Z (Za fun K hK => Qa Z (Zc Z Z Wc (Qa Z (hK _ ?_))))))
       refine Ql (i + 1) ?_ ?_ ?_
       ·exact Q4 (kp2 rfl rfl)
       ·exact ⟨Wa, Zb Wa hI.2 Wn⟩
       ·first | omega | (simp only; omega) | (dsimp only; omega)
     ·try rw [h5]
      try simp only [qB] at h5
      refine Qd Z (Qa Z (Qd Z (Fi Z Z (Qd Z (Qf Z Z (Qf Z Z (Qa Z ?_)))))))
      refine Qs (g := 36) Z (fun h7 => ?_) (fun h7 => ?_)
      ·try rw [h7]
       try simp only [qB] at h7
       refine Qd Z (Qa Z (Qd Z (Y7 Z Z (Qf Z Z (kc3 hK Z Z Z ?_)))))
       refine Qx Z (fun h8 => ?_) (fun h8 => ?_)
       ·try rw [h8]
        try simp only [qB] at h8
        refine Qb fun K hK => Qa Z (kc1 hK Z ?_)
        refine Qn (Qr (Qh (Q5 (Qr (Qh (Qk Z ?_))))))
        first | (have hz := Y8 (p := ZM) (s := s) (i := i) Wa hI.2; simp [KV, hz]; omega) | (have hz := Yh (p := ZM) (s := s) (i := i) Wa Wn; simp [KV, hz]; done) | (simp [KV]; omega)
       ·try rw [h8]
        try simp only [qB] at h8
        refine Qt (Qi (ks2 Z Z (Za fun K hK => Qa Z (Zc Z Z Wc (Qa Z (hK _ ?_))))))
        refine Ql (i + 1) ?_ ?_ ?_
        ·exact Q4 (kp2 rfl rfl)
        ·exact ⟨Wa, Zb Wa hI.2 Wn⟩
        ·first | omega | (simp only; omega) | (dsimp only; omega)
      ·try rw [h7]
       try simp only [qB] at h7
       refine gn2 Z Z (Qf Z Z (kc3 hK Z Z Z ?_))
       refine Zy Z (Qt (Qi (ks2 Z Z (Za fun K hK => Qa Z (Zc Z Z Wc (Qa Z (hK _ ?_)))))))
       refine Ql (i + 1) ?_ ?_ ?_
       ·exact Q4 (kp2 rfl rfl)
       ·exact ⟨Wa, Zb Wa hI.2 Wn⟩
       ·first | omega | (simp only; omega) | (dsimp only; omega)
    ·try rw [h4]
     try simp only [qB] at h4
     refine Qd Z (Qa Z (Qd Z (Fi Z Z (Qf Z Z (Qa Z ?_)))))
     refine Qs (g := 28) Z (fun h9 => ?_) (fun h9 => ?_)
     ·try rw [h9]
      try simp only [qB] at h9
      refine Qd Z (Qa Z (Qd Z (YX Z Z (Qd Z (Qa Z ?_)))))
      refine Qs (g := 31) Z (fun h10 => ?_) (fun h10 => ?_)
      ·try rw [h10]
       try simp only [qB] at h10
       refine gn2 Z Z (Qd Z (Qf Z Z (Qf Z Z (Qa Z (Qd Z (Qa Z (Qd Z (Y7 Z Z (Qf Z Z (kc3 hK Z Z Z ?_))))))))))
       refine Qx Z (fun h11 => ?_) (fun h11 => ?_)
       ·try rw [h11]
        try simp only [qB] at h11
        refine Qb fun K hK => Qa Z (kc1 hK Z ?_)
        refine Qn (Qr (Qh (Q5 (Qr (Qh (Qk Z ?_))))))
        first | (have hz := Y8 (p := ZM) (s := s) (i := i) Wa hI.2; simp [KV, hz]; omega) | (have hz := Yh (p := ZM) (s := s) (i := i) Wa Wn; simp [KV, hz]; done) | (simp [KV]; omega)
       ·try rw [h11]
        try simp only [qB] at h11
        refine Qt (Qi (ks2 Z Z (Za fun K hK => Qa Z (Zc Z Z Wc (Qa Z (hK _ ?_))))))
        refine Ql (i + 1) ?_ ?_ ?_
        ·exact Q4 (kp2 rfl rfl)
        ·exact ⟨Wa, Zb Wa hI.2 Wn⟩
        ·first | omega | (simp only; omega) | (dsimp only; omega)
      ·try rw [h10]
       try simp only [qB] at h10
       refine Qd Z (Qa Z (Qd Z (Fi Z Z (Qd Z (Qf Z Z (Qf Z Z (Qa Z ?_)))))))
       refine Qs (g := 36) Z (fun h12 => ?_) (fun h12 => ?_)
       ·try rw [h12]
        try simp only [qB] at h12
        refine Qd Z (Qa Z (Qd Z (Y7 Z Z (Qf Z Z (kc3 hK Z Z Z ?_)))))
        refine Qx Z (fun h13 => ?_) (fun h13 => ?_)
        ·try rw [h13]
         try simp only [qB] at h13
         refine Qb fun K hK => Qa Z (kc1 hK Z ?_)
         refine Qn (Qr (Qh (Q5 (Qr (Qh (Qk Z ?_))))))
         first | (have hz := Y8 (p := ZM) (s := s) (i := i) Wa hI.2; simp [KV, hz]; omega) | (have hz := Yh (p := ZM) (s := s) (i := i) Wa Wn; simp [KV, hz]; done) | (simp [KV]; omega)
        ·try rw [h13]
         try simp only [qB] at h13
         refine Qt (Qi (ks2 Z Z (Za fun K hK => Qa Z (Zc Z Z Wc (Qa Z (hK _ ?_))))))
         refine Ql (i + 1) ?_ ?_ ?_
         ·exact Q4 (kp2 rfl rfl)
         ·exact ⟨Wa, Zb Wa hI.2 Wn⟩
         ·first | omega | (simp only; omega) | (dsimp only; omega)
       ·try rw [h12]
        try simp only [qB] at h12
        refine gn2 Z Z (Qf Z Z (kc3 hK Z Z Z ?_))
        refine Zy Z (Qt (Qi (ks2 Z Z (Za fun K hK => Qa Z (Zc Z Z Wc (Qa Z (hK _ ?_)))))))
        refine Ql (i + 1) ?_ ?_ ?_
        ·exact Q4 (kp2 rfl rfl)
        ·exact ⟨Wa, Zb Wa hI.2 Wn⟩
        ·first | omega | (simp only; omega) | (dsimp only; omega)
     ·try rw [h9]
      try simp only [qB] at h9
      refine gn3 Z Z Z (QE Z (QE Z (XT Z (Qf Z Z (Qa Z (gn2 Z Z (Qf Z Z (kc3 hK Z Z Z ?_))))))))
      refine Zy Z (Qt (Qi (ks2 Z Z (Za fun K hK => Qa Z (Zc Z Z Wc (Qa Z (hK _ ?_)))))))
      refine Ql (i + 1) ?_ ?_ ?_
      ·exact Q4 (kp2 rfl rfl)
      ·exact ⟨Wa, Zb Wa hI.2 Wn⟩
      ·first | omega | (simp only; omega) | (dsimp only; omega)
   ·try rw [h3]
    try simp only [qB] at h3
    refine ZC (QP (Qz (QH (Zs (ZJ) (Qb fun K hK => Qa Z (kc1 hK Z ?_))))))
    refine Qn (Qk Z ?_)
    first | (have hz := Y8 (p := ZM) (s := s) (i := i) Wa hI.2; simp [KV, hz]; omega) | (have hz := Yh (p := ZM) (s := s) (i := i) Wa Wn; simp [KV, hz]; done) | (simp [KV]; omega)
theorem H4 {a b c : Int} {p q : List UInt8} : Ok Tryd.prog 89 [.agg [.int .i64 a, .int .i64 b, .int .i64 c, .str p, .str q]] (.agg [.int .i64 a, .int .i64 b, .int .i64 c, .str p, .str []]) := by
 refine Ok.ofT Z7 Tryd.func89 Qey (QeH Z) ?_
 show TW _ _ tf89.body _ _
 refine Qb fun K hK => ZR Z Z Z (Zm Z (kc2 hK Z Z ?_))
 refine Qb fun K hK => Qe Z Z (QQ Z Z Z Z Z Z Z Z (kc2 hK Z Z ?_))
 refine Qb fun K hK => QA (cs := [_, _, _, _, _]) Z Z Z Z (QQ Z Z Z Z Z Z Z Z (kc1 hK Z ?_))
 refine Qn (Zl (cs := [_, _, _, _, _]) Z Z Z Z ?_)
 exact rfl
theorem _root_.Wz {p : Prop} (h : p := by rw [Nj (by omega)]; simp; omega) : p := h
theorem YA {s : List UInt8} (hl : s.length <= 1000000) : Ok Tryd.prog 69 [.str s] (.tup [.int .i64 (Ye s).1, .bool (Ye s).2]) := by
 refine Ok.ofT Z7 Tryd.func69 Qee (QeH Z) ?_
 show TW _ _ tf69.body _ _
 refine Qb fun K hK => mv2 Z Z (kc1 hK Z ?_)
 refine LI (ι := Unit) (fun _u => ⟨[(0, .str s)], []⟩) (fun _u => ¬ (s.length < 1 \/ 9 < s.length \/ (1 < s.length /\ s.head? = some 48))) ?_ ?_
 ·skip
  refine Qb fun K hK => Qa Z (Yl Z (YX Z Z (Qa Z ?_)))
  refine Qs (g := 9) Z (fun h1 => ?_) (fun h1 => ?_)
  ·try rw [h1]
   try simp only [qB, XP, QeL, QeU] at h1
   refine gn3 Z Z Z (Qf Z Z (Qa Z (gn4 Z Z Z Z (QE Z (QE Z (QE Z ?_))))))
   refine XT Z (Qf Z Z (kc2 hK Z Z ?_))
   refine Zg Z (Qb fun K hK => mv2 Z Z (kc2 hK Z Z ?_))
   refine Qn (HA (ZQ Z Z ?_))
   first | (rw [FC (s := s) Wa]; exact ⟨rfl, rfl⟩) | (rw [Yz (s := s) Wa Wd]; exact ⟨rfl, rfl⟩) | (rw [Xr (s := s) (i := i) Wa Wo]; exact ⟨rfl, rfl⟩) | (rw [FB (s := s) (i := i) Wa Wa]; exact ⟨rfl, rfl⟩) | (rw [Ma (s := s) (i := i) hJ Wa hI.2.1 Wa]; exact ⟨rfl, rfl⟩)
  ·try rw [h1]
   try simp only [qB, XP, QeL, QeU] at h1
   refine Qd Z (Qa Z (Qd Z (Yl Z (Qd Z (Fi Z Z (Qf Z Z (Qa Z ?_)))))))
   refine Qs (g := 14) Z (fun h2 => ?_) (fun h2 => ?_)
   ·try rw [h2]
    try simp only [qB, XP, QeL, QeU] at h2
    refine gn4 Z Z Z Z (QE Z (QE Z (QE Z (XT Z (Qf Z Z (kc2 hK Z Z ?_))))))
    refine Zg Z (Qb fun K hK => mv2 Z Z (kc2 hK Z Z ?_))
    refine Qn (HA (ZQ Z Z ?_))
    first | (rw [FC (s := s) Wa]; exact ⟨rfl, rfl⟩) | (rw [Yz (s := s) Wa Wd]; exact ⟨rfl, rfl⟩) | (rw [Xr (s := s) (i := i) Wa Wo]; exact ⟨rfl, rfl⟩) | (rw [FB (s := s) (i := i) Wa Wa]; exact ⟨rfl, rfl⟩) | (rw [Ma (s := s) (i := i) hJ Wa hI.2.1 Wa]; exact ⟨rfl, rfl⟩)
   ·try rw [h2]
    try simp only [qB, XP, QeL, QeU] at h2
    refine Qd Z (Qa Z (Qd Z (Yl Z (Qd Z (Fi Z Z (Qd Z (Qa Z ?_)))))))
    refine Qs (g := 18) Z (fun h3 => ?_) (fun h3 => ?_)
    ·try rw [h3]
     try simp only [qB, XP, QeL, QeU] at h3
     refine Qd Z (Qa Z (Qd Z (Yg Z Z Wa (Hb (i := 0) Wa) (Qd Z (Yr Z Z (Qd Z (Qf Z Z (Qf Z Z (kc2 hK Z Z ?_)))))))))
     refine Qx Z (fun h4 => ?_) (fun h4 => ?_)
     ·try rw [h4]
      try simp only [qB, XP, QeL, QeU] at h4
      refine Qb fun K hK => mv2 Z Z (kc2 hK Z Z ?_)
      refine Qn (HA (ZQ Z Z ?_))
      first | (rw [FC (s := s) Wa]; exact ⟨rfl, rfl⟩) | (rw [Yz (s := s) Wa Wd]; exact ⟨rfl, rfl⟩) | (rw [Xr (s := s) (i := i) Wa Wo]; exact ⟨rfl, rfl⟩) | (rw [FB (s := s) (i := i) Wa Wa]; exact ⟨rfl, rfl⟩) | (rw [Ma (s := s) (i := i) hJ Wa hI.2.1 Wa]; exact ⟨rfl, rfl⟩)
     ·try rw [h4]
      try simp only [qB, XP, QeL, QeU] at h4
      refine Qt ?_
      refine XE () ?_ ?_
      ·exact Q4 (kp1 rfl)
      ·rintro (q | q | q) <;> first | omega | exact Py (s := s) Wa Wd q.2
    ·try rw [h3]
     try simp only [qB, XP, QeL, QeU] at h3
     refine gn3 Z Z Z (Qd Z (Qf Z Z (Qf Z Z (kc2 hK Z Z ?_))))
     refine Zy Z (Qt ?_)
     refine XE () ?_ ?_
     ·exact Q4 (kp1 rfl)
     ·rintro (q | q | q) <;> first | omega | exact Py (s := s) Wa Wd q.2
 intro _u hJ
 try dsimp only
 refine Qb fun K hK => Qa Z (kc2 hK Z Z ?_)
 refine QD ?_ -- 1
 refine Qb fun K hK => Qa Z (kc3 hK Z Z Z ?_)
 refine QI ?_
 refine Yb (ι := Nat) (fun i => ⟨[(0, .str s), (4, .int .i64 (val (s.take i))), (5, .int .i64 i)], []⟩) (fun i => i <= s.length /\ (s.take i).all Yj = true /\ s.length <= 9) (fun i => s.length - i) 0 ?_ ?_ ?_
 ·first | exact Q4 (kp3 rfl rfl rfl) | exact Zw (l := [0, 4, 5]) (kp3 rfl rfl rfl) Qy Wz rfl rfl
 ·exact ⟨QeT _, rfl, Wa⟩
 intro i hI
 have hv := Cb (s := s.take i) hI.2.1
 have hp : 10 ^ (s.take i).length <= 10 ^ 9 := Nat.pow_le_pow_right Wa Wm
 try dsimp only
 refine QD ?_ -- 2
 refine Qb fun K hK => mv2 Z Z (Yl Z (YX Z Z (kc4 hK Z Z Z Z ?_)))
 refine Qx Z (fun h5 => ?_) (fun h5 => ?_)
 ·try rw [h5]
  try simp only [qB, XP, QeL, QeU] at h5
  refine Qt (ks3 Z Z Z ?_)
  refine QD ?_ -- 3
  refine QI ?_
  refine QD ?_ -- 4
  refine Qb fun K hK => mv2 Z Z (Yg Z Z Wa (Hb Wa) (Qw (HR) Z Z (.inr Z) (ZL Z (kc4 hK Z Z Z Z ?_))))
  refine Qx Z (fun h6 => ?_) (fun h6 => ?_)
  ·try rw [h6]
   try simp only [qB, XP, QeL, QeU] at h6
   refine Qb fun K hK => mv2 Z Z (kc2 hK Z Z ?_)
   refine Qn (Qh (Qr (Qh (Q5 (Qr (Qh (ZQ Z Z ?_)))))))
   first | (rw [FC (s := s) Wa]; exact ⟨rfl, rfl⟩) | (rw [Yz (s := s) Wa Wd]; exact ⟨rfl, rfl⟩) | (rw [Xr (s := s) (i := i) Wa Wo]; exact ⟨rfl, rfl⟩) | (rw [FB (s := s) (i := i) Wa Wa]; exact ⟨rfl, rfl⟩) | (rw [Ma (s := s) (i := i) hJ Wa hI.2.1 Wa]; exact ⟨rfl, rfl⟩)
  ·try rw [h6]
   try simp only [qB, XP, QeL, QeU] at h6
   refine Qt (ks3 Z Z Z (Za fun K hK => Qa Z (Cp Z Z Wc (mv2 Z Z (Yg Z Z Wa (Hb Wa) (HN Z Z Wc (MG Z Wc (Zc Z Z Wc (Qa Z ?_)))))))))
   refine hK _ ?_
   refine Qi (ks3 Z Z Z (Za fun K hK => Qa Z (Zc Z Z Wc (Qa Z (hK _ ?_)))))
   refine Ql (i + 1) ?_ ?_ ?_
   ·first | exact Q4 (kp3 rfl rfl rfl) | exact Zw (l := [0, 4, 5]) (kp3 rfl rfl rfl) Qy Wz rfl rfl
   ·exact ⟨Wa, Zb Wa hI.2.1 Wo, hI.2.2⟩
   ·first | omega | (simp only; omega) | (dsimp only; omega)
 ·try rw [h5]
  try simp only [qB, XP, QeL, QeU] at h5
  refine ZC (QP (Qz (QH (ks1 Z ?_))))
  refine QD ?_ -- 5
  refine Qb fun K hK => Qa Z (Fi Z Z (kc2 hK Z Z ?_))
  refine Qx Z (fun h7 => ?_) (fun h7 => ?_)
  ·try rw [h7]
   try simp only [qB, XP, QeL, QeU] at h7
   refine Qb fun K hK => mv2 Z Z (kc2 hK Z Z ?_)
   refine Qn (Qh (ZQ Z Z ?_))
   first | (rw [FC (s := s) Wa]; exact ⟨rfl, rfl⟩) | (rw [Yz (s := s) Wa Wd]; exact ⟨rfl, rfl⟩) | (rw [Xr (s := s) (i := i) Wa Wo]; exact ⟨rfl, rfl⟩) | (rw [FB (s := s) (i := i) Wa Wa]; exact ⟨rfl, rfl⟩) | (rw [Ma (s := s) (i := i) hJ Wa hI.2.1 Wa]; exact ⟨rfl, rfl⟩)
  ·try rw [h7]
   try simp only [qB, XP, QeL, QeU] at h7
   refine Qt (ks1 Z (Qb fun K hK => mv2 Z Z (Qa Z (kc2 hK Z Z ?_))))
   refine Qn (ZQ Z Z ?_)
   first | (rw [FC (s := s) Wa]; exact ⟨rfl, rfl⟩) | (rw [Yz (s := s) Wa Wd]; exact ⟨rfl, rfl⟩) | (rw [Xr (s := s) (i := i) Wa Wo]; exact ⟨rfl, rfl⟩) | (rw [FB (s := s) (i := i) Wa Wa]; exact ⟨rfl, rfl⟩) | (rw [Ma (s := s) (i := i) hJ Wa hI.2.1 Wa]; exact ⟨rfl, rfl⟩)
open Go Go.Abs M3
theorem GI {a b : List UInt8} (ha : a.length <= 1000000) (hb : b.length <= 1000000) : Ok Tryd.prog 87 [.str a, .str b] (.int .i64 (MB a b)) := by
 refine Ok.ofT Z7 Tryd.func87 Qew (QeH Z) ?_
 show TW _ _ tf87.body _ _
 refine Qb fun K hK => Qa Z (kc2 hK Z Z ?_)
 refine Qb fun K hK => Qa Z (Qw (Yv Wa) Z Z (.inr Z) (Qa Z (Qw (Yv Wa) Z Z (.inr Z) (mv2 Z Z (kc4 hK Z Z Z Z ?_)))))
 refine QD ?_ -- 0
 refine QI (Qb fun K hK => mv2 Z Z ?_)
 refine Qs (g := 17) Z (fun h1 => ?_) (fun h1 => ?_)
 ·try rw [h1]
  try simp only [qB] at h1
  refine Qd Z (Qa Z (Qf Z Z (Qa Z (kc5 hK Z Z Z Z Z ?_))))
  refine Qx Z (fun h2 => ?_) (fun h2 => ?_)
  ·try rw [h2]
   try simp only [qB] at h2
   refine Qb fun K hK => Qa Z (Qw (YA Wa) Z Z (.inr Z) (Qa Z (Zd Z Z (Zd Z Z (mv2 Z Z (kc2 hK Z Z ?_))))))
   refine Qb fun K hK => Qa Z (Qw (YA Wa) Z Z (.inr Z) (Qa Z (Zd Z Z (Zd Z Z (mv2 Z Z (kc2 hK Z Z ?_))))))
   refine Qb fun K hK => mv2 Z Z (Qw (Zu) Z Z (.inr Z) (Qa Z (kc1 hK Z ?_)))
   refine Qn (Qr (Qh (Qq Z ?_)))
   simp [MB, h1, h2]
  ·try rw [h2]
   try simp only [qB] at h2
   refine Qb fun K hK => mv2 Z Z (kc4 hK Z Z Z Z ?_)
   refine Zg Z (Qb fun K hK => Qa Z (kc1 hK Z ?_))
   refine Qn (Qr (Qh (Qq Z ?_)))
   simp [MB, h1, h2]
 ·try rw [h1]
  try simp only [qB] at h1
  refine XT Z (Qf Z Z (Qa Z (kc5 hK Z Z Z Z Z ?_)))
  refine Zy Z (Qb fun K hK => mv2 Z Z (kc4 hK Z Z Z Z ?_))
  refine Zy Z (Qb fun K hK => mv2 Z Z (kc3 hK Z Z Z ?_))
  refine Qx Z (fun h3 => ?_) (fun h3 => ?_)
  ·try rw [h3]
   try simp only [qB] at h3
   refine Qb fun K hK => Qa Z (kc1 hK Z ?_)
   refine Qn (Qr (Qh (Qq Z ?_)))
   simp [MB, h1, h3]
  ·try rw [h3]
   try simp only [qB] at h3
   refine Qt (Qi (ks2 Z Z (Qb fun K hK => mv2 Z Z (Qw (HT) Z Z (.inr Z) (Qa Z (kc1 hK Z ?_))))))
   refine Qn (Qq Z ?_)
   simp [MB, h1, h3]
theorem Gl {a b : List UInt8} (ha : a.length <= 1000000) (hb : b.length <= 1000000) : Ok Tryd.prog 83 [.str a, .str b] (.int .i64 (Gr a b)) := by
 refine Ok.ofT Z7 Tryd.func83 Qes (QeH Z) ?_
 show TW _ _ tf83.body _ _
 refine Qb fun K hK => Qa Z (kc2 hK Z Z ?_)
 refine QD ?_ -- 0
 refine QI (Qb fun K hK => mv2 Z Z (HM Z Z (Qa Z (kc3 hK Z Z Z ?_))))
 refine Qx Z (fun h1 => ?_) (fun h1 => ?_)
 ·try rw [h1]
  try simp only [qB, Qm] at h1
  refine Qb fun K hK => Qa Z (kc1 hK Z ?_)
  refine Qn (Qr (Qh (Qq Z ?_)))
  (repeat clear hK K); first | (simp_all [Gr]; done) | (rw [hI.2.2, Yq Wa Wa Wd]) | (rw [hI.2.2, Yp Wa Wa Wa]; simp [Qm])
 ·try rw [h1]
  try simp only [qB, Qm] at h1
  refine Qb fun K hK => Qa Z (HM Z Z (Qa Z (kc3 hK Z Z Z ?_)))
  refine Qx Z (fun h2 => ?_) (fun h2 => ?_)
  ·try rw [h2]
   try simp only [qB, Qm] at h2
   refine Qb fun K hK => Qa Z (kc1 hK Z ?_)
   refine Qn (Qr (Qh (Qq Z ?_)))
   (repeat clear hK K); first | (simp_all [Gr]; done) | (rw [hI.2.2, Yq Wa Wa Wd]) | (rw [hI.2.2, Yp Wa Wa Wa]; simp [Qm])
  ·try rw [h2]
   try simp only [qB, Qm] at h2
   refine Qb fun K hK => Qa Z (HM Z Z (Qa Z (kc3 hK Z Z Z ?_)))
   refine Qx Z (fun h3 => ?_) (fun h3 => ?_)
   ·try rw [h3]
    try simp only [qB, Qm] at h3
    refine Qb fun K hK => Qa Z (kc1 hK Z ?_)
    refine Qn (Qr (Qh (Qq Z ?_)))
    (repeat clear hK K); first | (simp_all [Gr]; done) | (rw [hI.2.2, Yq Wa Wa Wd]) | (rw [hI.2.2, Yp Wa Wa Wa]; simp [Qm])
   ·try rw [h3]
    try simp only [qB, Qm] at h3
    refine Qt (Qi (ks2 Z Z (Qb fun K hK => Qa Z (Qw (YU Wa) Z Z (.inl Z) (Qa Z (Qw (YU Wa) Z Z (.inl Z) (mv2 Z Z (kc2 hK Z Z ?_))))))))
    refine QD ?_ -- 1
    refine Qb fun K hK => Qa Z (kc3 hK Z Z Z ?_)
    refine QI ?_
    refine Yb (ι := Nat) (fun i => ⟨[(5, .sl (YL (Q1 a 46))), (6, .sl (YL (Q1 b 46))), (7, .int .i64 i)], []⟩) (fun i => i <= (Q1 a 46).length /\ i <= (Q1 b 46).length /\ Gr a b = TM ((Q1 a 46).drop i) ((Q1 b 46).drop i)) (fun i => (Q1 a 46).length - i) 0 ?_ ?_ ?_
    ·exact Q4 (kp3 rfl rfl rfl)
    ·exact ⟨QeT _, QeT _, by simp_all [Gr]⟩
    intro i hI
    have sl := Ff (s := a) (c := 46)
    try dsimp only
    refine QD ?_ -- 2
    refine Qb fun K hK => mv2 Z Z (ZD Z Z (YX Z Z (Qa Z ?_)))
    refine Qs (g := 27) Z (fun h4 => ?_) (fun h4 => ?_)
    ·try rw [h4]
     try simp only [qB, Qm] at h4
     refine Qd Z (Qa Z (Qd Z (Qa Z (Qd Z (ZD Z Z (Qd Z (YX Z Z (Qf Z Z (kc4 hK Z Z Z Z ?_)))))))))
     refine Qx Z (fun h5 => ?_) (fun h5 => ?_)
     ·try rw [h5]
      try simp only [qB, Qm] at h5
      refine Qt (ks3 Z Z Z ?_)
      refine QD ?_ -- 3
      refine QI (Qb fun K hK => mv2 Z Z (QV Z Z Z Wa (X5 Wa) Z (Zo (ds0 := [1, 0]) Z Z Z Z Z (mv2 Z Z (QV Z Z Z Wa (X5 Wa) Z (Zo (ds0 := [1, 0]) Z Z Z Z Z (QT (ds0 := [0]) (GI (X9 Wa ha) (X9 Wa hb)) Z Z (.inr Z) Z Z (Qa Z ?_))))))))
      refine kc4 hK Z Z Z Z ?_
      refine Qb fun K hK => Qa Z (Y7 Z Z (kc5 hK Z Z Z Z Z ?_))
      refine Qx Z (fun h6 => ?_) (fun h6 => ?_)
      ·try rw [h6]
       try simp only [qB, Qm] at h6
       refine Qb fun K hK => mv2 Z Z (kc1 hK Z ?_)
       refine Qn (Qr (Qh (Q5 (Qr (Qh (Qq Z ?_))))))
       (repeat clear hK K); first | (simp_all [Gr]; done) | (rw [hI.2.2, Yq Wa Wa Wd]) | (rw [hI.2.2, Yp Wa Wa Wa]; simp [Qm])
      ·try rw [h6]
       try simp only [qB, Qm] at h6
       refine Qt (Qi (ks3 Z Z Z (Za fun K hK => Qa Z (Zc Z Z Wc (Qa Z (hK _ ?_))))))
       refine Ql (i + 1) ?_ ?_ ?_
       ·exact Q4 (kp3 rfl rfl rfl)
       ·exact ⟨Wa, Wa, by rw [hI.2.2, RR Wa Wa Wd]⟩
       ·first | omega | (simp only; omega) | (dsimp only; omega)
     ·try rw [h5]
      try simp only [qB, Qm] at h5
      refine ZC (QP (Qz (QH (ks2 Z Z (Qb fun K hK => Qa Z (ZD Z Z (Qa Z (ZD Z Z (Qw (Zu) Z Z (.inr Z) (Qa Z ?_))))))))))
      refine kc1 hK Z ?_
      refine Qn (Qq Z ?_)
      (repeat clear hK K); first | (simp_all [Gr]; done) | (rw [hI.2.2, Yq Wa Wa Wd]) | (rw [hI.2.2, Yp Wa Wa Wa]; simp [Qm])
    ·try rw [h4]
     try simp only [qB, Qm] at h4
     refine gn4 Z Z Z Z (Qf Z Z (kc4 hK Z Z Z Z ?_))
     refine Zy Z (ZC (QP (Qz (QH (ks2 Z Z (Qb fun K hK => Qa Z (ZD Z Z (Qa Z (ZD Z Z (Qw (Zu) Z Z (.inr Z) ?_))))))))))
     refine Qa Z (kc1 hK Z ?_)
     refine Qn (Qq Z ?_)
     (repeat clear hK K); first | (simp_all [Gr]; done) | (rw [hI.2.2, Yq Wa Wa Wd]) | (rw [hI.2.2, Yp Wa Wa Wa]; simp [Qm])
theorem Jf {s : List UInt8} {pre : Bool} (hl : s.length <= 1000000) : Ok Tryd.prog 51 [.str s, .bool pre] (.bool (J5 s pre)) := by
 refine Ok.ofT Z7 Tryd.func51 QdW (QeH Z) ?_
 show TW _ _ tf51.body _ _
 refine Qb fun K hK => Qa Z (kc2 hK Z Z ?_)
 refine QD ?_ -- 0
 refine Qb fun K hK => Qa Z (HM Z Z (kc3 hK Z Z Z ?_))
 refine Qx Z (fun h1 => ?_) (fun h1 => ?_)
 ·try rw [h1]
  try simp only [qB, Qm] at h1
  refine Qb fun K hK => Qa Z (kc1 hK Z ?_)
  refine Qn (Qh (Qk Z ?_))
  (repeat clear hK K); first | (simp_all [J5]; done) | (simp [J5, h1]; omega) | exact (G5 (i := i) Wd Wa (by simp [HZ, h1])).symm | exact (Hg (i := i) Wa Wa hI.2).symm
 ·try rw [h1]
  try simp only [qB, Qm] at h1
  refine Qt (ks2 Z Z (Qb fun K hK => Qa Z (Qw (YU Wa) Z Z (.inl Z) (Qa Z (kc2 hK Z Z ?_)))))
  refine QD ?_ -- 1
  refine Qb fun K hK => Qa Z (ZD Z Z (Fi Z Z (kc3 hK Z Z Z ?_)))
  refine Qx Z (fun h2 => ?_) (fun h2 => ?_)
  ·try rw [h2]
   try simp only [qB, Qm] at h2
   refine Qb fun K hK => Qa Z (kc1 hK Z ?_)
   refine Qn (Qh (Qk Z ?_))
   (repeat clear hK K); first | (simp_all [J5]; done) | (simp [J5, h1, h2]; omega) | exact (G5 (i := i) Wd Wa (by simp [HZ, h1, h2])).symm | exact (Hg (i := i) Wa Wa hI.2).symm
  ·try rw [h2]
   try simp only [qB, Qm] at h2
   refine Qt (ks2 Z Z ?_)
   refine QD ?_ -- 2
   refine Qb fun K hK => Qa Z (kc3 hK Z Z Z ?_)
   refine QI ?_
   refine Yb (ι := Nat) (fun i => ⟨[(1, .bool pre), (5, .sl (YL (Q1 s 46))), (6, .int .i64 i)], []⟩) (fun i => i <= (Q1 s 46).length /\ ((Q1 s 46).take i).all (HZ pre) = true) (fun i => (Q1 s 46).length - i) 0 ?_ ?_ ?_
   ·first | exact Q4 (kp3 rfl rfl rfl) | exact Zw (l := [1, 5, 6]) (kp3 rfl rfl rfl) Qy (by simp [h1, h2]) rfl rfl
   ·exact ⟨QeT _, rfl⟩
   intro i hI
   try dsimp only
   refine QD ?_ -- 3
   refine Qb fun K hK => mv2 Z Z (ZD Z Z (YX Z Z (kc4 hK Z Z Z Z ?_)))
   refine Qx Z (fun h3 => ?_) (fun h3 => ?_)
   ·try rw [h3]
    try simp only [qB, Qm] at h3
    refine Qt (ks3 Z Z Z ?_)
    refine QD ?_ -- 4
    refine QI ?_
    refine QD ?_ -- 5
    refine Qb fun K hK => mv2 Z Z (QV Z Z Z Wa (X5 Wa) Z (QB Z Z Z (Qw (GJ (X9 Wa hl)) Z Z (.inr Z) (ZL Z (kc4 hK Z Z Z Z ?_)))))
    refine Qx Z (fun h4 => ?_) (fun h4 => ?_)
    ·try rw [h4]
     try simp only [qB, Qm] at h4
     refine Qb fun K hK => Qa Z (kc1 hK Z ?_)
     refine Qn (Qh (Qr (Qh (Q5 (Qr (Qh (Qk Z ?_)))))))
     (repeat clear hK K); first | (simp_all [J5]; done) | (simp [J5, h1, h2, h3, h4]; omega) | exact (G5 (i := i) Wd Wa (by simp [HZ, h1, h2, h3, h4])).symm | exact (Hg (i := i) Wa Wa hI.2).symm
    ·try rw [h4]
     try simp only [qB, Qm] at h4
     refine Qt (ks3 Z Z Z (Qb fun K hK => mv2 Z Z (QV Z Z Z Wa (X5 Wa) Z (QB Z Z Z (Qw (YA (X9 Wa hl)) Z Z (.inr Z) (Qa Z (Zd Z Z (Zd Z Z (Qa Z ?_)))))))))
     refine Qa Z (kc4 hK Z Z Z Z ?_)
     refine Qb fun K hK => mv2 Z Z ?_
     refine Qs (g := 37) Z (fun h5 => ?_) (fun h5 => ?_)
     ·try rw [h5]
      try simp only [qB, Qm] at h5
      refine Qd Z (Qa Z (Qd Z (Qa Z (Qd Z (QV Z Z Z Wa (X5 Wa) Z (Qd Z (QB Z Z Z (Qd Z (Qw (Yv (X9 Wa hl)) Z Z (.inr Z) (Qf Z Z (Qa Z ?_)))))))))))
      refine Qs (g := 44) Z (fun h6 => ?_) (fun h6 => ?_)
      ·try rw [h6]
       try simp only [qB, Qm] at h6
       refine Qd Z (Qa Z (Qd Z (ZL Z (Qf Z Z (kc4 hK Z Z Z Z ?_)))))
       refine Qx Z (fun h7 => ?_) (fun h7 => ?_)
       ·try rw [h7]
        try simp only [qB, Qm] at h7
        refine Qb fun K hK => Qa Z (kc1 hK Z ?_)
        refine Qn (Qr (Qh (Q5 (Qr (Qh (Qk Z ?_))))))
        (repeat clear hK K); first | (simp_all [J5]; done) | (simp [J5, h1, h2, h3, h4, h5, h6, h7]; omega) | exact (G5 (i := i) Wd Wa (by simp [HZ, h1, h2, h3, h4, h5, h6, h7])).symm | exact (Hg (i := i) Wa Wa hI.2).symm
       ·try rw [h7]
        try simp only [qB, Qm] at h7
        refine Qt (Qi (ks3 Z Z Z (Za fun K hK => Qa Z (Zc Z Z Wc (Qa Z (hK _ ?_))))))
        refine Ql (i + 1) ?_ ?_ ?_
        ·first | exact Q4 (kp3 rfl rfl rfl) | exact Zw (l := [1, 5, 6]) (kp3 rfl rfl rfl) Qy (by simp [h1, h2, h3, h4, h5, h6, h7]) rfl rfl
        ·exact ⟨Wa, Zb Wa hI.2 (by simp [HZ, h1, h2, h3, h4, h5, h6, h7])⟩
        ·first | omega | (simp only; omega) | (dsimp only; omega)
      ·try rw [h6]
       try simp only [qB, Qm] at h6
       refine gn2 Z Z (Qf Z Z (kc4 hK Z Z Z Z ?_))
       refine Zy Z (Qt (Qi (ks3 Z Z Z (Za fun K hK => Qa Z (Zc Z Z Wc (Qa Z (hK _ ?_)))))))
       refine Ql (i + 1) ?_ ?_ ?_
       ·first | exact Q4 (kp3 rfl rfl rfl) | exact Zw (l := [1, 5, 6]) (kp3 rfl rfl rfl) Qy (by simp [h1, h2, h3, h4, h5, h6]) rfl rfl
       ·exact ⟨Wa, Zb Wa hI.2 (by simp [HZ, h1, h2, h3, h4, h5, h6])⟩
       ·first | omega | (simp only; omega) | (dsimp only; omega)
     ·try rw [h5]
      try simp only [qB, Qm] at h5
      refine gn4 Z Z Z Z (XT Z (Qf Z Z (Qa Z (gn2 Z Z (Qf Z Z (kc4 hK Z Z Z Z ?_))))))
      refine Zy Z (Qt (Qi (ks3 Z Z Z (Za fun K hK => Qa Z (Zc Z Z Wc (Qa Z (hK _ ?_)))))))
      refine Ql (i + 1) ?_ ?_ ?_
      ·first | exact Q4 (kp3 rfl rfl rfl) | exact Zw (l := [1, 5, 6]) (kp3 rfl rfl rfl) Qy (by simp [h1, h2, h3, h4, h5]) rfl rfl
      ·exact ⟨Wa, Zb Wa hI.2 (by simp [HZ, h1, h2, h3, h4, h5])⟩
      ·first | omega | (simp only; omega) | (dsimp only; omega)
   ·try rw [h3]
    try simp only [qB, Qm] at h3
    refine ZC (QP (Qz (QH (Zs (ZJ) (Qb fun K hK => Qa Z (kc1 hK Z ?_))))))
    refine Qn (Qk Z ?_)
    (repeat clear hK K); first | (simp_all [J5]; done) | (simp [J5, h1, h2, h3]; omega) | exact (G5 (i := i) Wd Wa (by simp [HZ, h1, h2, h3])).symm | exact (Hg (i := i) Wa Wa hI.2).symm
theorem Zr {a b c : Int} {p q : List UInt8} (hp : p.length <= 1000000) (hq : q.length <= 1000000) : Ok Tryd.prog 32 [.agg [.int .i64 a, .int .i64 b, .int .i64 c, .str p, .str q]] (.bool (J8 a b c p q)) := by
 refine Ok.ofT Z7 Tryd.func32 QdE (QeH Z) ?_
 show TW _ _ tf32.body _ _
 refine Qb fun K hK => ZR Z Z Z (Qa Z (kc1 hK Z ?_))
 refine Qb fun K hK => Qe Z Z (QB Z Z Z (Qw (Xk) Z Z (.inr Z) (Qa Z ?_)))
 refine Qs (g := 6) Z (fun h1 => ?_) (fun h1 => ?_)
 ·try rw [h1]
  try simp only [qB] at h1
  refine Qd Z (Qe Z Z (Qd Z (QB Z Z Z (Qd Z (Qw (Xk) Z Z (.inr Z) (Qf Z Z (Qa Z ?_)))))))
  refine Qs (g := 11) Z (fun h2 => ?_) (fun h2 => ?_)
  ·try rw [h2]
   try simp only [qB] at h2
   refine Qd Z (Qe Z Z (Qd Z (QB Z Z Z (Qd Z (Qw (Xk) Z Z (.inr Z) (Qf Z Z (Qa Z ?_)))))))
   refine Qs (g := 16) Z (fun h3 => ?_) (fun h3 => ?_)
   ·try rw [h3]
    try simp only [qB] at h3
    refine Qd Z (Qe Z Z (Qd Z (QB Z Z Z (Qd Z (Qw (Jf Wa) Z Z (.inr Z) (Qf Z Z (Qa Z ?_)))))))
    refine Qs (g := 21) Z (fun h4 => ?_) (fun h4 => ?_)
    ·try rw [h4]
     try simp only [qB] at h4
     refine Qd Z (Qe Z Z (Qd Z (QB Z Z Z (Qd Z (Qw (Jf Wa) Z Z (.inr Z) (Qf Z Z (Qa Z (kc1 hK Z ?_))))))))
     refine Qn (Qk Z ?_)
     simp [J8, h1, h2, h3, h4]
    ·try rw [h4]
     try simp only [qB] at h4
     refine gn3 Z Z Z (Qf Z Z (Qa Z (kc1 hK Z ?_)))
     refine Qn (Qk Z ?_)
     simp [J8, h1, h2, h3, h4]
   ·try rw [h3]
    try simp only [qB] at h3
    refine gn3 Z Z Z (Qf Z Z (Qa Z (gn3 Z Z Z (Qf Z Z (Qa Z (kc1 hK Z ?_))))))
    refine Qn (Qk Z ?_)
    simp [J8, h1, h2, h3]
  ·try rw [h2]
   try simp only [qB] at h2
   refine gn3 Z Z Z (Qf Z Z (Qa Z (gn3 Z Z Z (Qf Z Z (Qa Z (gn2 Z Z ?_))))))
   refine XT Z (Qf Z Z (Qa Z (kc1 hK Z ?_)))
   refine Qn (Qk Z ?_)
   simp [J8, h1, h2]
 ·try rw [h1]
  try simp only [qB] at h1
  refine gn3 Z Z Z (Qf Z Z (Qa Z (gn3 Z Z Z (Qf Z Z (Qa Z (gn2 Z Z ?_))))))
  refine XT Z (Qf Z Z (Qa Z (gn3 Z Z Z (Qf Z Z (Qa Z (kc1 hK Z ?_))))))
  refine Qn (Qk Z ?_)
  simp [J8, h1]
theorem Rm {l : List Int} (hl : l.length <= 1000000) : Ok Tryd.prog 90 [ZH l] (.int .i64 (Ym l)) := by
 refine Ok.ofT Z7 Tryd.func90 Qez (QeH Z) ?_
 show TW _ _ tf90.body _ _
 refine Qb fun K hK => Qa Z (kc1 hK Z ?_)
 refine Qb fun K hK => Qa Z (kc2 hK Z Z ?_)
 refine QD ?_ -- 0
 refine Qb fun K hK => Qa Z (ZD Z Z (Qa Z (kc4 hK Z Z Z Z ?_)))
 refine QI ?_
 refine Yb (ι := Nat) (fun i => ⟨[(3, .int .i64 0), (6, ZH l), (7, .int .i64 l.length), (8, .int .i64 i)], []⟩) (fun i => i <= l.length /\ Ym l = Ym (l.drop i)) (fun i => l.length - i) 0 ?_ ?_ ?_
 ·exact Zw (l := [3, 6, 7, 8]) (kp4 rfl rfl rfl rfl) Qy (by simp [ZH]) rfl rfl
 ·exact ⟨QeT _, rfl⟩
 intro i hI
 try dsimp only
 refine Qb fun K hK => YX Z Z (kc5 hK Z Z Z Z Z ?_)
 refine QD ?_ -- 1
 refine Qx Z (fun h1 => ?_) (fun h1 => ?_)
 ·try rw [h1]
  try simp only [qB] at h1
  refine Qt (ks4 Z Z Z Z ?_)
  refine QD ?_ -- 2
  refine QI (Qb fun K hK => QV Z Z Z Wa (ZN Wa) Z (QB Z Z Z (Qa Z (kc5 hK Z Z Z Z Z ?_))))
  refine Qb fun K hK => mv2 Z Z (Y7 Z Z (kc6 hK Z Z Z Z Z Z ?_))
  refine Qx Z (fun h2 => ?_) (fun h2 => ?_)
  ·try rw [h2]
   try simp only [qB] at h2
   refine Qb fun K hK => mv2 Z Z (kc1 hK Z ?_)
   refine Qn (Qr (Qh (Q5 (Qr (Qh (Qq Z ?_))))))
   first | (rw [hI.2, NM Wa Wd]) | (rw [hI.2, Qe2 Wa]; rfl)
  ·try rw [h2]
   try simp only [qB] at h2
   refine Qt (Qi (ks4 Z Z Z Z (Za fun K hK => Zc Z Z Wc (Qa Z (hK _ ?_)))))
   refine Ql (i + 1) ?_ ?_ ?_
   ·exact Q4 (kp4 rfl rfl rfl rfl)
   ·exact ⟨Wa, by rw [hI.2, Rx Wa Wd]⟩
   ·first | omega | (simp only; omega) | (dsimp only; omega)
 ·try rw [h1]
  try simp only [qB] at h1
  refine ZC (QP (Qz (QH (ks1 Z (Qb fun K hK => mv2 Z Z (kc1 hK Z ?_))))))
  refine Qn (Qq Z ?_)
  first | (rw [hI.2, NM Wa Wd]) | (rw [hI.2, Qe2 Wa]; rfl)
open Go Go.Abs M3
theorem KQ {a b c : Int} {p q : List UInt8} (hp : p.length <= 1000000) (hq : q.length <= 1000000) {a' b' c' : Int} {p' q' : List UInt8} (hp' : p'.length <= 1000000) (hq' : q'.length <= 1000000) : Ok Tryd.prog 75 [.agg [.int .i64 a, .int .i64 b, .int .i64 c, .str p, .str q], .agg [.int .i64 a', .int .i64 b', .int .i64 c', .str p', .str q']] (.int .i64 (HD a b c p q a' b' c' p' q')) := by
 refine Ok.ofT Z7 Tryd.func75 Qek (QeH Z) ?_
 show TW _ _ tf75.body _ _
 refine Qb fun K hK => ZR Z Z Z (ZR Z Z Z (Qa Z (kc2 hK Z Z ?_)))
 refine QD ?_ -- 0
 refine Qb fun K hK => QA (cs := [_, _, _, _, _]) Z Z Z Z (Qw (Zr Wa Wa) Z Z (.inr Z) (ZL Z (Qa Z ?_)))
 refine Qs (g := 11) Z (fun h1 => ?_) (fun h1 => ?_)
 ·try rw [h1]
  try simp only [qB] at h1
  refine gn3 Z Z Z (Qf Z Z (kc3 hK Z Z Z ?_))
  refine Zg Z (Qb fun K hK => Qa Z (kc1 hK Z ?_))
  refine Qn (Qh (Qq Z ?_))
  simp [HD, h1]
 ·try rw [h1]
  try simp only [qB] at h1
  refine Qd Z (QA (cs := [_, _, _, _, _]) Z Z Z Z (Qd Z (Qw (Zr Wa Wa) Z Z (.inr Z) (Qd Z (ZL Z (Qf Z Z (kc3 hK Z Z Z ?_)))))))
  refine Qx Z (fun h2 => ?_) (fun h2 => ?_)
  ·try rw [h2]
   try simp only [qB] at h2
   refine Qb fun K hK => Qa Z (kc1 hK Z ?_)
   refine Qn (Qh (Qq Z ?_))
   simp [HD, h1, h2]
  ·try rw [h2]
   try simp only [qB] at h2
   refine Qt (ks2 Z Z ?_)
   refine QD ?_ -- 1
   refine Qb fun K hK => Qe Z Z (QB Z Z Z (Qe Z Z (QB Z Z Z (Qw (Zu) Z Z (.inr Z) (Qa Z (kc3 hK Z Z Z ?_))))))
   refine Qb fun K hK => Qa Z (Y7 Z Z (kc4 hK Z Z Z Z ?_))
   refine Qx Z (fun h3 => ?_) (fun h3 => ?_)
   ·try rw [h3]
    try simp only [qB] at h3
    refine Qb fun K hK => mv2 Z Z (kc1 hK Z ?_)
    refine Qn (Qh (Qq Z ?_))
    simp [HD, h1, h2, h3]
   ·try rw [h3]
    try simp only [qB] at h3
    refine Qt (ks2 Z Z ?_)
    refine QD ?_ -- 2
    refine Qb fun K hK => Qe Z Z (QB Z Z Z (Qe Z Z (QB Z Z Z (Qw (Zu) Z Z (.inr Z) (Qa Z (kc3 hK Z Z Z ?_))))))
    refine Qb fun K hK => Qa Z (Y7 Z Z (kc4 hK Z Z Z Z ?_))
    refine Qx Z (fun h4 => ?_) (fun h4 => ?_)
    ·try rw [h4]
     try simp only [qB] at h4
     refine Qb fun K hK => mv2 Z Z (kc1 hK Z ?_)
     refine Qn (Qh (Qq Z ?_))
     simp [HD, h1, h2, h3, h4]
    ·try rw [h4]
     try simp only [qB] at h4
     refine Qt (ks2 Z Z ?_)
     refine QD ?_ -- 3
     refine Qb fun K hK => Qe Z Z (QB Z Z Z (Qe Z Z (QB Z Z Z (Qw (Zu) Z Z (.inr Z) (Qa Z (kc3 hK Z Z Z ?_))))))
     refine Qb fun K hK => Qa Z (Y7 Z Z (kc4 hK Z Z Z Z ?_))
     refine Qx Z (fun h5 => ?_) (fun h5 => ?_)
     ·try rw [h5]
      try simp only [qB] at h5
      refine Qb fun K hK => mv2 Z Z (kc1 hK Z ?_)
      refine Qn (Qh (Qq Z ?_))
      simp [HD, h1, h2, h3, h4, h5]
     ·try rw [h5]
      try simp only [qB] at h5
      refine Qt (ks2 Z Z (Qb fun K hK => Qe Z Z (QB Z Z Z (Qe Z Z (QB Z Z Z (Qw (Gl Wa Wa) Z Z (.inr Z) (Qa Z (kc1 hK Z ?_))))))))
      refine Qn (Qq Z ?_)
      simp [HD, h1, h2, h3, h4, h5]
theorem Yw {e a b c : Int} {p q : List UInt8} {f : Bool} (hp : p.length <= 1000000) (hq : q.length <= 1000000) : Ok Tryd.prog 73 [.agg [.int .i64 e, .int .i64 a, .int .i64 b, .int .i64 c, .str p, .str q, .bool f]] (.bool (YZ e a b c p q f)) := by
 refine Ok.ofT Z7 Tryd.func73 Qei (QeH Z) ?_
 show TW _ _ tf73.body _ _
 refine Qb fun K hK => ZR Z Z Z (Qa Z (kc1 hK Z ?_))
 refine QD ?_ -- 0
 refine Qb fun K hK => Qe Z Z (QB Z Z Z (Yr Z Z (kc2 hK Z Z ?_)))
 refine Qx Z (fun h1 => ?_) (fun h1 => ?_)
 ·try rw [h1]
  try simp only [qB] at h1
  refine Qb fun K hK => Qe Z Z (QA (cs := [_, _, _, _, _]) Z Z Z Z (Qw (Zr Wa Wa) Z Z (.inr Z) (Qa Z ?_)))
  refine Qs (g := 9) Z (fun h2 => ?_) (fun h2 => ?_)
  ·try rw [h2]
   try simp only [qB] at h2
   refine Qd Z (Qe Z Z (Qd Z (Qe Z Z (Qd Z (QB Z Z Z (Qd Z (HM Z Z (Qf Z Z (Qa Z (kc1 hK Z ?_))))))))))
   refine Qn (Qh (Qk Z ?_))
   (repeat clear hK K); simp_all [YZ]
  ·try rw [h2]
   try simp only [qB] at h2
   refine gn4 Z Z Z Z (Qf Z Z (Qa Z (kc1 hK Z ?_)))
   refine Qn (Qh (Qk Z ?_))
   (repeat clear hK K); simp_all [YZ]
 ·try rw [h1]
  try simp only [qB] at h1
  refine Qt (ks1 Z (Qb fun K hK => Qe Z Z (QB Z Z Z (Yr Z Z (Qa Z ?_)))))
  refine Qs (g := 18) Z (fun h3 => ?_) (fun h3 => ?_)
  ·try rw [h3]
   try simp only [qB] at h3
   refine gn3 Z Z Z (Qf Z Z (Qa Z (Qd Z (Qe Z Z (Qd Z (QA (cs := [_, _, _, _, _]) Z Z Z Z (Qd Z (QW Z Z (Qd Z ?_)))))))))
   refine Rd Z Z Z (Qf Z Z (Qa Z ?_))
   refine Qs (g := 29) Z (fun h4 => ?_) (fun h4 => ?_)
   ·try rw [h4]
    try simp only [qB] at h4
    refine Qd Z (Qe Z Z (Qd Z (QB Z Z Z (Qd Z (ZL Z (Qf Z Z (Qa Z (kc1 hK Z ?_))))))))
    refine Qn (Qk Z ?_)
    (repeat clear hK K); simp_all [YZ]
   ·try rw [h4]
    try simp only [qB] at h4
    refine gn3 Z Z Z (Qf Z Z (Qa Z (kc1 hK Z ?_)))
    refine Qn (Qk Z ?_)
    (repeat clear hK K); simp_all [YZ]
  ·try rw [h3]
   try simp only [qB] at h3
   refine Qd Z (Qe Z Z (Qd Z (QB Z Z Z (Qd Z (Yr Z Z (Qf Z Z (Qa Z ?_)))))))
   refine Qs (g := 23) Z (fun h5 => ?_) (fun h5 => ?_)
   ·try rw [h5]
    try simp only [qB] at h5
    refine Qd Z (Qe Z Z (Qd Z (QA (cs := [_, _, _, _, _]) Z Z Z Z (Qd Z (QW Z Z (Qd Z (Rd Z Z Z (Qf Z Z (Qa Z ?_)))))))))
    refine Qs (g := 29) Z (fun h6 => ?_) (fun h6 => ?_)
    ·try rw [h6]
     try simp only [qB] at h6
     refine Qd Z (Qe Z Z (Qd Z (QB Z Z Z (Qd Z (ZL Z (Qf Z Z (Qa Z (kc1 hK Z ?_))))))))
     refine Qn (Qk Z ?_)
     (repeat clear hK K); simp_all [YZ]
    ·try rw [h6]
     try simp only [qB] at h6
     refine gn3 Z Z Z (Qf Z Z (Qa Z (kc1 hK Z ?_)))
     refine Qn (Qk Z ?_)
     (repeat clear hK K); simp_all [YZ]
   ·try rw [h5]
    try simp only [qB] at h5
    refine gn4 Z Z Z Z (Qf Z Z (Qa Z (gn3 Z Z Z (Qf Z Z (Qa Z (kc1 hK Z ?_))))))
    refine Qn (Qk Z ?_)
    (repeat clear hK K); simp_all [YZ]
theorem Zq {e a b c : Int} {p q : List UInt8} {f : Bool} (hp : p.length <= 1000000) (hq : q.length <= 1000000) {e' a' b' c' : Int} {p' q' : List UInt8} {f' : Bool} (hp' : p'.length <= 1000000) (hq' : q'.length <= 1000000) : Ok Tryd.prog 59 [.agg [.int .i64 e, .int .i64 a, .int .i64 b, .int .i64 c, .str p, .str q, .bool f], .agg [.int .i64 e', .int .i64 a', .int .i64 b', .int .i64 c', .str p', .str q', .bool f']] (.int .i64 (Yt e a b c p q f e' a' b' c' p' q' f')) := by
 refine Ok.ofT Z7 Tryd.func59 Qd4 (QeH Z) ?_
 show TW _ _ tf59.body _ _
 refine Qb fun K hK => ZR Z Z Z (ZR Z Z Z (Qa Z (kc2 hK Z Z ?_)))
 refine QD ?_ -- 0
 refine Qb fun K hK => QA (cs := [_, _, _, _, _, _, _]) Z Z Z Z (Qw (Yw Wa Wa) Z Z (.inr Z) (ZL Z (Qa Z ?_)))
 refine Qs (g := 9) Z (fun h1 => ?_) (fun h1 => ?_)
 ·try rw [h1]
  try simp only [qB] at h1
  refine gn3 Z Z Z (Qf Z Z (kc3 hK Z Z Z ?_))
  refine Zg Z (Qb fun K hK => Qa Z (kc1 hK Z ?_))
  refine Qn (Qh (Qq Z ?_))
  (repeat clear hK K); first | (simp [Yt, h1]; done) | (simp_all [Yt]; done)
 ·try rw [h1]
  try simp only [qB] at h1
  refine Qd Z (QA (cs := [_, _, _, _, _, _, _]) Z Z Z Z (Qd Z (Qw (Yw Wa Wa) Z Z (.inr Z) (Qd Z (ZL Z (Qf Z Z (kc3 hK Z Z Z ?_)))))))
  refine Qx Z (fun h2 => ?_) (fun h2 => ?_)
  ·try rw [h2]
   try simp only [qB] at h2
   refine Qb fun K hK => Qa Z (kc1 hK Z ?_)
   refine Qn (Qh (Qq Z ?_))
   (repeat clear hK K); first | (simp [Yt, h1, h2]; done) | (simp_all [Yt]; done)
  ·try rw [h2]
   try simp only [qB] at h2
   refine Qt (ks2 Z Z ?_)
   refine QD ?_ -- 1
   refine Qb fun K hK => Qe Z Z (QB Z Z Z (Qe Z Z (QB Z Z Z ?_)))
   first | refine Y7 rfl rfl ?_ | refine Li rfl rfl ?_
   refine Qa Z ?_
   refine Qs (g := 19) Z (fun h3 => ?_) (fun h3 => ?_)
   ·try rw [h3]
    try simp only [qB] at h3
    refine gn3 Z Z Z (Qf Z Z (kc3 hK Z Z Z ?_))
    refine Zg Z (Qb fun K hK => Qe Z Z (QB Z Z Z (Qe Z Z (QB Z Z Z (Qw (Zu) Z Z (.inr Z) (Qa Z (kc1 hK Z ?_)))))))
    refine Qn (Qh (Qq Z ?_))
    (repeat clear hK K); first | (simp [Yt, h1, h2, h3]; done) | (simp_all [Yt]; done)
   ·try rw [h3]
    try simp only [qB] at h3
    refine Qd Z (Qe Z Z (Qd Z (QB Z Z Z (Qd Z (Y7 Z Z (Qf Z Z (kc3 hK Z Z Z ?_)))))))
    refine Qx Z (fun h4 => ?_) (fun h4 => ?_)
    ·try rw [h4]
     try simp only [qB] at h4
     refine Qb fun K hK => Qe Z Z (QB Z Z Z (Qe Z Z (QB Z Z Z (Qw (Zu) Z Z (.inr Z) (Qa Z (kc1 hK Z ?_))))))
     refine Qn (Qh (Qq Z ?_))
     (repeat clear hK K); first | (simp [Yt, h1, h2, h3, h4]; done) | (simp_all [Yt]; done)
    ·try rw [h4]
     try simp only [qB] at h4
     refine Qt (ks2 Z Z ?_)
     refine QD ?_ -- 2
     refine Qb fun K hK => Qe Z Z (QA (cs := [_, _, _, _, _]) Z Z Z Z (Qe Z Z (QA (cs := [_, _, _, _, _]) Z Z Z Z (Qw (KQ Wa Wa Wa Wa) Z Z (.inr Z) (Qa Z (kc3 hK Z Z Z ?_))))))
     refine Qb fun K hK => Qa Z (Y7 Z Z (kc4 hK Z Z Z Z ?_))
     refine Qx Z (fun h5 => ?_) (fun h5 => ?_)
     ·try rw [h5]
      try simp only [qB] at h5
      refine Qb fun K hK => mv2 Z Z (kc1 hK Z ?_)
      refine Qn (Qh (Qq Z ?_))
      (repeat clear hK K); first | (simp [Yt, h1, h2, h3, h4, h5]; done) | (simp_all [Yt]; done)
     ·try rw [h5]
      try simp only [qB] at h5
      refine Qt (ks2 Z Z ?_)
      refine QD ?_ -- 3
      refine QI (Qb fun K hK => Qe Z Z (QB Z Z Z (Qe Z Z (QB Z Z Z (Qbs Z Z (Qa Z (kc2 hK Z Z ?_)))))))
      refine Qx Z (fun h6 => ?_) (fun h6 => ?_)
      ·try rw [h6]
       try simp only [qB] at h6
       refine Qb fun K hK => Qa Z (kc1 hK Z ?_)
       refine Qn (Qr (Qh (Qq Z ?_)))
       (repeat clear hK K); first | (simp [Yt, h1, h2, h3, h4, h5, h6]; done) | (simp_all [Yt]; done)
      ·try rw [h6]
       try simp only [qB] at h6
       refine Qb fun K hK => Qe Z Z (QB Z Z Z (Qa Z (kc1 hK Z ?_)))
       refine Qx Z (fun h7 => ?_) (fun h7 => ?_)
       ·try rw [h7]
        try simp only [qB] at h7
        refine Qb fun K hK => Qa Z (kc1 hK Z ?_)
        refine Qn (Qr (Qh (Qq Z ?_)))
        (repeat clear hK K); first | (simp [Yt, h1, h2, h3, h4, h5, h6, h7]; done) | (simp_all [Yt]; done)
       ·try rw [h7]
        try simp only [qB] at h7
        refine Qt (Qi (Zs (ZJ) (Qb fun K hK => Qa Z (kc1 hK Z ?_))))
        refine Qn (Qq Z ?_)
        (repeat clear hK K); first | (simp [Yt, h1, h2, h3, h4, h5, h6, h7]; done) | (simp_all [Yt]; done)
theorem XA {e a b c : Int} {p q : List UInt8} {f : Bool} (hp : p.length <= 1000000) (hq : q.length <= 1000000) {e' a' b' c' : Int} {p' q' : List UInt8} {f' : Bool} (hp' : p'.length <= 1000000) (hq' : q'.length <= 1000000) : Ok Tryd.prog 58 [.agg [.int .i64 e, .int .i64 a, .int .i64 b, .int .i64 c, .str p, .str q, .bool f, .int .i64 e', .int .i64 a', .int .i64 b', .int .i64 c', .str p', .str q', .bool f']] (.bool (Hf e a b c p q f e' a' b' c' p' q' f')) := by
 refine Ok.ofT Z7 Tryd.func58 Qd3 (QeH Z) ?_
 show TW _ _ tf58.body _ _
 refine Qb fun K hK => ZR Z Z Z (Qa Z (kc1 hK Z ?_))
 refine Qb fun K hK => Qe Z Z (QA (cs := [_, _, _, _, _, _, _]) Z Z Z Z (Qw (Yw Wa Wa) Z Z (.inr Z) (Qa Z ?_)))
 refine Qs (g := 6) Z (fun h1 => ?_) (fun h1 => ?_)
 ·try rw [h1]
  try simp only [qB] at h1
  refine Qd Z (Qe Z Z (Qd Z (QA (cs := [_, _, _, _, _, _, _]) Z Z Z Z (Qd Z (Qw (Yw Wa Wa) Z Z (.inr Z) (Qf Z Z (Qa Z ?_)))))))
  refine Qs (g := 11) Z (fun h2 => ?_) (fun h2 => ?_)
  ·try rw [h2]
   try simp only [qB] at h2
   refine Qd Z (Qe Z Z (Qd Z (QA (cs := [_, _, _, _, _, _, _]) Z Z Z Z (Qd Z (Qe Z Z (Qd Z (QA (cs := [_, _, _, _, _, _, _]) Z Z Z Z (Qd Z (Qw (Zq Wa Wa Wa Wa) Z Z (.inr Z) (Qd Z (YX Z Z ?_)))))))))))
   refine Qf Z Z (Qa Z (kc1 hK Z ?_))
   refine Qn (Qk Z ?_)
   (repeat clear hK K); first | (simp [Hf, h1, h2]; done) | (simp_all [Hf]; done)
  ·try rw [h2]
   try simp only [qB] at h2
   refine gn4 Z Z Z Z (gn2 Z Z (Qf Z Z (Qa Z (kc1 hK Z ?_))))
   refine Qn (Qk Z ?_)
   (repeat clear hK K); first | (simp [Hf, h1, h2]; done) | (simp_all [Hf]; done)
 ·try rw [h1]
  try simp only [qB] at h1
  refine gn3 Z Z Z (Qf Z Z (Qa Z (gn4 Z Z Z Z (gn2 Z Z (Qf Z Z ?_)))))
  refine Qa Z (kc1 hK Z ?_)
  refine Qn (Qk Z ?_)
  (repeat clear hK K); first | (simp [Hf, h1]; done) | (simp_all [Hf]; done)
open Go Go.Abs M3
theorem _root_.Wl {p : Prop} (h : p := by first | (left; assumption) | (right; omega)) : p := h
theorem JT {s : List UInt8} (hl : s.length <= 1000000) : Ok Tryd.prog 79 [.str s] (.tup [.int .i64 (Ye s).1, .bool (Ye s).2]) := by
 refine Ok.ofT Z7 Tryd.func79 Qeo (QeH Z) ?_
 show TW _ _ tf79.body _ _
 refine Qb fun K hK => mv2 Z Z (kc1 hK Z ?_)
 refine LI (ι := Unit) (fun _u => ⟨[(0, .str s)], []⟩) (fun _u => ¬ (s = [] \/ 4 < s.length \/ (1 < s.length /\ s.head? = some 48))) ?_ ?_
 ·skip
  refine Qb fun K hK => Qa Z (HM Z Z (Qa Z ?_))
  refine Qs (g := 9) Z (fun h1 => ?_) (fun h1 => ?_)
  ·try rw [h1]
   try simp only [qB, QeL, QeU, decide_eq_true_eq] at h1
   refine gn3 Z Z Z (Qf Z Z (Qa Z (gn4 Z Z Z Z (QE Z (QE Z (QE Z ?_))))))
   refine XT Z (Qf Z Z (kc2 hK Z Z ?_))
   refine Zg Z (Qb fun K hK => mv2 Z Z (kc2 hK Z Z ?_))
   refine Qn (HA (ZQ Z Z ?_))
   first | (rw [JM (s := s) Wl]; exact ⟨rfl, rfl⟩) | (rw [Yz (s := s) Wa Wd]; exact ⟨rfl, rfl⟩) | (rw [Xr (s := s) (i := i) Wa Wo]; exact ⟨rfl, rfl⟩) | (rw [Hi (s := s) (i := i) hJ Wa hI.2.1]; exact ⟨rfl, by simp [XZ, D.fz, D.fzS, D.can, D.canS]; omega⟩)
  ·try rw [h1]
   try simp only [qB, QeL, QeU, decide_eq_true_eq] at h1
   refine Qd Z (Qa Z (Qd Z (Yl Z (Qd Z (Fi Z Z (Qf Z Z (Qa Z ?_)))))))
   refine Qs (g := 14) Z (fun h2 => ?_) (fun h2 => ?_)
   ·try rw [h2]
    try simp only [qB, QeL, QeU, decide_eq_true_eq] at h2
    refine gn4 Z Z Z Z (QE Z (QE Z (QE Z (XT Z (Qf Z Z (kc2 hK Z Z ?_))))))
    refine Zg Z (Qb fun K hK => mv2 Z Z (kc2 hK Z Z ?_))
    refine Qn (HA (ZQ Z Z ?_))
    first | (rw [JM (s := s) Wl]; exact ⟨rfl, rfl⟩) | (rw [Yz (s := s) Wa Wd]; exact ⟨rfl, rfl⟩) | (rw [Xr (s := s) (i := i) Wa Wo]; exact ⟨rfl, rfl⟩) | (rw [Hi (s := s) (i := i) hJ Wa hI.2.1]; exact ⟨rfl, by simp [XZ, D.fz, D.fzS, D.can, D.canS]; omega⟩)
   ·try rw [h2]
    try simp only [qB, QeL, QeU, decide_eq_true_eq] at h2
    refine Qd Z (Qa Z (Qd Z (Yg Z Z Wa (Hb (i := 0) (List.length_pos_iff.2 Wd)) (Qd Z (Yr Z Z (Qd Z (Qa Z ?_)))))))
    refine Qs (g := 18) Z (fun h3 => ?_) (fun h3 => ?_)
    ·try rw [h3]
     try simp only [qB, QeL, QeU, decide_eq_true_eq] at h3
     refine Qd Z (Qa Z (Qd Z (Yl Z (Qd Z (Fi Z Z (Qd Z (Qf Z Z (Qf Z Z (kc2 hK Z Z ?_)))))))))
     refine Qx Z (fun h4 => ?_) (fun h4 => ?_)
     ·try rw [h4]
      try simp only [qB, QeL, QeU, decide_eq_true_eq] at h4
      refine Qb fun K hK => mv2 Z Z (kc2 hK Z Z ?_)
      refine Qn (HA (ZQ Z Z ?_))
      first | (rw [JM (s := s) Wl]; exact ⟨rfl, rfl⟩) | (rw [Yz (s := s) Wa Wd]; exact ⟨rfl, rfl⟩) | (rw [Xr (s := s) (i := i) Wa Wo]; exact ⟨rfl, rfl⟩) | (rw [Hi (s := s) (i := i) hJ Wa hI.2.1]; exact ⟨rfl, by simp [XZ, D.fz, D.fzS, D.can, D.canS]; omega⟩)
     ·try rw [h4]
      try simp only [qB, QeL, QeU, decide_eq_true_eq] at h4
      refine Qt ?_
      refine XE () ?_ ?_
      ·exact Q4 (kp1 rfl)
      ·rintro (q | q | q) <;> first | (simp_all; done) | omega | exact Py (s := s) Wa Wd q.2
    ·try rw [h3]
     try simp only [qB, QeL, QeU, decide_eq_true_eq] at h3
     refine gn3 Z Z Z (Qd Z (Qf Z Z (Qf Z Z (kc2 hK Z Z ?_))))
     refine Zy Z (Qt ?_)
     refine XE () ?_ ?_
     ·exact Q4 (kp1 rfl)
     ·rintro (q | q | q) <;> first | (simp_all; done) | omega | exact Py (s := s) Wa Wd q.2
 intro _u hJ
 try dsimp only
 refine Qb fun K hK => Qa Z (kc2 hK Z Z ?_)
 refine QD ?_ -- 1
 refine Qb fun K hK => Qa Z (LG Z Z (kc2 hK Z Z ?_))
 refine QI ?_
 refine Yb (ι := Nat) (fun i => ⟨[(4, .int .i64 (val (s.take i))), (25, .ref 25 0 0)], [(25, ⟨[], 0, Zp s i, false⟩)]⟩) (fun i => i <= s.length /\ (s.take i).all Yj = true /\ s.length <= 4 /\ 0 < s.length) (fun i => s.length - i) 0 ?_ ?_ ?_
 ·exact Zw (l := [4, 25]) (lH := [25]) (kp2 rfl rfl) (Qv rfl Qy) (by simp [val]) rfl rfl
 ·exact ⟨QeT _, rfl, Nat.le_of_not_lt fun h => hJ (.inr (.inl h)), List.length_pos_iff.2 fun h => hJ (.inl h)⟩
 intro i hI
 have hv := Cb (s := s.take i) hI.2.1
 have hp : 10 ^ (s.take i).length <= 10 ^ 4 := Nat.pow_le_pow_right Wa Wm
 have hI1 := hI.1
 have hI3 := hI.2.2.1
 try dsimp only
 refine Qb fun K hK => ?_
 rcases Qe5 (i) (s).length with h5 | h5
 ·rcases Qe5 (((s)[i]).toNat) 128 with h6 | h6
  ·refine Tk Z Z h5 (Rt h5 h6) (Zd Z Z (kc4 hK Z Z Z Z ?_))
   refine QD ?_ -- 2
   refine Zg Z (Qt (ks3 Z Z Z (QI (Qb fun K hK => Zd Z Z (Qa Z (kc3 hK Z Z Z ?_))))))
   refine QI (Qb fun K hK => Qa Z (Tj Z Z (Qa Z ?_)))
   refine Qs (g := 32) Z (fun h7 => ?_) (fun h7 => ?_)
   ·try rw [h7]
    try simp only [qB, QeL, QeU, decide_eq_true_eq] at h7
    refine Qd Z (Qa Z (Qd Z (Co Z Z (Qf Z Z (Qa Z (kc4 hK Z Z Z Z ?_))))))
    refine Qx Z (fun h8 => ?_) (fun h8 => ?_)
    ·try rw [h8]
     try simp only [qB, QeL, QeU, decide_eq_true_eq] at h8
     refine Za fun K hK => Qa Z (Cp Z Z Wc (Qa Z (HN Z Z Wc (MG Z Wc (Zc Z Z Wc (Qa Z (hK _ ?_)))))))
     refine Qi (Qi ?_)
     refine Ql (i + 1) ?_ ?_ ?_
     ·first | exact Zw (l := [4, 25]) (lH := [25]) (kp2 rfl rfl) (Qv rfl Qy) rfl rfl rfl | exact Zw (l := [4, 25]) (lH := [25]) (kp2 rfl rfl) (Qv rfl Qy) Wz rfl rfl | (exfalso; omega)
     ·first | exact ⟨Wa, Zb Wa hI.2.1 Wo, hI.2.2⟩ | (exfalso; omega)
     ·first | omega | (simp only; omega) | (dsimp only; omega)
    ·try rw [h8]
     try simp only [qB, QeL, QeU, decide_eq_true_eq] at h8
     refine Qb fun K hK => mv2 Z Z (kc2 hK Z Z ?_)
     refine Qn (Qr (Qr (Q5 (Qr (Qh (ZQ Z Z ?_))))))
     first | (rw [JM (s := s) Wl]; exact ⟨rfl, rfl⟩) | (rw [Yz (s := s) Wa Wd]; exact ⟨rfl, rfl⟩) | (rw [Xr (s := s) (i := i) Wa Wo]; exact ⟨rfl, rfl⟩) | (rw [Hi (s := s) (i := i) hJ Wa hI.2.1]; exact ⟨rfl, by simp [XZ, D.fz, D.fzS, D.can, D.canS]; omega⟩)
   ·try rw [h7]
    try simp only [qB, QeL, QeU, decide_eq_true_eq] at h7
    refine gn2 Z Z (Qf Z Z (Qa Z (kc4 hK Z Z Z Z ?_)))
    refine Zy Z (Qb fun K hK => mv2 Z Z (kc2 hK Z Z ?_))
    refine Qn (Qr (Qr (Q5 (Qr (Qh (ZQ Z Z ?_))))))
    first | (rw [JM (s := s) Wl]; exact ⟨rfl, rfl⟩) | (rw [Yz (s := s) Wa Wd]; exact ⟨rfl, rfl⟩) | (rw [Xr (s := s) (i := i) Wa Wo]; exact ⟨rfl, rfl⟩) | (rw [Hi (s := s) (i := i) hJ Wa hI.2.1]; exact ⟨rfl, by simp [XZ, D.fz, D.fzS, D.can, D.canS]; omega⟩)
  ·obtain ⟨cwh6, nwh6, hch6, hdh6⟩ := To h5 h6
   refine Tk Z Z h5 hdh6 (Zd Z Z (kc4 hK Z Z Z Z ?_))
   refine QD ?_ -- 2
   refine Zg Z (Qt (ks3 Z Z Z (QI (Qb fun K hK => Zd Z Z (Qa Z (kc3 hK Z Z Z ?_))))))
   refine QI (Qb fun K hK => Qa Z (Tj Z Z (Qa Z ?_)))
   refine Qs (g := 32) Z (fun h9 => ?_) (fun h9 => ?_)
   ·try rw [h9]
    try simp only [qB, QeL, QeU, decide_eq_true_eq] at h9
    refine Qd Z (Qa Z (Qd Z (Co Z Z (Qf Z Z (Qa Z (kc4 hK Z Z Z Z ?_))))))
    refine Qx Z (fun h10 => ?_) (fun h10 => ?_)
    ·try rw [h10]
     try simp only [qB, QeL, QeU, decide_eq_true_eq] at h10
     refine Za fun K hK => Qa Z (Cp Z Z Wc (Qa Z (HN Z Z Wc (MG Z Wc (Zc Z Z Wc (Qa Z (hK _ ?_)))))))
     refine Qi (Qi ?_)
     refine Ql (i + 1) ?_ ?_ ?_
     ·first | exact Zw (l := [4, 25]) (lH := [25]) (kp2 rfl rfl) (Qv rfl Qy) rfl rfl rfl | exact Zw (l := [4, 25]) (lH := [25]) (kp2 rfl rfl) (Qv rfl Qy) Wz rfl rfl | (exfalso; omega)
     ·first | exact ⟨Wa, Zb Wa hI.2.1 Wo, hI.2.2⟩ | (exfalso; omega)
     ·first | omega | (simp only; omega) | (dsimp only; omega)
    ·try rw [h10]
     try simp only [qB, QeL, QeU, decide_eq_true_eq] at h10
     refine Qb fun K hK => mv2 Z Z (kc2 hK Z Z ?_)
     refine Qn (Qr (Qr (Q5 (Qr (Qh (ZQ Z Z ?_))))))
     first | (rw [JM (s := s) Wl]; exact ⟨rfl, rfl⟩) | (rw [Yz (s := s) Wa Wd]; exact ⟨rfl, rfl⟩) | (rw [Xr (s := s) (i := i) Wa Wo]; exact ⟨rfl, rfl⟩) | (rw [Hi (s := s) (i := i) hJ Wa hI.2.1]; exact ⟨rfl, by simp [XZ, D.fz, D.fzS, D.can, D.canS]; omega⟩)
   ·try rw [h9]
    try simp only [qB, QeL, QeU, decide_eq_true_eq] at h9
    refine gn2 Z Z (Qf Z Z (Qa Z (kc4 hK Z Z Z Z ?_)))
    refine Zy Z (Qb fun K hK => mv2 Z Z (kc2 hK Z Z ?_))
    refine Qn (Qr (Qr (Q5 (Qr (Qh (ZQ Z Z ?_))))))
    first | (rw [JM (s := s) Wl]; exact ⟨rfl, rfl⟩) | (rw [Yz (s := s) Wa Wd]; exact ⟨rfl, rfl⟩) | (rw [Xr (s := s) (i := i) Wa Wo]; exact ⟨rfl, rfl⟩) | (rw [Hi (s := s) (i := i) hJ Wa hI.2.1]; exact ⟨rfl, by simp [XZ, D.fz, D.fzS, D.can, D.canS]; omega⟩)
 ·refine Re Z Z Wa (Zd Z Z (kc4 hK Z Z Z Z ?_))
  refine QD ?_ -- 2
  refine Zy Z (ZC (QP (Qz (QH (ks1 Z (Qb fun K hK => mv2 Z Z (Co Z Z (mv2 Z Z ?_))))))))
  refine kc2 hK Z Z ?_
  refine Qn (ZQ Z Z ?_)
  first | (rw [JM (s := s) Wl]; exact ⟨rfl, rfl⟩) | (rw [Yz (s := s) Wa Wd]; exact ⟨rfl, rfl⟩) | (rw [Xr (s := s) (i := i) Wa Wo]; exact ⟨rfl, rfl⟩) | (rw [Hi (s := s) (i := i) hJ Wa hI.2.1]; exact ⟨rfl, by simp [XZ, D.fz, D.fzS, D.can, D.canS]; omega⟩)
theorem _root_.Wk {p : Prop} (h : p := by decide) : p := h
theorem JV {s : List UInt8} (hl : s.length <= 1000000) : Ok Tryd.prog 65 [.str s] (.bool (Gd s)) := by
 refine Ok.ofT Z7 Tryd.func65 Qea (QeH Z) ?_
 show TW _ _ tf65.body _ _
 refine Qb fun K hK => Qa Z (kc1 hK Z ?_)
 refine Qaf (Qb fun K hK => Qa Z (Qw (X1 Wa) Z Z (.inl Z) (Qa Z (kc1 hK Z ?_))))
 refine Qb fun K hK => Qa Z (ZD Z Z (Co Z Z (Qa Z (kc2 hK Z Z ?_))))
 refine QD ?_ -- 0
 refine Qt (ks2 Z Z ?_)
 refine QD ?_ -- 1
 refine Qb fun K hK => Qa Z (ZD Z Z (Qa Z (kc4 hK Z Z Z Z ?_)))
 refine QI ?_
 refine Yb (ι := Nat) (fun i => ⟨[(4, .bool (decide ((Q1 s 46).length <= 4))), (14, .sl (YL (Q1 s 46))), (15, .int .i64 (Q1 s 46).length), (16, .int .i64 i)], []⟩) (fun i => i <= (Q1 s 46).length /\ ((Q1 s 46).take i).all KV = true) (fun i => (Q1 s 46).length - i) 0 ?_ ?_ ?_
 ·exact Zw (l := [4, 14, 15, 16]) (kp4 rfl rfl rfl rfl) Qy (by simp [Qm]; omega) rfl rfl
 ·exact ⟨QeT _, rfl⟩
 intro i hI
 have sl := Ff (s := s) (c := 46)
 try dsimp only
 refine Qb fun K hK => YX Z Z (kc5 hK Z Z Z Z Z ?_)
 refine QD ?_ -- 2
 refine Qx Z (fun h1 => ?_) (fun h1 => ?_)
 ·try rw [h1]
  try simp only [qB, Qm] at h1
  refine Qt (ks4 Z Z Z Z ?_)
  refine QD ?_ -- 3
  refine QI (Qb fun K hK => QV Z Z Z Wa (X5 Wa) Z (QB Z Z Z (Qa Z (kc5 hK Z Z Z Z Z ?_))))
  refine QD ?_ -- 4
  refine Qb fun K hK => Qa Z (HM Z Z (Qa Z ?_))
  refine Qs (g := 22) Z (fun h2 => ?_) (fun h2 => ?_)
  ·try rw [h2]
   try simp only [qB, Qm] at h2
   refine gn3 Z Z Z (Qf Z Z (kc6 hK Z Z Z Z Z Z ?_))
   refine Zg Z (Qb fun K hK => Qa Z (kc1 hK Z ?_))
   refine ZC (QP (Q6 Wk (QP (Qz (QH (ks1 Z (Qb fun K hK => mv2 Z Z (kc1 hK Z ?_))))))))
   refine Qn (Qk Z ?_)
   first | exact (ZO (i := i) Wa (Xq Wl)).symm | exact (ZO (i := i) Wa (Xp (Yh (i := j) Wa Wn))).symm | exact (YI Wa hI.2).symm
  ·try rw [h2]
   try simp only [qB, Qm] at h2
   refine Qd Z (Qa Z (Qd Z (Yl Z (Qd Z (Fi Z Z (Qf Z Z (kc6 hK Z Z Z Z Z Z ?_)))))))
   refine Qx Z (fun h3 => ?_) (fun h3 => ?_)
   ·try rw [h3]
    try simp only [qB, Qm] at h3
    refine Qb fun K hK => Qa Z (kc1 hK Z ?_)
    refine ZC (QP (Q6 Wk (QP (Qz (QH (ks1 Z (Qb fun K hK => mv2 Z Z (kc1 hK Z ?_))))))))
    refine Qn (Qk Z ?_)
    first | exact (ZO (i := i) Wa (Xq Wl)).symm | exact (ZO (i := i) Wa (Xp (Yh (i := j) Wa Wn))).symm | exact (YI Wa hI.2).symm
   ·try rw [h3]
    try simp only [qB, Qm] at h3
    refine Qt (ks5 Z Z Z Z Z (Qb fun K hK => Qa Z (LG Z Z (kc5 hK Z Z Z Z Z ?_))))
    refine QI ?_
    have hlt : i < (Q1 s 46).length := Wa
    refine Yb (ι := Nat) (fun j => ⟨[(4, .bool (decide ((Q1 s 46).length <= 4))), (14, .sl (YL (Q1 s 46))), (15, .int .i64 (Q1 s 46).length), (16, .int .i64 i), (28, .ref 28 0 0)], [(28, ⟨[], 0, Zp ((Q1 s 46)[i]'hlt) j, false⟩)]⟩) (fun j => j <= ((Q1 s 46)[i]'hlt).length /\ (((Q1 s 46)[i]'hlt).take j).all ZM = true) (fun j => ((Q1 s 46)[i]'hlt).length - j) 0 ?_ ?_ ?_
    ·first | exact Zw (l := [4, 14, 15, 16, 28]) (lH := [28]) (kp5 rfl rfl rfl rfl rfl) (Qv rfl Qy) rfl rfl rfl | (exfalso; omega)
    ·exact ⟨QeT _, rfl⟩
    intro j hJ
    have hJ1 := hJ.1
    try dsimp only
    refine Qb fun K hK => ?_
    rcases Qe5 (j) (((Q1 s 46)[i]'hlt)).length with h4 | h4
    ·rcases Qe5 (((((Q1 s 46)[i]'hlt))[j]).toNat) 128 with h5 | h5
     ·refine Tk Z Z h4 (Rt h4 h5) (Zd Z Z (kc7 hK Z Z Z Z Z Z Z ?_))
      refine QD ?_ -- 5
      refine Zg Z (Qt (ks6 Z Z Z Z Z Z (QI (Qb fun K hK => Zd Z Z (Qa Z (kc6 hK Z Z Z Z Z Z ?_))))))
      refine Qb fun K hK => Qa Z (YX Z Z (Qa Z ?_))
      refine Qs (g := 34) Z (fun h6 => ?_) (fun h6 => ?_)
      ·try rw [h6]
       try simp only [qB, Qm] at h6
       refine gn2 Z Z (Qf Z Z (Qa Z (Qd Z (Qa Z (Qd Z (YX Z Z (Qd Z (Qa Z ?_))))))))
       refine Qs (g := 41) Z (fun h7 => ?_) (fun h7 => ?_)
       ·try rw [h7]
        try simp only [qB, Qm] at h7
        refine gn2 Z Z (Qd Z (Qf Z Z (Qf Z Z (Qa Z (Qd Z (Qa Z (Qd Z (Y7 Z Z (Qf Z Z (kc6 hK Z Z Z Z Z Z ?_))))))))))
        refine Qx Z (fun h8 => ?_) (fun h8 => ?_)
        ·try rw [h8]
         try simp only [qB, Qm] at h8
         refine Qb fun K hK => Qa Z (kc1 hK Z ?_)
         refine ZC (Q6 Wk (Qz (Q6 Wk (Q6 Wk (QP (Qz (QH (ks1 Z (Qb fun K hK => mv2 Z Z ?_)))))))))
         refine kc1 hK Z ?_
         refine Qn (Qk Z ?_)
         first | exact (ZO (i := i) Wa (Xq Wl)).symm | exact (ZO (i := i) Wa (Xp (Yh (i := j) Wa Wn))).symm | exact (YI Wa hI.2).symm
        ·try rw [h8]
         try simp only [qB, Qm] at h8
         refine Qt (Qi ?_)
         refine Ql (j + 1) ?_ ?_ ?_
         ·first | exact Zw (l := [4, 14, 15, 16, 28]) (lH := [28]) (kp5 rfl rfl rfl rfl rfl) (Qv rfl Qy) rfl rfl rfl | (exfalso; omega)
         ·first | exact ⟨Wa, Zb Wa hJ.2 Wn⟩ | (exfalso; omega)
         ·first | omega | (simp only; omega) | (dsimp only; omega)
       ·try rw [h7]
        try simp only [qB, Qm] at h7
        refine Qd Z (Qa Z (Qd Z (Fi Z Z (Qd Z (Qf Z Z (Qf Z Z (Qa Z ?_)))))))
        refine Qs (g := 46) Z (fun h9 => ?_) (fun h9 => ?_)
        ·try rw [h9]
         try simp only [qB, Qm] at h9
         refine Qd Z (Qa Z (Qd Z (Y7 Z Z (Qf Z Z (kc6 hK Z Z Z Z Z Z ?_)))))
         refine Qx Z (fun h10 => ?_) (fun h10 => ?_)
         ·try rw [h10]
          try simp only [qB, Qm] at h10
          refine Qb fun K hK => Qa Z (kc1 hK Z ?_)
          refine ZC (Q6 Wk (Qz (Q6 Wk (Q6 Wk (QP (Qz (QH (ks1 Z (Qb fun K hK => mv2 Z Z ?_)))))))))
          refine kc1 hK Z ?_
          refine Qn (Qk Z ?_)
          first | exact (ZO (i := i) Wa (Xq Wl)).symm | exact (ZO (i := i) Wa (Xp (Yh (i := j) Wa Wn))).symm | exact (YI Wa hI.2).symm
         ·try rw [h10]
          try simp only [qB, Qm] at h10
          refine Qt (Qi ?_)
          refine Ql (j + 1) ?_ ?_ ?_
          ·first | exact Zw (l := [4, 14, 15, 16, 28]) (lH := [28]) (kp5 rfl rfl rfl rfl rfl) (Qv rfl Qy) rfl rfl rfl | (exfalso; omega)
          ·first | exact ⟨Wa, Zb Wa hJ.2 Wn⟩ | (exfalso; omega)
          ·first | omega | (simp only; omega) | (dsimp only; omega)
        ·try rw [h9]
         try simp only [qB, Qm] at h9
         refine gn2 Z Z (Qf Z Z (kc6 hK Z Z Z Z Z Z ?_))
         refine Zy Z (Qt (Qi ?_))
         refine Ql (j + 1) ?_ ?_ ?_
         ·first | exact Zw (l := [4, 14, 15, 16, 28]) (lH := [28]) (kp5 rfl rfl rfl rfl rfl) (Qv rfl Qy) rfl rfl rfl | (exfalso; omega)
         ·first | exact ⟨Wa, Zb Wa hJ.2 Wn⟩ | (exfalso; omega)
         ·first | omega | (simp only; omega) | (dsimp only; omega)
      ·try rw [h6]
       try simp only [qB, Qm] at h6
       refine Qd Z (Qa Z (Qd Z (Fi Z Z (Qf Z Z (Qa Z ?_)))))
       refine Qs (g := 38) Z (fun h11 => ?_) (fun h11 => ?_)
       ·try rw [h11]
        try simp only [qB, Qm] at h11
        refine Qd Z (Qa Z (Qd Z (YX Z Z (Qd Z (Qa Z ?_)))))
        refine Qs (g := 41) Z (fun h12 => ?_) (fun h12 => ?_)
        ·try rw [h12]
         try simp only [qB, Qm] at h12
         refine gn2 Z Z (Qd Z (Qf Z Z (Qf Z Z (Qa Z (Qd Z (Qa Z (Qd Z (Y7 Z Z (Qf Z Z (kc6 hK Z Z Z Z Z Z ?_))))))))))
         refine Qx Z (fun h13 => ?_) (fun h13 => ?_)
         ·try rw [h13]
          try simp only [qB, Qm] at h13
          refine Qb fun K hK => Qa Z (kc1 hK Z ?_)
          refine ZC (Q6 Wk (Qz (Q6 Wk (Q6 Wk (QP (Qz (QH (ks1 Z (Qb fun K hK => mv2 Z Z ?_)))))))))
          refine kc1 hK Z ?_
          refine Qn (Qk Z ?_)
          first | exact (ZO (i := i) Wa (Xq Wl)).symm | exact (ZO (i := i) Wa (Xp (Yh (i := j) Wa Wn))).symm | exact (YI Wa hI.2).symm
         ·try rw [h13]
          try simp only [qB, Qm] at h13
          refine Qt (Qi ?_)
          refine Ql (j + 1) ?_ ?_ ?_
          ·first | exact Zw (l := [4, 14, 15, 16, 28]) (lH := [28]) (kp5 rfl rfl rfl rfl rfl) (Qv rfl Qy) rfl rfl rfl | (exfalso; omega)
          ·first | exact ⟨Wa, Zb Wa hJ.2 Wn⟩ | (exfalso; omega)
          ·first | omega | (simp only; omega) | (dsimp only; omega)
        ·try rw [h12]
         try simp only [qB, Qm] at h12
         refine Qd Z (Qa Z (Qd Z (Fi Z Z (Qd Z (Qf Z Z (Qf Z Z (Qa Z ?_)))))))
         refine Qs (g := 46) Z (fun h14 => ?_) (fun h14 => ?_)
         ·try rw [h14]
          try simp only [qB, Qm] at h14
          refine Qd Z (Qa Z (Qd Z (Y7 Z Z (Qf Z Z (kc6 hK Z Z Z Z Z Z ?_)))))
          refine Qx Z (fun h15 => ?_) (fun h15 => ?_)
          ·try rw [h15]
           try simp only [qB, Qm] at h15
           refine Qb fun K hK => Qa Z (kc1 hK Z ?_)
           refine ZC (Q6 Wk (Qz (Q6 Wk (Q6 Wk (QP (Qz (QH (ks1 Z (Qb fun K hK => mv2 Z Z ?_)))))))))
           refine kc1 hK Z ?_
           refine Qn (Qk Z ?_)
           first | exact (ZO (i := i) Wa (Xq Wl)).symm | exact (ZO (i := i) Wa (Xp (Yh (i := j) Wa Wn))).symm | exact (YI Wa hI.2).symm
          ·try rw [h15]
           try simp only [qB, Qm] at h15
           refine Qt (Qi ?_)
           refine Ql (j + 1) ?_ ?_ ?_
           ·first | exact Zw (l := [4, 14, 15, 16, 28]) (lH := [28]) (kp5 rfl rfl rfl rfl rfl) (Qv rfl Qy) rfl rfl rfl | (exfalso; omega)
           ·first | exact ⟨Wa, Zb Wa hJ.2 Wn⟩ | (exfalso; omega)
           ·first | omega | (simp only; omega) | (dsimp only; omega)
         ·try rw [h14]
          try simp only [qB, Qm] at h14
          refine gn2 Z Z (Qf Z Z (kc6 hK Z Z Z Z Z Z ?_))
          refine Zy Z (Qt (Qi ?_))
          refine Ql (j + 1) ?_ ?_ ?_
          ·first | exact Zw (l := [4, 14, 15, 16, 28]) (lH := [28]) (kp5 rfl rfl rfl rfl rfl) (Qv rfl Qy) rfl rfl rfl | (exfalso; omega)
          ·first | exact ⟨Wa, Zb Wa hJ.2 Wn⟩ | (exfalso; omega)
          ·first | omega | (simp only; omega) | (dsimp only; omega)
       ·try rw [h11]
        try simp only [qB, Qm] at h11
        refine gn3 Z Z Z (QE Z (QE Z (XT Z (Qf Z Z (Qa Z (gn2 Z Z (Qf Z Z (kc6 hK Z Z Z Z Z Z ?_))))))))
        refine Zy Z (Qt (Qi ?_))
        refine Ql (j + 1) ?_ ?_ ?_
        ·first | exact Zw (l := [4, 14, 15, 16, 28]) (lH := [28]) (kp5 rfl rfl rfl rfl rfl) (Qv rfl Qy) rfl rfl rfl | (exfalso; omega)
        ·first | exact ⟨Wa, Zb Wa hJ.2 Wn⟩ | (exfalso; omega)
        ·first | omega | (simp only; omega) | (dsimp only; omega)
     ·obtain ⟨cwh5, nwh5, hch5, hdh5⟩ := To h4 h5
      refine Tk Z Z h4 hdh5 (Zd Z Z (kc7 hK Z Z Z Z Z Z Z ?_))
      refine QD ?_ -- 5
      refine Zg Z (Qt (ks6 Z Z Z Z Z Z (QI (Qb fun K hK => Zd Z Z (Qa Z (kc6 hK Z Z Z Z Z Z ?_))))))
      refine Qb fun K hK => Qa Z (YX Z Z (Qa Z ?_))
      refine Qs (g := 34) Z (fun h16 => ?_) (fun h16 => ?_)
      ·try rw [h16]
       try simp only [qB, Qm] at h16
       refine gn2 Z Z (Qf Z Z (Qa Z (Qd Z (Qa Z (Qd Z (YX Z Z (Qd Z (Qa Z ?_))))))))
       refine Qs (g := 41) Z (fun h17 => ?_) (fun h17 => ?_)
       ·try rw [h17]
        try simp only [qB, Qm] at h17
        refine gn2 Z Z (Qd Z (Qf Z Z (Qf Z Z (Qa Z (Qd Z (Qa Z (Qd Z (Y7 Z Z (Qf Z Z (kc6 hK Z Z Z Z Z Z ?_))))))))))
        refine Qx Z (fun h18 => ?_) (fun h18 => ?_)
        ·try rw [h18]
         try simp only [qB, Qm] at h18
         refine Qb fun K hK => Qa Z (kc1 hK Z ?_)
         refine ZC (Q6 Wk (Qz (Q6 Wk (Q6 Wk (QP (Qz (QH (ks1 Z (Qb fun K hK => mv2 Z Z ?_)))))))))
         refine kc1 hK Z ?_
         refine Qn (Qk Z ?_)
         first | exact (ZO (i := i) Wa (Xq Wl)).symm | exact (ZO (i := i) Wa (Xp (Yh (i := j) Wa Wn))).symm | exact (YI Wa hI.2).symm
        ·try rw [h18]
         try simp only [qB, Qm] at h18
         refine Qt (Qi ?_)
         refine Ql (j + 1) ?_ ?_ ?_
         ·first | exact Zw (l := [4, 14, 15, 16, 28]) (lH := [28]) (kp5 rfl rfl rfl rfl rfl) (Qv rfl Qy) rfl rfl rfl | (exfalso; omega)
         ·first | exact ⟨Wa, Zb Wa hJ.2 Wn⟩ | (exfalso; omega)
         ·first | omega | (simp only; omega) | (dsimp only; omega)
       ·try rw [h17]
        try simp only [qB, Qm] at h17
        refine Qd Z (Qa Z (Qd Z (Fi Z Z (Qd Z (Qf Z Z (Qf Z Z (Qa Z ?_)))))))
        refine Qs (g := 46) Z (fun h19 => ?_) (fun h19 => ?_)
        ·try rw [h19]
         try simp only [qB, Qm] at h19
         refine Qd Z (Qa Z (Qd Z (Y7 Z Z (Qf Z Z (kc6 hK Z Z Z Z Z Z ?_)))))
         refine Qx Z (fun h20 => ?_) (fun h20 => ?_)
         ·try rw [h20]
          try simp only [qB, Qm] at h20
          refine Qb fun K hK => Qa Z (kc1 hK Z ?_)
          refine ZC (Q6 Wk (Qz (Q6 Wk (Q6 Wk (QP (Qz (QH (ks1 Z (Qb fun K hK => mv2 Z Z ?_)))))))))
          refine kc1 hK Z ?_
          refine Qn (Qk Z ?_)
          first | exact (ZO (i := i) Wa (Xq Wl)).symm | exact (ZO (i := i) Wa (Xp (Yh (i := j) Wa Wn))).symm | exact (YI Wa hI.2).symm
         ·try rw [h20]
          try simp only [qB, Qm] at h20
          refine Qt (Qi ?_)
          refine Ql (j + 1) ?_ ?_ ?_
          ·first | exact Zw (l := [4, 14, 15, 16, 28]) (lH := [28]) (kp5 rfl rfl rfl rfl rfl) (Qv rfl Qy) rfl rfl rfl | (exfalso; omega)
          ·first | exact ⟨Wa, Zb Wa hJ.2 Wn⟩ | (exfalso; omega)
          ·first | omega | (simp only; omega) | (dsimp only; omega)
        ·try rw [h19]
         try simp only [qB, Qm] at h19
         refine gn2 Z Z (Qf Z Z (kc6 hK Z Z Z Z Z Z ?_))
         refine Zy Z (Qt (Qi ?_))
         refine Ql (j + 1) ?_ ?_ ?_
         ·first | exact Zw (l := [4, 14, 15, 16, 28]) (lH := [28]) (kp5 rfl rfl rfl rfl rfl) (Qv rfl Qy) rfl rfl rfl | (exfalso; omega)
         ·first | exact ⟨Wa, Zb Wa hJ.2 Wn⟩ | (exfalso; omega)
         ·first | omega | (simp only; omega) | (dsimp only; omega)
      ·try rw [h16]
       try simp only [qB, Qm] at h16
       refine Qd Z (Qa Z (Qd Z (Fi Z Z (Qf Z Z (Qa Z ?_)))))
       refine Qs (g := 38) Z (fun h21 => ?_) (fun h21 => ?_)
       ·try rw [h21]
        try simp only [qB, Qm] at h21
        refine Qd Z (Qa Z (Qd Z (YX Z Z (Qd Z (Qa Z ?_)))))
        refine Qs (g := 41) Z (fun h22 => ?_) (fun h22 => ?_)
        ·try rw [h22]
         try simp only [qB, Qm] at h22
         refine gn2 Z Z (Qd Z (Qf Z Z (Qf Z Z (Qa Z (Qd Z (Qa Z (Qd Z (Y7 Z Z (Qf Z Z (kc6 hK Z Z Z Z Z Z ?_))))))))))
         refine Qx Z (fun h23 => ?_) (fun h23 => ?_)
         ·try rw [h23]
          try simp only [qB, Qm] at h23
          refine Qb fun K hK => Qa Z (kc1 hK Z ?_)
          refine ZC (Q6 Wk (Qz (Q6 Wk (Q6 Wk (QP (Qz (QH (ks1 Z (Qb fun K hK => mv2 Z Z ?_)))))))))
          refine kc1 hK Z ?_
          refine Qn (Qk Z ?_)
          first | exact (ZO (i := i) Wa (Xq Wl)).symm | exact (ZO (i := i) Wa (Xp (Yh (i := j) Wa Wn))).symm | exact (YI Wa hI.2).symm
         ·try rw [h23]
          try simp only [qB, Qm] at h23
          refine Qt (Qi ?_)
          refine Ql (j + 1) ?_ ?_ ?_
          ·first | exact Zw (l := [4, 14, 15, 16, 28]) (lH := [28]) (kp5 rfl rfl rfl rfl rfl) (Qv rfl Qy) rfl rfl rfl | (exfalso; omega)
          ·first | exact ⟨Wa, Zb Wa hJ.2 Wn⟩ | (exfalso; omega)
          ·first | omega | (simp only; omega) | (dsimp only; omega)
        ·try rw [h22]
         try simp only [qB, Qm] at h22
         refine Qd Z (Qa Z (Qd Z (Fi Z Z (Qd Z (Qf Z Z (Qf Z Z (Qa Z ?_)))))))
         refine Qs (g := 46) Z (fun h24 => ?_) (fun h24 => ?_)
         ·try rw [h24]
          try simp only [qB, Qm] at h24
          refine Qd Z (Qa Z (Qd Z (Y7 Z Z (Qf Z Z (kc6 hK Z Z Z Z Z Z ?_)))))
          refine Qx Z (fun h25 => ?_) (fun h25 => ?_)
          ·try rw [h25]
           try simp only [qB, Qm] at h25
           refine Qb fun K hK => Qa Z (kc1 hK Z ?_)
           refine ZC (Q6 Wk (Qz (Q6 Wk (Q6 Wk (QP (Qz (QH (ks1 Z (Qb fun K hK => mv2 Z Z ?_)))))))))
           refine kc1 hK Z ?_
           refine Qn (Qk Z ?_)
           first | exact (ZO (i := i) Wa (Xq Wl)).symm | exact (ZO (i := i) Wa (Xp (Yh (i := j) Wa Wn))).symm | exact (YI Wa hI.2).symm
          ·try rw [h25]
           try simp only [qB, Qm] at h25
           refine Qt (Qi ?_)
           refine Ql (j + 1) ?_ ?_ ?_
           ·first | exact Zw (l := [4, 14, 15, 16, 28]) (lH := [28]) (kp5 rfl rfl rfl rfl rfl) (Qv rfl Qy) rfl rfl rfl | (exfalso; omega)
           ·first | exact ⟨Wa, Zb Wa hJ.2 Wn⟩ | (exfalso; omega)
           ·first | omega | (simp only; omega) | (dsimp only; omega)
         ·try rw [h24]
          try simp only [qB, Qm] at h24
          refine gn2 Z Z (Qf Z Z (kc6 hK Z Z Z Z Z Z ?_))
          refine Zy Z (Qt (Qi ?_))
          refine Ql (j + 1) ?_ ?_ ?_
          ·first | exact Zw (l := [4, 14, 15, 16, 28]) (lH := [28]) (kp5 rfl rfl rfl rfl rfl) (Qv rfl Qy) rfl rfl rfl | (exfalso; omega)
          ·first | exact ⟨Wa, Zb Wa hJ.2 Wn⟩ | (exfalso; omega)
          ·first | omega | (simp only; omega) | (dsimp only; omega)
       ·try rw [h21]
        try simp only [qB, Qm] at h21
        refine gn3 Z Z Z (QE Z (QE Z (XT Z (Qf Z Z (Qa Z (gn2 Z Z (Qf Z Z (kc6 hK Z Z Z Z Z Z ?_))))))))
        refine Zy Z (Qt (Qi ?_))
        refine Ql (j + 1) ?_ ?_ ?_
        ·first | exact Zw (l := [4, 14, 15, 16, 28]) (lH := [28]) (kp5 rfl rfl rfl rfl rfl) (Qv rfl Qy) rfl rfl rfl | (exfalso; omega)
        ·first | exact ⟨Wa, Zb Wa hJ.2 Wn⟩ | (exfalso; omega)
        ·first | omega | (simp only; omega) | (dsimp only; omega)
    ·refine Re Z Z Wa (Zd Z Z (kc7 hK Z Z Z Z Z Z Z ?_))
     refine QD ?_ -- 5
     refine Zy Z (ZC (QP (Qz (QH (Qi (ks4 Z Z Z Z (Za fun K hK => Zc Z Z Wc (Qa Z (hK _ ?_)))))))))
     refine Ql (i + 1) ?_ ?_ ?_
     ·exact Zw (l := [4, 14, 15, 16]) (kp4 rfl rfl rfl rfl) Qy rfl rfl rfl
     ·exact ⟨Wa, Zb Wa hI.2 (QaI Wd Wa (Y8 Wa hJ.2))⟩
     ·first | omega | (simp only; omega) | (dsimp only; omega)
 ·try rw [h1]
  try simp only [qB, Qm] at h1
  refine ZC (QP (Qz (QH (ks1 Z (Qb fun K hK => mv2 Z Z (kc1 hK Z ?_))))))
  refine Qn (Qk Z ?_)
  first | exact (ZO (i := i) Wa (Xq Wl)).symm | exact (ZO (i := i) Wa (Xp (Yh (i := j) Wa Wn))).symm | exact (YI Wa hI.2).symm
open Go Go.Abs M3
theorem Pj {a b : List UInt8} (ha : a.length <= 1000000) (hb : b.length <= 1000000) : Ok Tryd.prog 91 [.str a, .str b] (.int .i64 (MB a b)) := by
 refine Ok.ofT Z7 Tryd.func91 QeA (QeH Z) ?_
 show TW _ _ tf91.body _ _
 refine Qb fun K hK => Qa Z (kc2 hK Z Z ?_)
 refine Qb fun K hK => Qa Z (Qw (XD Wa) Z Z (.inr Z) (Qa Z (Qw (XD Wa) Z Z (.inr Z) (mv2 Z Z (kc4 hK Z Z Z Z ?_)))))
 refine QD ?_ -- 0
 refine Qb fun K hK => mv2 Z Z ?_
 refine Qs (g := 16) Z (fun h1 => ?_) (fun h1 => ?_)
 ·try rw [h1]
  try simp only [qB] at h1
  refine Qd Z (Qa Z (Qf Z Z (kc5 hK Z Z Z Z Z ?_)))
  refine Qx Z (fun h2 => ?_) (fun h2 => ?_)
  ·try rw [h2]
   try simp only [qB] at h2
   refine Qb fun K hK => Qa Z (Qw (JT Wa) Z Z (.inr Z) (Qa Z (Zd Z Z (Zd Z Z (mv2 Z Z (kc2 hK Z Z ?_))))))
   refine Qb fun K hK => Qa Z (Qw (JT Wa) Z Z (.inr Z) (Qa Z (Zd Z Z (Zd Z Z (mv2 Z Z (kc2 hK Z Z ?_))))))
   refine Qb fun K hK => mv2 Z Z (Qw (ZE) Z Z (.inr Z) (Qa Z (kc1 hK Z ?_)))
   refine Qn (Qh (Qq Z ?_))
   (repeat clear hK K); first | (simp [MB, h1, h2]; done) | (simp_all [MB]; done)
  ·try rw [h2]
   try simp only [qB] at h2
   refine Qt (ks4 Z Z Z Z ?_)
   refine QD ?_ -- 1
   refine Qb fun K hK => mv2 Z Z (Qbz Z Z (kc4 hK Z Z Z Z ?_))
   refine Qx Z (fun h3 => ?_) (fun h3 => ?_)
   ·try rw [h3]
    try simp only [qB] at h3
    refine QD ?_ -- 2
    refine Qb fun K hK => Qa Z (kc1 hK Z ?_)
    refine Zg Z (Qb fun K hK => Qa Z (kc1 hK Z ?_))
    refine Qn (Qh (Qh (Qq Z ?_)))
    (repeat clear hK K); first | (simp [MB, h1, h2, h3]; done) | (simp_all [MB]; done)
   ·try rw [h3]
    try simp only [qB] at h3
    refine Qt (ks2 Z Z (Qb fun K hK => mv2 Z Z (Qw (XU) Z Z (.inr Z) (Qa Z (kc1 hK Z ?_)))))
    refine Qn (Qq Z ?_)
    (repeat clear hK K); first | (simp [MB, h1, h2, h3]; done) | (simp_all [MB]; done)
 ·try rw [h1]
  try simp only [qB] at h1
  refine XT Z (Qf Z Z (kc5 hK Z Z Z Z Z ?_))
  refine Zy Z (Qt (ks4 Z Z Z Z ?_))
  refine QD ?_ -- 1
  refine Qb fun K hK => mv2 Z Z (Qbz Z Z (kc4 hK Z Z Z Z ?_))
  refine Qx Z (fun h4 => ?_) (fun h4 => ?_)
  ·try rw [h4]
   try simp only [qB] at h4
   refine QD ?_ -- 2
   refine Qb fun K hK => Qa Z (kc1 hK Z ?_)
   refine Zy Z (Qt (Zs (ZJ) (Qb fun K hK => Qa Z (kc1 hK Z ?_))))
   refine Qn (Qh (Qq Z ?_))
   (repeat clear hK K); first | (simp [MB, h1, h4]; done) | (simp_all [MB]; done)
  ·try rw [h4]
   try simp only [qB] at h4
   refine Qt (ks2 Z Z (Qb fun K hK => mv2 Z Z (Qw (XU) Z Z (.inr Z) (Qa Z (kc1 hK Z ?_)))))
   refine Qn (Qq Z ?_)
   (repeat clear hK K); first | (simp [MB, h1, h4]; done) | (simp_all [MB]; done)
theorem Pi {s : List UInt8} (hl : s.length <= 1000000) : Ok Tryd.prog 64 [.str s] (.bool (MC s)) := by
 refine Ok.ofT Z7 Tryd.func64 Qd9 (QeH Z) ?_
 show TW _ _ tf64.body _ _
 refine Qb fun K hK => Qa Z (kc1 hK Z ?_)
 refine QD ?_ -- 0
 refine Qb fun K hK => Qa Z (Qw (JV Wa) Z Z (.inr Z) (ZL Z (kc2 hK Z Z ?_)))
 refine Qx Z (fun h1 => ?_) (fun h1 => ?_)
 ·try rw [h1]
  try simp only [qB, Qm] at h1
  refine Qb fun K hK => Qa Z (kc1 hK Z ?_)
  refine Qn (Qh (Qk Z ?_))
  first | (simp [MC, h1]; done) | exact (SY (i := i) Wa (by simp [FX, h1])).symm | exact (PN (i := i) Wd Wa hI.2).symm
 ·try rw [h1]
  try simp only [qB, Qm] at h1
  refine Qt (ks1 Z ?_)
  refine QD ?_ -- 1
  refine Qb fun K hK => Qa Z (Qw (X1 Wa) Z Z (.inl Z) (ZD Z Z (Qa Z (kc3 hK Z Z Z ?_))))
  refine QI ?_
  refine Yb (ι := Nat) (fun i => ⟨[(11, .sl (YL (Q1 s 46))), (12, .int .i64 (Q1 s 46).length), (13, .int .i64 i)], []⟩) (fun i => i <= (Q1 s 46).length /\ ((Q1 s 46).take i).all FX = true) (fun i => (Q1 s 46).length - i) 0 ?_ ?_ ?_
  ·exact Zw (l := [11, 12, 13]) (kp3 rfl rfl rfl) Qy (by simp [Qm]) rfl rfl
  ·exact ⟨QeT _, rfl⟩
  intro i hI
  have sl := Ff (s := s) (c := 46)
  try dsimp only
  refine Qb fun K hK => YX Z Z (kc4 hK Z Z Z Z ?_)
  refine QD ?_ -- 2
  refine Qx Z (fun h2 => ?_) (fun h2 => ?_)
  ·try rw [h2]
   try simp only [qB, Qm] at h2
   refine Qt (ks3 Z Z Z ?_)
   refine QD ?_ -- 3
   refine QI (Qb fun K hK => QV Z Z Z Wa (X5 Wa) Z (QB Z Z Z (Qa Z (kc4 hK Z Z Z Z ?_))))
   refine Qb fun K hK => Qa Z (Qw (JT (X9 Wa hl)) Z Z (.inr Z) (Qa Z (Zd Z Z (Zd Z Z (mv2 Z Z (kc5 hK Z Z Z Z Z ?_))))))
   refine Qb fun K hK => Qa Z (Qw (XD (X9 Wa hl)) Z Z (.inr Z) (Qa Z ?_))
   refine Qs (g := 24) Z (fun h3 => ?_) (fun h3 => ?_)
   ·try rw [h3]
    try simp only [qB, Qm] at h3
    refine Qd Z (Qa Z (Qd Z (ZL Z (Qf Z Z (kc4 hK Z Z Z Z ?_)))))
    refine Qx Z (fun h4 => ?_) (fun h4 => ?_)
    ·try rw [h4]
     try simp only [qB, Qm] at h4
     refine Qb fun K hK => Qa Z (kc1 hK Z ?_)
     refine Qn (Qr (Qh (Q5 (Qr (Qh (Qk Z ?_))))))
     first | (simp [MC, h1, h2, h3, h4]; done) | exact (SY (i := i) Wa (by simp [FX, h1, h2, h3, h4])).symm | exact (PN (i := i) Wd Wa hI.2).symm
    ·try rw [h4]
     try simp only [qB, Qm] at h4
     refine Qt (Qi (ks3 Z Z Z (Za fun K hK => Zc Z Z Wc (Qa Z (hK _ ?_)))))
     refine Ql (i + 1) ?_ ?_ ?_
     ·exact Q4 (kp3 rfl rfl rfl)
     ·exact ⟨Wa, Zb Wa hI.2 (by simp [FX, h1, h2, h3, h4])⟩
     ·first | omega | (simp only; omega) | (dsimp only; omega)
   ·try rw [h3]
    try simp only [qB, Qm] at h3
    refine gn2 Z Z (Qf Z Z (kc4 hK Z Z Z Z ?_))
    refine Zy Z (Qt (Qi (ks3 Z Z Z (Za fun K hK => Zc Z Z Wc (Qa Z (hK _ ?_))))))
    refine Ql (i + 1) ?_ ?_ ?_
    ·exact Q4 (kp3 rfl rfl rfl)
    ·exact ⟨Wa, Zb Wa hI.2 (by simp [FX, h1, h2, h3])⟩
    ·first | omega | (simp only; omega) | (dsimp only; omega)
  ·try rw [h2]
   try simp only [qB, Qm] at h2
   refine ZC (QP (Qz (QH (Zs (ZJ) (Qb fun K hK => Qa Z (kc1 hK Z ?_))))))
   refine Qn (Qk Z ?_)
   first | (simp [MC, h1, h2]; done) | exact (SY (i := i) Wa (by simp [FX, h1, h2])).symm | exact (PN (i := i) Wd Wa hI.2).symm
theorem YK {a b c : Int} {p q : List UInt8} (hp : p.length <= 1000000) (hq : q.length <= 1000000) : Ok Tryd.prog 48 [.agg [.int .i64 a, .int .i64 b, .int .i64 c, .str p, .str q]] (.bool (J8 a b c p q)) := by
 refine Ok.ofT Z7 Tryd.func48 QdT (QeH Z) ?_
 show TW _ _ tf48.body _ _
 refine Qb fun K hK => ZR Z Z Z (Qa Z (kc1 hK Z ?_))
 refine Qb fun K hK => Qe Z Z (QB Z Z Z (Qw (JU) Z Z (.inr Z) (Qa Z ?_)))
 refine Qs (g := 6) Z (fun h1 => ?_) (fun h1 => ?_)
 ·try rw [h1]
  try simp only [qB] at h1
  refine Qd Z (Qe Z Z (Qd Z (QB Z Z Z (Qd Z (Qw (JU) Z Z (.inr Z) (Qf Z Z (Qa Z ?_)))))))
  refine Qs (g := 11) Z (fun h2 => ?_) (fun h2 => ?_)
  ·try rw [h2]
   try simp only [qB] at h2
   refine Qd Z (Qe Z Z (Qd Z (QB Z Z Z (Qd Z (Qw (JU) Z Z (.inr Z) (Qf Z Z (Qa Z ?_)))))))
   refine Qs (g := 16) Z (fun h3 => ?_) (fun h3 => ?_)
   ·try rw [h3]
    try simp only [qB] at h3
    refine Qd Z (Qe Z Z (Qd Z (QB Z Z Z (Qd Z (HM Z Z (Qd Z (Qa Z ?_)))))))
    refine Qs (g := 20) Z (fun h4 => ?_) (fun h4 => ?_)
    ·try rw [h4]
     try simp only [qB] at h4
     refine gn3 Z Z Z (Qd Z (Qf Z Z (Qf Z Z (Qa Z (Qd Z (Qe Z Z (Qd Z (QB Z Z Z (Qd Z ?_)))))))))
     refine HM Z Z (Qd Z (Qa Z ?_))
     refine Qs (g := 30) Z (fun h5 => ?_) (fun h5 => ?_)
     ·try rw [h5]
      try simp only [qB] at h5
      refine gn3 Z Z Z (Qd Z (Qf Z Z (Qf Z Z (Qa Z (kc1 hK Z ?_)))))
      refine Qn (Qk Z ?_)
      simp [J8, YF, Xd, h1, h2, h3, h4, h5]
     ·try rw [h5]
      try simp only [qB] at h5
      refine Qd Z (Qe Z Z (Qd Z (QB Z Z Z (Qd Z (Qw (JV Wa) Z Z (.inr Z) (Qd Z (Qf Z Z (Qf Z Z (Qa Z (kc1 hK Z ?_))))))))))
      refine Qn (Qk Z ?_)
      simp [J8, YF, Xd, h1, h2, h3, h4, h5]
    ·try rw [h4]
     try simp only [qB] at h4
     refine Qd Z (Qe Z Z (Qd Z (QB Z Z Z (Qd Z (Qw (Pi Wa) Z Z (.inr Z) (Qd Z (Qf Z Z (Qf Z Z (Qa Z ?_)))))))))
     refine Qs (g := 26) Z (fun h6 => ?_) (fun h6 => ?_)
     ·try rw [h6]
      try simp only [qB] at h6
      refine Qd Z (Qe Z Z (Qd Z (QB Z Z Z (Qd Z (HM Z Z (Qd Z (Qa Z ?_)))))))
      refine Qs (g := 30) Z (fun h7 => ?_) (fun h7 => ?_)
      ·try rw [h7]
       try simp only [qB] at h7
       refine gn3 Z Z Z (Qd Z (Qf Z Z (Qf Z Z (Qa Z (kc1 hK Z ?_)))))
       refine Qn (Qk Z ?_)
       simp [J8, YF, Xd, h1, h2, h3, h4, h6, h7]
      ·try rw [h7]
       try simp only [qB] at h7
       refine Qd Z (Qe Z Z (Qd Z (QB Z Z Z (Qd Z (Qw (JV Wa) Z Z (.inr Z) (Qd Z (Qf Z Z (Qf Z Z (Qa Z (kc1 hK Z ?_))))))))))
       refine Qn (Qk Z ?_)
       simp [J8, YF, Xd, h1, h2, h3, h4, h6, h7]
     ·try rw [h6]
      try simp only [qB] at h6
      refine gn4 Z Z Z Z (QE Z (QE Z (QE Z (XT Z (Qf Z Z (Qa Z (kc1 hK Z ?_)))))))
      refine Qn (Qk Z ?_)
      simp [J8, YF, Xd, h1, h2, h3, h4, h6]
   ·try rw [h3]
    try simp only [qB] at h3
    refine gn4 Z Z Z Z (QE Z (QE Z (QE Z (XT Z (Qf Z Z (Qa Z (gn2 Z Z ?_)))))))
    refine gn2 Z Z (QE Z (QE Z (QE Z (XT Z (Qf Z Z (Qa Z (kc1 hK Z ?_)))))))
    refine Qn (Qk Z ?_)
    simp [J8, YF, Xd, h1, h2, h3]
  ·try rw [h2]
   try simp only [qB] at h2
   refine gn3 Z Z Z (Qf Z Z (Qa Z (gn4 Z Z Z Z (QE Z (QE Z (QE Z ?_))))))
   refine XT Z (Qf Z Z (Qa Z (gn4 Z Z Z Z (QE Z (QE Z (QE Z (XT Z (Qf Z Z ?_))))))))
   refine Qa Z (kc1 hK Z ?_)
   refine Qn (Qk Z ?_)
   simp [J8, YF, Xd, h1, h2]
 ·try rw [h1]
  try simp only [qB] at h1
  refine gn3 Z Z Z (Qf Z Z (Qa Z (gn3 Z Z Z (Qf Z Z (Qa Z (gn2 Z Z ?_))))))
  refine gn2 Z Z (QE Z (QE Z (QE Z (XT Z (Qf Z Z (Qa Z (gn4 Z Z Z Z ?_)))))))
  refine QE Z (QE Z (QE Z (XT Z (Qf Z Z (Qa Z (kc1 hK Z ?_))))))
  refine Qn (Qk Z ?_)
  simp [J8, YF, Xd, h1]
theorem Kb {a b c : Int} {p q : List UInt8} (hp : p.length <= 1000000) (hq : q.length <= 1000000) {a' b' c' : Int} {p' q' : List UInt8} (hp' : p'.length <= 1000000) (hq' : q'.length <= 1000000) : Ok Tryd.prog 86 [.agg [.int .i64 a, .int .i64 b, .int .i64 c, .str p, .str q], .agg [.int .i64 a', .int .i64 b', .int .i64 c', .str p', .str q']] (.int .i64 (HD a b c p q a' b' c' p' q')) := by
 refine Ok.ofT Z7 Tryd.func86 Qev (QeH Z) ?_
 show TW _ _ tf86.body _ _
 refine Qb fun K hK => ZR Z Z Z (ZR Z Z Z (Qa Z (kc2 hK Z Z ?_)))
 refine QD ?_ -- 0
 refine Qb fun K hK => QC (ds0 := [13, 12, 11, 10, 9, 8, 7, 6, 5, 4, 3, 2, 1, 0]) (cs := [_, _, _, _, _]) Z Z Z Z Z Z (QT (ds0 := [12, 11, 10, 9, 8, 7, 6, 5, 4, 3, 2, 1, 0]) (YK Wa Wa) Z Z (.inr Z) Z Z (ZL Z (Qa Z ?_)))
 refine Qs (g := 13) Z (fun h1 => ?_) (fun h1 => ?_)
 ·try rw [h1]
  try simp only [qB, Qm] at h1
  refine gn3 Z Z Z (Qf Z Z (Qa Z (gn4 Z Z Z Z (XT Z (Qf Z Z (kc3 hK Z Z Z ?_))))))
  refine Zg Z (Qb fun K hK => Qa Z (kc1 hK Z ?_))
  refine Qn (Qh (Qq Z ?_))
  first | (simp [HD, h1]; done) | (exact (GQ Wd Wd Wd).symm) | (exact Kx Wd Wd Wd) | (exact (X2 Wd Wd Wd Wd Wd).symm) | (exact (X3 Wd Wd Wd Wd Wd).symm) | (rw [hI.2.2, Yq Wa Wa Wd]) | (rw [hI.2.2, Yp Wa Wa Wa]; simp [Qm])
 ·try rw [h1]
  try simp only [qB, Qm] at h1
  refine Qd Z (QC (ds0 := [9, 8, 7, 6, 5, 4, 3, 2, 1, 0]) (cs := [_, _, _, _, _]) Z Z Z Z Z Z (Qd Z (QT (ds0 := [8, 7, 6, 5, 4, 3, 2, 1, 0]) (YK Wa Wa) Z Z (.inr Z) Z Z (Qd Z (ZL Z (Qf Z Z (Qa Z ?_)))))))
  refine Qs (g := 18) Z (fun h2 => ?_) (fun h2 => ?_)
  ·try rw [h2]
   try simp only [qB, Qm] at h2
   refine gn4 Z Z Z Z (XT Z (Qf Z Z (kc3 hK Z Z Z ?_)))
   refine Zg Z (Qb fun K hK => Qa Z (kc1 hK Z ?_))
   refine Qn (Qh (Qq Z ?_))
   first | (simp [HD, h1, h2]; done) | (exact (GQ Wd Wd Wd).symm) | (exact Kx Wd Wd Wd) | (exact (X2 Wd Wd Wd Wd Wd).symm) | (exact (X3 Wd Wd Wd Wd Wd).symm) | (rw [hI.2.2, Yq Wa Wa Wd]) | (rw [hI.2.2, Yp Wa Wa Wa]; simp [Qm])
  ·try rw [h2]
   try simp only [qB, Qm] at h2
   refine Qd Z (QC (ds0 := [4, 1, 0]) (cs := [_, _, _, _, _]) Z Z Z Z Z Z (Qd Z (QT (ds0 := [1, 0]) (H4) Z Z (.inl Z) Z Z (Qd Z (QC (ds0 := [2, 1, 0]) (cs := [_, _, _, _, _]) Z Z Z Z Z Z (Qd Z (QT (ds0 := [1, 0]) (H4) Z Z (.inl Z) Z Z (Qd Z (Rd Z Z Z (Qf Z Z (kc3 hK Z Z Z ?_)))))))))))
   refine Qx Z (fun h3 => ?_) (fun h3 => ?_)
   ·try rw [h3]
    try simp only [qB, Qm] at h3
    refine Qb fun K hK => Qa Z (kc1 hK Z ?_)
    refine Qn (Qh (Qq Z ?_))
    first | (simp [HD, h1, h2, h3]; done) | (exact (GQ Wd Wd Wd).symm) | (exact Kx Wd Wd Wd) | (exact (X2 Wd Wd Wd Wd Wd).symm) | (exact (X3 Wd Wd Wd Wd Wd).symm) | (rw [hI.2.2, Yq Wa Wa Wd]) | (rw [hI.2.2, Yp Wa Wa Wa]; simp [Qm])
   ·try rw [h3]
    try simp only [qB, Qm] at h3
    refine Qt (ks2 Z Z ?_)
    refine QD ?_ -- 1
    refine Qb fun K hK => Qe Z Z (Zo (ds0 := [13, 2, 1, 0]) Z Z Z Z Z (Qe Z Z (Zo (ds0 := [13, 2, 1, 0]) Z Z Z Z Z (QT (ds0 := [2, 1, 0]) (ZE) Z Z (.inr Z) Z Z (Qe Z Z (Zo (ds0 := [8, 2, 1, 0]) Z Z Z Z Z (Qe Z Z (Zo (ds0 := [8, 2, 1, 0]) Z Z Z Z Z (QT (ds0 := [2, 1, 0]) (ZE) Z Z (.inr Z) Z Z (Qe Z Z ?_))))))))))
    refine Zo (ds0 := [3, 2, 1, 0]) Z Z Z Z Z (Qe Z Z (Zo (ds0 := [3, 2, 1, 0]) Z Z Z Z Z (QT (ds0 := [2, 1, 0]) (ZE) Z Z (.inr Z) Z Z (QK Z Z (QT (ds0 := [0]) (Rm (l := [ZT a a', ZT b b', ZT c c']) Wg) Z Z (.inr Z) Z Z (Qa Z (kc3 hK Z Z Z ?_)))))))
    refine Qb fun K hK => Qa Z (Y7 Z Z (kc4 hK Z Z Z Z ?_))
    refine Qx Z (fun h4 => ?_) (fun h4 => ?_)
    ·try rw [h4]
     try simp only [qB, Qm] at h4
     refine Qb fun K hK => mv2 Z Z (kc1 hK Z ?_)
     refine Qn (Qh (Qq Z ?_))
     first | (simp [HD, h1, h2, h3, h4]; done) | (exact (GQ Wd Wd Wd).symm) | (exact Kx Wd Wd Wd) | (exact (X2 Wd Wd Wd Wd Wd).symm) | (exact (X3 Wd Wd Wd Wd Wd).symm) | (rw [hI.2.2, Yq Wa Wa Wd]) | (rw [hI.2.2, Yp Wa Wa Wa]; simp [Qm])
    ·try rw [h4]
     try simp only [qB, Qm] at h4
     refine Qt (ks2 Z Z ?_)
     refine QD ?_ -- 2
     refine Qb fun K hK => Qe Z Z (QB Z Z Z (HM Z Z (kc3 hK Z Z Z ?_)))
     refine Qx Z (fun h5 => ?_) (fun h5 => ?_)
     ·try rw [h5]
      try simp only [qB, Qm] at h5
      refine Qb fun K hK => Qa Z (kc1 hK Z ?_)
      refine Qn (Qh (Qq Z ?_))
      first | (simp [HD, h1, h2, h3, h4, h5]; done) | (exact (GQ Wd Wd Wd).symm) | (exact Kx Wd Wd Wd) | (exact (X2 Wd Wd Wd Wd Wd).symm) | (exact (X3 Wd Wd Wd Wd Wd).symm) | (rw [hI.2.2, Yq Wa Wa Wd]) | (rw [hI.2.2, Yp Wa Wa Wa]; simp [Qm])
     ·try rw [h5]
      try simp only [qB, Qm] at h5
      refine Qt (ks2 Z Z ?_)
      refine QD ?_ -- 3
      refine Qb fun K hK => Qe Z Z (QB Z Z Z (HM Z Z (kc3 hK Z Z Z ?_)))
      refine Qx Z (fun h6 => ?_) (fun h6 => ?_)
      ·try rw [h6]
       try simp only [qB, Qm] at h6
       refine Qb fun K hK => Qa Z (kc1 hK Z ?_)
       refine Qn (Qh (Qq Z ?_))
       first | (simp [HD, h1, h2, h3, h4, h5, h6]; done) | (exact (GQ Wd Wd Wd).symm) | (exact Kx Wd Wd Wd) | (exact (X2 Wd Wd Wd Wd Wd).symm) | (exact (X3 Wd Wd Wd Wd Wd).symm) | (rw [hI.2.2, Yq Wa Wa Wd]) | (rw [hI.2.2, Yp Wa Wa Wa]; simp [Qm])
      ·try rw [h6]
       try simp only [qB, Qm] at h6
       refine Qt (ks2 Z Z (Qb fun K hK => Qe Z Z (Zo (ds0 := [5, 1]) Z Z Z Z Z (QT (ds0 := [1]) (X1 Wa) Z Z (.inl Z) Z Z (Qe Z Z (Zo (ds0 := [2, 0]) Z Z Z Z Z (QT (ds0 := [0]) (X1 Wa) Z Z (.inl Z) Z Z (mv2 Z Z (kc2 hK Z Z ?_)))))))))
       refine QD ?_ -- 4
       refine Qb fun K hK => Qa Z (kc3 hK Z Z Z ?_)
       refine QI ?_
       refine Yb (ι := Nat) (fun i => ⟨[(6, .sl (YL (Q1 p 46))), (7, .sl (YL (Q1 p' 46))), (8, .int .i64 i)], []⟩) (fun i => i <= (Q1 p 46).length /\ i <= (Q1 p' 46).length /\ HD a b c p q a' b' c' p' q' = TM ((Q1 p 46).drop i) ((Q1 p' 46).drop i)) (fun i => (Q1 p 46).length - i) 0 ?_ ?_ ?_
       ·exact Zw (l := [6, 7, 8]) (kp3 rfl rfl rfl) Qy rfl rfl rfl
       ·exact ⟨QeT _, QeT _, Qav Wd Wd Wd Wd Wd Wd⟩
       intro i hI
       have sl := Ff (s := p) (c := 46)
       try dsimp only
       refine QD ?_ -- 5
       refine Qb fun K hK => mv2 Z Z (ZD Z Z (YX Z Z (Qa Z ?_)))
       refine Qs (g := 61) Z (fun h7 => ?_) (fun h7 => ?_)
       ·try rw [h7]
        try simp only [qB, Qm] at h7
        refine Qd Z (Qa Z (Qd Z (Qa Z (Qd Z (ZD Z Z (Qd Z (YX Z Z (Qf Z Z (kc4 hK Z Z Z Z ?_)))))))))
        refine Qx Z (fun h8 => ?_) (fun h8 => ?_)
        ·try rw [h8]
         try simp only [qB, Qm] at h8
         refine Qt (ks3 Z Z Z ?_)
         refine QD ?_ -- 6
         refine QI (Qb fun K hK => mv2 Z Z (QV Z Z Z Wa (X5 Wa) Z (Zo (ds0 := [1, 0]) Z Z Z Z Z (mv2 Z Z (QV Z Z Z Wa (X5 Wa) Z (Zo (ds0 := [1, 0]) Z Z Z Z Z (QT (ds0 := [0]) (Pj (X9 Wa hp) (X9 Wa hp')) Z Z (.inr Z) Z Z (Qa Z ?_))))))))
         refine kc4 hK Z Z Z Z ?_
         refine Qb fun K hK => Qa Z (Y7 Z Z (kc5 hK Z Z Z Z Z ?_))
         refine Qx Z (fun h9 => ?_) (fun h9 => ?_)
         ·try rw [h9]
          try simp only [qB, Qm] at h9
          refine Qb fun K hK => mv2 Z Z (kc1 hK Z ?_)
          refine Qn (Qr (Qh (Q5 (Qr (Qh (Qq Z ?_))))))
          first | (simp [HD, h1, h2, h3, h4, h5, h6, h7, h8, h9]; done) | (exact (GQ Wd Wd Wd).symm) | (exact Kx Wd Wd Wd) | (exact (X2 Wd Wd Wd Wd Wd).symm) | (exact (X3 Wd Wd Wd Wd Wd).symm) | (rw [hI.2.2, Yq Wa Wa Wd]) | (rw [hI.2.2, Yp Wa Wa Wa]; simp [Qm])
         ·try rw [h9]
          try simp only [qB, Qm] at h9
          refine Qt (Qi (ks3 Z Z Z (Za fun K hK => Qa Z (Zc Z Z Wc (Qa Z (hK _ ?_))))))
          refine Ql (i + 1) ?_ ?_ ?_
          ·exact Q4 (kp3 rfl rfl rfl)
          ·exact ⟨Wa, Wa, by rw [hI.2.2, RR Wa Wa Wd]⟩
          ·first | omega | (simp only; omega) | (dsimp only; omega)
        ·try rw [h8]
         try simp only [qB, Qm] at h8
         refine ZC (QP (Qz (QH (ks2 Z Z (Qb fun K hK => Qa Z (ZD Z Z (Qa Z (ZD Z Z (Qw (ZE) Z Z (.inr Z) (Qa Z ?_))))))))))
         refine kc1 hK Z ?_
         refine Qn (Qq Z ?_)
         first | (simp [HD, h1, h2, h3, h4, h5, h6, h7, h8]; done) | (exact (GQ Wd Wd Wd).symm) | (exact Kx Wd Wd Wd) | (exact (X2 Wd Wd Wd Wd Wd).symm) | (exact (X3 Wd Wd Wd Wd Wd).symm) | (rw [hI.2.2, Yq Wa Wa Wd]) | (rw [hI.2.2, Yp Wa Wa Wa]; simp [Qm])
       ·try rw [h7]
        try simp only [qB, Qm] at h7
        refine gn4 Z Z Z Z (Qf Z Z (kc4 hK Z Z Z Z ?_))
        refine Zy Z (ZC (QP (Qz (QH (ks2 Z Z (Qb fun K hK => Qa Z (ZD Z Z (Qa Z (ZD Z Z (Qw (ZE) Z Z (.inr Z) ?_))))))))))
        refine Qa Z (kc1 hK Z ?_)
        refine Qn (Qq Z ?_)
        first | (simp [HD, h1, h2, h3, h4, h5, h6, h7]; done) | (exact (GQ Wd Wd Wd).symm) | (exact Kx Wd Wd Wd) | (exact (X2 Wd Wd Wd Wd Wd).symm) | (exact (X3 Wd Wd Wd Wd Wd).symm) | (rw [hI.2.2, Yq Wa Wa Wd]) | (rw [hI.2.2, Yp Wa Wa Wa]; simp [Qm])
theorem K1 {e a b c : Int} {p q : List UInt8} {f : Bool} (hp : p.length <= 1000000) (hq : q.length <= 1000000) : Ok Tryd.prog 84 [.agg [.int .i64 e, .int .i64 a, .int .i64 b, .int .i64 c, .str p, .str q, .bool f]] (.bool (YZ e a b c p q f)) := by
 refine Ok.ofT Z7 Tryd.func84 Qet (QeH Z) ?_
 show TW _ _ tf84.body _ _
 refine Qb fun K hK => ZR Z Z Z (Qa Z (kc1 hK Z ?_))
 refine QD ?_ -- 0
 refine Qb fun K hK => Qe Z Z (QB Z Z Z (Yr Z Z (Qa Z ?_)))
 refine Qs (g := 6) Z (fun h1 => ?_) (fun h1 => ?_)
 ·try rw [h1]
  try simp only [qB] at h1
  refine gn3 Z Z Z (Qf Z Z (kc2 hK Z Z ?_))
  refine Zg Z (Qb fun K hK => Qe Z Z (QA (cs := [_, _, _, _, _]) Z Z Z Z (QW Z Z (Rd Z Z Z (Qa Z ?_)))))
  refine Qs (g := 15) Z (fun h2 => ?_) (fun h2 => ?_)
  ·try rw [h2]
   try simp only [qB] at h2
   refine Qd Z (Qe Z Z (Qd Z (QB Z Z Z (Qd Z (ZL Z (Qf Z Z (Qa Z (kc1 hK Z ?_))))))))
   refine Qn (Qh (Qk Z ?_))
   (repeat clear hK K); first | (simp_all [YZ]; done) | (simp_all [YZ]; omega)
  ·try rw [h2]
   try simp only [qB] at h2
   refine gn3 Z Z Z (Qf Z Z (Qa Z (kc1 hK Z ?_)))
   refine Qn (Qh (Qk Z ?_))
   (repeat clear hK K); first | (simp_all [YZ]; done) | (simp_all [YZ]; omega)
 ·try rw [h1]
  try simp only [qB] at h1
  refine Qd Z (Qe Z Z (Qd Z (QB Z Z Z (Qd Z (Yr Z Z (Qf Z Z (kc2 hK Z Z ?_)))))))
  refine Qx Z (fun h3 => ?_) (fun h3 => ?_)
  ·try rw [h3]
   try simp only [qB] at h3
   refine Qb fun K hK => Qe Z Z (QA (cs := [_, _, _, _, _]) Z Z Z Z (QW Z Z (Rd Z Z Z (Qa Z ?_))))
   refine Qs (g := 15) Z (fun h4 => ?_) (fun h4 => ?_)
   ·try rw [h4]
    try simp only [qB] at h4
    refine Qd Z (Qe Z Z (Qd Z (QB Z Z Z (Qd Z (ZL Z (Qf Z Z (Qa Z (kc1 hK Z ?_))))))))
    refine Qn (Qh (Qk Z ?_))
    (repeat clear hK K); first | (simp_all [YZ]; done) | (simp_all [YZ]; omega)
   ·try rw [h4]
    try simp only [qB] at h4
    refine gn3 Z Z Z (Qf Z Z (Qa Z (kc1 hK Z ?_)))
    refine Qn (Qh (Qk Z ?_))
    (repeat clear hK K); first | (simp_all [YZ]; done) | (simp_all [YZ]; omega)
  ·try rw [h3]
   try simp only [qB] at h3
   refine Qb fun K hK => Qe Z Z (QB Z Z Z (Y7 Z Z (kc2 hK Z Z ?_)))
   refine Qx Z (fun h5 => ?_) (fun h5 => ?_)
   ·try rw [h5]
    try simp only [qB] at h5
    refine Qb fun K hK => Qa Z (kc1 hK Z ?_)
    refine Qn (Qh (Qk Z ?_))
    (repeat clear hK K); first | (simp_all [YZ]; done) | (simp_all [YZ]; omega)
   ·try rw [h5]
    try simp only [qB] at h5
    refine Qt (ks1 Z (Qb fun K hK => Qe Z Z (QA (cs := [_, _, _, _, _]) Z Z Z Z (Qw (YK Wa Wa) Z Z (.inr Z) (Qa Z ?_)))))
    refine Qs (g := 26) Z (fun h6 => ?_) (fun h6 => ?_)
    ·try rw [h6]
     try simp only [qB] at h6
     refine Qd Z (Qe Z Z (Qd Z (Qe Z Z (Qd Z (QB Z Z Z (Qd Z (HM Z Z (Qf Z Z (Qa Z (kc1 hK Z ?_))))))))))
     refine Qn (Qk Z ?_)
     (repeat clear hK K); first | (simp_all [YZ]; done) | (simp_all [YZ]; omega)
    ·try rw [h6]
     try simp only [qB] at h6
     refine gn4 Z Z Z Z (Qf Z Z (Qa Z (kc1 hK Z ?_)))
     refine Qn (Qk Z ?_)
     (repeat clear hK K); first | (simp_all [YZ]; done) | (simp_all [YZ]; omega)
theorem _root_.Wp {p : Prop} (h : p := by first | (left; assumption) | (right; assumption)) : p := h
theorem GF {e a b c : Int} {p q : List UInt8} {f : Bool} (hp : p.length <= 1000000) (hq : q.length <= 1000000) {e' a' b' c' : Int} {p' q' : List UInt8} {f' : Bool} (hp' : p'.length <= 1000000) (hq' : q'.length <= 1000000) : Ok Tryd.prog 77 [.agg [.int .i64 e, .int .i64 a, .int .i64 b, .int .i64 c, .str p, .str q, .bool f], .agg [.int .i64 e', .int .i64 a', .int .i64 b', .int .i64 c', .str p', .str q', .bool f']] (.int .i64 (Yt e a b c p q f e' a' b' c' p' q' f')) := by
 refine Ok.ofT Z7 Tryd.func77 Qem (QeH Z) ?_
 show TW _ _ tf77.body _ _
 refine Qb fun K hK => ZR Z Z Z (ZR Z Z Z (Qa Z (kc2 hK Z Z ?_)))
 refine QD ?_ -- 0
 refine Qb fun K hK => QA (cs := [_, _, _, _, _, _, _]) Z Z Z Z (Qw (K1 Wa Wa) Z Z (.inr Z) (ZL Z (Qa Z ?_)))
 refine Qs (g := 9) Z (fun h1 => ?_) (fun h1 => ?_)
 ·try rw [h1]
  try simp only [qB] at h1
  refine gn3 Z Z Z (Qf Z Z (kc3 hK Z Z Z ?_))
  refine Zg Z (Qb fun K hK => Qa Z (kc1 hK Z ?_))
  refine Qn (Qh (Qq Z ?_))
  (repeat clear hK K); first | (simp [Yt, h1]; done) | exact (JG Wd Wd Wp).symm | (simp_all [Yt]; done)
 ·try rw [h1]
  try simp only [qB] at h1
  refine Qd Z (QA (cs := [_, _, _, _, _, _, _]) Z Z Z Z (Qd Z (Qw (K1 Wa Wa) Z Z (.inr Z) (Qd Z (ZL Z (Qf Z Z (kc3 hK Z Z Z ?_)))))))
  refine Qx Z (fun h2 => ?_) (fun h2 => ?_)
  ·try rw [h2]
   try simp only [qB] at h2
   refine Qb fun K hK => Qa Z (kc1 hK Z ?_)
   refine Qn (Qh (Qq Z ?_))
   (repeat clear hK K); first | (simp [Yt, h1, h2]; done) | exact (JG Wd Wd Wp).symm | (simp_all [Yt]; done)
  ·try rw [h2]
   try simp only [qB] at h2
   refine Qb fun K hK => Qe Z Z (QB Z Z Z (Y7 Z Z (Qa Z ?_)))
   refine Qs (g := 17) Z (fun h3 => ?_) (fun h3 => ?_)
   ·try rw [h3]
    try simp only [qB] at h3
    refine gn3 Z Z Z (Qf Z Z (kc3 hK Z Z Z ?_))
    refine Zg Z (Qb fun K hK => Qe Z Z (QB Z Z Z (Qe Z Z (QB Z Z Z (Qw (ZE) Z Z (.inr Z) (Qa Z (kc1 hK Z ?_)))))))
    refine Qn (Qh (Qq Z ?_))
    (repeat clear hK K); first | (simp [Yt, h1, h2, h3]; done) | exact (JG Wd Wd Wp).symm | (simp_all [Yt]; done)
   ·try rw [h3]
    try simp only [qB] at h3
    refine Qd Z (Qe Z Z (Qd Z (QB Z Z Z (Qd Z (Y7 Z Z (Qf Z Z (kc3 hK Z Z Z ?_)))))))
    refine Qx Z (fun h4 => ?_) (fun h4 => ?_)
    ·try rw [h4]
     try simp only [qB] at h4
     refine Qb fun K hK => Qe Z Z (QB Z Z Z (Qe Z Z (QB Z Z Z (Qw (ZE) Z Z (.inr Z) (Qa Z (kc1 hK Z ?_))))))
     refine Qn (Qh (Qq Z ?_))
     (repeat clear hK K); first | (simp [Yt, h1, h2, h3, h4]; done) | exact (JG Wd Wd Wp).symm | (simp_all [Yt]; done)
    ·try rw [h4]
     try simp only [qB] at h4
     refine Qb fun K hK => Qe Z Z (QA (cs := [_, _, _, _, _]) Z Z Z Z (Qe Z Z (QA (cs := [_, _, _, _, _]) Z Z Z Z (Qw (Kb Wa Wa Wa Wa) Z Z (.inr Z) (Qa Z (kc3 hK Z Z Z ?_))))))
     refine Qb fun K hK => Qa Z (Y7 Z Z (kc4 hK Z Z Z Z ?_))
     refine Qx Z (fun h5 => ?_) (fun h5 => ?_)
     ·try rw [h5]
      try simp only [qB] at h5
      refine Qb fun K hK => mv2 Z Z (kc1 hK Z ?_)
      refine Qn (Qh (Qq Z ?_))
      (repeat clear hK K); first | (simp [Yt, h1, h2, h3, h4, h5]; done) | exact (JG Wd Wd Wp).symm | (simp_all [Yt]; done)
     ·try rw [h5]
      try simp only [qB] at h5
      refine Qb fun K hK => Qe Z Z (QB Z Z Z (Qe Z Z (QB Z Z Z (Qbs Z Z (kc2 hK Z Z ?_)))))
      refine Qx Z (fun h6 => ?_) (fun h6 => ?_)
      ·try rw [h6]
       try simp only [qB] at h6
       refine Qb fun K hK => Qa Z (kc1 hK Z ?_)
       refine Qn (Qh (Qq Z ?_))
       (repeat clear hK K); first | (simp [Yt, h1, h2, h3, h4, h5, h6]; done) | exact (JG Wd Wd Wp).symm | (simp_all [Yt]; done)
      ·try rw [h6]
       try simp only [qB] at h6
       refine Qb fun K hK => Qe Z Z (QB Z Z Z (kc1 hK Z ?_))
       refine Qx Z (fun h7 => ?_) (fun h7 => ?_)
       ·try rw [h7]
        try simp only [qB] at h7
        refine Qb fun K hK => Qa Z (kc1 hK Z ?_)
        refine Qn (Qh (Qq Z ?_))
        (repeat clear hK K); first | (simp [Yt, h1, h2, h3, h4, h5, h6, h7]; done) | exact (JG Wd Wd Wp).symm | (simp_all [Yt]; done)
       ·try rw [h7]
        try simp only [qB] at h7
        refine Qt (Zs (ZJ) (Qb fun K hK => Qa Z (kc1 hK Z ?_)))
        refine Qn (Qq Z ?_)
        (repeat clear hK K); first | (simp [Yt, h1, h2, h3, h4, h5, h6, h7]; done) | exact (JG Wd Wd Wp).symm | (simp_all [Yt]; done)
theorem Ny {e a b c : Int} {p q : List UInt8} {f : Bool} (hp : p.length <= 1000000) (hq : q.length <= 1000000) {a' b' c' : Int} {p' q' : List UInt8} (hp' : p'.length <= 1000000) (hq' : q'.length <= 1000000) : Ok Tryd.prog 81 [.agg [.int .i64 e, .int .i64 a, .int .i64 b, .int .i64 c, .str p, .str q, .bool f], .agg [.int .i64 a', .int .i64 b', .int .i64 c', .str p', .str q']] (.bool (Jj e a b c p q f a' b' c' p' q')) := by
 refine Ok.ofT Z7 Tryd.func81 Qeq (QeH Z) ?_
 show TW _ _ tf81.body _ _
 refine Qb fun K hK => ZR Z Z Z (ZR Z Z Z (Qa Z (kc2 hK Z Z ?_)))
 refine QD ?_ -- 0
 refine Qb fun K hK => QA (cs := [_, _, _, _, _, _, _]) Z Z Z Z (Qw (K1 Wa Wa) Z Z (.inr Z) (ZL Z (Qa Z ?_)))
 refine Qs (g := 9) Z (fun h1 => ?_) (fun h1 => ?_)
 ·try rw [h1]
  try simp only [qB] at h1
  refine gn3 Z Z Z (Qf Z Z (kc3 hK Z Z Z ?_))
  refine Zg Z (Qb fun K hK => Qa Z (kc1 hK Z ?_))
  refine Qn (Qh (Qk Z ?_))
  (repeat clear hK K); first | (simp [Jj, h1]; done) | (simp_all [Jj]; done)
 ·try rw [h1]
  try simp only [qB] at h1
  refine Qd Z (QA (cs := [_, _, _, _, _]) Z Z Z Z (Qd Z (Qw (YK Wa Wa) Z Z (.inr Z) (Qd Z (ZL Z (Qf Z Z (kc3 hK Z Z Z ?_)))))))
  refine Qx Z (fun h2 => ?_) (fun h2 => ?_)
  ·try rw [h2]
   try simp only [qB] at h2
   refine Qb fun K hK => Qa Z (kc1 hK Z ?_)
   refine Qn (Qh (Qk Z ?_))
   (repeat clear hK K); first | (simp [Jj, h1, h2]; done) | (simp_all [Jj]; done)
  ·try rw [h2]
   try simp only [qB] at h2
   refine Qb fun K hK => Qe Z Z (QB Z Z Z (Y7 Z Z (kc3 hK Z Z Z ?_)))
   refine Qx Z (fun h3 => ?_) (fun h3 => ?_)
   ·try rw [h3]
    try simp only [qB] at h3
    refine Qb fun K hK => Qe Z Z (QB Z Z Z (YX Z Z (Qa Z (kc1 hK Z ?_))))
    refine Qn (Qh (Qk Z ?_))
    (repeat clear hK K); first | (simp [Jj, h1, h2, h3]; done) | (simp_all [Jj]; done)
   ·try rw [h3]
    try simp only [qB] at h3
    refine Qt (ks2 Z Z (Qb fun K hK => Qe Z Z (QA (cs := [_, _, _, _, _]) Z Z Z Z (QA (cs := [_, _, _, _, _]) Z Z Z Z (Qw (Kb Wa Wa Wa Wa) Z Z (.inr Z) (Qa Z (kc2 hK Z Z ?_)))))))
    refine Qb fun K hK => Qa Z (YX Z Z (Qa Z ?_))
    refine Qs (g := 26) Z (fun h4 => ?_) (fun h4 => ?_)
    ·try rw [h4]
     try simp only [qB] at h4
     refine gn3 Z Z Z (QE Z (QE Z (QE Z (XT Z (Qf Z Z (Qa Z (kc1 hK Z ?_)))))))
     refine Qn (Qk Z ?_)
     (repeat clear hK K); first | (simp [Jj, h1, h2, h3, h4]; done) | (simp_all [Jj]; done)
    ·try rw [h4]
     try simp only [qB] at h4
     refine Qd Z (Qa Z (Qd Z (Yr Z Z (Qd Z (Qa Z ?_)))))
     refine Qs (g := 29) Z (fun h5 => ?_) (fun h5 => ?_)
     ·try rw [h5]
      try simp only [qB] at h5
      refine Qd Z (Qe Z Z (Qd Z (QB Z Z Z (Qd Z (ZL Z (Qd Z (Qf Z Z (Qf Z Z (Qa Z (kc1 hK Z ?_))))))))))
      refine Qn (Qk Z ?_)
      (repeat clear hK K); first | (simp [Jj, h1, h2, h3, h4, h5]; done) | (simp_all [Jj]; done)
     ·try rw [h5]
      try simp only [qB] at h5
      refine gn3 Z Z Z (Qd Z (Qf Z Z (Qf Z Z (Qa Z (kc1 hK Z ?_)))))
      refine Qn (Qk Z ?_)
      (repeat clear hK K); first | (simp [Jj, h1, h2, h3, h4, h5]; done) | (simp_all [Jj]; done)
theorem GG {e a b c : Int} {p q : List UInt8} {f : Bool} (hp : p.length <= 1000000) (hq : q.length <= 1000000) {e' a' b' c' : Int} {p' q' : List UInt8} {f' : Bool} (hp' : p'.length <= 1000000) (hq' : q'.length <= 1000000) : Ok Tryd.prog 76 [.agg [.int .i64 e, .int .i64 a, .int .i64 b, .int .i64 c, .str p, .str q, .bool f, .int .i64 e', .int .i64 a', .int .i64 b', .int .i64 c', .str p', .str q', .bool f']] (.bool (Hf e a b c p q f e' a' b' c' p' q' f')) := by
 refine Ok.ofT Z7 Tryd.func76 Qel (QeH Z) ?_
 show TW _ _ tf76.body _ _
 refine Qb fun K hK => ZR Z Z Z (Qa Z (kc1 hK Z ?_))
 refine Qb fun K hK => Qe Z Z (QA (cs := [_, _, _, _, _, _, _]) Z Z Z Z (Qw (K1 Wa Wa) Z Z (.inr Z) (Qa Z ?_)))
 refine Qs (g := 6) Z (fun h1 => ?_) (fun h1 => ?_)
 ·try rw [h1]
  try simp only [qB] at h1
  refine Qd Z (Qe Z Z (Qd Z (QA (cs := [_, _, _, _, _, _, _]) Z Z Z Z (Qd Z (Qw (K1 Wa Wa) Z Z (.inr Z) (Qf Z Z (Qa Z ?_)))))))
  refine Qs (g := 11) Z (fun h2 => ?_) (fun h2 => ?_)
  ·try rw [h2]
   try simp only [qB] at h2
   refine Qd Z (Qe Z Z (Qd Z (QA (cs := [_, _, _, _, _, _, _]) Z Z Z Z (Qd Z (Qe Z Z (Qd Z (QA (cs := [_, _, _, _, _, _, _]) Z Z Z Z (Qd Z (Qw (GF Wa Wa Wa Wa) Z Z (.inr Z) (Qd Z (YX Z Z ?_)))))))))))
   refine Qf Z Z (Qa Z (kc1 hK Z ?_))
   refine Qn (Qk Z ?_)
   (repeat clear hK K); first | (simp [Hf, h1, h2]; done) | (simp_all [Hf]; done)
  ·try rw [h2]
   try simp only [qB] at h2
   refine gn4 Z Z Z Z (gn2 Z Z (Qf Z Z (Qa Z (kc1 hK Z ?_))))
   refine Qn (Qk Z ?_)
   (repeat clear hK K); first | (simp [Hf, h1, h2]; done) | (simp_all [Hf]; done)
 ·try rw [h1]
  try simp only [qB] at h1
  refine gn3 Z Z Z (Qf Z Z (Qa Z (gn4 Z Z Z Z (gn2 Z Z (Qf Z Z ?_)))))
  refine Qa Z (kc1 hK Z ?_)
  refine Qn (Qk Z ?_)
  (repeat clear hK K); first | (simp [Hf, h1]; done) | (simp_all [Hf]; done)
theorem Su {e a b c : Int} {p q : List UInt8} {f : Bool} (hp : p.length <= 1000000) (hq : q.length <= 1000000) {e' a' b' c' : Int} {p' q' : List UInt8} {f' : Bool} (hp' : p'.length <= 1000000) (hq' : q'.length <= 1000000) {x y z : Int} {r s : List UInt8} (hr : r.length <= 1000000) (hs : s.length <= 1000000) : Ok Tryd.prog 66 [.agg [.int .i64 e, .int .i64 a, .int .i64 b, .int .i64 c, .str p, .str q, .bool f, .int .i64 e', .int .i64 a', .int .i64 b', .int .i64 c', .str p', .str q', .bool f'], .agg [.int .i64 x, .int .i64 y, .int .i64 z, .str r, .str s]] (.bool (Gb e a b c p q f e' a' b' c' p' q' f' x y z r s)) := by
 refine Ok.ofT Z7 Tryd.func66 Qeb (QeH Z) ?_
 show TW _ _ tf66.body _ _
 refine Qb fun K hK => ZR Z Z Z (ZR Z Z Z (Qa Z (kc2 hK Z Z ?_)))
 refine Qb fun K hK => QA (cs := [_, _, _, _, _, _, _, _, _, _, _, _, _, _]) Z Z Z Z (Qw (GG Wa Wa Wa Wa) Z Z (.inr Z) (Qa Z ?_))
 refine Qs (g := 7) Z (fun h1 => ?_) (fun h1 => ?_)
 ·try rw [h1]
  try simp only [qB] at h1
  refine Qd Z (QA (cs := [_, _, _, _, _]) Z Z Z Z (Qd Z (Qw (YK Wa Wa) Z Z (.inr Z) (Qf Z Z (Qa Z ?_)))))
  refine Qs (g := 11) Z (fun h2 => ?_) (fun h2 => ?_)
  ·try rw [h2]
   try simp only [qB] at h2
   refine Qd Z (Qe Z Z (Qd Z (QA (cs := [_, _, _, _, _, _, _]) Z Z Z Z (Qd Z (QA (cs := [_, _, _, _, _]) Z Z Z Z (Qd Z (Qw (Ny Wa Wa Wa Wa) Z Z (.inr Z) (Qf Z Z (Qa Z ?_)))))))))
   refine Qs (g := 17) Z (fun h3 => ?_) (fun h3 => ?_)
   ·try rw [h3]
    try simp only [qB] at h3
    refine Qd Z (Qe Z Z (Qd Z (QA (cs := [_, _, _, _, _, _, _]) Z Z Z Z (Qd Z (QA (cs := [_, _, _, _, _]) Z Z Z Z (Qd Z (Qw (Ny Wa Wa Wa Wa) Z Z (.inr Z) (Qd Z (ZL Z (Qf Z Z (Qa Z ?_)))))))))))
    refine kc1 hK Z ?_
    refine Qn (Qk Z ?_)
    (repeat clear hK K); first | (simp [Gb, h1, h2, h3]; done) | (simp_all [Gb]; done)
   ·try rw [h3]
    try simp only [qB] at h3
    refine gn4 Z Z Z Z (XT Z (Qf Z Z (Qa Z (kc1 hK Z ?_))))
    refine Qn (Qk Z ?_)
    (repeat clear hK K); first | (simp [Gb, h1, h2, h3]; done) | (simp_all [Gb]; done)
  ·try rw [h2]
   try simp only [qB] at h2
   refine gn4 Z Z Z Z (Qf Z Z (Qa Z (gn4 Z Z Z Z (XT Z (Qf Z Z ?_)))))
   refine Qa Z (kc1 hK Z ?_)
   refine Qn (Qk Z ?_)
   (repeat clear hK K); first | (simp [Gb, h1, h2]; done) | (simp_all [Gb]; done)
 ·try rw [h1]
  try simp only [qB] at h1
  refine gn2 Z Z (Qf Z Z (Qa Z (gn4 Z Z Z Z (Qf Z Z (Qa Z (gn2 Z Z ?_))))))
  refine gn3 Z Z Z (Qf Z Z (Qa Z (kc1 hK Z ?_)))
  refine Qn (Qk Z ?_)
  (repeat clear hK K); first | (simp [Gb, h1]; done) | (simp_all [Gb]; done)
end Go.Proofs
namespace M3
open Go Go.Abs
open Go Go.Abs
end M3
namespace M3
open Go Go.Abs
end M3
