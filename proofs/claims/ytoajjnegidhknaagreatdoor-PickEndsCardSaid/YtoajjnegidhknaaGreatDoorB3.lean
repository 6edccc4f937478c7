/- Part 3 of the means of the proof: a verified abstract evaluator, the prepared functions, and contracts of functions. It states nothing of the claim by itself. -/
import Derived.Test.YtoajjnegidhknaaGreatDoorB2
import Derived.KernelRfl
import Derived.Test.YtoajjnegidhknaaGreatDoorProg
set_option maxRecDepth 4000
set_option linter.unusedSimpArgs false
set_option linter.unusedVariables false
namespace Go.Abs
open Go
/-! ### Walks that end in some state of a kind: the state is picked on the way -/
def TX (P : Program) (nt : Nat) (c : TCode) (Q : AExit -> St -> Prop) (s : St) : Prop := ∃ e s', Q e s' /\ TW P nt c (fun e2 s2 => e2 = e /\ s2 = s') s
section
variable {P : Program} {nt : Nat} {Q Q' : AExit -> St -> Prop} {s : St}
theorem Xo {c : TCode} (h : ∀ e s, Q e s -> Q' e s) (k : TW P nt c Q s) : TW P nt c Q' s := fun code E g a w hm hp hn hfl r =>
 wpIn_mono (k code E g a w hm hp hn hfl r) fun e a' w' hq => by
  cases e <;> simp only [AQ] at hq ⊢ <;> try exact hq
  all_goals
   obtain ⟨s', g', hq, r'⟩ := hq
   exact ⟨s', g', h _ _ hq, r'⟩
/-! #### A region's walk picks its state -/
theorem Qdj {op : BinOp} {bt : Bool} {p q : D} {kk : D -> Prop} (h : Qev op bt p q kk) : ∃ d, kk d /\ ∀ k2 : D -> Prop, k2 d -> Qev op bt p q k2 := by
 cases p <;> cases q <;> simp only [Qev] at h ⊢ <;> try exact h.elim
 ·obtain ⟨h1, h2⟩ := h
  cases op <;> simp only [Qa4] at h2 ⊢
  case quo => exact ⟨_, h2.2, fun k2 hk => ⟨h1, h2.1, hk⟩⟩
  case rem => exact ⟨_, h2.2, fun k2 hk => ⟨h1, h2.1, hk⟩⟩
  case shl => exact ⟨_, h2.2, fun k2 hk => ⟨h1, h2.1, hk⟩⟩
  case shr => exact ⟨_, h2.2, fun k2 hk => ⟨h1, h2.1, hk⟩⟩
  all_goals exact ⟨_, h2, fun k2 hk => ⟨h1, hk⟩⟩
 ·obtain ⟨h1, h2⟩ := h
  cases op <;> simp only [Qdh] at h2 ⊢ <;> try exact h2.elim
  all_goals exact ⟨_, h2, fun k2 hk => ⟨h1, hk⟩⟩
 ·cases op <;> simp only [Qdk] at h ⊢ <;> try exact h.elim
  case add => exact ⟨_, h.2, fun k2 hk => ⟨h.1, hk⟩⟩
  all_goals exact ⟨_, h, fun k2 hk => hk⟩
 ·obtain ⟨h1, h2, h3, h4⟩ := h
  exact ⟨_, h4, fun k2 hk => ⟨h1, h2, h3, hk⟩⟩
theorem Qaz {dr : Bool} {op : AOp} {dst : Option Nat} {k : St -> Prop} (h : Se P dr op dst s k) : ∃ s', k s' /\ ∀ k2 : St -> Prop, k2 s' -> Se P dr op dst s k2 := by
 cases op <;> simp only [Se] at h ⊢
 case mov x => obtain ⟨d, h1, h2⟩ := h; exact ⟨_, h2, fun k2 hk => ⟨d, h1, hk⟩⟩
 case pick c x y => obtain ⟨cd, h1, t, h2, d, h3, h4⟩ := h; exact ⟨_, h4, fun k2 hk => ⟨cd, h1, t, h2, d, h3, hk⟩⟩
 case alloc et cells => obtain ⟨t, h1, h2, h3⟩ := h; exact ⟨_, h3, fun k2 hk => ⟨t, h1, h2, hk⟩⟩
 case box et x => obtain ⟨t, h1, v, h2, cells, h3, h4, h5⟩ := h; exact ⟨_, h5, fun k2 hk => ⟨t, h1, v, h2, cells, h3, h4, hk⟩⟩
 case build zero parts => obtain ⟨qs, h1, ds, h2, h3⟩ := h; exact ⟨_, h3, fun k2 hk => ⟨qs, h1, ds, h2, hk⟩⟩
 case buildSlice esz et parts =>
  rcases h with ⟨t, h1, rows, h2, h3, h4⟩ | ⟨rows, h2, h3, h4⟩
  ·exact ⟨_, h4, fun k2 hk => .inl ⟨t, h1, rows, h2, h3, hk⟩⟩
  ·exact ⟨_, h4, fun k2 hk => .inr ⟨rows, h2, h3, hk⟩⟩
 case load agg sz x =>
  obtain ⟨p, h1, cells, h2, h3⟩ := h
  cases agg with
  | true => exact ⟨_, h3.2, fun k2 hk => ⟨p, h1, cells, h2, h3.1, hk⟩⟩
  | false => obtain ⟨d, h4, h5⟩ := h3; exact ⟨_, h5, fun k2 hk => ⟨p, h1, cells, h2, d, h4, hk⟩⟩
 case store sz x v =>
  obtain ⟨p, h1, h2⟩ := h
  cases p <;> simp only [Qgm] at h2 <;> try exact h2.elim
  obtain ⟨b, h3, row, h4, q, h5, cells, h6, h7, h8, h9⟩ := h2
  exact ⟨_, h9, fun k2 hk => ⟨_, h1, b, h3, row, h4, q, h5, cells, h6, h7, h8, hk⟩⟩
 case nilCheck x => obtain ⟨p, h1, h2, h3⟩ := h; exact ⟨_, h3, fun k2 hk => ⟨p, h1, h2, hk⟩⟩
 case bin op bt x y =>
  obtain ⟨p, h1, q, h2, h3⟩ := h
  obtain ⟨d, h4, h5⟩ := Qdj h3
  exact ⟨_, h4, fun k2 hk => ⟨p, h1, q, h2, h5 _ hk⟩⟩
 case eqs neg ks x y => obtain ⟨p, h1, q, h2, xs, h3, ys, h4, b, h5, h6⟩ := h; exact ⟨_, h6, fun k2 hk => ⟨p, h1, q, h2, xs, h3, ys, h4, b, h5, hk⟩⟩
 case un op x =>
  obtain ⟨p, h1, h2⟩ := h
  cases op <;> cases p <;> simp only [unK] at h2 <;> try exact h2.elim
  all_goals exact ⟨_, h2, fun k2 hk => ⟨_, h1, hk⟩⟩
 case conv kk x => obtain ⟨p, h1, d, h2, h3⟩ := h; exact ⟨_, h3, fun k2 hk => ⟨p, h1, d, h2, hk⟩⟩
 case slice esz x lo hi mx =>
  obtain ⟨p, h1, rows, h2, l, h3, hh, h4, h5, h6, h7, h8, h9⟩ := h
  cases mx with
  | none => exact ⟨_, h9, fun k2 hk => ⟨p, h1, rows, h2, l, h3, hh, h4, h5, h6, h7, h8, hk⟩⟩
  | some m =>
   obtain ⟨h10, h11, h12⟩ := h9
   exact ⟨_, h12, fun k2 hk => ⟨p, h1, rows, h2, l, h3, hh, h4, h5, h6, h7, h8, h10, h11, hk⟩⟩
 case sliceStr x lo hi => obtain ⟨p, h1, c, h2, l, h3, hh, h4, h5, h6, h7, h8⟩ := h; exact ⟨_, h8, fun k2 hk => ⟨p, h1, c, h2, l, h3, hh, h4, h5, h6, h7, hk⟩⟩
 case fieldAddr off x =>
  obtain ⟨p, h1, h2⟩ := h
  cases p <;> simp only [PR] at h2 <;> try exact h2.elim
  all_goals exact ⟨_, h2.2, fun k2 hk => ⟨_, h1, h2.1, hk⟩⟩
 case field agg off sz x =>
  obtain ⟨p, h1, cells, h2, h3⟩ := h
  cases agg with
  | true => exact ⟨_, h3.2, fun k2 hk => ⟨p, h1, cells, h2, h3.1, hk⟩⟩
  | false => obtain ⟨d, h4, h5⟩ := h3; exact ⟨_, h5, fun k2 hk => ⟨p, h1, cells, h2, d, h4, hk⟩⟩
 case indexAddr esz x i =>
  obtain ⟨n, h1, p, h2, h3⟩ := h
  cases n <;> try (simp only [SU] at h3; done)
  cases p <;> simp only [SU] at h3 <;> try exact h3.elim
  ·obtain ⟨row, h4, h5, h6, h7⟩ := h3; exact ⟨_, h7, fun k2 hk => ⟨_, h1, _, h2, row, h4, h5, h6, hk⟩⟩
  ·obtain ⟨row, h4, h5, h6, h7⟩ := h3; exact ⟨_, h7, fun k2 hk => ⟨_, h1, _, h2, row, h4, h5, h6, hk⟩⟩
  ·obtain ⟨b, h4, h5, h6, h7, h8, h9⟩ := h3; exact ⟨_, h9, fun k2 hk => ⟨_, h1, _, h2, b, h4, h5, h6, h7, h8, hk⟩⟩
 case indexStr x i =>
  obtain ⟨n, h1, p, h2, h3⟩ := h
  cases n <;> try (simp only [HI] at h3; done)
  cases p <;> simp only [HI] at h3 <;> try exact h3.elim
  obtain ⟨c, h4, h5, h6⟩ := h3
  exact ⟨_, h6, fun k2 hk => ⟨_, h1, _, h2, c, h4, h5, hk⟩⟩
 case extract i x => obtain ⟨p, h1, ds, h2, d, h3, h4⟩ := h; exact ⟨_, h4, fun k2 hk => ⟨p, h1, ds, h2, d, h3, hk⟩⟩
 case len x => obtain ⟨p, h1, n, h2, h3⟩ := h; exact ⟨_, h3, fun k2 hk => ⟨p, h1, n, h2, hk⟩⟩
 case lenStr x => obtain ⟨p, h1, l, h2, h3⟩ := h; exact ⟨_, h3, fun k2 hk => ⟨p, h1, l, h2, hk⟩⟩
 case min x y =>
  obtain ⟨p, h1, q, h2, h3⟩ := h
  cases p <;> try (simp only [Qfo] at h3; done)
  cases q <;> simp only [Qfo] at h3 <;> try exact h3.elim
  exact ⟨_, h3, fun k2 hk => ⟨_, h1, _, h2, hk⟩⟩
 case append esz et bytes x y =>
  obtain ⟨p, h1, q, h2, h3⟩ := h
  have happ : ∀ (ys : List (List D)) (pr : Bool), Qcr dr esz et bytes dst s p ys pr k -> ∃ s', k s' /\ ∀ k2 : St -> Prop, k2 s' -> Qcr dr esz et bytes dst s p ys pr k2 := by
   intro ys pr h5
   cases p <;> simp only [Qcr] at h5 <;> try exact h5.elim
   ·obtain ⟨t, h6, h7, h8, h9, h10, h11, h12⟩ := h5
    exact ⟨_, h12, fun k2 hk => ⟨t, h6, h7, h8, h9, h10, h11, hk⟩⟩
   ·obtain ⟨hd, hk0, b, h6, h7, h8, h9, h10, h12, h13, h14⟩ := h5
    exact ⟨_, h14, fun k2 hk => ⟨hd, hk0, b, h6, h7, h8, h9, h10, h12, h13, hk⟩⟩
  cases q <;> simp only [Qcc] at h3 <;> try exact h3.elim
  ·obtain ⟨s', q1, q2⟩ := happ _ _ h3.2
   exact ⟨s', q1, fun k2 hk => ⟨p, h1, _, h2, h3.1, q2 k2 hk⟩⟩
  ·obtain ⟨s', q1, q2⟩ := happ _ _ h3.2
   exact ⟨s', q1, fun k2 hk => ⟨p, h1, _, h2, h3.1, q2 k2 hk⟩⟩
  ·obtain ⟨b, h4, h5, h6, h7⟩ := h3
   obtain ⟨s', q1, q2⟩ := happ _ _ h7
   exact ⟨s', q1, fun k2 hk => ⟨p, h1, _, h2, b, h4, h5, h6, q2 k2 hk⟩⟩
 case makeSlice esz et bytes zero x y =>
  obtain ⟨p, h1, q, h2, h3⟩ := h
  cases p <;> try (simp only [BZ] at h3; done)
  cases q <;> simp only [BZ] at h3 <;> try exact h3.elim
  obtain ⟨t, h4, h5, h6, h7, h8, h9, h10⟩ := h3
  exact ⟨_, h10, fun k2 hk => ⟨_, h1, _, h2, t, h4, h5, h6, h7, h8, h9, hk⟩⟩
 case range x => obtain ⟨t, h1, p, h2, l, h3, h4, h5⟩ := h; exact ⟨_, h5, fun k2 hk => ⟨t, h1, p, h2, l, h3, h4, hk⟩⟩
 case next x =>
  obtain ⟨hd, p, h1, h2⟩ := h
  unfold QdB at h2
  split at h2
  ·obtain ⟨l, q, h3, h4⟩ := h2
   rcases h4 with ⟨h4, h5⟩ | ⟨h4, h5⟩
   ·exact ⟨_, h5, fun k2 hk => ⟨hd, _, h1, l, q, h3, .inl ⟨h4, hk⟩⟩⟩
   ·exact ⟨_, h5, fun k2 hk => ⟨hd, _, h1, l, q, h3, .inr ⟨h4, hk⟩⟩⟩
  ·exact h2.elim
 case indexArr len esz x i =>
  obtain ⟨nd, h1, p, h2, h3⟩ := h
  cases nd <;> try (simp only [Qf5] at h3; done)
  obtain ⟨h4, h5, h6⟩ := h3
  cases p <;> simp only [PR] at h6 <;> try exact h6.elim
  all_goals exact ⟨_, h6.2, fun k2 hk => ⟨_, h1, _, h2, h4, h5, h6.1, hk⟩⟩
 case indexAgg agg len esz x i =>
  obtain ⟨nd, h1, n, h2, p, h3, cells, h4, h5, h6, h7⟩ := h
  cases agg with
  | true => exact ⟨_, h7.2, fun k2 hk => ⟨nd, h1, n, h2, p, h3, cells, h4, h5, h6, h7.1, hk⟩⟩
  | false => obtain ⟨d, h8, h9⟩ := h7; exact ⟨_, h9, fun k2 hk => ⟨nd, h1, n, h2, p, h3, cells, h4, h5, h6, d, h8, hk⟩⟩
 case call f args => obtain ⟨ds, h1, d, h2, h3, h4⟩ := h; exact ⟨_, h4, fun k2 hk => ⟨ds, h1, d, h2, h3, hk⟩⟩
 case mkfn f xs => obtain ⟨ds, h1, h2, h3⟩ := h; exact ⟨_, h3, fun k2 hk => ⟨ds, h1, h2, hk⟩⟩
 case mkbn f xs => obtain ⟨ds, h1, h2, h3⟩ := h; exact ⟨_, h3, fun k2 hk => ⟨ds, h1, h2, hk⟩⟩
 case callV x az =>
  obtain ⟨p, h1, h2⟩ := h
  rcases h2 with h2 | ⟨rfl, h2⟩
  ·cases p <;> simp only [Qf9] at h2 <;> try exact h2.elim
   obtain ⟨h3, ds, h4, d, h5, h6, h7⟩ := h2
   exact ⟨_, h7, fun k2 hk => ⟨_, h1, .inl ⟨h3, ds, h4, d, h5, h6, hk⟩⟩⟩
  ·cases p <;> simp only [Qf6] at h2 <;> try exact h2.elim
   obtain ⟨h3, d, h5, h6, h7⟩ := h2
   exact ⟨_, h7, fun k2 hk => ⟨_, h1, .inr ⟨rfl, h3, d, h5, h6, hk⟩⟩⟩
theorem H4 {K : St -> Prop} : ∀ {l : List AOper} {dr : Dr} {s : St}, run P dr l K s -> ∃ s', K s' /\ ∀ k2 : St -> Prop, k2 s' -> run P dr l k2 s
 | [], _, s, h => ⟨s, h, fun _ hk => hk⟩
 | ⟨dst, op, none⟩ :: r, dr, s, h => by
  simp only [run] at h ⊢
  rcases h with ⟨h1, h2⟩ | ⟨p, q, d, ef, h1, h2, h3⟩ | ⟨f, args, HF, Hn, Hu, d, h1, h2, h3, h5⟩ | ⟨s', d, bx, h1, h2, h3, h5⟩
  ·obtain ⟨s1, h3, h4⟩ := Qaz h2
   obtain ⟨s2, h5, h6⟩ := H4 h3
   exact ⟨s2, h5, fun k2 hk => .inl ⟨h1, h4 _ (h6 k2 hk)⟩⟩
  ·obtain ⟨s2, h6, h7⟩ := H4 h3
   exact ⟨s2, h6, fun k2 hk => .inr (.inl ⟨p, q, d, ef, h1, h2, h7 k2 hk⟩)⟩
  ·obtain ⟨s2, h6, h7⟩ := H4 h5
   exact ⟨s2, h6, fun k2 hk => .inr (.inr (.inl ⟨f, args, HF, Hn, Hu, d, h1, h2, h3, h7 k2 hk⟩))⟩
  ·obtain ⟨s2, h6, h7⟩ := H4 h5
   exact ⟨s2, h6, fun k2 hk => .inr (.inr (.inr ⟨s', d, bx, h1, h2, h3, h7 k2 hk⟩))⟩
 | ⟨dst, op, some (t, b)⟩ :: r, dr, s, h => by
  simp only [run] at h ⊢
  obtain ⟨d, h0, h⟩ := h
  have hA : ((dr.ok r.length (pk op s) (wk op s) = true /\ Se P dr.dr op dst s fun s' => run P (dr.nx (NJ op dst r) (pk op s) (wk op s)) r K s') \/
    (∃ p q d ef, EF P dr.B op dst s p q d ef /\ dr.ok r.length p q = true /\ run P (dr.nx (KN dst.toList r) p q) r K (s.eff dst d ef)) \/
    (∃ f args HF Hn Hu d, dr = .fixed /\ Ha s op f args /\ Hg P f args s HF Hn Hu d /\ run P dr r K (St.apply { s with H := Hn ++ (Hu ++ s.H) } dst d none)) \/
    ∃ s' d bx, dr = .fixed /\ s.le s' /\ X1 P ⟨dst, op, none⟩ s' d bx /\ run P dr r K (s'.apply dst d bx)) ->
    ∃ s', K s' /\ ∀ k2 : St -> Prop, k2 s' -> ((dr.ok r.length (pk op s) (wk op s) = true /\ Se P dr.dr op dst s fun s' => run P (dr.nx (NJ op dst r) (pk op s) (wk op s)) r k2 s') \/
    (∃ p q d ef, EF P dr.B op dst s p q d ef /\ dr.ok r.length p q = true /\ run P (dr.nx (KN dst.toList r) p q) r k2 (s.eff dst d ef)) \/
    (∃ f args HF Hn Hu d, dr = .fixed /\ Ha s op f args /\ Hg P f args s HF Hn Hu d /\ run P dr r k2 (St.apply { s with H := Hn ++ (Hu ++ s.H) } dst d none)) \/
    ∃ s' d bx, dr = .fixed /\ s.le s' /\ X1 P ⟨dst, op, none⟩ s' d bx /\ run P dr r k2 (s'.apply dst d bx)) := fun h => by
   rcases h with ⟨h1, h2⟩ | ⟨p, q, d, ef, h1, h2, h3⟩ | ⟨f, args, HF, Hn, Hu, d, h1, h2, h3, h5⟩ | ⟨s', d, bx, h1, h2, h3, h5⟩
   ·obtain ⟨s1, h3, h4⟩ := Qaz h2
    obtain ⟨s2, h5, h6⟩ := H4 h3
    exact ⟨s2, h5, fun k2 hk => .inl ⟨h1, h4 _ (h6 k2 hk)⟩⟩
   ·obtain ⟨s2, h6, h7⟩ := H4 h3
    exact ⟨s2, h6, fun k2 hk => .inr (.inl ⟨p, q, d, ef, h1, h2, h7 k2 hk⟩)⟩
   ·obtain ⟨s2, h6, h7⟩ := H4 h5
    exact ⟨s2, h6, fun k2 hk => .inr (.inr (.inl ⟨f, args, HF, Hn, Hu, d, h1, h2, h3, h7 k2 hk⟩))⟩
   ·obtain ⟨s2, h6, h7⟩ := H4 h5
    exact ⟨s2, h6, fun k2 hk => .inr (.inr (.inr ⟨s', d, bx, h1, h2, h3, h7 k2 hk⟩))⟩
  have hB : run P dr r K (s.apply dst .undef none) -> ∃ s', K s' /\ ∀ k2 : St -> Prop, k2 s' -> run P dr r k2 (s.apply dst .undef none) := H4
  cases d <;> simp only [PU] at h <;> try exact h.elim
  ·obtain ⟨s2, h1, h2⟩ := hB h
   exact ⟨s2, h1, fun k2 hk => ⟨_, h0, h2 k2 hk⟩⟩
  ·rename_i c
   cases c <;> cases b
   ·obtain ⟨s2, h1, h2⟩ := hA (h.1 rfl)
    exact ⟨s2, h1, fun k2 hk => ⟨_, h0, ⟨fun _ => h2 k2 hk, fun h => by cases h⟩⟩⟩
   ·obtain ⟨s2, h1, h2⟩ := hB (h.2 rfl)
    exact ⟨s2, h1, fun k2 hk => ⟨_, h0, ⟨(fun h => by cases h), fun _ => h2 k2 hk⟩⟩⟩
   ·obtain ⟨s2, h1, h2⟩ := hB (h.2 rfl)
    exact ⟨s2, h1, fun k2 hk => ⟨_, h0, ⟨(fun h => by cases h), fun _ => h2 k2 hk⟩⟩⟩
   ·obtain ⟨s2, h1, h2⟩ := hA (h.1 rfl)
    exact ⟨s2, h1, fun k2 hk => ⟨_, h0, ⟨fun _ => h2 k2 hk, fun h => by cases h⟩⟩⟩
/-! #### The rules -/
variable {l : List Nat} {b : TCode} {id i : Nat}
theorem Zr {dr : Bool} {ops : List AOper} (h : ∀ K : St -> Prop, (∀ fr H, TX P nt b Q ⟨Zf l fr, H⟩ -> K ⟨fr, H⟩) -> run P (Dr.of s.H dr) ops K s) : TX P nt (.seq (.region dr ops) l b) Q s := by
 obtain ⟨s1, ⟨e, s2, h1, h2⟩, h3⟩ := H4 (h (fun st => TX P nt b Q ⟨Zf l st.fr, st.H⟩) fun fr H h => h)
 exact ⟨e, s2, h1, Qb fun K hK => h3 K (hK s1.fr s1.H h2)⟩
theorem Z3 {dr : Bool} {ops : List AOper} (h : ∀ K : St -> Prop, (∀ s', Q .normal s' -> K s') -> run P (Dr.of s.H dr) ops K s) : TX P nt (.region dr ops) Q s := by
 obtain ⟨s1, h1, h3⟩ := H4 (h (Q .normal) fun _ h => h)
 exact ⟨.normal, s1, h1, QN fun K hK => h3 K (hK s1 ⟨rfl, rfl⟩)⟩
def Qfx (P : Program) (nt : Nat) (l : List Nat) (b : TCode) (Q : AExit -> St -> Prop) : AExit -> St -> Prop
 | .normal, s => TX P nt b Q ⟨Zf l s.fr, s.H⟩
 | e, s => Q e s
theorem JG {a : TCode} (h : TX P nt a (Qfx P nt l b Q) s) : TX P nt (.seq a l b) Q s := by
 obtain ⟨e, s1, h1, h2⟩ := h
 cases e with
 | normal =>
  obtain ⟨e2, s2, h3, h4⟩ := h1
  exact ⟨e2, s2, h3, QB (Xo (fun _ _ ⟨p, q⟩ => by subst p q; exact h4) h2)⟩
 | exit n => exact ⟨.exit n, s1, h1, QB (Xo (fun _ _ ⟨p, q⟩ => by subst p q; exact ⟨rfl, rfl⟩) h2)⟩
 | ret => exact ⟨.ret, s1, h1, QB (Xo (fun _ _ ⟨p, q⟩ => by subst p q; exact ⟨rfl, rfl⟩) h2)⟩
theorem Xu {c : Opd} {x y : TCode} {t : Bool} (hc : s.ev c = some (.bool t)) (h1 : t = true -> TX P nt x Q s) (h2 : t = false -> TX P nt y Q s) : TX P nt (.cond c x y) Q s := by
 cases t
 ·obtain ⟨e, s1, h3, h4⟩ := h2 rfl; exact ⟨e, s1, h3, Zk hc h4⟩
 ·obtain ⟨e, s1, h3, h4⟩ := h1 rfl; exact ⟨e, s1, h3, Zl hc h4⟩
theorem CP {c : Opd} {x y : TCode} (hc : s.ev c = some (.bool false)) (h1 : TX P nt y Q s) : TX P nt (.cond c x y) Q s := Xu hc (fun h => by cases h) (fun _ => h1)
theorem Xg {a : TCode} (h : TX P nt a (JS id Q) s) : TX P nt (.block id a) Q s := by
 obtain ⟨e, s1, h1, h2⟩ := h
 cases e with
 | normal => exact ⟨.normal, s1, h1, QC (Xo (fun _ _ ⟨p, q⟩ => by subst p q; exact ⟨rfl, rfl⟩) h2)⟩
 | ret => exact ⟨.ret, s1, h1, QC (Xo (fun _ _ ⟨p, q⟩ => by subst p q; exact ⟨rfl, rfl⟩) h2)⟩
 | exit n =>
  by_cases hn : n = id
  ·subst hn
   simp only [JS, if_true] at h1
   exact ⟨.normal, s1, h1, QC (Xo (fun _ _ ⟨p, q⟩ => by subst p q; simp only [JS, if_true]; exact ⟨trivial, trivial⟩) h2)⟩
  ·simp only [JS, if_neg hn] at h1
   exact ⟨.exit n, s1, h1, QC (Xo (fun _ _ ⟨p, q⟩ => by subst p q; simp only [JS, if_neg hn]; exact ⟨trivial, trivial⟩) h2)⟩
theorem Ns (h : Q (.exit id) s) : TX P nt (.exit id) Q s := ⟨_, s, h, Q7 ⟨rfl, rfl⟩⟩
theorem Sq (h : Q .ret s) : TX P nt .ret Q s := ⟨_, s, h, Qo ⟨rfl, rfl⟩⟩
theorem XL (h : Q .normal s) : TX P nt .skip Q s := ⟨_, s, h, Qq ⟨rfl, rfl⟩⟩
theorem CQ {c : TCode} {s' : St} (h : s.le s') (hw : TX P nt c Q s') : TX P nt c Q s := let ⟨e, s1, h1, h2⟩ := hw; ⟨e, s1, h1, Qf1 h h2⟩
inductive Rounds (P : Program) (nt : Nat) (a : TCode) (e : AExit) (s' : St) : Nat -> St -> Prop
 | stop {s : St} : TW P nt a (fun e2 s2 => e2 = e /\ s2 = s') s -> e ≠ .normal -> Rounds P nt a e s' 0 s
 | next {s t s2 : St} {n : Nat} : TW P nt a (fun e2 s3 => e2 = .normal /\ s3 = t) s -> t.le s2 -> Rounds P nt a e s' n s2 -> Rounds P nt a e s' (n + 1) s
theorem Rounds.tw {a : TCode} {e : AExit} {s' : St} {n : Nat} (h : Rounds P nt a e s' n s) : TW P nt (.loop a) (fun e2 s2 => e2 = e /\ s2 = s') s := by
 refine Zs (ι := Nat × St) (fun j => j.2) (fun j => Rounds P nt a e s' j.1 j.2) (fun j => j.1) (n, s) (le_refl _) h fun j hj => ?_
 obtain ⟨m, st⟩ := j
 dsimp only at hj ⊢
 cases hj with
 | stop h1 h2 =>
  refine Xo (fun e2 s2 ⟨p, q⟩ => ?_) h1
  subst p q
  cases e2 with
  | normal => exact absurd rfl h2
  | exit n => exact ⟨rfl, rfl⟩
  | ret => exact ⟨rfl, rfl⟩
 | next h1 h2 h3 =>
  refine Xo (fun e2 s2 ⟨p, q⟩ => ?_) h1
  subst p q
  exact ⟨(_, _), h2, h3, Nat.lt_succ_self _⟩
theorem Mf {ι : Type} {a : TCode} (st : ι -> St) (I : ι -> Prop) (μ : ι -> Nat) (i0 : ι) (h0 : s.le (st i0)) (hI : I i0) (round : ∀ i, I i -> TX P nt a (P9 st I μ i Q) (st i)) : TX P nt (.loop a) Q s := by
 refine CQ h0 ?_
 have key : ∀ n i, μ i = n -> I i -> ∃ e s', Q e s' /\ ∃ m, Rounds P nt a e s' m (st i) := by
  intro n
  induction n using Nat.strongRecOn with
  | _ n ih =>
   intro i hn hi
   obtain ⟨e, s1, h1, h2⟩ := round i hi
   cases e with
   | normal =>
    obtain ⟨j, hle, hj, hlt⟩ := h1
    obtain ⟨e, s', h3, m, h4⟩ := ih (μ j) (hn ▸ hlt) j rfl hj
    exact ⟨e, s', h3, m + 1, .next h2 hle h4⟩
   | exit k => exact ⟨_, _, h1, 0, .stop h2 Wd⟩
   | ret => exact ⟨_, _, h1, 0, .stop h2 Wd⟩
 obtain ⟨e, s', h1, m, h2⟩ := key _ i0 rfl hI
 exact ⟨e, s', h1, h2.tw⟩
theorem QeV {ι : Type} (st : ι -> St) (I : ι -> Prop) {a : TCode} (h : TX P nt a (Qbw st I Q) s) (k : ∀ j, I j -> TX P nt b Q (st j)) : TX P nt (.seq a l b) Q s := by
 obtain ⟨e, s1, h1, h2⟩ := h
 cases e with
 | normal =>
  obtain ⟨j, hle, hI⟩ := h1
  obtain ⟨e2, s2, h3, h4⟩ := k j hI
  refine ⟨e2, s2, h3, GH (ι := Unit) (fun _ => st j) (fun _ => True) (Xo (fun _ _ ⟨p, q⟩ => by subst p q; exact ⟨(), hle, trivial⟩) h2) fun _ _ => h4⟩
 | exit n => exact ⟨.exit n, s1, h1, QB (Xo (fun _ _ ⟨p, q⟩ => by subst p q; exact ⟨rfl, rfl⟩) h2)⟩
 | ret => exact ⟨.ret, s1, h1, QB (Xo (fun _ _ ⟨p, q⟩ => by subst p q; exact ⟨rfl, rfl⟩) h2)⟩
theorem Q3 {fr fr' : QiK} {H : QiJ} (h : Zf l fr = fr') (k : TX P nt b Q ⟨fr', H⟩) : TX P nt b Q ⟨Zf l fr, H⟩ := h ▸ k
theorem Ze {fr fr' : QiK} {H : QiJ} (h : Zf l fr = fr') (k : TX P nt b Q ⟨fr', H⟩) : Qfx P nt l b Q .normal ⟨fr, H⟩ := by
 simp only [Qfx, h]; exact k
theorem XT (h : Q (.exit id) s) : Qfx P nt l b Q (.exit id) s := h
theorem DR (h : Q .ret s) : Qfx P nt l b Q .ret s := h
end
section
variable {P : Program}
theorem Ok.ofX {f : Nat} {fn : Func} {tf : TFn} {ds : List D} {R : D -> Prop} (hm : P.follows .mixedOrders = true) (hf : P.funcs[f]? = some fn) (hp : QH P fn = some tf.erase) (hn : ds.length <= tf.nt)
  (h : TX P tf.nt tf.body (fun e s => ∃ d, R d /\ Post tf.rs d e s) ⟨TC 0 ds, []⟩) (hg : Pk f = [] := by rfl) : ∃ d, R d /\ Ok P f ds d := by
 obtain ⟨e, s, ⟨d, h1, h2⟩, h3⟩ := h
 exact ⟨d, h1, Ok.ofT hm hf hp hn (Xo (fun _ _ ⟨p, q⟩ => by subst p q; exact h2) h3) hg⟩
theorem OkH.ofX {f : Nat} {fn : Func} {tf : TFn} {ds : List D} {H : QiJ} {R : D -> QiJ -> Prop} (hm : P.follows .mixedOrders = true) (hf : P.funcs[f]? = some fn) (hp : QH P fn = some tf.erase) (hn : ds.length <= tf.nt)
  (h : TX P tf.nt tf.body (fun e s => ∃ d H', R d H' /\ (∀ k, 1000000 <= k -> (lk H k).isSome = true -> (lk H' k).isSome = true) /\ (∀ k b, lk H' k = some b -> 500000 <= k /\ ∀ j ∈ b.ids, (lk H' j).isSome = true) /\ Re tf.rs d H' e s) ⟨TC 0 ds, H⟩) (hg : Pk f = [] := by rfl) : ∃ d H', R d H' /\ OkH P f ds H d H' := by
 obtain ⟨e, s, ⟨d, H', h1, h2, h3, h4⟩, h5⟩ := h
 exact ⟨d, H', h1, OkH.ofT hm hf hp hn h2 h3 (Xo (fun _ _ ⟨p, q⟩ => by subst p q; exact h4) h5) hg⟩
end
section
variable {fr : QiK} {H H' : QiJ} {t : Nat}
theorem JB {e : AExit} {p d : D} (h : lk fr t = some p) (hd : QaN PC ⟨fr, H⟩ p = d) (hH : ∀ k b, lk H' k = some b -> lk H k = some b) (he : e = .ret \/ e = .normal := by first | exact .inl rfl | exact .inr rfl) : Re [.tmp t] d H' e ⟨fr, H⟩ := by
 subst hd; rcases he with rfl | rfl <;> exact ⟨.inr ⟨_, rfl, _, h, rfl⟩, hH⟩
theorem Gp {e : AExit} {sz : Nat} {p : D} {cells cs : List D} {d : D} (h : lk fr t = some p) (ha : St.atO ⟨fr, H⟩ p = some cells) (hl : Nat.ble sz cells.length = true) (hc : cells.take sz = cs) (hd : QaN PC ⟨fr, H⟩ (.agg cs) = d) (hH : ∀ k b, lk H' k = some b -> lk H k = some b) (he : e = .ret \/ e = .normal := by first | exact .inl rfl | exact .inr rfl) : Re [.cell t true sz] d H' e ⟨fr, H⟩ := by
 subst hc hd
 rcases he with rfl | rfl <;> exact ⟨.inr ⟨_, rfl, p, cells, h, Su.2 ha, by simp only [if_true]; exact ⟨QiM hl, trivial⟩⟩, hH⟩
end
theorem Qcu {P : Program} {f : Nat} {args : List Opd} {s : St} {ds ds' : List D} {k t n' : Nat} {b b' : Box} (ha : Zo s args = some ds) (hb : lk s.H k = some b) (hp : b.pr = true) (hk : k < 1000000) (hn : lk s.H t = none) (ht : t < 1000000) (hds : ∀ x ∈ ds, ∀ j ∈ x.ids, j = k) (hkd : ∃ x ∈ ds, k ∈ x.ids) (hp' : b'.pr = true)
  (hu : ds.map (Qf3 k) = ds') (hok : OkH P f ds' [(500000, b)] (.osl 500000 n') [(500000, b')]) : Cf P f args s [] k t b b' n' := by
 subst hu
 exact ⟨ds, ha, hb, hp, hk, hn, ht, (fun j x hj => by cases hj), (fun j x hj => by cases hj), (fun x hx j hj => .inl (hds x hx j hj)), hkd, hp', hok⟩
section
variable {fr : QiK} {H : QiJ} {t u : Nat}
theorem Post.eq {rs : List Sg} {d d' : D} {e : AExit} {s : St} (h : Post rs d e s) (hd : d = d') : Post rs d' e s := hd ▸ h
theorem XB {e : AExit} {sz : Nat} {p q d' : D} {cells cs ds : List D} (h : lk fr t = some p) (ha : St.atO ⟨fr, H⟩ p = some cells) (hl : Nat.ble sz cells.length = true) (hc : cells.take sz = cs) (h2 : lk fr u = some q) (hd : XV ⟨fr, H⟩ (.agg cs) = .agg ds /\ XV ⟨fr, H⟩ q = d')
  (he : e = .ret \/ e = .normal := by first | exact .inl rfl | exact .inr rfl) : Post [.cell t true sz, .tmp u] (.tup [.agg ds, d']) e ⟨fr, H⟩ := by
 subst hc
 obtain ⟨h3, rfl⟩ := hd
 have : Tg ⟨fr, H⟩ [.cell t true sz, .tmp u] [.agg ds, XV ⟨fr, H⟩ q] :=
  ⟨_, _, rfl, ⟨p, cells, h, Su.2 ha, by simp only [if_true]; exact ⟨QiM hl, h3.symm⟩⟩, _, _, rfl, ⟨q, h2, rfl⟩, rfl⟩
 rcases he with rfl | rfl <;> exact ⟨_, rfl, this⟩
end
theorem Ja {m k : Nat} {b0 b : Box} (h : lk [(m, b0)] k = some b) : k = m /\ b = b0 := by
 rw [Ql] at h
 split at h
 ·rename_i e; cases h; exact ⟨e.symm, rfl⟩
 ·cases h
theorem OkH.mv {P : Program} {f : Nat} {fn : Func} {tf : TFn} {ds : List D} {d : D} {b b' : Box} (hm : P.follows .mixedOrders = true) (hf : P.funcs[f]? = some fn) (hp : QH P fn = some tf.erase) (hn : ds.length <= tf.nt) (hb : b'.pr = true)
  (h : TW P tf.nt tf.body (Re tf.rs d [(500000, b')]) ⟨TC 0 ds, [(500000, b)]⟩) (hg : Pk f = [] := by rfl) : OkH P f ds [(500000, b)] d [(500000, b')] := by
 refine OkH.ofT hm hf hp hn (fun k hk h1 => ?_) (fun k x hk => ?_) h hg
 ·obtain ⟨y, hy⟩ := QiS.1 h1
  obtain ⟨rfl, _⟩ := Ja hy
  omega
 ·obtain ⟨rfl, rfl⟩ := Ja hk
  refine ⟨Nat.le_refl _, fun j hj => ?_⟩
  simp [Box.ids, hb] at hj
theorem Lz {H : QiJ} {m : Nat} {b0 : Box} (h : lk H m = some b0) : ∀ k b, lk [(m, b0)] k = some b -> lk H k = some b := fun k b hk => by
 obtain ⟨rfl, rfl⟩ := Ja hk; exact h
theorem Ym {s : St} {k i off : Nat} {b : Box} {row : List D} (hb : lk s.H k = some b) (hr : b.rows[i]? = some row) : s.atO (.ref k i off) = some (row.drop off) := by
 simp only [St.atO, hb, hr]
theorem BQ {l : List Nat} {fr fr1 : QiK} {H : QiJ} {t u n : Nat} {b : Box} (m : Nat) (hk : Zf l fr = fr1) (hp : (fr1.all fun p => p.2.ids.isEmpty) = true) (hu : lk fr u = some (.osl t n)) (hb : lk H t = some b) (hpr : b.pr = true)
  (hB : Qeu H [] = true := by rfl) (ht : t < 1000000 := by decide) (hm : m < 1000000 := by decide) : St.le ⟨fr, H⟩ ⟨(u, .osl m n) :: fr1, [(m, b)]⟩ := fun E g a w r => by
 obtain ⟨g', r'⟩ := RH t m ht hm ⟨fr, H⟩ E g a w r
 have hsw : JL t m t = m := by unfold JL; rw [if_pos rfl]
 have hsm : JL t m m = t := by have := JD t m t; rw [hsw] at this; exact this
 have hren : b.ren (JL t m) = b := Box.ren_pure ((r.bx t b hb).2.1 hpr)
 have hids : ∀ v d, lk fr1 v = some d -> d.ids = [] := fun v d h => by
  simp only [QiW] at hp
  have := hp (v, d) (ZS h)
  simpa using this
 refine ⟨g', r'.less (fun v d h => ?_) (fun j x h => ?_) (fun v d h j hj => ?_) (fun j x h i hi => ?_) fun j hj hs => ?_⟩
 ·simp only [St.ren, ZR]
  rw [Ql] at h
  split at h
  ·rename_i e
   cases h; subst e
   rw [hu]
   simp only [Option.map_some, D.ren, D.renS, hsw]
  ·have h2 : lk fr v = some d := by subst hk; exact Y9 l fr v d h
   rw [h2, Option.map_some]
   have h3 := hids v d h
   congr 1
   cases d <;> first | rfl | (simp [D.ids, D.sid] at h3; done) | skip
   ·rename_i cs
    simp only [D.ren]
    congr 1
    have one : ∀ d : D, d.sid = [] -> d.renS (JL t m) = d := fun d hd => by cases d <;> first | rfl | (simp [D.sid] at hd)
    simp only [D.ids, List.flatMap_eq_nil_iff] at h3
    exact Yo fun x hx => one x (h3 x hx)
   ·rename_i f cs
    simp only [D.ren]
    congr 1
    have one : ∀ d : D, d.sid = [] -> d.renS (JL t m) = d := fun d hd => by cases d <;> first | rfl | (simp [D.sid] at hd)
    simp only [D.ids, List.flatMap_eq_nil_iff] at h3
    exact Yo fun x hx => one x (h3 x hx)
 ·obtain ⟨rfl, rfl⟩ := Ja h
  show lk (HZ (JL t j) H) j = some x
  rw [G2 (JD t j), hsm, hb, Option.map_some, hren]
 ·rw [Ql] at h
  split at h
  ·cases h
   simp [D.ids, D.sid] at hj; subst hj; simp [Ql]
  ·rw [hids v d h] at hj; cases hj
 ·obtain ⟨rfl, rfl⟩ := Ja h
  simp [Box.ids, hpr] at hi
 ·exfalso
  have hs' : (lk (HZ (JL t m) H) j).isSome = true := hs
  rw [G2 (JD t m), Qi4] at hs'
  have hj' : JL t m j = j := by unfold JL; rw [if_neg Wa, if_neg Wa]
  rw [hj'] at hs'
  have := Ro hB j hj hs'
  cases this
theorem OkH.lent {P : Program} {f : Nat} {fn : Func} {tf : TFn} {ds : List D} {d : D} {k : Nat} {b b' : Box} (hk : 1000000 <= k) (hm : P.follows .mixedOrders = true) (hf : P.funcs[f]? = some fn) (hp : QH P fn = some tf.erase) (hn : ds.length <= tf.nt) (hb : b'.pr = true)
  (h : TW P tf.nt tf.body (Re tf.rs d ((k, b') :: [(k, b)])) ⟨TC 0 ds, [(k, b)]⟩) (hg : Pk f = [] := by rfl) : OkH P f ds [(k, b)] d ((k, b') :: [(k, b)]) := by
 refine OkH.ofT hm hf hp hn (fun j hj h1 => ?_) (fun j x hj => ?_) h hg
 ·obtain ⟨y, hy⟩ := QiS.1 h1
  obtain ⟨rfl, _⟩ := Ja hy
  rw [Ql, if_pos rfl]; rfl
 ·rw [Ql] at hj
  split at hj
  ·rename_i e; subst e; cases hj
   exact ⟨Wa, fun i hi => by simp [Box.ids, hb] at hi⟩
  ·rename_i e
   obtain ⟨rfl, _⟩ := Ja hj
   exact absurd rfl e
theorem Qeb {H : QiJ} {m : Nat} {b0 b1 : Box} (h : lk H m = some b0) : ∀ k b, lk ((m, b0) :: [(m, b1)]) k = some b -> lk H k = some b := fun k b hk => by
 rw [Ql] at hk
 split at hk
 ·rename_i e; subst e; cases hk; exact h
 ·rename_i e
  obtain ⟨rfl, _⟩ := Ja hk
  exact absurd rfl e
section
variable {P : Program} {dr : Dr} {r : List AOper} {K : St -> Prop} {fr : QiK} {H : QiJ} {t : Nat} {bt : Bool} {x y : Opd} {ki kj : IntKind} {m n z : Int}
theorem Md (hx : St.ev ⟨fr, H⟩ x = some (.int ki m)) (hy : St.ev ⟨fr, H⟩ y = some (.int ki n)) (k : run P dr r K ⟨(t, .int ki (Hi .and ki m n)) :: fr, H⟩) : run P dr (⟨some t, .bin .and bt x y, none⟩ :: r) K ⟨fr, H⟩ := QO rfl rfl ⟨_, hx, _, hy, .inr rfl, k⟩
theorem Qhr (hx : St.ev ⟨fr, H⟩ x = some (.int ki m)) (hy : St.ev ⟨fr, H⟩ y = some (.int ki n)) (k : run P dr r K ⟨(t, .int ki (Hi .or ki m n)) :: fr, H⟩) : run P dr (⟨some t, .bin .or bt x y, none⟩ :: r) K ⟨fr, H⟩ := QO rfl rfl ⟨_, hx, _, hy, .inr rfl, k⟩
theorem Rf (hx : St.ev ⟨fr, H⟩ x = some (.int ki m)) (hy : St.ev ⟨fr, H⟩ y = some (.int ki n)) (k : run P dr r K ⟨(t, .int ki (Hi .andNot ki m n)) :: fr, H⟩) : run P dr (⟨some t, .bin .andNot bt x y, none⟩ :: r) K ⟨fr, H⟩ := QO rfl rfl ⟨_, hx, _, hy, .inr rfl, k⟩
theorem QaW (hx : St.ev ⟨fr, H⟩ x = some (.int ki m)) (hy : St.ev ⟨fr, H⟩ y = some (.int kj n)) (h0 : 0 <= n) (hz : ki.wrap (m * 2 ^ min n.toNat ki.bits) = z) (k : run P dr r K ⟨(t, .int ki z) :: fr, H⟩) : run P dr (⟨some t, .bin .shl bt x y, none⟩ :: r) K ⟨fr, H⟩ := by
 subst hz; exact QO rfl rfl ⟨_, hx, _, hy, .inl rfl, h0, k⟩
theorem QeO (hx : St.ev ⟨fr, H⟩ x = some (.int ki m)) (hy : St.ev ⟨fr, H⟩ y = some (.int kj n)) (h0 : 0 <= n) (k : run P dr r K ⟨(t, .int ki (m.fdiv (2 ^ min n.toNat ki.bits))) :: fr, H⟩) : run P dr (⟨some t, .bin .shr bt x y, none⟩ :: r) K ⟨fr, H⟩ :=
 QO rfl rfl ⟨_, hx, _, hy, .inl rfl, h0, k⟩
end
end Go.Abs
namespace Go.Abs
open Go
theorem F7 {H : QiJ} {S : Nat -> Bool} {d : D} (h : ∀ k ∈ d.sid, S k = false) : d.fzS H S = d := by
 cases d <;> try rfl
 ·rename_i k n
  simp only [D.fzS]; rw [if_neg (by rw [h k Wx]; simp)]
 ·rename_i k i o
  simp only [D.fzS]; rw [if_neg (by rw [h k Wx]; simp)]
theorem SO {H : QiJ} {S : Nat -> Bool} {d : D} (h : ∀ k ∈ d.ids, S k = false) : d.fz H S = d := by
 cases d
 case agg cs =>
  simp only [D.fz]
  rw [Yo fun x hx => F7 fun k hk => h k (QiT.2 ⟨x, hx, hk⟩)]
 case clo f cs =>
  simp only [D.fz]
  rw [Yo fun x hx => F7 fun k hk => h k (QiT.2 ⟨x, hx, hk⟩)]
 case osl k n => exact F7 (d := .osl k n) h
 case ref k i o => exact F7 (d := .ref k i o) h
 all_goals rfl
theorem XM {H : QiJ} {S : Nat -> Bool} {b : Box} (h : b.pr = true \/ ∀ k ∈ b.ids, S k = false) : b.fz H S = b := by
 unfold Box.fz
 split
 ·rfl
 ·rename_i hp
  have h' := h.resolve_left hp
  have hids : b.ids = b.rows.flatMap fun r => r.flatMap D.sid := by unfold Box.ids; rw [if_neg hp]
  rw [hids] at h'
  have key : ∀ rows : List (List D), (∀ k ∈ rows.flatMap (fun r => r.flatMap D.sid), S k = false) -> (rows.map fun r => r.map (D.fzS H S)) = rows := by
   intro rows
   induction rows with
   | nil => intro _; rfl
   | cons r rs ih =>
    intro h'
    rw [List.map_cons, ih (fun k hk => h' k (by rw [List.flatMap_cons]; exact Qi1 _ hk)),
     Yo fun x hx => F7 fun k hk => h' k (by rw [List.flatMap_cons]; exact List.mem_append_left _ (QiT.2 ⟨x, hx, hk⟩))]
  have this := key b.rows h'
  rw [this]
theorem QcC {fr fr1 : QiK} {H H1 : QiJ} {l lH : List Nat} (k t : Nat) {n : Nat} {b : Box} (hf : Zf l fr = fr1) (hH : Na lH H = H1) (ht : lk fr t = some (.osl k n)) (hb : lk H k = some b) (hp : b.pr = true) (hn : n = b.rows.length)
  (c1 : (fr1.all fun p => !p.2.ids.contains k) = true) (c2 : (H1.all fun p => p.1 != k && (p.2.pr || !p.2.ids.contains k)) = true) (hw : wfB H1 fr1 = true) (hbk : Qeu H H1 = true) (hk : k < 1000000 := by decide) : St.le ⟨fr, H⟩ ⟨(t, .sl b.rows) :: fr1, H1⟩ := by
 intro E g a w r
 obtain ⟨g', _, r'⟩ := r.freeze k hk
 subst hf hH
 simp only [wfB, QiQ, QiW] at hw
 simp only [QiW, Bool.not_eq_true', List.contains_eq_mem, decide_eq_false_iff_not] at c1
 simp only [QiW, QiQ, Bool.or_eq_true, Bool.not_eq_true', List.contains_eq_mem, decide_eq_false_iff_not, bne_iff_ne, ne_eq] at c2
 have hS : ∀ (x : D), k ∉ x.ids -> x.fz H (· == k) = x := fun x hx => SO fun j hj => by
  simp only [beq_eq_false_iff_ne, ne_eq]; rintro rfl; exact hx hj
 refine ⟨g', r'.less (fun u d h => ?_) (fun j x h => ?_) (fun u d h j hj => ?_) (fun j x h i hi => hw.2 (j, x) (ZS h) i hi) fun j hj hs => ?_⟩
 ·simp only [St.freeze, ZR]
  rw [Ql] at h
  split at h
  ·rename_i e; cases h; subst e
   rw [ht]; simp only [Option.map_some]
   congr 1
   simp only [D.fz, D.fzS, beq_self_eq_true, if_true, hb, hp, hn, and_self]
  ·have h1 := Y9 l fr u d h
   rw [h1, Option.map_some, hS d (c1 (u, d) (ZS h))]
 ·have h1 := FD lH H j x h
  have h2 := c2 (j, x) (ZS h)
  simp only [St.freeze, HK]
  rw [if_neg h2.1, ZR (Box.fz H (· == k)), h1, Option.map_some]
  congr 1
  refine XM (h2.2.imp id fun h3 i hi => ?_)
  simp only [beq_eq_false_iff_ne, ne_eq]; rintro rfl; exact h3 hi
 ·rw [Ql] at h
  split at h
  ·cases h; simp [D.ids, D.sid] at hj
  ·exact hw.1 (u, d) (ZS h) j hj
 ·have : (lk H j).isSome = true := by
   simp only [St.freeze, HK] at hs
   rw [if_neg Wa, ZR (Box.fz H (· == k)), Qi4] at hs
   exact hs
  exact Ro hbk j hj this
theorem QQ {α : Type} {f : α -> List D} {l : List α} : Qex (.sl (l.map f)) = some (l.length : Int) := by simp [Qex]
theorem FQ {ρ : Nat -> Nat} {d : D} (h : ∀ k ∈ d.sid, ρ k = k) : d.renS ρ = d := by
 cases d <;> try rfl
 ·rename_i k n; simp only [D.renS]; rw [h k Wx]
 ·rename_i k i o; simp only [D.renS]; rw [h k Wx]
theorem Qd1 {ρ : Nat -> Nat} {d : D} (h : ∀ k ∈ d.ids, ρ k = k) : d.ren ρ = d := by
 cases d
 case agg cs =>
  simp only [D.ren]
  rw [Yo fun x hx => FQ fun k hk => h k (QiT.2 ⟨x, hx, hk⟩)]
 case clo f cs =>
  simp only [D.ren]
  rw [Yo fun x hx => FQ fun k hk => h k (QiT.2 ⟨x, hx, hk⟩)]
 case osl k n => exact FQ (d := .osl k n) h
 case ref k i o => exact FQ (d := .ref k i o) h
 all_goals rfl
theorem Ce {ρ : Nat -> Nat} {b : Box} (hp : b.pr = false) (h : ∀ k ∈ b.ids, ρ k = k) : b.ren ρ = b := by
 have hids : b.ids = b.rows.flatMap fun r => r.flatMap D.sid := by unfold Box.ids; rw [if_neg (by rw [hp]; simp)]
 rw [hids] at h
 have key : ∀ rows : List (List D), (∀ k ∈ rows.flatMap (fun r => r.flatMap D.sid), ρ k = k) -> (rows.map fun r => r.map (D.renS ρ)) = rows := by
  intro rows
  induction rows with
  | nil => intro _; rfl
  | cons r rs ih =>
   intro h'
   rw [List.map_cons, ih (fun k hk => h' k (by rw [List.flatMap_cons]; exact Qi1 _ hk)),
    Yo fun x hx => FQ fun k hk => h' k (by rw [List.flatMap_cons]; exact List.mem_append_left _ (QiT.2 ⟨x, hx, hk⟩))]
 unfold Box.ren
 rw [key b.rows h]
theorem BS {fr fr1 : QiK} {H H1 : QiJ} {l lH : List Nat} (t m u : Nat) {n : Nat} {b : Box} (hf : Zf l fr = fr1) (hH : Na lH H = H1) (hu : lk fr u = some (.osl t n)) (hb : lk H t = some b) (hpr : b.pr = true)
  (c1 : (fr1.all fun p => !p.2.ids.contains t && !p.2.ids.contains m) = true) (c2 : (H1.all fun p => p.1 != t && p.1 != m && (p.2.pr || (!p.2.ids.contains t && !p.2.ids.contains m))) = true) (hw : wfB H1 fr1 = true) (hbk : Qeu H H1 = true) (ht : t < 1000000 := by decide) (hm : m < 1000000 := by decide) :
  St.le ⟨fr, H⟩ ⟨(u, .osl m n) :: fr1, (m, b) :: H1⟩ := fun E g a w r => by
 subst hf hH
 obtain ⟨g', r'⟩ := RH t m ht hm ⟨fr, H⟩ E g a w r
 have hsw : JL t m t = m := by unfold JL; rw [if_pos rfl]
 have hsm : JL t m m = t := by have := JD t m t; rw [hsw] at this; exact this
 have hid : ∀ k, k ≠ t -> k ≠ m -> JL t m k = k := fun k h1 h2 => by unfold JL; rw [if_neg h1, if_neg h2]
 have hren : b.ren (JL t m) = b := Box.ren_pure ((r.bx t b hb).2.1 hpr)
 simp only [wfB, QiQ, QiW] at hw
 simp only [QiW, QiQ, Bool.not_eq_true', List.contains_eq_mem, decide_eq_false_iff_not] at c1
 simp only [QiW, QiQ, Bool.or_eq_true, Bool.not_eq_true', List.contains_eq_mem, decide_eq_false_iff_not, bne_iff_ne, ne_eq] at c2
 have up : ∀ j, (lk (Na lH H) j).isSome = true -> (lk ((m, b) :: Na lH H) j).isSome = true := fun j hj => by
  rw [Ql]; split
  ·rfl
  ·exact hj
 refine ⟨g', r'.less (fun v d h => ?_) (fun j x h => ?_) (fun v d h j hj => ?_) (fun j x h i hi => ?_) fun j hj hs => ?_⟩
 ·simp only [St.ren, ZR]
  rw [Ql] at h
  split at h
  ·rename_i e
   cases h; subst e
   rw [hu]
   simp only [Option.map_some, D.ren, D.renS, hsw]
  ·have h2 := Y9 l fr v d h
   rw [h2, Option.map_some]
   congr 1
   have h3 := c1 (v, d) (ZS h)
   exact Qd1 fun k hk => hid k (by rintro rfl; exact h3.1 hk) (by rintro rfl; exact h3.2 hk)
 ·show lk (HZ (JL t m) H) j = some x
  rw [G2 (JD t m)]
  rw [Ql] at h
  split at h
  ·rename_i e; cases h; subst e
   rw [hsm, hb, Option.map_some, hren]
  ·have h2 := FD lH H j x h
   have h3 := c2 (j, x) (ZS h)
   rw [hid j h3.1.1 h3.1.2, h2, Option.map_some]
   congr 1
   cases hp : x.pr with
   | true => exact Box.ren_pure ((r.bx j x h2).2.1 hp)
   | false =>
    have h4 := h3.2.resolve_left (by rw [hp]; simp)
    exact Ce hp fun k hk => hid k (by rintro rfl; exact h4.1 hk) (by rintro rfl; exact h4.2 hk)
 ·rw [Ql] at h
  split at h
  ·cases h
   simp [D.ids, D.sid] at hj; subst hj; simp [Ql]
  ·exact up j (hw.1 (v, d) (ZS h) j hj)
 ·rw [Ql] at h
  split at h
  ·rename_i e; cases h; simp [Box.ids, hpr] at hi
  ·exact up i (hw.2 (j, x) (ZS h) i hi)
 ·have hs' : (lk (HZ (JL t m) H) j).isSome = true := hs
  rw [G2 (JD t m), Qi4, hid j Wa Wa] at hs'
  exact up j (Ro hbk j hj hs')
section
variable {P : Program} {dr : Dr} {r : List AOper} {K : St -> Prop} {fr : QiK} {H : QiJ} {t : Nat}
end
end Go.Abs
namespace Go.Abs
open Go
/-! ### Walks over boxes that are lent, of which little is known -/
def Big (H : QiJ) : Prop := ∀ k b, lk H k = some b -> 1000000 <= k
def Closed (H : QiJ) : Prop := ∀ k b, lk H k = some b -> ∀ j ∈ b.ids, (lk H j).isSome = true
theorem Big.none {H : QiJ} (h : Big H) {k : Nat} (hk : k < 1000000) : lk H k = none := by
 cases hh : lk H k with
 | none => rfl
 | some b => have := h k b hh; omega
theorem Qm {α : Type} {H : List (Nat × α)} {k k' : Nat} {x b : α} (h : k' ≠ k) (e : lk H k = some b) : lk ((k', x) :: H) k = some b := by rw [Ql, if_neg h]; exact e
theorem Zx {α : Type} {H : List (Nat × α)} {k k' : Nat} {x : α} (h : k' ≠ k) (e : lk H k = none) : lk ((k', x) :: H) k = none := by rw [Ql, if_neg h]; exact e
theorem QD {α : Type} {k : Nat} {v : α} {l : List (Nat × α)} : lk ((k, v) :: l) k = some v := by rw [Ql, if_pos rfl]
theorem Big.cons {H : QiJ} (h : Big H) {k : Nat} {b : Box} (hk : 1000000 <= k) : Big ((k, b) :: H) := fun j x hj => by
 rw [Ql] at hj
 split at hj
 ·rename_i e; subst e; exact hk
 ·exact h j x hj
theorem QU {H : QiJ} {k j : Nat} {b : Box} (h : (lk H j).isSome = true) : (lk ((k, b) :: H) j).isSome = true := by
 rw [Ql]; split
 ·rfl
 ·exact h
theorem QY {k : Nat} {b : Box} {l : QiJ} : (lk ((k, b) :: l) k).isSome = true := by rw [QD]; rfl
theorem Zv {l : QiJ} {k : Nat} {b : Box} (h : lk l k = some b) : (lk l k).isSome = true := by rw [h]; rfl
def QeH (b : Box) : Prop := b.ids = []
theorem Jh {b : Box} (h : b.pr = true) : b.ids = [] := by simp [Box.ids, h]
theorem Closed.cons {H : QiJ} (h : Closed H) {k : Nat} {b : Box} (hb : ∀ j ∈ b.ids, (lk H j).isSome = true) : Closed ((k, b) :: H) := fun j x hj i hi => by
 rw [Ql] at hj
 split at hj
 ·cases hj; exact QU (hb i hi)
 ·exact QU (h j x hj i hi)
theorem Closed.pr {H : QiJ} (h : Closed H) {k : Nat} {b : Box} (hb : b.pr = true) : Closed ((k, b) :: H) := h.cons fun j hj => by rw [Jh hb] at hj; cases hj
theorem QcA {l : List Nat} {fr fr1 fr' : QiK} {H H' : QiJ} (hf : Zf l fr = fr1) (ef : fr1 = fr') (hH : ∀ k b, lk H' k = some b -> lk H k = some b) (hfr : ∀ p ∈ fr', ∀ k ∈ p.2.ids, (lk H' k).isSome = true) (hcl : Closed H') (hbig : ∀ k, 1000000 <= k -> (lk H k).isSome = true -> (lk H' k).isSome = true) : St.le ⟨fr, H⟩ ⟨fr', H'⟩ := by
 subst hf ef
 intro E g a w r
 exact ⟨g, r.less (fun t d h => Y9 l fr t d h) hH (fun t d h k hk => hfr (t, d) (ZS h) k hk) hcl hbig⟩
theorem KV {fr fr' : QiK} {H H' : QiJ} (ef : fr = fr') (hH : ∀ k, lk H k = lk H' k) : St.le ⟨fr, H⟩ ⟨fr', H'⟩ := by
 subst ef; exact Le ⟨fun _ => rfl, hH⟩
theorem MO {A H0 : QiJ} {k : Nat} {b : Box} (h : lk (A ++ H0) k = some b) : (k, b) ∈ A \/ (lk A k = none /\ lk H0 k = some b) := by
 rw [ZQ] at h
 split at h
 ·rename_i v hv; cases h; exact .inl (ZS hv)
 ·rename_i hv; exact .inr ⟨hv, h⟩
theorem Qfh {l : List Nat} {fr fr1 fr' : QiK} {H A H0 : QiJ} (hf : Zf l fr = fr1) (ef : fr1 = fr') (hA : ∀ p ∈ A, lk H p.1 = some p.2 /\ p.2.pr = true) (h0 : ∀ k b, lk A k = none -> lk H0 k = some b -> lk H k = some b) (hfr : ∀ p ∈ fr', ∀ k ∈ p.2.ids, (lk (A ++ H0) k).isSome = true) (hcl : Closed H0)
  (hbig : ∀ k, 1000000 <= k -> (lk H k).isSome = true -> (lk (A ++ H0) k).isSome = true) : St.le ⟨fr, H⟩ ⟨fr', A ++ H0⟩ := by
 have up : ∀ j, (lk H0 j).isSome = true -> (lk (A ++ H0) j).isSome = true := fun j hj => by
  rw [ZQ]; split
  ·rfl
  ·exact hj
 refine QcA hf ef (fun k b hk => ?_) hfr (fun k b hk j hj => ?_) hbig
 ·rcases MO hk with h | ⟨h1, h2⟩
  ·exact (hA _ h).1
  ·exact h0 k b h1 h2
 ·rcases MO hk with h | ⟨h1, h2⟩
  ·rw [Jh (hA _ h).2] at hj; cases hj
  ·exact up j (hcl k b h2 j hj)
theorem LD {H : QiJ} : Big (upH H) := fun k b hk => by
 obtain ⟨j, b0, rfl, _, _⟩ := YN hk
 unfold upN; omega
theorem Np {H : QiJ} (h : Closed H) : Closed (upH H) := fun k b hk j hj => by
 obtain ⟨i, b0, rfl, h1, rfl⟩ := YN hk
 rw [Box.ren_ids] at hj
 obtain ⟨j0, hj0, rfl⟩ := Qi0.1 hj
 rw [J7, Qi4]
 exact h i b0 h1 j0 hj0
theorem LS {P : Program} {f : Nat} {args : List Opd} {s : St} {ds ds' : List D} {HF : QiJ} {k : Nat} {b b' : Box} {d : D} (ha : Zo s args = some ds) (hF : ∀ j x, lk HF j = some x -> lk s.H j = some x) (hcl : Closed HF) (hds : ∀ x ∈ ds, ∀ j ∈ x.ids, (lk HF j).isSome = true)
  (hk : (lk HF k).isSome = true) (hb : b.pr = true) (hd : d.ids = []) (hu : ds.map Qf4 = ds') (hr : b.ren upN = b') (hok : OkH P f ds' (upH HF) d ((upN k, b') :: upH HF)) : Hg P f args s HF [] [(k, b)] d := by
 subst hu hr
 refine ⟨ds, ha, hF, hcl, hds, fun j x hj => ?_, (fun j x hj => by cases hj), (fun j hj => by rw [hd] at hj; cases hj), hok⟩
 rw [Ql] at hj
 split at hj
 ·rename_i e; cases hj; subst e; exact ⟨hk, fun i hi => by rw [Jh hb] at hi; cases hi⟩
 ·cases hj
theorem XI {H : QiJ} {k : Nat} {b : Box} (hB : Big H) (hC : Closed H) (hk : 1000000 <= k) (hb : b.pr = true) : (∀ j, 1000000 <= j -> (lk H j).isSome = true -> (lk ((k, b) :: H) j).isSome = true) /\ (∀ j x, lk ((k, b) :: H) j = some x -> 500000 <= j /\ ∀ i ∈ x.ids, (lk ((k, b) :: H) i).isSome = true) :=
 ⟨fun _ _ h => QU h, fun j x hj => ⟨by have := hB.cons (b := b) hk j x hj; omega, hC.pr hb j x hj⟩⟩
theorem MK {l : List Nat} {fr fr1 fr' : QiK} {B A A' H0 : QiJ} (hf : Zf l fr = fr1) (ef : fr1 = fr') (hA : ∀ p ∈ A, lk B p.1 = some p.2 /\ p.2.pr = true) (eA : A = A') (hBA : ∀ p ∈ B, 1000000 <= p.1 -> (lk A p.1).isSome = true) (hb : Big H0) (hcl : Closed H0) (hfr : ∀ p ∈ fr', ∀ k ∈ p.2.ids, (lk (A' ++ H0) k).isSome = true) : St.le ⟨fr, B ++ H0⟩ ⟨fr', A' ++ H0⟩ := by
 subst eA
 have noB : ∀ k b, lk H0 k = some b -> lk A k = none -> lk B k = none := fun k b h1 h2 => by
  cases h : lk B k with
  | none => rfl
  | some x =>
   have := hBA (k, x) (ZS h) (hb k b h1)
   simp only at this
   rw [h2] at this; cases this
 refine Qfh hf ef (fun p hp => ?_) (fun k b h1 h2 => ?_) hfr hcl fun k hk hs => ?_
 ·obtain ⟨q1, q2⟩ := hA p hp
  exact ⟨Yt q1, q2⟩
 ·rw [YW (noB k b h2 h1)]; exact h2
 ·rw [ZQ] at hs ⊢
  cases h : lk B k with
  | some x =>
   have := hBA (k, x) (ZS h) hk
   obtain ⟨y, hy⟩ := QiS.1 this
   simp only at hy
   rw [hy]; rfl
  | none =>
   rw [h] at hs
   cases h2 : lk A k with
   | some x => rfl
   | none => exact hs
theorem J6 {B H : QiJ} {kg : Nat} {g : Box} (hb : Big H) (h1 : lk B kg = some g) (h2 : ∀ p ∈ B, 1000000 <= p.1 -> p.1 = kg) : ∀ k b, lk ((kg, g) :: H) k = some b -> lk (B ++ H) k = some b := fun k b hk => by
 rw [Ql] at hk
 split at hk
 ·rename_i e; cases hk; subst e; exact Yt h1
 ·rename_i e
  rw [ZQ]
  cases h : lk B k with
  | none => exact hk
  | some x => exact absurd (h2 (k, x) (ZS h) (hb k b hk)).symm e
def scr (k : Nat) (H : QiJ) : QiJ := H.map fun p => (p.1, p.2.scrub k)
theorem Tm {k : Nat} {b : Box} (h : k ∉ b.ids) : b.scrub k = b := by
 unfold Box.scrub
 split
 ·rfl
 ·rename_i hp
  have hids : b.ids = b.rows.flatMap fun r => r.flatMap D.sid := by unfold Box.ids; rw [if_neg hp]
  rw [hids] at h
  have key : ∀ rows : List (List D), (k ∉ rows.flatMap fun r => r.flatMap D.sid) -> (rows.map fun r => r.map (D.scrubC k)) = rows := by
   intro rows
   induction rows with
   | nil => intro _; rfl
   | cons r rs ih =>
    intro h'
    rw [List.flatMap_cons, QiX] at h'
    rw [List.map_cons, ih (fun hh => h' (.inr hh)), Yo fun x hx => ?_]
    have hx' : k ∉ x.sid := fun hk => h' (.inl (QiT.2 ⟨x, hx, hk⟩))
    cases x <;> try rfl
    ·rename_i j n
     simp only [D.sid, QiV] at hx'
     simp only [D.scrubC]
     first | rfl | rw [if_neg (fun e => hx' e.symm)] | rw [if_neg (fun e => hx' e)]
    ·rename_i j i o
     simp only [D.sid, QiV] at hx'
     simp only [D.scrubC]
     first | rfl | rw [if_neg (fun e => hx' e.symm)] | rw [if_neg (fun e => hx' e)]
  rw [key b.rows h]
theorem QcE {k : Nat} : ∀ {H : QiJ} {j : Nat}, lk (scr k H) j = (lk H j).map (Box.scrub k)
 | [], _ => rfl
 | (i, b) :: H, j => by
  show (if i = j then some (b.scrub k) else lk (scr k H) j) = _
  rw [Ql, QcE]
  split <;> rfl
theorem RI {H : QiJ} {k j : Nat} (hB : Big H) (hC : Closed H) (hk : k < 1000000) : lk (scr k H) j = lk H j := by
 rw [QcE]
 cases h : lk H j with
 | none => rfl
 | some b =>
  rw [Option.map_some, Tm fun hi => ?_]
  obtain ⟨x, hx⟩ := QiS.1 (hC j b h k hi)
  have := hB k x hx
  omega
theorem Qfi {fr : QiK} {B H0 : QiJ} (k : Nat) (hB : Big H0) (hC : Closed H0) (hk : k < 1000000 := by decide) : St.le ⟨fr, B ++ scr k H0⟩ ⟨fr, B ++ H0⟩ :=
 Le ⟨fun _ => rfl, fun j => by
  show lk (B ++ scr k H0) j = lk (B ++ H0) j
  rw [ZQ, ZQ, RI hB hC hk]⟩
theorem Lc {l : List Nat} {fr fr1 : QiK} {B A H0 : QiJ} (k t : Nat) {n : Nat} {b : Box} (hf : Zf l fr = fr1) (ht : lk fr t = some (.osl k n)) (hb : lk B k = some b) (hp : b.pr = true) (hn : n = b.rows.length) (c1 : ∀ p ∈ fr1, k ∉ p.2.ids)
  (hA : ∀ p ∈ A, p.1 ≠ k /\ lk B p.1 = some p.2 /\ p.2.pr = true) (hBA : ∀ p ∈ B, 1000000 <= p.1 -> (lk A p.1).isSome = true) (hB : Big H0) (hC : Closed H0) (hfr : ∀ p ∈ fr1, ∀ j ∈ p.2.ids, (lk (A ++ H0) j).isSome = true) (hk : k < 1000000 := by decide) : St.le ⟨fr, B ++ H0⟩ ⟨(t, .sl b.rows) :: fr1, A ++ H0⟩ := by
 intro E g a w r
 obtain ⟨g', _, r'⟩ := r.freeze k hk
 subst hf
 have hbB : lk (B ++ H0) k = some b := Yt hb
 have hS : ∀ (x : D), k ∉ x.ids -> x.fz (B ++ H0) (· == k) = x := fun x hx => SO fun j hj => by
  simp only [beq_eq_false_iff_ne, ne_eq]; rintro rfl; exact hx hj
 have hH0k : ∀ j x, lk H0 j = some x -> k ∉ x.ids := fun j x h hi => by
  obtain ⟨y, hy⟩ := QiS.1 (hC j x h k hi)
  have := hB k y hy
  omega
 have noB : ∀ j x, lk H0 j = some x -> lk A j = none -> lk B j = none := fun j x h1 h2 => by
  cases h : lk B j with
  | none => rfl
  | some y =>
   have := hBA (j, y) (ZS h) (hB j x h1)
   simp only at this
   rw [h2] at this; cases this
 have boxOf : ∀ j x, lk (A ++ H0) j = some x -> j ≠ k /\ lk (B ++ H0) j = some x /\ (x.pr = true \/ k ∉ x.ids) := fun j x h => by
  rcases MO h with h | ⟨h1, h2⟩
  ·obtain ⟨q1, q2, q3⟩ := hA _ h
   exact ⟨q1, Yt q2, .inl q3⟩
  ·refine ⟨fun e => ?_, ?_, .inr (hH0k j x h2)⟩
   ·subst e; have := hB _ x h2; omega
   ·rw [YW (noB j x h2 h1)]; exact h2
 refine ⟨g', r'.less (fun u d h => ?_) (fun j x h => ?_) (fun u d h j hj => ?_) (fun j x h i hi => ?_) fun j hj hs => ?_⟩
 ·simp only [St.freeze, ZR]
  rw [Ql] at h
  split at h
  ·rename_i e; cases h; subst e
   rw [ht]; simp only [Option.map_some]
   congr 1
   simp only [D.fz, D.fzS, beq_self_eq_true, if_true, hbB, hp, hn, and_self]
  ·have h1 := Y9 l fr u d h
   rw [h1, Option.map_some, hS d (c1 (u, d) (ZS h))]
 ·obtain ⟨q1, q2, q3⟩ := boxOf j x h
  simp only [St.freeze, HK]
  rw [if_neg q1, ZR (Box.fz (B ++ H0) (· == k)), q2, Option.map_some]
  congr 1
  refine XM (q3.imp id fun h3 i hi => ?_)
  simp only [beq_eq_false_iff_ne, ne_eq]; rintro rfl; exact h3 hi
 ·rw [Ql] at h
  split at h
  ·cases h; simp [D.ids, D.sid] at hj
  ·exact hfr (u, d) (ZS h) j hj
 ·rcases MO h with h | ⟨h1, h2⟩
  ·rw [Jh (hA _ h).2.2] at hi; cases hi
  ·have := hC j x h2 i hi
   rw [ZQ]; split
   ·rfl
   ·exact this
 ·have hs' : (lk (B ++ H0) j).isSome = true := by
   simp only [St.freeze, HK] at hs
   rw [if_neg Wa, ZR (Box.fz (B ++ H0) (· == k)), Qi4] at hs
   exact hs
  rw [ZQ] at hs' ⊢
  cases h : lk B j with
  | some x =>
   have := hBA (j, x) (ZS h) hj
   obtain ⟨y, hy⟩ := QiS.1 this
   simp only at hy
   rw [hy]; rfl
  | none =>
   rw [h] at hs'
   cases h2 : lk A j with
   | some x => rfl
   | none => exact hs'
section
variable {P : Program} {r : List AOper} {K : St -> Prop} {fr : QiK} {H : QiJ} {t : Nat}
theorem Qc0 {esz et bytes kk n : Nat} {x y : Opd} {b : Box} {ys : List (List D)} {q : D} {pr : Bool} (hx : St.ev ⟨fr, H⟩ x = some (.osl kk n)) (hy : St.ev ⟨fr, H⟩ y = some q) (hq : kk ∉ q.ids) (hs : St.src ⟨fr, H⟩ esz q ys pr) (hn : lk H t = none)
  (hb : lk H kk = some b) (hl : n = b.rows.length) (he : b.esz = esz) (het : b.et = et) (hbb : (n + ys.length) * bytes <= 140737488355328) (hc : n + ys.length <= 4611686018427387904)
  (k : run P .fixed r K ⟨(t, .osl t (n + ys.length)) :: fr, (t, ⟨b.rows ++ ys, esz, et, b.pr && pr⟩) :: (kk, Z4) :: H⟩) (hk0 : kk < 1000000 := by decide) (ht0 : t < 1000000 := by decide) : run P .fixed (⟨some t, .append esz et bytes x y, none⟩ :: r) K ⟨fr, H⟩ :=
 .inr (.inl ⟨_, _, _, _, ⟨t, kk, n, b, q, ys, pr, rfl, hx, hk0, hn, ht0, hb, hl, he, het, hy, hq, hs, hbb, hc, rfl, rfl, rfl, rfl⟩, rfl, k⟩)
end
/-! ### The same over boxes whose names are greater than N -/
def Qhj (N : Nat) (H : QiJ) : Prop := ∀ k b, lk H k = some b -> N <= k
def QaS (H : QiJ) : Prop := ∀ p ∈ H, p.2.pr = true
theorem QcR {k : Nat} : ∀ {H : QiJ}, QaS H -> scr k H = H
 | [], _ => rfl
 | (j, b) :: H, h => by
  show (j, b.scrub k) :: scr k H = _
  have hb : b.scrub k = b := by unfold Box.scrub; rw [if_pos (h (j, b) Wd)]
  rw [hb, QcR fun p hp => h p (by simp [hp])]
theorem RG {fr : QiK} {B H0 : QiJ} (k : Nat) (h : QaS H0) : St.le ⟨fr, B ++ scr k H0⟩ ⟨fr, B ++ H0⟩ := by rw [QcR h]; exact le_refl _
theorem Lf {l : List Nat} {fr fr1 fr' : QiK} {B A A' H0 : QiJ} {N : Nat} (hf : Zf l fr = fr1) (ef : fr1 = fr') (hA : ∀ p ∈ A, lk B p.1 = some p.2) (eA : A = A') (hcA : ∀ p ∈ A', ∀ j ∈ p.2.ids, (lk (A' ++ H0) j).isSome = true) (hBA : ∀ p ∈ B, N <= p.1 -> (lk A p.1).isSome = true) (hb : Qhj N H0) (hpr : QaS H0) (hfr : ∀ p ∈ fr', ∀ k ∈ p.2.ids, (lk (A' ++ H0) k).isSome = true) (hN : N <= 1000000 := by decide) : St.le ⟨fr, B ++ H0⟩ ⟨fr', A' ++ H0⟩ := by
 subst eA
 have noB : ∀ k b, lk H0 k = some b -> lk A k = none -> lk B k = none := fun k b h1 h2 => by
  cases h : lk B k with
  | none => rfl
  | some x =>
   have := hBA (k, x) (ZS h) (hb k b h1)
   simp only at this
   rw [h2] at this; cases this
 refine QcA hf ef (fun k b hk => ?_) hfr (fun k b hk j hj => ?_) fun k hk hs => ?_
 ·rcases MO hk with h | ⟨h1, h2⟩
  ·exact Yt (hA _ h)
  ·rw [YW (noB k b h2 h1)]; exact h2
 ·rcases MO hk with h | ⟨h1, h2⟩
  ·exact hcA _ h j hj
  ·rw [Jh (hpr _ (ZS h2))] at hj; cases hj
 ·rw [ZQ] at hs ⊢
  cases h : lk B k with
  | some x =>
   have := hBA (k, x) (ZS h) (Qi5 hN hk)
   obtain ⟨y, hy⟩ := QiS.1 this
   simp only at hy
   rw [hy]; rfl
  | none =>
   rw [h] at hs
   cases h2 : lk A k with
   | some x => rfl
   | none => exact hs
/-! ### Cells told az plain slices -/
theorem canS_cell {d : D} : d.canS.isCell = d.isCell := by cases d <;> rfl
theorem Ga {d : D} : d.canS.sid = d.sid := by cases d <;> rfl
theorem RepS.canS {g : Gh} {d : D} {v : Value} (h : RepS g d v) : RepS g d.canS v := by
 cases d <;> simp only [D.canS] <;> try exact h
 simp only [RepS, RepP] at h ⊢
 obtain ⟨a0, q1, q2⟩ := h
 exact ⟨a0, _, q1, Nat.le_refl _, q2⟩
theorem CellsC.canS {g : Gh} {c : Array Value} : ∀ {off : Nat} {ds : List D}, CellsC g c off ds -> CellsC g c off (ds.map D.canS)
 | _, [], _ => by simp only [List.map_nil, CellsC]
 | off, d :: ds, h => by
  simp only [CellsC, List.map_cons] at h ⊢
  obtain ⟨⟨h1, x, h2, h3⟩, h4⟩ := h
  exact ⟨⟨canS_cell.trans h1, x, h2, h3.canS⟩, h4.canS⟩
theorem RowsC.canAt {g : Gh} {c : Array Value} : ∀ {off : Nat} {rs : List (List D)} (i : Nat), RowsC g c off rs -> RowsC g c off (rs.modify i fun r => r.map D.canS)
 | _, [], i, h => by cases i <;> exact h
 | off, r :: rs, 0, h => by
  simp only [RowsC, List.modify_zero_cons] at h ⊢
  exact ⟨h.1.canS, by rw [List.length_map]; exact h.2⟩
 | off, r :: rs, i + 1, h => by
  simp only [RowsC, List.modify_succ_cons] at h ⊢
  exact ⟨h.1, RowsC.canAt i h.2⟩
theorem Ky {α : Type} {f : α -> α} : ∀ {l : List α} {i : Nat} {x : α}, x ∈ l.modify i f -> x ∈ l \/ ∃ y ∈ l, x = f y
 | [], i, x, h => by cases i <;> exact absurd h Wd
 | a :: l, 0, x, h => by
  simp only [List.modify_zero_cons, QiO] at h
  rcases h with rfl | h
  ·exact .inr ⟨a, by simp, rfl⟩
  ·exact .inl (by simp [h])
 | a :: l, i + 1, x, h => by
  simp only [List.modify_succ_cons, QiO] at h
  rcases h with rfl | h
  ·exact .inl Wd
  ·rcases Ky h with h | ⟨y, hy, e⟩
   ·exact .inl (by simp [h])
   ·exact .inr ⟨y, by simp [hy], e⟩
theorem Qbz {fr : QiK} {H : QiJ} {k : Nat} {b : Box} (i : Nat) (hb : lk H k = some b) : St.le ⟨fr, H⟩ ⟨fr, (k, { b with rows := b.rows.modify i fun r => r.map D.canS }) :: H⟩ := fun E g a w r => by
 have hsid : ∀ (r : List D), (r.map D.canS).flatMap D.sid = r.flatMap D.sid := fun r => by
  induction r with
  | nil => rfl
  | cons d r ih => rw [List.map_cons, List.flatMap_cons, List.flatMap_cons, Ga, ih]
 have hids : ∀ j, j ∈ Box.ids { b with rows := b.rows.modify i fun r => r.map D.canS } -> j ∈ b.ids := fun j hj => by
  unfold Box.ids at hj ⊢
  simp only at hj
  split at hj
  ·cases hj
  ·rename_i hp
   rw [if_neg hp]
   obtain ⟨row, hrow, hk⟩ := QiT.1 hj
   rcases Ky hrow with h | ⟨y, hy, rfl⟩
   ·exact QiT.2 ⟨row, h, hk⟩
   ·rw [hsid] at hk; exact QiT.2 ⟨y, hy, hk⟩
 have hsome : ∀ j, (lk ((k, ({ b with rows := b.rows.modify i fun r => r.map D.canS } : Box)) :: H) j).isSome = (lk H j).isSome := fun j => by
  rw [Ql]; split
  ·rename_i e; subst e; rw [hb]; rfl
  ·rfl
 have hget : ∀ j b', lk ((k, ({ b with rows := b.rows.modify i fun r => r.map D.canS } : Box)) :: H) j = some b' -> (j = k /\ b' = { b with rows := b.rows.modify i fun r => r.map D.canS }) \/ (j ≠ k /\ lk H j = some b') := fun j b' h => by
  rw [Ql] at h
  split at h
  ·rename_i e; cases h; exact .inl ⟨e.symm, rfl⟩
  ·rename_i e; exact .inr ⟨Ne.symm e, h⟩
 refine ⟨g, r.nt, r.df, r.fr, fun t d h j hj => (hsome j).trans (r.wfF t d h j hj), fun j b' h i' hi => ?_, fun j b' h => ?_, fun j j' b1 b2 B e e' h1 h2 h3 h4 => ?_, r.kr, r.ext, r.kx, fun j hj => let ⟨h1, h2, h3, h4⟩ := r.kp j hj; ⟨h1, h2, h3, (hsome j).trans h4⟩⟩
 ·rcases hget j b' h with ⟨rfl, rfl⟩ | ⟨_, h⟩
  ·rw [hsome]; exact r.wfH _ b hb i' (hids i' hi)
  ·rw [hsome]; exact r.wfH j b' h i' hi
 ·rcases hget j b' h with ⟨rfl, rfl⟩ | ⟨_, h⟩
  ·obtain ⟨h1, h2, h3⟩ := r.bx _ b hb
   by_cases hr : b.rows = []
   ·have e : ({ b with rows := b.rows.modify i fun r => r.map D.canS } : Box) = b := by
     obtain ⟨rows, e1, e2, e3⟩ := b
     simp only at hr
     subst hr
     cases i <;> rfl
    rw [e]; exact ⟨h1, h2, h3⟩
   ·refine ⟨fun row hrow => ?_, fun hp row hrow d hd => ?_, .inr ?_⟩
    ·rcases Ky hrow with h | ⟨y, hy, rfl⟩
     ·exact h1 row h
     ·rw [List.length_map]; exact h1 y hy
    ·rcases Ky hrow with h | ⟨y, hy, rfl⟩
     ·exact h2 hp row h d hd
     ·obtain ⟨d0, hd0, rfl⟩ := Qi0.1 hd
      rw [Ga]; exact h2 hp y hy d0 hd0
    ·obtain ⟨_, B, c, q1, q2, q3, q4, q5⟩ := h3.resolve_left fun h => hr h.1
     refine ⟨fun e => hr ?_, B, c, q1, q2, q3, q4.canAt i, q5⟩
     have := congrArg List.length e
     simp only [List.length_modify, List.length_nil] at this
     exact List.eq_nil_of_length_eq_zero this
  ·exact r.bx j b' h
 ·have : ∀ j b', lk ((k, ({ b with rows := b.rows.modify i fun r => r.map D.canS } : Box)) :: H) j = some b' -> ∃ b'', lk H j = some b'' := fun j b' h => by
   rcases hget j b' h with ⟨rfl, _⟩ | ⟨_, h⟩
   ·exact ⟨b, hb⟩
   ·exact ⟨b', h⟩
  obtain ⟨c1, q1⟩ := this j b1 h1
  obtain ⟨c2, q2⟩ := this j' b2 h2
  exact r.inj j j' c1 c2 B e e' q1 q2 h3 h4
theorem QcB {fr fr' : QiK} {H H' : QiJ} (k : Nat) (hk : k < 1000000) (hF : ∀ t d, lk fr' t = some d -> ∃ d0, lk fr t = some d0 /\ d0.fz H (· == k) = d) (hH : ∀ j b, lk H' j = some b -> j ≠ k /\ ∃ b0, lk H j = some b0 /\ b0.fz H (· == k) = b)
  (wfF : ∀ t d, lk fr' t = some d -> ∀ j ∈ d.ids, (lk H' j).isSome = true) (wfH : Closed H') (hbig : ∀ j, 1000000 <= j -> (lk H j).isSome = true -> (lk H' j).isSome = true) : St.le ⟨fr, H⟩ ⟨fr', H'⟩ := by
 intro E g a w r
 obtain ⟨g', _, r'⟩ := r.freeze k hk
 refine ⟨g', r'.less (fun u d h => ?_) (fun j x h => ?_) wfF wfH fun j hj hs => hbig j hj ?_⟩
 ·obtain ⟨d0, q1, q2⟩ := hF u d h
  simp only [St.freeze, ZR, q1, Option.map_some, q2]
 ·obtain ⟨q1, b0, q2, q3⟩ := hH j x h
  simp only [St.freeze, HK]
  rw [if_neg q1, ZR (Box.fz H (· == k)), q2, Option.map_some, q3]
 ·simp only [St.freeze, HK] at hs
  rw [if_neg Wa, ZR (Box.fz H (· == k)), Qi4] at hs
  exact hs
theorem QdE {fr fr' : QiK} {H H' : QiJ} (S : Nat -> Bool) (hS : ∀ k, S k = true -> k < 1000000) (hF : ∀ t d, lk fr' t = some d -> ∃ d0, lk fr t = some d0 /\ d0.fz H S = d) (hH : ∀ j b, lk H' j = some b -> S j = false /\ ∃ b0, lk H j = some b0 /\ b0.fz H S = b)
  (wfF : ∀ t d, lk fr' t = some d -> ∀ j ∈ d.ids, (lk H' j).isSome = true) (wfH : Closed H') (hbig : ∀ j, 1000000 <= j -> (lk H j).isSome = true -> (lk H' j).isSome = true) : St.le ⟨fr, H⟩ ⟨fr', H'⟩ := by
 intro E g a w r
 obtain ⟨g', _, r'⟩ := r.freezeS S hS
 refine ⟨g', r'.less (fun u d h => ?_) (fun j x h => ?_) wfF wfH fun j hj hs => hbig j hj ?_⟩
 ·obtain ⟨d0, q1, q2⟩ := hF u d h
  simp only [St.freezeS, ZR, q1, Option.map_some, q2]
 ·obtain ⟨q1, b0, q2, q3⟩ := hH j x h
  simp only [St.freezeS, MP]
  rw [if_neg (by rw [q1]; simp), ZR (Box.fz H S), q2, Option.map_some, q3]
 ·simp only [St.freezeS, MP] at hs
  split at hs
  ·cases hs
  ·rw [ZR (Box.fz H S), Qi4] at hs
   exact hs
theorem Y6 (n : Nat) (p : List Nat) : HD n p [] = true := by simp [HD]
theorem Y7 {n k : Nat} {R : List (Nat × List Nat)} : HD n [k] R = R.all fun e => e.1 != k || e.2.contains n := by simp [HD]
theorem Y8 {n k j : Nat} {R : List (Nat × List Nat)} : HD n [k, j] R = ((R.all fun e => e.1 != k || e.2.contains n) && R.all fun e => e.1 != j || e.2.contains n) := by simp [HD]
theorem XF {P ds : List Nat} {n k : Nat} (h : ds.contains n = true) : ((P.map fun x => (x, ds)).all fun e => e.1 != k || e.2.contains n) = true := by
 rw [QiW]
 intro e he
 obtain ⟨x, _, rfl⟩ := Qi0.1 he
 rw [h, Bool.or_true]
end Go.Abs
namespace Go.Abs
open Go
end Go.Abs
namespace Go.Abs
open Go
theorem Z.{u} {α : Sort u} {a : α} : a = a := rfl
theorem qB : (∀ (p : Prop) [Decidable p], (decide p = true) = p) /\ (∀ (p : Prop) [Decidable p], (decide p = false) ↔ ¬ p) /\ (∀ a b : Bool, ((!a) = b) = (a = !b)) /\ (!true) = false /\ (!false) = true := ⟨fun _ _ => decide_eq_true_eq, fun _ _ => decide_eq_false_iff_not, fun a b => by simp, rfl, rfl⟩
theorem qA : (∀ (p : Prop) [Decidable p], (decide p = true) = p) /\ (∀ (p : Prop) [Decidable p], (decide p = false) ↔ ¬ p) /\ (∀ a b : Bool, ((!a) = b) = (a = !b)) /\ (!true) = false /\ (!false) = true /\ (∀ (α β : Type) (f : α -> β) (l : List α), (l.map f).length = l.length) := ⟨qB.1, qB.2.1, qB.2.2.1, rfl, rfl, fun _ _ _ _ => List.length_map _⟩
theorem qa {p : Prop} [Decidable p] : (decide p = true) = p := decide_eq_true_eq
theorem qb {p : Prop} [Decidable p] : (decide p = false) ↔ ¬ p := decide_eq_false_iff_not
theorem qc {a b : Bool} : ((!a) = b) = (a = !b) := by simp
theorem qd : (!true) = false := rfl
theorem qe : (!false) = true := rfl
section
variable {fr : QiK} {t0 t1 t2 t3 t4 t5 t6 t7 t8 t9 t10 t11 t12 t13 t14 t15 t16 t17 t18 t19 t20 t21 t22 t23 : Nat} {d0 d1 d2 d3 d4 d5 d6 d7 d8 d9 d10 d11 d12 d13 d14 d15 d16 d17 d18 d19 d20 d21 d22 d23 : D}
abbrev kE (fr : QiK) (t : Nat) (d : D) : Prop := lk fr t = some d
theorem kp1 (h0 : kE fr t0 d0) : Zf [t0] fr = [(t0, d0)] := YL h0 Zg
theorem kp2 (h0 : kE fr t0 d0) (h1 : kE fr t1 d1) : Zf [t0, t1] fr = [(t0, d0), (t1, d1)] := YL h0 (kp1 h1)
theorem kp3 (h0 : kE fr t0 d0) (h1 : kE fr t1 d1) (h2 : kE fr t2 d2) : Zf [t0, t1, t2] fr = [(t0, d0), (t1, d1), (t2, d2)] := YL h0 (kp2 h1 h2)
theorem kp4 (h0 : kE fr t0 d0) (h1 : kE fr t1 d1) (h2 : kE fr t2 d2) (h3 : kE fr t3 d3) : Zf [t0, t1, t2, t3] fr = [(t0, d0), (t1, d1), (t2, d2), (t3, d3)] := YL h0 (kp3 h1 h2 h3)
theorem kp5 (h0 : kE fr t0 d0) (h1 : kE fr t1 d1) (h2 : kE fr t2 d2) (h3 : kE fr t3 d3) (h4 : kE fr t4 d4) : Zf [t0, t1, t2, t3, t4] fr = [(t0, d0), (t1, d1), (t2, d2), (t3, d3), (t4, d4)] := YL h0 (kp4 h1 h2 h3 h4)
theorem kp6 (h0 : kE fr t0 d0) (h1 : kE fr t1 d1) (h2 : kE fr t2 d2) (h3 : kE fr t3 d3) (h4 : kE fr t4 d4) (h5 : kE fr t5 d5) : Zf [t0, t1, t2, t3, t4, t5] fr = [(t0, d0), (t1, d1), (t2, d2), (t3, d3), (t4, d4), (t5, d5)] := YL h0 (kp5 h1 h2 h3 h4 h5)
theorem kp7 (h0 : kE fr t0 d0) (h1 : kE fr t1 d1) (h2 : kE fr t2 d2) (h3 : kE fr t3 d3) (h4 : kE fr t4 d4) (h5 : kE fr t5 d5) (h6 : kE fr t6 d6) : Zf [t0, t1, t2, t3, t4, t5, t6] fr = [(t0, d0), (t1, d1), (t2, d2), (t3, d3), (t4, d4), (t5, d5), (t6, d6)] := YL h0 (kp6 h1 h2 h3 h4 h5 h6)
theorem kp8 (h0 : kE fr t0 d0) (h1 : kE fr t1 d1) (h2 : kE fr t2 d2) (h3 : kE fr t3 d3) (h4 : kE fr t4 d4) (h5 : kE fr t5 d5) (h6 : kE fr t6 d6) (h7 : kE fr t7 d7) : Zf [t0, t1, t2, t3, t4, t5, t6, t7] fr = [(t0, d0), (t1, d1), (t2, d2), (t3, d3), (t4, d4), (t5, d5), (t6, d6), (t7, d7)] := YL h0 (kp7 h1 h2 h3 h4 h5 h6 h7)
theorem kp9 (h0 : kE fr t0 d0) (h1 : kE fr t1 d1) (h2 : kE fr t2 d2) (h3 : kE fr t3 d3) (h4 : kE fr t4 d4) (h5 : kE fr t5 d5) (h6 : kE fr t6 d6) (h7 : kE fr t7 d7) (h8 : kE fr t8 d8) : Zf [t0, t1, t2, t3, t4, t5, t6, t7, t8] fr = [(t0, d0), (t1, d1), (t2, d2), (t3, d3), (t4, d4), (t5, d5), (t6, d6), (t7, d7), (t8, d8)] := YL h0 (kp8 h1 h2 h3 h4 h5 h6 h7 h8)
theorem BP (h0 : kE fr t0 d0) (h1 : kE fr t1 d1) (h2 : kE fr t2 d2) (h3 : kE fr t3 d3) (h4 : kE fr t4 d4) (h5 : kE fr t5 d5) (h6 : kE fr t6 d6) (h7 : kE fr t7 d7) (h8 : kE fr t8 d8) (h9 : kE fr t9 d9) : Zf [t0, t1, t2, t3, t4, t5, t6, t7, t8, t9] fr = [(t0, d0), (t1, d1), (t2, d2), (t3, d3), (t4, d4), (t5, d5), (t6, d6), (t7, d7), (t8, d8), (t9, d9)] := YL h0 (kp9 h1 h2 h3 h4 h5 h6 h7 h8 h9)
theorem Qhn (h0 : kE fr t0 d0) (h1 : kE fr t1 d1) (h2 : kE fr t2 d2) (h3 : kE fr t3 d3) (h4 : kE fr t4 d4) (h5 : kE fr t5 d5) (h6 : kE fr t6 d6) (h7 : kE fr t7 d7) (h8 : kE fr t8 d8) (h9 : kE fr t9 d9) (h10 : kE fr t10 d10) : Zf [t0, t1, t2, t3, t4, t5, t6, t7, t8, t9, t10] fr = [(t0, d0), (t1, d1), (t2, d2), (t3, d3), (t4, d4), (t5, d5), (t6, d6), (t7, d7), (t8, d8), (t9, d9), (t10, d10)] := YL h0 (BP h1 h2 h3 h4 h5 h6 h7 h8 h9 h10)
end
section
variable {P : Program} {nt : Nat} {Q : AExit -> St -> Prop} {l : List Nat} {b : TCode} {K : St -> Prop} {H : QiJ} {fr fr' : QiK} {r : List AOper} {dr : Dr} {x y z v : Opd} {p q : D} {t u : Nat}
variable {t0 t1 t2 t3 t4 t5 t6 t7 t8 : Nat} {d0 d1 d2 d3 d4 d5 d6 d7 d8 : D}
theorem kc (hK : ∀ fr H, TW P nt b Q ⟨Zf l fr, H⟩ -> K ⟨fr, H⟩) (h : Zf l fr = fr') (k : TW P nt b Q ⟨fr', H⟩) : K ⟨fr, H⟩ := hK _ _ (TK h k)
theorem kc1 (hK : ∀ fr H, TW P nt b Q ⟨Zf [t0] fr, H⟩ -> K ⟨fr, H⟩) (h0 : kE fr t0 d0) (k : TW P nt b Q ⟨[(t0, d0)], H⟩) : K ⟨fr, H⟩ := kc hK (kp1 h0) k
theorem ks1 (h0 : kE fr t0 d0) (k : TW P nt b Q ⟨[(t0, d0)], H⟩) : DQ P nt [t0] b Q .normal ⟨fr, H⟩ := QX (kp1 h0) k
theorem kc2 (hK : ∀ fr H, TW P nt b Q ⟨Zf [t0, t1] fr, H⟩ -> K ⟨fr, H⟩) (h0 : kE fr t0 d0) (h1 : kE fr t1 d1) (k : TW P nt b Q ⟨[(t0, d0), (t1, d1)], H⟩) : K ⟨fr, H⟩ := kc hK (kp2 h0 h1) k
theorem ks2 (h0 : kE fr t0 d0) (h1 : kE fr t1 d1) (k : TW P nt b Q ⟨[(t0, d0), (t1, d1)], H⟩) : DQ P nt [t0, t1] b Q .normal ⟨fr, H⟩ := QX (kp2 h0 h1) k
theorem kc3 (hK : ∀ fr H, TW P nt b Q ⟨Zf [t0, t1, t2] fr, H⟩ -> K ⟨fr, H⟩) (h0 : kE fr t0 d0) (h1 : kE fr t1 d1) (h2 : kE fr t2 d2) (k : TW P nt b Q ⟨[(t0, d0), (t1, d1), (t2, d2)], H⟩) : K ⟨fr, H⟩ := kc hK (kp3 h0 h1 h2) k
theorem ks3 (h0 : kE fr t0 d0) (h1 : kE fr t1 d1) (h2 : kE fr t2 d2) (k : TW P nt b Q ⟨[(t0, d0), (t1, d1), (t2, d2)], H⟩) : DQ P nt [t0, t1, t2] b Q .normal ⟨fr, H⟩ := QX (kp3 h0 h1 h2) k
theorem kc4 (hK : ∀ fr H, TW P nt b Q ⟨Zf [t0, t1, t2, t3] fr, H⟩ -> K ⟨fr, H⟩) (h0 : kE fr t0 d0) (h1 : kE fr t1 d1) (h2 : kE fr t2 d2) (h3 : kE fr t3 d3) (k : TW P nt b Q ⟨[(t0, d0), (t1, d1), (t2, d2), (t3, d3)], H⟩) : K ⟨fr, H⟩ := kc hK (kp4 h0 h1 h2 h3) k
theorem ks4 (h0 : kE fr t0 d0) (h1 : kE fr t1 d1) (h2 : kE fr t2 d2) (h3 : kE fr t3 d3) (k : TW P nt b Q ⟨[(t0, d0), (t1, d1), (t2, d2), (t3, d3)], H⟩) : DQ P nt [t0, t1, t2, t3] b Q .normal ⟨fr, H⟩ := QX (kp4 h0 h1 h2 h3) k
theorem kc5 (hK : ∀ fr H, TW P nt b Q ⟨Zf [t0, t1, t2, t3, t4] fr, H⟩ -> K ⟨fr, H⟩) (h0 : kE fr t0 d0) (h1 : kE fr t1 d1) (h2 : kE fr t2 d2) (h3 : kE fr t3 d3) (h4 : kE fr t4 d4) (k : TW P nt b Q ⟨[(t0, d0), (t1, d1), (t2, d2), (t3, d3), (t4, d4)], H⟩) : K ⟨fr, H⟩ := kc hK (kp5 h0 h1 h2 h3 h4) k
theorem ks5 (h0 : kE fr t0 d0) (h1 : kE fr t1 d1) (h2 : kE fr t2 d2) (h3 : kE fr t3 d3) (h4 : kE fr t4 d4) (k : TW P nt b Q ⟨[(t0, d0), (t1, d1), (t2, d2), (t3, d3), (t4, d4)], H⟩) : DQ P nt [t0, t1, t2, t3, t4] b Q .normal ⟨fr, H⟩ := QX (kp5 h0 h1 h2 h3 h4) k
theorem kc6 (hK : ∀ fr H, TW P nt b Q ⟨Zf [t0, t1, t2, t3, t4, t5] fr, H⟩ -> K ⟨fr, H⟩) (h0 : kE fr t0 d0) (h1 : kE fr t1 d1) (h2 : kE fr t2 d2) (h3 : kE fr t3 d3) (h4 : kE fr t4 d4) (h5 : kE fr t5 d5) (k : TW P nt b Q ⟨[(t0, d0), (t1, d1), (t2, d2), (t3, d3), (t4, d4), (t5, d5)], H⟩) : K ⟨fr, H⟩ := kc hK (kp6 h0 h1 h2 h3 h4 h5) k
theorem ks6 (h0 : kE fr t0 d0) (h1 : kE fr t1 d1) (h2 : kE fr t2 d2) (h3 : kE fr t3 d3) (h4 : kE fr t4 d4) (h5 : kE fr t5 d5) (k : TW P nt b Q ⟨[(t0, d0), (t1, d1), (t2, d2), (t3, d3), (t4, d4), (t5, d5)], H⟩) : DQ P nt [t0, t1, t2, t3, t4, t5] b Q .normal ⟨fr, H⟩ := QX (kp6 h0 h1 h2 h3 h4 h5) k
theorem kc7 (hK : ∀ fr H, TW P nt b Q ⟨Zf [t0, t1, t2, t3, t4, t5, t6] fr, H⟩ -> K ⟨fr, H⟩) (h0 : kE fr t0 d0) (h1 : kE fr t1 d1) (h2 : kE fr t2 d2) (h3 : kE fr t3 d3) (h4 : kE fr t4 d4) (h5 : kE fr t5 d5) (h6 : kE fr t6 d6) (k : TW P nt b Q ⟨[(t0, d0), (t1, d1), (t2, d2), (t3, d3), (t4, d4), (t5, d5), (t6, d6)], H⟩) : K ⟨fr, H⟩ := kc hK (kp7 h0 h1 h2 h3 h4 h5 h6) k
theorem ks7 (h0 : kE fr t0 d0) (h1 : kE fr t1 d1) (h2 : kE fr t2 d2) (h3 : kE fr t3 d3) (h4 : kE fr t4 d4) (h5 : kE fr t5 d5) (h6 : kE fr t6 d6) (k : TW P nt b Q ⟨[(t0, d0), (t1, d1), (t2, d2), (t3, d3), (t4, d4), (t5, d5), (t6, d6)], H⟩) : DQ P nt [t0, t1, t2, t3, t4, t5, t6] b Q .normal ⟨fr, H⟩ := QX (kp7 h0 h1 h2 h3 h4 h5 h6) k
theorem kc8 (hK : ∀ fr H, TW P nt b Q ⟨Zf [t0, t1, t2, t3, t4, t5, t6, t7] fr, H⟩ -> K ⟨fr, H⟩) (h0 : kE fr t0 d0) (h1 : kE fr t1 d1) (h2 : kE fr t2 d2) (h3 : kE fr t3 d3) (h4 : kE fr t4 d4) (h5 : kE fr t5 d5) (h6 : kE fr t6 d6) (h7 : kE fr t7 d7) (k : TW P nt b Q ⟨[(t0, d0), (t1, d1), (t2, d2), (t3, d3), (t4, d4), (t5, d5), (t6, d6), (t7, d7)], H⟩) : K ⟨fr, H⟩ := kc hK (kp8 h0 h1 h2 h3 h4 h5 h6 h7) k
theorem ks8 (h0 : kE fr t0 d0) (h1 : kE fr t1 d1) (h2 : kE fr t2 d2) (h3 : kE fr t3 d3) (h4 : kE fr t4 d4) (h5 : kE fr t5 d5) (h6 : kE fr t6 d6) (h7 : kE fr t7 d7) (k : TW P nt b Q ⟨[(t0, d0), (t1, d1), (t2, d2), (t3, d3), (t4, d4), (t5, d5), (t6, d6), (t7, d7)], H⟩) : DQ P nt [t0, t1, t2, t3, t4, t5, t6, t7] b Q .normal ⟨fr, H⟩ := QX (kp8 h0 h1 h2 h3 h4 h5 h6 h7) k
theorem kc9 (hK : ∀ fr H, TW P nt b Q ⟨Zf [t0, t1, t2, t3, t4, t5, t6, t7, t8] fr, H⟩ -> K ⟨fr, H⟩) (h0 : kE fr t0 d0) (h1 : kE fr t1 d1) (h2 : kE fr t2 d2) (h3 : kE fr t3 d3) (h4 : kE fr t4 d4) (h5 : kE fr t5 d5) (h6 : kE fr t6 d6) (h7 : kE fr t7 d7) (h8 : kE fr t8 d8) (k : TW P nt b Q ⟨[(t0, d0), (t1, d1), (t2, d2), (t3, d3), (t4, d4), (t5, d5), (t6, d6), (t7, d7), (t8, d8)], H⟩) : K ⟨fr, H⟩ := kc hK (kp9 h0 h1 h2 h3 h4 h5 h6 h7 h8) k
theorem ks9 (h0 : kE fr t0 d0) (h1 : kE fr t1 d1) (h2 : kE fr t2 d2) (h3 : kE fr t3 d3) (h4 : kE fr t4 d4) (h5 : kE fr t5 d5) (h6 : kE fr t6 d6) (h7 : kE fr t7 d7) (h8 : kE fr t8 d8) (k : TW P nt b Q ⟨[(t0, d0), (t1, d1), (t2, d2), (t3, d3), (t4, d4), (t5, d5), (t6, d6), (t7, d7), (t8, d8)], H⟩) : DQ P nt [t0, t1, t2, t3, t4, t5, t6, t7, t8] b Q .normal ⟨fr, H⟩ := QX (kp9 h0 h1 h2 h3 h4 h5 h6 h7 h8) k
theorem gn2 {o0 : AOp} {g0 : Nat} {b0 : Bool} {w0 : Nat} {o1 : AOp} {g1 : Nat} {b1 : Bool} {w1 : Nat} (h0 : lk (fr) g0 = some (.bool (!b0))) (h1 : lk ((w0, .undef) :: fr) g1 = some (.bool (!b1))) (k : run P dr r K ⟨(w1, .undef) :: (w0, .undef) :: fr, H⟩) : run P dr (⟨some w0, o0, some (g0, b0)⟩ :: ⟨some w1, o1, some (g1, b1)⟩ :: r) K ⟨fr, H⟩ := (Xd h0 (Xd h1 k))
theorem gn3 {o0 : AOp} {g0 : Nat} {b0 : Bool} {w0 : Nat} {o1 : AOp} {g1 : Nat} {b1 : Bool} {w1 : Nat} {o2 : AOp} {g2 : Nat} {b2 : Bool} {w2 : Nat} (h0 : lk (fr) g0 = some (.bool (!b0))) (h1 : lk ((w0, .undef) :: fr) g1 = some (.bool (!b1))) (h2 : lk ((w1, .undef) :: (w0, .undef) :: fr) g2 = some (.bool (!b2))) (k : run P dr r K ⟨(w2, .undef) :: (w1, .undef) :: (w0, .undef) :: fr, H⟩) : run P dr (⟨some w0, o0, some (g0, b0)⟩ :: ⟨some w1, o1, some (g1, b1)⟩ :: ⟨some w2, o2, some (g2, b2)⟩ :: r) K ⟨fr, H⟩ := (Xd h0 (Xd h1 (Xd h2 k)))
theorem gn4 {o0 : AOp} {g0 : Nat} {b0 : Bool} {w0 : Nat} {o1 : AOp} {g1 : Nat} {b1 : Bool} {w1 : Nat} {o2 : AOp} {g2 : Nat} {b2 : Bool} {w2 : Nat} {o3 : AOp} {g3 : Nat} {b3 : Bool} {w3 : Nat} (h0 : lk (fr) g0 = some (.bool (!b0))) (h1 : lk ((w0, .undef) :: fr) g1 = some (.bool (!b1))) (h2 : lk ((w1, .undef) :: (w0, .undef) :: fr) g2 = some (.bool (!b2))) (h3 : lk ((w2, .undef) :: (w1, .undef) :: (w0, .undef) :: fr) g3 = some (.bool (!b3))) (k : run P dr r K ⟨(w3, .undef) :: (w2, .undef) :: (w1, .undef) :: (w0, .undef) :: fr, H⟩) : run P dr (⟨some w0, o0, some (g0, b0)⟩ :: ⟨some w1, o1, some (g1, b1)⟩ :: ⟨some w2, o2, some (g2, b2)⟩ :: ⟨some w3, o3, some (g3, b3)⟩ :: r) K ⟨fr, H⟩ := (Xd h0 (Xd h1 (Xd h2 (Xd h3 k))))
theorem mv2 (hx : St.ev ⟨fr, H⟩ x = some p) (hy : St.ev ⟨(t, p) :: fr, H⟩ y = some q) (k : run P dr r K ⟨(u, q) :: (t, p) :: fr, H⟩) : run P dr (⟨some t, .mov x, none⟩ :: ⟨some u, .mov y, none⟩ :: r) K ⟨fr, H⟩ := Qa hx (Qa hy k)
end
end Go.Abs
namespace Go.Proofs
open Go Go.Abs
set_option maxRecDepth 100000
abbrev oo (t : Nat) (op : AOp) : AOper := ⟨some t,op,none⟩
abbrev om (t x : Nat) : AOper := ⟨some t,.mov (.s x),none⟩
abbrev oL (t n x : Nat) : AOper := ⟨some t,.load true n (.s x),none⟩
abbrev ol (t n x : Nat) : AOper := ⟨some t,.load false n (.s x),none⟩
abbrev oA (t n x : Nat) : AOper := ⟨some t,.fieldAddr n (.s x),none⟩
abbrev oe (t n x : Nat) : AOper := ⟨some t,.extract n (.s x),none⟩
abbrev oT (t g : Nat) (op : AOp) : AOper := ⟨some t,op,some (g,true)⟩
abbrev oF (t g : Nat) (op : AOp) : AOper := ⟨some t,op,some (g,false)⟩
abbrev jf : Opd := .c (.bool false)
abbrev je : Opd := .c (.fsl [])
abbrev jv (t : Nat) (x : Opd) : AOper := ⟨some t,.mov x,none⟩
abbrev jw (t : Nat) (x : Int) : AOper := ⟨some t,.mov (.c (.int .i64 x)),none⟩
abbrev jp (t x y : Nat) : AOper := ⟨some t,.pick (.s x) (.s y) (.c (.bool false)),none⟩
abbrev jh (t x : Nat) : AOper := ⟨some t,.nilCheck (.s x),none⟩
abbrev jA (t g n x : Nat) : AOper := ⟨some t,.fieldAddr n (.s x),some (g,true)⟩
abbrev ja (t g n x : Nat) : AOper := ⟨some t,.fieldAddr n (.s x),some (g,false)⟩
abbrev jY (t g : Nat) (o : BinOp) (x : Nat) (y : Int) : AOper := ⟨some t,.bin o false (.s x) (.c (.int .i64 y)),some (g,true)⟩
abbrev jy (t g : Nat) (o : BinOp) (x : Nat) (y : Int) : AOper := ⟨some t,.bin o false (.s x) (.c (.int .i64 y)),some (g,false)⟩
abbrev jS (n a b : Nat) : AOper := ⟨none,.store n (.s a) (.s b),none⟩
abbrev jI (n : Int) : Opd := .c (.int .i64 n)
abbrev jn (t x : Nat) : AOper := ⟨some t,.len (.s x),none⟩
abbrev jB (t : Nat) (o : BinOp) (x y : Nat) : AOper := ⟨some t,.bin o false (.s x) (.s y),none⟩
abbrev jb (t : Nat) (o : BinOp) (x : Nat) (y : Int) : AOper := ⟨some t,.bin o false (.s x) (.c (.int .i64 y)),none⟩
abbrev jx (t e x y : Nat) : AOper := ⟨some t,.indexAddr e (.s x) (.s y),none⟩
abbrev jc (t f : Nat) (l : List Opd) : AOper := ⟨some t,.call f l,none⟩
abbrev jo (t e x : Nat) : AOper := ⟨some t,.box e (.s x),none⟩
abbrev jT (t g x : Nat) : AOper := ⟨some t,.mov (.s x),some (g,true)⟩
abbrev jF (t g x : Nat) : AOper := ⟨some t,.mov (.s x),some (g,false)⟩
abbrev jL (t g n x : Nat) : AOper := ⟨some t,.load true n (.s x),some (g,true)⟩
abbrev jl (t g n x : Nat) : AOper := ⟨some t,.load false n (.s x),some (g,true)⟩
abbrev jM (t g n x : Nat) : AOper := ⟨some t,.load true n (.s x),some (g,false)⟩
abbrev jm (t g n x : Nat) : AOper := ⟨some t,.load false n (.s x),some (g,false)⟩
abbrev jC (c : Nat) (a b : TCode) : TCode := .cond (.s c) a b
abbrev jr (l : List AOper) : TCode := .region false l
abbrev jR (l : List AOper) : TCode := .region true l
abbrev jq (a : TCode) (v : List Nat) (b : TCode) : TCode := .seq a v b
abbrev jk (n : Nat) (a : TCode) : TCode := .block n (.loop a)
def tf5 : TFn := ⟨65,[.tmp 6],jq (jr [jv 6 jf]) [0,1,2,900000] (jq (jq (jr [om 13 1,jn 14 13,jb 15 .gtr 14 10]) [0,1,2,15,900000] (jC 15 (jq (jr [jc 16 8 [.s 900000],om 6 16]) [6] .ret) .skip)) [0,1,2,900000] (jq (jr [om 17 0,jc 18 9 [.s 17,jI 4],oo 7 (.alloc 26 [(.fsl [])]),jS 1 7 18]) [1,2,7,900000] (jq (jr [oL 19 1 7,om 20 1,jc 21 10 [.s 19,.s 20],om 8 21]) [2,7,8,900000] (jq (jR [oL 22 1 7,om 23 2,oL 24 1 7,jc 25 14 [.s 24],jc 26 13 [.s 23,.s 25],jc 27 12 [.s 22,.s 26],om 9 27]) [7,8,9,900000] (jq (jr [oL 29 1 7,om 30 8,om 31 9,jc 32 15 [.s 29,.s 30,.s 31,.s 900000],om 28 32,oe 33 0 28,oe 34 1 28,om 10 33,om 11 34]) [7,8,9,10,11,900000] (jq (jr [om 35 10,jb 36 .lss 35 0,om 37 36,jL 38 37 1 7,jT 39 37 8,jT 40 37 9,oT 41 37 (.call 20 [.s 38,.s 39,.s 40,.s 900000]),jp 42 37 41,om 12 42]) [7,8,9,10,11,12,900000] (jq (jr [om 43 12,oL 44 1 7,om 45 9,jc 46 27 [.s 44,.s 45],om 47 46,jL 48 47 1 7,jT 49 47 8,jT 50 47 9,oT 51 47 (.call 25 [.s 48,.s 49,.s 50]),jp 52 47 51,oo 53 (.bin .eql true (.s 43) (.s 52)),om 54 53,jT 55 54 10,jY 56 54 .geq 55 0,jT 57 54 56,jF 58 57 11,oF 59 57 (.bin .eql false (.s 58) (.c (.int .i64 (-1)))),oT 60 54 (.pick (.s 57) (.c (.bool true)) (.s 59)),jp 61 54 60,om 62 61,oT 63 62 (.call 8 [.s 900000]),jp 64 62 63,om 6 64]) [6] .ret)))))))⟩
def tf8 : TFn := ⟨61,[.tmp 0],jq (jr [jv 0 jf]) [900000] (jq (jr [jc 7 29 [],oo 1 (.alloc 26 [(.fsl [])]),jS 1 1 7]) [1,900000] (jq (jr [oL 9 1 1,oo 10 (.buildSlice 1 3 [jI 0,(.c (.int .i64 (-1)))]),jc 11 15 [.s 9,je,.s 10,.s 900000],om 8 11,oe 12 0 8,oe 13 1 8,om 2 12,om 3 13]) [1,2,3,900000] (jq (jr [oL 15 1 1,oo 16 (.buildSlice 1 3 [(.c (.int .i64 (-1))),(.c (.int .i64 (-1)))]),jc 17 15 [.s 15,je,.s 16,.s 900000],om 14 17,oe 18 0 14,oe 19 1 14,om 4 18,om 5 19]) [1,2,3,4,5,900000] (jq (jr [oL 20 1 1,oo 21 (.buildSlice 1 3 [jI 0,(.c (.int .i64 (-1)))]),jc 22 18 [.s 20,je,je,.s 21,.s 900000],om 6 22]) [1,2,3,4,5,6,900000] (jq (jr [om 23 2,jb 24 .eql 23 0,om 25 24,jT 26 25 3,jY 27 25 .eql 26 0,jp 28 25 27,om 29 28,jT 30 29 4,jY 31 29 .eql 30 0,jp 32 29 31,om 33 32,jT 34 33 5,oT 35 33 (.bin .eql false (.s 34) (.c (.int .i64 (-1)))),jp 36 33 35,om 37 36,jT 38 37 6,oT 39 37 (.len (.s 38)),jY 40 37 .eql 39 2,jp 41 37 40,om 42 41,jT 43 42 6,oT 44 42 (.indexAddr 2 (.s 43) (jI 0)),jL 45 42 2 44,oT 46 42 (.build [(.int .i64 0),(.int .i64 0)] [(0,1,(jI 1)),(1,1,(jI 1))]),oT 47 42 (.eqs false [0,0] (.s 45) (.s 46)),jp 48 42 47,om 49 48,jT 50 49 6,oT 51 49 (.indexAddr 2 (.s 50) (jI 1)),jL 52 49 2 51,oT 53 49 (.build [(.int .i64 0),(.int .i64 0)] [(0,1,(jI 1))]),oT 54 49 (.eqs false [0,0] (.s 52) (.s 53)),jp 55 49 54,om 56 55,jL 57 56 1 1,oT 58 56 (.buildSlice 1 3 [jI 0,jI 1]),oT 59 56 (.call 20 [.s 57,je,.s 58,.s 900000]),jp 60 56 59,om 0 60]) [0] .ret)))))⟩
def tf9 : TFn := ⟨90,[.cell 4 true 1],jq (jr [oo 4 (.alloc 26 [(.fsl [])])]) [0,1,4] (jq (jr [om 10 0,oo 11 (.build [(.fsl []),(.int .i64 0)] [(0,1,(.s 10))]),jo 12 73 11,om 5 12]) [1,4,5] (jq (jr [om 13 5,om 14 1,jc 15 30 [.s 13,.s 14],om 6 15]) [4,5,6] (jq (jR [om 16 6,oo 17 (.indexAddr 3 (.s 16) (jI 0)),oA 18 2 17,ol 19 1 18,om 20 5,om 21 6,jc 22 31 [.s 20,.s 21,jI 3],oo 23 (.indexAddr 8 (.s 19) (jI 0)),oA 24 6 23,jS 1 24 22]) [4,5,6] (jq (jq (jr [jw 7 1]) [4,5,6,7] (jk 0 (jq (jq (jr [om 25 7,om 26 6,jn 27 26,jB 28 .lss 25 27]) [4,5,6,7,28] (jC 28 .skip (.exit 0))) [4,5,6,7] (jq (.block 1 (jq (jr [jw 8 0]) [4,5,6,7,8] (jk 2 (jq (jq (jr [om 31 8,om 32 6,om 33 7,jx 34 3 32 33,oA 35 2 34,ol 36 1 35,jn 37 36,jB 38 .lss 31 37]) [4,5,6,7,8,38] (jC 38 .skip (.exit 2))) [4,5,6,7,8] (jq (.block 3 (jq (jr [om 41 6,om 42 7,jx 43 3 41 42,oA 44 2 43,ol 45 1 44,om 46 8,jx 47 8 45 46,om 9 47]) [4,5,6,7,8,9] (jq (jq (jr [om 48 6,om 49 7,jx 50 3 48 49,oA 51 1 50,ol 52 1 51,oo 53 (.bin .neq false (.s 52) (.c (.str [])))]) [4,5,6,7,8,9,53] (jC 53 (jr [om 54 9,om 55 7,jb 56 .sub 55 1,om 57 9,jh 58 57,oA 59 0 58,oL 60 5 59,jc 61 32 [.s 60],oo 62 (.build [(.int .i64 0),(.fsl []),(.fsl [])] [(0,1,(.s 56)),(1,2,(.s 61))]),oo 63 (.buildSlice 3 68 [.s 62]),oo 64 (.buildSlice 1 61 [.s 63]),jh 65 54,oA 66 6 65,jS 1 66 64]) .skip)) [4,5,6,7,8,9] (jq (jR [om 67 9,om 68 9,jh 69 68,oA 70 6 69,ol 71 1 70,om 72 5,om 73 6,jc 74 31 [.s 72,.s 73,jI 2],oo 75 (.append 1 61 24 (.s 71) (.s 74)),jh 76 67,oA 77 6 76,jS 1 77 75]) [4,5,6,7,8,9] (jq (jr [om 78 5,jc 79 33 [.s 78,jI 4],jb 80 .eql 79 0]) [4,5,6,7,8,9,80] (jC 80 (jr [om 81 9,om 82 5,om 83 6,jc 84 34 [.s 82,.s 83],oo 85 (.buildSlice 3 68 [.s 84]),jh 86 81,oA 87 7 86,jS 1 87 85]) .skip)))))) [4,5,6,7,8] (jr [om 39 8,jb 40 .add 39 1,om 8 40])))))) [4,5,6,7] (jr [om 29 7,jb 30 .add 29 1,om 7 30]))))) [4,6] (jq (jr [om 88 6,oo 89 (.build [(.fsl [])] [(0,1,(.s 88))]),jS 1 4 89]) [4] .ret)))))⟩
def tf10 : TFn := ⟨40,[.tmp 4],jq (jr [jo 2 26 0,jv 4 je]) [1,2] (jq (jq (jr [om 9 1,jn 10 9,jb 11 .eql 10 0]) [1,2,11] (jC 11 (jq (jr [jv 4 je]) [4] .ret) .skip)) [1,2] (jq (jr [jv 5 je]) [1,2,5] (jq (jq (jr [jw 6 0]) [1,2,5,6] (jk 0 (jq (jq (jr [om 12 6,oA 13 0 2,ol 14 1 13,jn 15 14,jB 16 .lss 12 15]) [1,2,5,6,16] (jC 16 .skip (.exit 0))) [1,2,5,6] (jq (.block 1 (jq (jr [oL 19 1 2,om 20 6,jc 21 35 [.s 19,.s 20],om 7 21]) [1,2,5,6,7] (jq (jr [om 22 1,om 23 6,jc 24 36 [.s 22,.s 23],jc 25 13 [.s 24,jI 300],om 8 25]) [1,2,5,6,7,8] (jq (jq (jr [om 26 8,jb 27 .lss 26 100,om 28 27,jT 29 28 6,jY 30 28 .gtr 29 0,jp 31 28 30]) [1,2,5,6,7,8,31] (jC 31 (jr [om 32 7,om 33 8,jB 34 .and 32 33,om 7 34]) .skip)) [1,2,5,6,7] (jr [om 35 5,om 36 7,oo 37 (.buildSlice 1 3 [.s 36]),oo 38 (.append 1 3 8 (.s 35) (.s 37)),om 5 38]))))) [1,2,5,6] (jr [om 17 6,jb 18 .add 17 1,om 6 18]))))) [5] (jq (jr [om 39 5,om 4 39]) [4] .ret))))⟩
def tf12 : TFn := ⟨34,[.tmp 4],jq (jr [jo 2 26 0,jv 4 je]) [1,2] (jq (jr [jv 5 je]) [1,2,5] (jq (jq (jr [jw 6 0]) [1,2,5,6] (jk 0 (jq (jq (jr [om 8 6,oA 9 0 2,ol 10 1 9,jn 11 10,jB 12 .lss 8 11]) [1,2,5,6,12] (jC 12 .skip (.exit 0))) [1,2,5,6] (jq (.block 1 (jq (jr [oA 15 0 2,ol 16 1 15,om 17 6,jx 18 3 16 17,oA 19 2 18,ol 20 1 19,jn 21 20,jb 22 .add 21 1,om 7 22]) [1,2,5,6,7] (jq (jr [om 23 5,om 24 1,om 25 7,jB 26 .rem 24 25,jb 27 .sub 26 1,oo 28 (.buildSlice 1 3 [.s 27]),oo 29 (.append 1 3 8 (.s 23) (.s 28)),om 5 29]) [1,2,5,6,7] (jr [om 30 1,om 31 7,jB 32 .quo 30 31,om 1 32])))) [1,2,5,6] (jr [om 13 6,jb 14 .add 13 1,om 6 14]))))) [5] (jq (jr [om 33 5,om 4 33]) [4] .ret)))⟩
def tf13 : TFn := ⟨17,[.tmp 4],jq (jr [jw 4 0]) [0,1] (jq (jq (jr [om 6 1,jb 7 .lss 6 1]) [0,1,7] (jC 7 (jq (jr [jw 4 0]) [4] .ret) .skip)) [0,1] (jq (jr [om 8 0,om 9 1,jB 10 .rem 8 9,om 5 10]) [1,5] (jq (jq (jr [om 11 5,jb 12 .lss 11 0]) [1,5,12] (jC 12 (jq (jr [om 13 5,om 14 1,jB 15 .add 13 14,om 4 15]) [4] .ret) .skip)) [5] (jq (jr [om 16 5,om 4 16]) [4] .ret))))⟩
def tf14 : TFn := ⟨27,[.tmp 2],jq (jr [jo 1 26 0,jw 2 0]) [1] (jq (jr [jw 3 1]) [1,3] (jq (jq (jr [jw 4 0]) [1,3,4] (jk 0 (jq (jq (jr [om 5 4,oA 6 0 1,ol 7 1 6,jn 8 7,jB 9 .lss 5 8,om 10 9,jT 11 10 3,jY 12 10 .lss 11 1000000,jp 13 10 12]) [1,3,4,13] (jC 13 .skip (.exit 0))) [1,3,4] (jq (.block 1 (jr [om 16 3,oA 17 0 1,ol 18 1 17,om 19 4,jx 20 3 18 19,oA 21 2 20,ol 22 1 21,jn 23 22,jb 24 .add 23 1,jB 25 .mul 16 24,om 3 25])) [1,3,4] (jr [om 14 4,jb 15 .add 14 1,om 4 15]))))) [3] (jq (jr [om 26 3,om 2 26]) [2] .ret)))⟩
def tf15 : TFn := ⟨40,[.tmp 6,.tmp 7],jq (jr [jo 3 26 0,jw 6 0,jw 7 0]) [1,2,3,900000] (jq (jr [oL 15 1 3,om 16 1,om 17 2,oo 18 (.build [(.fsl []),(.fsl []),(.fsl [])] [(0,1,(.s 15)),(1,1,(.s 16)),(2,1,(.s 17))]),oo 8 (.alloc 83 [(.fsl []),(.fsl []),(.fsl [])]),jS 3 8 18]) [8,900000] (jq (jr [oL 19 3 8,oo 20 (.mkbn 37 [.s 19]),oL 21 3 8,oo 22 (.mkbn 38 [.s 21]),oL 23 3 8,oo 24 (.mkbn 39 [.s 23,.s 900000]),oo 25 (.build [(.val .nilFunc),(.val .nilFunc),(.val .nilFunc)] [(0,1,(.s 20)),(1,1,(.s 22)),(2,1,(.s 24))]),oo 9 (.alloc 85 [(.val .nilFunc),(.val .nilFunc),(.val .nilFunc)]),jS 3 9 25]) [9] (jq (jq (jr [oL 26 3 9,jw 27 0]) [26,27] (jk 0 (jq (jr [jb 28 .lss 27 3]) [26,27,28] (jq (jC 28 .skip (.exit 0)) [26,27] (jq (.block 1 (jq (jr [oo 29 (.indexAgg false 3 1 (.s 26) (.s 27)),om 11 29]) [11,26,27] (jq (jr [om 31 11,oo 32 (.callV (.s 31) []),om 30 32,oe 33 0 30,oe 34 1 30,oe 35 2 30,om 12 33,om 13 34,om 14 35]) [12,13,14,26,27] (jq (jr [om 36 14]) [12,13,26,27,36] (jC 36 (jq (jr [om 37 12,om 38 13,om 6 37,om 7 38]) [6,7] .ret) .skip))))) [26,27] (jr [jb 39 .add 27 1,om 27 39])))))) [] (jq (jr [oo 6 (.mov (.c (.int .i64 (-1)))),oo 7 (.mov (.c (.int .i64 (-1))))]) [6,7] .ret))))⟩
def tf18 : TFn := ⟨128,[.tmp 8],jq (jr [jo 4 26 0,jv 8 je]) [1,2,3,4,900000] (jq (jr [oL 20 1 4,om 21 1,om 22 3,jc 23 15 [.s 20,.s 21,.s 22,.s 900000],om 19 23,oe 24 0 19,oe 25 1 19,om 9 24,om 10 25]) [1,2,3,4,9,10,900000] (jq (jq (jr [om 26 9,jb 27 .lss 26 0]) [1,2,3,4,9,10,27,900000] (jC 27 (jq (jr [jv 8 je]) [8] .ret) .skip)) [1,2,3,4,9,10,900000] (jq (jr [jv 11 je]) [1,2,3,4,9,10,11,900000] (jq (jq (jr [om 28 10,jb 29 .lss 28 0]) [1,2,3,4,9,10,11,29,900000] (jC 29 (jr [om 30 11,om 31 9,oL 32 1 4,om 33 9,jc 34 41 [.s 32,.s 33],jb 35 .andNot 34 1,oo 36 (.build [(.int .i64 0),(.int .i64 0)] [(0,1,(.s 31)),(1,1,(.s 35))]),oo 37 (.buildSlice 2 90 [.s 36]),oo 38 (.append 2 90 16 (.s 30) (.s 37)),om 11 38]) (jq (jR [oA 39 0 4,ol 40 1 39,om 41 9,jx 42 3 40 41,oA 43 2 42,ol 44 1 43,om 45 3,om 46 9,jx 47 1 45 46,ol 48 1 47,jx 49 8 44 48,oA 50 6 49,ol 51 1 50,om 52 10,jx 53 1 51 52,ol 54 1 53,jn 55 54,jw 56 0]) [1,2,3,4,11,54,55,56,900000] (jk 0 (jq (jr [jB 57 .lss 56 55]) [1,2,3,4,11,54,55,56,57,900000] (jq (jC 57 .skip (.exit 0)) [1,2,3,4,11,54,55,56,900000] (jq (.block 1 (jq (jr [jx 58 3 54 56,oL 59 3 58,oo 13 (.alloc 68 [(.int .i64 0),(.fsl []),(.fsl [])]),jS 3 13 59]) [1,2,3,4,11,13,54,55,56,900000] (jq (jr [oL 60 1 4,om 61 3,oA 62 0 13,ol 63 1 62,jc 64 42 [.s 60,.s 61,.s 63],jb 65 .lss 64 0]) [1,2,3,4,11,13,54,55,56,65,900000] (jC 65 (jR [om 66 11,oA 67 0 13,ol 68 1 67,oL 69 1 4,oL 70 3 13,jc 71 43 [.s 69,.s 70,.s 900000],oo 72 (.build [(.int .i64 0),(.int .i64 0)] [(0,1,(.s 68)),(1,1,(.s 71))]),oo 73 (.buildSlice 2 90 [.s 72]),oo 74 (.append 2 90 16 (.s 66) (.s 73)),om 11 74]) .skip)))) [1,2,3,4,11,54,55,56,900000] (jr [jb 75 .add 56 1,om 56 75])))))))) [1,2,11] (jq (jr [jv 14 je]) [1,2,11,14] (jq (jq (jr [om 76 11,jn 77 76,jw 78 0]) [1,2,14,76,77,78] (jk 2 (jq (jr [jB 79 .lss 78 77]) [1,2,14,76,77,78,79] (jq (jC 79 .skip (.exit 2)) [1,2,14,76,77,78] (jq (.block 3 (jq (jr [jx 80 2 76 78,oL 81 2 80,oo 16 (.alloc 90 [(.int .i64 0),(.int .i64 0)]),jS 2 16 81]) [1,2,14,16,76,77,78] (jq (jq (jr [om 82 1,jn 83 82,jb 84 .gtr 83 0,om 85 84,jA 86 85 0 16,jl 87 85 1 86,jT 88 85 1,oT 89 85 (.len (.s 88)),oT 90 85 (.bin .lss false (.s 87) (.s 89)),jp 91 85 90,om 92 91,jA 93 92 0 16,jl 94 92 1 93,jY 95 92 .geq 94 0,jp 96 92 95]) [1,2,14,16,76,77,78,96] (jC 96 (jR [oA 97 1 16,ol 98 1 97,om 99 1,oA 100 0 16,ol 101 1 100,jx 102 1 99 101,ol 103 1 102,jB 104 .and 98 103,oA 105 1 16,jS 1 105 104]) .skip)) [1,2,14,16,76,77,78] (jq (jr [om 106 2,oA 107 0 16,ol 108 1 107,oA 109 1 16,ol 110 1 109,jc 111 44 [.s 106,.s 108,.s 110],jn 112 111,jw 113 0]) [1,2,14,76,77,78,111,112,113] (jk 4 (jq (jr [jB 114 .lss 113 112]) [1,2,14,76,77,78,111,112,113,114] (jq (jC 114 .skip (.exit 4)) [1,2,14,76,77,78,111,112,113] (jq (.block 5 (jq (jr [jx 115 2 111 113,oL 116 2 115,oo 18 (.alloc 50 [(.int .i64 0),(.int .i64 0)]),jS 2 18 116]) [1,2,14,18,76,77,78,111,112,113] (jq (jr [om 117 14,oL 118 2 18,jc 119 45 [.s 117,.s 118],oo 120 (.un .not (.s 119))]) [1,2,14,18,76,77,78,111,112,113,120] (jC 120 (jr [om 121 14,oL 122 2 18,oo 123 (.buildSlice 2 50 [.s 122]),oo 124 (.append 2 50 16 (.s 121) (.s 123)),om 14 124]) .skip)))) [1,2,14,76,77,78,111,112,113] (jr [jb 125 .add 113 1,om 113 125]))))))))) [1,2,14,76,77,78] (jr [jb 126 .add 78 1,om 78 126])))))) [14] (jq (jr [om 127 14,om 8 127]) [8] .ret)))))))⟩
def tf20 : TFn := ⟨43,[.tmp 6],jq (jr [jo 3 26 0,jo 5 22 2,jv 6 jf]) [1,3,5,900000] (jq (jq (jr [oA 9 0 3,ol 10 1 9,jn 11 10,jw 12 0]) [1,3,5,11,12,900000] (jk 0 (jq (jr [jB 13 .lss 12 11]) [1,3,5,11,12,13,900000] (jq (jC 13 .skip (.exit 0)) [1,3,5,11,12,900000] (jq (.block 1 (jq (jr [om 14 12,om 7 14]) [1,3,5,7,11,12,900000] (jq (jr [oL 15 1 3,ol 16 1 5,om 17 7,jc 18 42 [.s 15,.s 16,.s 17],om 8 18]) [1,3,5,7,8,11,12,900000] (jq (jq (jr [om 19 8,jb 20 .lss 19 0]) [1,3,5,7,8,11,12,20,900000] (jC 20 (.exit 1) .skip)) [1,3,5,7,8,11,12,900000] (jq (jr [om 21 1,om 22 7,om 23 8,jb 24 .add 23 1,oo 25 (.bin .shl false (jI 1) (.s 24)),jc 26 47 [.s 21,.s 22,.s 25],oo 27 (.un .not (.s 26)),om 28 27,ja 29 28 0 3,jm 30 28 1 29,jF 31 28 7,oF 32 28 (.indexAddr 3 (.s 30) (.s 31)),ja 33 28 2 32,jm 34 28 1 33,jF 35 28 8,oF 36 28 (.indexAddr 8 (.s 34) (.s 35)),ja 37 28 7 36,jm 38 28 1 37,oF 39 28 (.mkfn 49 [.s 3,.s 5,.s 900000]),oF 40 28 (.call 48 [.s 38,.s 39]),oo 41 (.pick (.s 28) (.c (.bool true)) (.s 40))]) [1,3,5,11,12,41,900000] (jC 41 (jq (jr [jv 6 jf]) [6] .ret) .skip)))))) [1,3,5,11,12,900000] (jr [jb 42 .add 12 1,om 12 42])))))) [] (jq (jr [oo 6 (.mov (.c (.bool true)))]) [6] .ret))⟩
def tf25 : TFn := ⟨28,[.tmp 6],jq (jr [jo 3 26 0,jv 6 jf]) [1,2,3] (jq (jq (jr [jw 7 0]) [1,2,3,7] (jk 0 (jq (jq (jr [om 8 7,om 9 2,jn 10 9,jB 11 .lss 8 10,om 12 11,jT 13 12 1,oT 14 12 (.len (.s 13)),jY 15 12 .gtr 14 0,jp 16 12 15]) [1,2,3,7,16] (jC 16 .skip (.exit 0))) [1,2,3,7] (jq (.block 1 (jq (jr [oL 19 1 3,om 20 2,om 21 7,jc 22 54 [.s 19,.s 20,.s 21],om 23 1,om 24 7,jc 25 36 [.s 23,.s 24],jB 26 .and 22 25,jb 27 .eql 26 0]) [1,2,3,7,27] (jC 27 (jq (jr [jv 6 jf]) [6] .ret) .skip))) [1,2,3,7] (jr [om 17 7,jb 18 .add 17 1,om 7 18]))))) [] (jq (jr [oo 6 (.mov (.c (.bool true)))]) [6] .ret))⟩
def tf27 : TFn := ⟨15,[.tmp 4],jq (jr [jo 2 26 0,jv 4 jf]) [1,2] (jq (jr [oL 5 1 2,om 6 1,jc 7 55 [.s 5,.s 6],om 8 7,jL 9 8 1 2,jT 10 8 1,oT 11 8 (.call 56 [.s 9,.s 10]),oT 12 8 (.len (.s 11)),jY 13 8 .eql 12 0,jp 14 8 13,om 4 14]) [4] .ret)⟩
def tf29 : TFn := ⟨22,[.cell 0 true 1],jq (jr [oo 0 (.alloc 26 [(.fsl [])])]) [0] (jq (jr [jc 2 59 [],om 1 2]) [0,1] (jq (jR [jc 3 60 [],oo 4 (.build [(.int .i64 0),(.fsl []),(.fsl [])] [(0,1,(jI 1)),(1,2,(.s 3))]),oo 5 (.buildSlice 3 68 [.s 4]),oo 6 (.buildSlice 1 61 [.s 5]),oo 7 (.build [(.int .i64 0),(.int .i64 0),(.int .i64 0),(.str []),(.str []),(.int .i64 0),(.fsl []),(.fsl [])] [(5,1,(.c (.int .i64 (-1)))),(6,1,(.s 6))]),oo 8 (.buildSlice 8 63 [.s 7]),oo 9 (.build [(.str []),(.str []),(.fsl [])] [(2,1,(.s 8))]),om 10 1,oo 11 (.indexAddr 5 (.s 10) (jI 0)),oL 12 5 11,oo 13 (.build [(.int .i64 0),(.int .i64 0),(.int .i64 0),(.str []),(.str []),(.int .i64 0),(.fsl []),(.fsl [])] [(0,5,(.s 12))]),om 14 1,oo 15 (.indexAddr 5 (.s 14) (jI 1)),oL 16 5 15,oo 17 (.build [(.int .i64 0),(.int .i64 0),(.int .i64 0),(.str []),(.str []),(.int .i64 0),(.fsl []),(.fsl [])] [(0,5,(.s 16))]),oo 18 (.buildSlice 8 63 [.s 13,.s 17]),oo 19 (.build [(.str []),(.str []),(.fsl [])] [(0,1,(.c (.str [97,110,116]))),(2,1,(.s 18))]),oo 20 (.buildSlice 3 56 [.s 9,.s 19]),oo 21 (.build [(.fsl [])] [(0,1,(.s 20))]),jS 1 0 21]) [0] .ret))⟩
def tf30 : TFn := ⟨100,[.tmp 4],jq (jr [jv 4 je]) [0,1] (jq (jr [oo 14 (.buildSlice 1 9 [(.c (.str [97,110,116])),(.c (.str [98,101,101])),(.c (.str [99,111,119])),(.c (.str [100,111,103])),(.c (.str [101,108,107]))]),om 5 14]) [0,1,5] (jq (jr [oo 15 (.build [(.int .i64 0),(.int .i64 0),(.int .i64 0),(.str []),(.str []),(.int .i64 0),(.fsl []),(.fsl [])] [(5,1,(.c (.int .i64 (-1))))]),oo 16 (.buildSlice 8 63 [.s 15]),oo 17 (.build [(.str []),(.str []),(.fsl [])] [(2,1,(.s 16))]),oo 18 (.buildSlice 3 56 [.s 17]),om 6 18]) [0,1,5,6] (jq (jr [jc 19 59 [],om 7 19]) [0,1,5,6,7] (jq (jq (jr [jw 8 0]) [0,1,5,6,7,8] (jk 0 (jq (jq (jr [om 20 8,om 21 0,om 22 1,jc 23 33 [.s 21,.s 22],oo 24 (.bin .add false (jI 1) (.s 23)),jB 25 .lss 20 24,om 26 25,jT 27 26 8,jT 28 26 5,oT 29 26 (.len (.s 28)),oT 30 26 (.bin .lss false (.s 27) (.s 29)),jp 31 26 30]) [0,1,5,6,7,8,31] (jC 31 .skip (.exit 0))) [0,1,5,6,7,8] (jq (.block 1 (jq (jr [jv 9 je]) [0,1,5,6,7,8,9] (jq (jr [om 34 0,jc 35 33 [.s 34,jI 16],om 10 35]) [0,1,5,6,7,8,9,10] (jq (jq (jr [jw 11 0]) [0,1,5,6,7,8,9,10,11] (jk 2 (jq (jq (jr [om 36 11,om 37 7,jn 38 37,jB 39 .lss 36 38]) [0,1,5,6,7,8,9,10,11,39] (jC 39 .skip (.exit 2))) [0,1,5,6,7,8,9,10,11] (jq (.block 3 (jq (jr [om 42 10,om 43 11,oo 44 (.conv .u64 (.s 43)),jB 45 .shr 42 44,jb 46 .and 45 1,jb 47 .eql 46 1]) [0,1,5,6,7,8,9,10,11,47] (jC 47 (jr [om 48 9,om 49 7,om 50 11,jx 51 5 49 50,oL 52 5 51,oo 53 (.build [(.int .i64 0),(.int .i64 0),(.int .i64 0),(.str []),(.str []),(.int .i64 0),(.fsl []),(.fsl [])] [(0,5,(.s 52))]),oo 54 (.buildSlice 8 63 [.s 53]),oo 55 (.append 8 63 112 (.s 48) (.s 54)),om 9 55]) .skip))) [0,1,5,6,7,8,9,10,11] (jr [om 40 11,jb 41 .add 40 1,om 11 41]))))) [0,1,5,6,7,8,9] (jq (jr [om 56 6,om 57 5,om 58 8,jx 59 1 57 58,ol 60 1 59,om 61 9,oo 62 (.build [(.str []),(.str []),(.fsl [])] [(0,1,(.s 60)),(2,1,(.s 61))]),oo 63 (.buildSlice 3 56 [.s 62]),oo 64 (.append 3 56 56 (.s 56) (.s 63)),om 6 64]) [0,1,5,6,7,8,9] (jq (jr [om 65 8,jb 66 .lss 65 2,om 67 66,jT 68 67 0,oT 69 67 (.call 33 [.s 68,jI 3]),jY 70 67 .eql 69 0,jp 71 67 70]) [0,1,5,6,7,8,9,71] (jC 71 (jq (jr [jv 12 je]) [0,1,5,6,7,8,9,12] (jq (jq (jr [jw 13 0]) [0,1,5,6,7,8,9,12,13] (jk 4 (jq (jq (jr [om 72 13,om 73 9,jn 74 73,jB 75 .lss 72 74]) [0,1,5,6,7,8,9,12,13,75] (jC 75 .skip (.exit 4))) [0,1,5,6,7,8,9,12,13] (jq (.block 5 (jq (jr [om 78 0,jc 79 33 [.s 78,jI 3],jb 80 .gtr 79 0]) [0,1,5,6,7,8,9,12,13,80] (jC 80 (jr [om 81 12,om 82 9,om 83 13,jx 84 8 82 83,oA 85 0 84,oL 86 5 85,oo 87 (.build [(.int .i64 0),(.int .i64 0),(.int .i64 0),(.str []),(.str []),(.int .i64 0),(.fsl []),(.fsl [])] [(0,5,(.s 86))]),oo 88 (.buildSlice 8 63 [.s 87]),oo 89 (.append 8 63 112 (.s 81) (.s 88)),om 12 89]) .skip))) [0,1,5,6,7,8,9,12,13] (jr [om 76 13,jb 77 .add 76 1,om 13 77]))))) [0,1,5,6,7,8,12] (jr [om 90 6,om 91 5,om 92 8,jx 93 1 91 92,ol 94 1 93,om 95 12,oo 96 (.build [(.str []),(.str []),(.fsl [])] [(0,1,(.s 94)),(1,1,(.c (.str [102]))),(2,1,(.s 95))]),oo 97 (.buildSlice 3 56 [.s 96]),oo 98 (.append 3 56 56 (.s 90) (.s 97)),om 6 98]))) .skip))))))) [0,1,5,6,7,8] (jr [om 32 8,jb 33 .add 32 1,om 8 33]))))) [6] (jq (jr [om 99 6,om 4 99]) [4] .ret)))))⟩
def tf31 : TFn := ⟨36,[.tmp 6],jq (jr [jv 6 je]) [0,1,2] (jq (jr [jv 7 je]) [0,1,2,7] (jq (jq (jr [om 10 0,om 11 2,jb 12 .add 11 1,jc 13 33 [.s 10,.s 12],om 8 13]) [0,1,7,8] (jk 0 (jq (jq (jr [om 14 8,jb 15 .gtr 14 0]) [0,1,7,8,15] (jC 15 .skip (.exit 0))) [0,1,7,8] (jq (.block 1 (jq (jr [om 18 0,om 19 1,jc 20 34 [.s 18,.s 19],oo 21 (.buildSlice 3 68 [.s 20]),om 9 21]) [0,1,7,8,9] (jq (jq (jr [om 22 0,jc 23 33 [.s 22,jI 3],jb 24 .eql 23 0]) [0,1,7,8,9,24] (jC 24 (jr [om 25 9,om 26 0,om 27 1,jc 28 34 [.s 26,.s 27],oo 29 (.buildSlice 3 68 [.s 28]),oo 30 (.append 3 68 56 (.s 25) (.s 29)),om 9 30]) .skip)) [0,1,7,8,9] (jr [om 31 7,om 32 9,oo 33 (.buildSlice 1 61 [.s 32]),oo 34 (.append 1 61 24 (.s 31) (.s 33)),om 7 34])))) [0,1,7,8] (jr [om 16 8,jb 17 .sub 16 1,om 8 17]))))) [7] (jq (jr [om 35 7,om 6 35]) [6] .ret)))⟩
def tf32 : TFn := ⟨24,[.cell 2 true 2],jq (jr [jo 1 59 0,oo 2 (.alloc 66 [(.fsl []),(.fsl [])])]) [1,2] (jq (jq (jr [oL 3 5 1,jc 4 61 [.s 3],oo 5 (.un .not (.s 4))]) [1,2,5] (jC 5 (jq (jr [jc 6 62 [],jS 2 2 6]) [2] .ret) .skip)) [1,2] (jq (jq (jr [oA 7 3 1,ol 8 1 7,oo 9 (.bin .neq false (.s 8) (.c (.str [])))]) [1,2,9] (jC 9 (jq (jR [oL 10 5 1,jc 11 63 [.s 10],oL 12 5 1,jc 13 64 [.s 12],oo 14 (.build [(.int .i64 0),(.int .i64 0),(.int .i64 0),(.int .i64 0),(.str []),(.str []),(.bool false),(.int .i64 0),(.int .i64 0),(.int .i64 0),(.int .i64 0),(.str []),(.str []),(.bool false)] [(0,7,(.s 11)),(7,7,(.s 13))]),oo 15 (.buildSlice 14 116 [.s 14]),oo 16 (.build [(.fsl []),(.fsl [])] [(1,1,(.s 15))]),jS 2 2 16]) [2] .ret) .skip)) [1,2] (jq (jR [oL 17 5 1,jc 18 65 [.s 17],oL 19 5 1,jc 20 66 [.s 19],oo 21 (.build [(.int .i64 0),(.int .i64 0),(.int .i64 0),(.int .i64 0),(.str []),(.str []),(.bool false),(.int .i64 0),(.int .i64 0),(.int .i64 0),(.int .i64 0),(.str []),(.str []),(.bool false)] [(0,7,(.s 18)),(7,7,(.s 20))]),oo 22 (.buildSlice 14 116 [.s 21]),oo 23 (.build [(.fsl []),(.fsl [])] [(0,1,(.s 22))]),jS 2 2 23]) [2] .ret)))⟩
def tf33 : TFn := ⟨24,[.tmp 4],jq (jr [jw 4 0]) [0,1] (jq (jr [om 5 0,jh 6 5,oA 7 1 6,ol 8 1 7,jb 9 .add 8 1,jh 10 5,oA 11 1 10,jS 1 11 9]) [0,1] (jq (jR [om 12 0,jh 13 12,oA 14 0 13,ol 15 1 14,om 16 0,jh 17 16,oA 18 1 17,ol 19 1 18,jb 20 .sub 19 1,jc 21 36 [.s 15,.s 20],om 22 1,jc 23 13 [.s 21,.s 22],om 4 23]) [4] .ret))⟩
def tf34 : TFn := ⟨21,[.cell 4 true 3],jq (jr [oo 4 (.alloc 68 [(.int .i64 0),(.fsl []),(.fsl [])])]) [0,1,4] (jq (jr [om 6 0,om 7 1,jn 8 7,jb 9 .sub 8 1,jc 10 33 [.s 6,.s 9],oo 11 (.bin .add false (jI 1) (.s 10)),om 5 11]) [0,1,4,5] (jq (jr [om 12 5,om 13 0,om 14 1,om 15 5,jx 16 3 14 15,oA 17 2 16,ol 18 1 17,jc 19 67 [.s 13,.s 18],oo 20 (.build [(.int .i64 0),(.fsl []),(.fsl [])] [(0,1,(.s 12)),(1,2,(.s 19))]),jS 3 4 20]) [4] .ret))⟩
def tf35 : TFn := ⟨25,[.tmp 4],jq (jr [jo 2 26 0,jw 4 0]) [1,2] (jq (jq (jr [om 5 1,jb 6 .lss 5 0,om 7 6,jF 8 7 1,ja 9 7 0 2,jm 10 7 1 9,oF 11 7 (.len (.s 10)),oF 12 7 (.bin .geq false (.s 8) (.s 11)),oo 13 (.pick (.s 7) (.c (.bool true)) (.s 12))]) [1,2,13] (jC 13 (jq (jr [jw 4 0]) [4] .ret) .skip)) [1,2] (jq (jr [oA 14 0 2,ol 15 1 14,om 16 1,jx 17 3 15 16,oA 18 2 17,ol 19 1 18,jn 20 19,oo 21 (.min (.s 20) (jI 16)),jb 22 .add 21 1,jc 23 58 [.s 22],jb 24 .sub 23 1,om 4 24]) [4] .ret))⟩
def tf36 : TFn := ⟨19,[.tmp 4],jq (jr [jw 4 0]) [0,1] (jq (jq (jr [om 5 1,jb 6 .lss 5 0,om 7 6,jF 8 7 1,jF 9 7 0,oF 10 7 (.len (.s 9)),oF 11 7 (.bin .geq false (.s 8) (.s 10)),oo 12 (.pick (.s 7) (.c (.bool true)) (.s 11))]) [0,1,12] (jC 12 (jq (jr [om 13 1,jb 14 .rem 13 3,om 4 14]) [4] .ret) .skip)) [0,1] (jq (jr [om 15 0,om 16 1,jx 17 1 15 16,ol 18 1 17,om 4 18]) [4] .ret))⟩
def tf37 : TFn := ⟨18,[.tmp 2,.tmp 3,.tmp 4],jq (jr [jo 1 83 0,jw 2 0,jw 3 0,jv 4 jf]) [1] (jq (jr [oA 5 0 1,oA 6 0 5,ol 7 1 6,jn 8 7,jb 9 .gtr 8 0,om 10 9,jA 11 10 0 1,jL 12 10 1 11,jA 13 10 2 1,jl 14 10 1 13,oT 15 10 (.call 42 [.s 12,.s 14,jI 0]),jY 16 10 .lss 15 0,jp 17 10 16,jw 2 0,oo 3 (.mov (.c (.int .i64 (-1)))),om 4 17]) [2,3,4] .ret)⟩
def tf38 : TFn := ⟨29,[.tmp 2,.tmp 3,.tmp 4],jq (jr [jo 1 83 0,jw 2 0,jw 3 0,jv 4 jf]) [1] (jq (jq (jr [oA 6 0 1,oA 7 0 6,ol 8 1 7,jn 9 8,jw 10 0]) [1,9,10] (jk 0 (jq (jr [jB 11 .lss 10 9]) [1,9,10,11] (jq (jC 11 .skip (.exit 0)) [1,9,10] (jq (.block 1 (jq (jr [om 12 10,om 5 12]) [1,5,9,10] (jq (jr [oA 13 0 1,oL 14 1 13,oA 15 2 1,ol 16 1 15,om 17 5,jc 18 42 [.s 14,.s 16,.s 17],jb 19 .lss 18 0,om 20 19,jA 21 20 1 1,jl 22 20 1 21,jT 23 20 5,oT 24 20 (.call 47 [.s 22,.s 23,jI 1]),oT 25 20 (.un .not (.s 24)),jp 26 20 25]) [1,5,9,10,26] (jC 26 (jq (jr [om 27 5,om 2 27,oo 3 (.mov (.c (.int .i64 (-1)))),oo 4 (.mov (.c (.bool true)))]) [2,3,4] .ret) .skip)))) [1,9,10] (jr [jb 28 .add 10 1,om 10 28])))))) [] (jq (jr [jw 2 0,jw 3 0,jv 4 jf]) [2,3,4] .ret))⟩
def tf39 : TFn := ⟨49,[.tmp 2,.tmp 3,.tmp 4],jq (jr [jo 1 83 0,jw 2 0,jw 3 0,jv 4 jf]) [1,900000] (jq (jq (jr [oA 9 0 1,oA 10 0 9,ol 11 1 10,jn 12 11,jw 13 0]) [1,12,13,900000] (jk 0 (jq (jr [jB 14 .lss 13 12]) [1,12,13,14,900000] (jq (jC 14 .skip (.exit 0)) [1,12,13,900000] (jq (.block 1 (jq (jr [om 15 13,om 5 15]) [1,5,12,13,900000] (jq (jr [oA 16 0 1,oL 17 1 16,oA 18 2 1,ol 19 1 18,om 20 5,jc 21 42 [.s 17,.s 19,.s 20],om 6 21]) [1,5,6,12,13,900000] (jq (jq (jr [om 22 6,jb 23 .lss 22 0]) [1,5,6,12,13,23,900000] (jC 23 (.exit 1) .skip)) [1,5,6,12,13,900000] (jq (jr [oA 24 0 1,oA 25 0 24,ol 26 1 25,om 27 5,jx 28 3 26 27,oA 29 2 28,ol 30 1 29,om 31 6,jx 32 8 30 31,oA 33 6 32,ol 34 1 33,jn 35 34,jw 36 0]) [1,5,12,13,34,35,36,900000] (jk 2 (jq (jr [jB 37 .lss 36 35]) [1,5,12,13,34,35,36,37,900000] (jq (jC 37 .skip (.exit 2)) [1,5,12,13,34,35,36,900000] (jq (.block 3 (jq (jr [om 38 36,jx 39 1 34 36,ol 40 1 39,om 7 38,om 8 40]) [1,5,7,8,12,13,34,35,36,900000] (jq (jr [om 41 8,oo 42 (.mkfn 68 [.s 1,.s 900000]),jc 43 48 [.s 41,.s 42],oo 44 (.un .not (.s 43))]) [1,5,7,12,13,34,35,36,44,900000] (jC 44 (jq (jr [om 45 5,om 46 7,om 2 45,om 3 46,oo 4 (.mov (.c (.bool true)))]) [2,3,4] .ret) .skip)))) [1,5,12,13,34,35,36,900000] (jr [jb 47 .add 36 1,om 36 47])))))))))) [1,12,13,900000] (jr [jb 48 .add 13 1,om 13 48])))))) [] (jq (jr [jw 2 0,jw 3 0,jv 4 jf]) [2,3,4] .ret))⟩
def tf41 : TFn := ⟨18,[.tmp 4],jq (jr [jo 2 26 0,jw 4 0]) [1,2] (jq (jq (jr [oL 5 1 2,om 6 1,jc 7 70 [.s 5,.s 6],oo 8 (.un .not (.s 7))]) [1,2,8] (jC 8 (jq (jr [jw 4 0]) [4] .ret) .skip)) [1,2] (jq (jr [oA 9 0 2,ol 10 1 9,om 11 1,jx 12 3 10 11,oA 13 2 12,ol 14 1 13,jn 15 14,jc 16 71 [.s 15],jb 17 .sub 16 1,om 4 17]) [4] .ret))⟩
def tf42 : TFn := ⟨16,[.tmp 6],jq (jr [jo 3 26 0,jw 6 0]) [1,2,3] (jq (jq (jr [oL 7 1 3,om 8 1,om 9 2,jc 10 72 [.s 7,.s 8,.s 9],jb 11 .leq 10 1]) [1,2,11] (jC 11 (jq (jr [oo 6 (.mov (.c (.int .i64 (-1))))]) [6] .ret) .skip)) [1,2] (jq (jr [om 12 1,om 13 2,jx 14 1 12 13,ol 15 1 14,om 6 15]) [6] .ret))⟩
def tf43 : TFn := ⟨33,[.tmp 4],jq (jr [jo 2 26 0,jo 3 68 1,jw 4 0]) [2,3,4,900000] (jq (jr [oo 5 (.alloc 3 [(.int .i64 0)]),⟨none,.store 1 (.s 5) (jI 0),none⟩]) [2,3,4,5,900000] (jq (jq (jr [oL 7 1 2,oA 8 0 3,ol 9 1 8,jc 10 41 [.s 7,.s 9],jb 11 .andNot 10 1,jc 12 73 [.s 11]]) [2,3,4,5,12,900000] (.block 0 (.rangeF (.s 12) 13 6 (.block 1 (jq (jR [oA 14 1 3,oL 15 2 14,oA 16 0 2,ol 17 1 16,oA 18 0 3,ol 19 1 18,jx 20 3 17 19,oA 21 2 20,ol 22 1 21,om 23 6,jx 24 8 22 23,oA 25 0 24,oL 26 5 25,jc 27 74 [.s 15,.s 26,.s 900000]]) [5,6,27] (jC 27 (jR [ol 28 1 5,om 29 6,jc 30 71 [.s 29],jB 31 .or 28 30,jS 1 5 31]) .skip)))))) [5] (jq (jr [ol 32 1 5,om 4 32]) [4] .ret)))⟩
def tf44 : TFn := ⟨42,[.tmp 6],jq (jr [jo 4 3 1,jo 5 3 2,jv 6 je]) [0,4,5] (jq (jr [oo 7 (.alloc 37 [(.fsl [])])]) [0,4,5,7] (jq (jr [oo 12 (.mkfn 75 [.s 5,.s 7,.s 4]),om 8 12]) [0,4,7,8] (jq (jq (jr [ol 13 1 4,jb 14 .geq 13 0,om 15 14,jl 16 15 1 4,jT 17 15 0,oT 18 15 (.len (.s 17)),oT 19 15 (.bin .lss false (.s 16) (.s 18)),jp 20 15 19]) [0,4,7,8,20] (jC 20 (jq (jr [om 21 0,ol 22 1 4,jx 23 1 21 22,ol 24 1 23,jn 25 24,jw 26 0]) [7,8,24,25,26] (jk 0 (jq (jr [jB 27 .lss 26 25]) [7,8,24,25,26,27] (jq (jC 27 .skip (.exit 0)) [7,8,24,25,26] (jq (.block 1 (jq (jr [jx 28 1 24 26,ol 29 1 28,om 10 29]) [7,8,10,24,25,26] (jr [om 30 8,om 31 10,oo 32 (.callV (.s 30) [.s 31])]))) [7,8,24,25,26] (jr [jb 33 .add 26 1,om 26 33])))))) .skip)) [7,8] (jq (jq (jr [jw 11 15]) [7,8,11] (jk 2 (jq (jq (jr [om 34 11,jb 35 .geq 34 0]) [7,8,11,35] (jC 35 .skip (.exit 2))) [7,8,11] (jq (.block 3 (jr [om 38 8,om 39 11,oo 40 (.callV (.s 38) [.s 39])])) [7,8,11] (jr [om 36 11,jb 37 .sub 36 1,om 11 37]))))) [7] (jq (jr [ol 41 1 7,om 6 41]) [6] .ret)))))⟩
def tf45 : TFn := ⟨9,[.tmp 4],jq (jr [jo 3 50 1,jv 4 jf]) [0,3] (jq (jr [om 5 0,oL 6 2 3,jc 7 76 [.s 5,.s 6],jb 8 .geq 7 0,om 4 8]) [4] .ret)⟩
def tf47 : TFn := ⟨25,[.tmp 6],jq (jr [jv 6 jf]) [0,1,2] (jq (jr [om 7 0,jn 8 7,jb 9 .eql 8 0,om 10 9,jF 11 10 1,jF 12 10 0,oF 13 10 (.len (.s 12)),oF 14 10 (.bin .lss false (.s 11) (.s 13)),jF 15 10 14,jT 16 15 0,jT 17 15 1,oT 18 15 (.indexAddr 1 (.s 16) (.s 17)),jl 19 15 1 18,jT 20 15 2,oT 21 15 (.bin .and false (.s 19) (.s 20)),jY 22 15 .neq 21 0,oF 23 10 (.pick (.s 15) (.s 22) jf),oo 24 (.pick (.s 10) (.c (.bool true)) (.s 23)),om 6 24]) [6] .ret)⟩
def tf48 : TFn := ⟨9,[.tmp 4],jq (jr [jv 4 jf]) [0,1] (jq (jr [om 5 0,om 6 1,jc 7 79 [.s 5,.s 6],jb 8 .geq 7 0,om 4 8]) [4] .ret)⟩
def tf49 : TFn := ⟨9,[.tmp 4],jq (jr [jo 3 68 0,jv 4 jf]) [1,2,3,900000] (jq (jr [oL 5 1 1,ol 6 1 2,oL 7 3 3,jc 8 50 [.s 5,.s 6,.s 7,.s 900000],om 4 8]) [4] .ret)⟩
def tf50 : TFn := ⟨17,[.tmp 6],jq (jr [jo 3 26 0,jo 5 68 2,jv 6 jf]) [1,3,5,900000] (jq (jR [oL 7 1 3,oL 8 3 5,jc 9 43 [.s 7,.s 8,.s 900000],oL 10 1 3,om 11 1,oA 12 0 5,ol 13 1 12,jc 14 72 [.s 10,.s 11,.s 13],jB 15 .and 9 14,jb 16 .neq 15 0,om 6 16]) [6] .ret)⟩
def tf54 : TFn := ⟨48,[.tmp 6],jq (jr [jo 3 26 0,jw 6 0]) [1,2,3] (jq (jq (jr [om 7 2,jb 8 .lss 7 0,om 9 8,jF 10 9 2,ja 11 9 0 3,jm 12 9 1 11,oF 13 9 (.len (.s 12)),oF 14 9 (.bin .geq false (.s 10) (.s 13)),oo 15 (.pick (.s 9) (.c (.bool true)) (.s 14)),om 16 15,jF 17 16 2,jF 18 16 1,oF 19 16 (.len (.s 18)),oF 20 16 (.bin .geq false (.s 17) (.s 19)),oo 21 (.pick (.s 16) (.c (.bool true)) (.s 20))]) [1,2,3,21] (jC 21 (jq (jr [jw 6 0]) [6] .ret) .skip)) [1,2,3] (jq (jq (jR [om 22 1,om 23 2,jx 24 1 22 23,ol 25 1 24,oo 26 (.bin .lss false (.s 25) (.c (.int .i64 (-1)))),om 27 26,jF 28 27 1,jF 29 27 2,oF 30 27 (.indexAddr 1 (.s 28) (.s 29)),jm 31 27 1 30,ja 32 27 0 3,jm 33 27 1 32,jF 34 27 2,oF 35 27 (.indexAddr 3 (.s 33) (.s 34)),ja 36 27 2 35,jm 37 27 1 36,oF 38 27 (.len (.s 37)),oF 39 27 (.min (.s 38) (jI 16)),oF 40 27 (.bin .geq false (.s 31) (.s 39)),oo 41 (.pick (.s 27) (.c (.bool true)) (.s 40))]) [1,2,41] (jC 41 (jq (jr [jw 6 0]) [6] .ret) .skip)) [1,2] (jq (jr [om 42 1,om 43 2,jx 44 1 42 43,ol 45 1 44,jb 46 .add 45 1,jc 47 58 [.s 46],om 6 47]) [6] .ret)))⟩
def tf55 : TFn := ⟨42,[.tmp 4],jq (jr [jo 2 26 0,jv 4 jf]) [1,2] (jq (jq (jr [om 6 1,jn 7 6,oA 8 0 2,ol 9 1 8,jn 10 9,jB 11 .neq 7 10,om 12 11,jM 13 12 1 2,oF 14 12 (.call 81 [.s 13]),oF 15 12 (.un .not (.s 14)),oo 16 (.pick (.s 12) (.c (.bool true)) (.s 15))]) [1,2,16] (jC 16 (jq (jr [jv 4 jf]) [4] .ret) .skip)) [1,2] (jq (jq (jr [jw 5 0]) [1,2,5] (jk 0 (jq (jq (jr [om 17 5,om 18 1,jn 19 18,jB 20 .lss 17 19]) [1,2,5,20] (jC 20 .skip (.exit 0))) [1,2,5] (jq (.block 1 (jq (jR [om 23 1,om 24 5,jx 25 1 23 24,ol 26 1 25,oo 27 (.bin .lss false (.s 26) (.c (.int .i64 (-1)))),om 28 27,jF 29 28 1,jF 30 28 5,oF 31 28 (.indexAddr 1 (.s 29) (.s 30)),jm 32 28 1 31,ja 33 28 0 2,jm 34 28 1 33,jF 35 28 5,oF 36 28 (.indexAddr 3 (.s 34) (.s 35)),ja 37 28 2 36,jm 38 28 1 37,oF 39 28 (.len (.s 38)),oF 40 28 (.bin .geq false (.s 32) (.s 39)),oo 41 (.pick (.s 28) (.c (.bool true)) (.s 40))]) [1,2,5,41] (jC 41 (jq (jr [jv 4 jf]) [4] .ret) .skip))) [1,2,5] (jr [om 21 5,jb 22 .add 21 1,om 5 22]))))) [] (jq (jr [oo 4 (.mov (.c (.bool true)))]) [4] .ret)))⟩
def tf56 : TFn := ⟨37,[.tmp 4],jq (jr [jo 2 26 0,jv 4 je]) [1,2] (jq (jr [jv 5 je]) [1,2,5] (jq (jq (jr [oL 7 1 2,om 8 1,jc 9 55 [.s 7,.s 8],oo 10 (.un .not (.s 9))]) [1,2,5,10] (jC 10 (jq (jr [jv 4 je]) [4] .ret) .skip)) [1,2,5] (jq (jq (jr [om 11 1,oo 12 (.indexAddr 1 (.s 11) (jI 0)),ol 13 1 12,jb 14 .lss 13 0]) [1,2,5,14] (jC 14 (jr [om 15 5,oo 16 (.build [(.int .i64 0),(.int .i64 0),(.int .i64 0)] [(0,1,(jI 1))]),oo 17 (.buildSlice 3 130 [.s 16]),oo 18 (.append 3 130 24 (.s 15) (.s 17)),om 5 18]) .skip)) [1,2,5] (jq (jq (jr [jw 6 0]) [1,2,5,6] (jk 0 (jq (jq (jr [om 19 6,om 20 1,jn 21 20,jB 22 .lss 19 21]) [1,2,5,6,22] (jC 22 .skip (.exit 0))) [1,2,5,6] (jq (.block 1 (jq (jr [om 25 1,om 26 6,jx 27 1 25 26,ol 28 1 27,jb 29 .geq 28 0]) [1,2,5,6,29] (jC 29 (jr [om 30 5,oL 31 1 2,om 32 1,om 33 6,jc 34 82 [.s 31,.s 32,.s 33],oo 35 (.append 3 130 24 (.s 30) (.s 34)),om 5 35]) .skip))) [1,2,5,6] (jr [om 23 6,jb 24 .add 23 1,om 6 24]))))) [5] (jq (jr [om 36 5,om 4 36]) [4] .ret)))))⟩
def tf57 : TFn := ⟨24,[.tmp 4],jq (jr [jo 2 66 0,jo 3 59 1,jv 4 jf]) [2,3] (jq (jq (jr [oL 5 2 2,jc 6 83 [.s 5],oo 7 (.un .not (.s 6)),om 8 7,jM 9 8 5 3,oF 10 8 (.call 61 [.s 9]),oF 11 8 (.un .not (.s 10)),oo 12 (.pick (.s 8) (.c (.bool true)) (.s 11))]) [2,3,12] (jC 12 (jq (jr [jv 4 jf]) [4] .ret) .skip)) [2,3] (jq (jq (jr [oA 13 3 3,ol 14 1 13,oo 15 (.bin .eql false (.s 14) (.c (.str [])))]) [2,3,15] (jC 15 (jq (jr [oA 16 0 2,ol 17 1 16,oL 18 5 3,jc 19 84 [.s 17,.s 18],om 4 19]) [4] .ret) .skip)) [2,3] (jq (jr [oA 20 1 2,ol 21 1 20,oL 22 5 3,jc 23 84 [.s 21,.s 22],om 4 23]) [4] .ret)))⟩
def tf58 : TFn := ⟨13,[.tmp 2],jq (jr [jw 2 0]) [0] (jq (jr [jw 3 1]) [0,3] (jq (jq (jr [jw 4 0]) [0,3,4] (jk 0 (jq (jq (jr [om 5 4,om 6 0,jB 7 .lss 5 6]) [0,3,4,7] (jC 7 .skip (.exit 0))) [0,3,4] (jq (.block 1 (jr [om 10 3,jb 11 .mul 10 2,om 3 11])) [0,3,4] (jr [om 8 4,jb 9 .add 8 1,om 4 9]))))) [3] (jq (jr [om 12 3,om 2 12]) [2] .ret)))⟩
def tf59 : TFn := ⟨6,[.tmp 0],jq (jr [jv 0 je]) [] (jq (jr [oo 1 (.build [(.int .i64 0),(.int .i64 0),(.int .i64 0),(.str []),(.str [])] [(0,1,(jI 1))]),oo 2 (.build [(.int .i64 0),(.int .i64 0),(.int .i64 0),(.str []),(.str [])] [(0,1,(jI 1)),(1,1,(jI 2))]),oo 3 (.build [(.int .i64 0),(.int .i64 0),(.int .i64 0),(.str []),(.str [])] [(0,1,(jI 2)),(3,1,(.c (.str [97,46,49])))]),oo 4 (.build [(.int .i64 0),(.int .i64 0),(.int .i64 0),(.str []),(.str [])] [(0,1,(jI 2))]),oo 5 (.buildSlice 5 59 [.s 1,.s 2,.s 3,.s 4]),om 0 5]) [0] .ret)⟩
def tf60 : TFn := ⟨4,[.cell 0 true 2],jq (jr [oo 0 (.alloc 66 [(.fsl []),(.fsl [])])]) [0] (jq (jr [jc 1 85 [],jc 2 85 [],oo 3 (.build [(.fsl []),(.fsl [])] [(0,1,(.s 1)),(1,1,(.s 2))]),jS 2 0 3]) [0] .ret)⟩
def tf61 : TFn := ⟨26,[.tmp 2],jq (jr [jo 1 59 0,jv 2 jf]) [1] (jq (jr [oA 3 0 1,ol 4 1 3,jc 5 86 [.s 4],om 6 5,jA 7 6 1 1,jl 8 6 1 7,oT 9 6 (.call 86 [.s 8]),jp 10 6 9,om 11 10,jA 12 11 2 1,jl 13 11 1 12,oT 14 11 (.call 86 [.s 13]),jp 15 11 14,om 16 15,jA 17 16 3 1,jl 18 16 1 17,oT 19 16 (.call 87 [.s 18,(.c (.bool true))]),jp 20 16 19,om 21 20,jA 22 21 4 1,jl 23 21 1 22,oT 24 21 (.call 87 [.s 23,jf]),jp 25 21 24,om 2 25]) [2] .ret)⟩
def tf62 : TFn := ⟨2,[.cell 0 true 2],jq (jr [oo 0 (.alloc 66 [(.fsl []),(.fsl [])])]) [0] (jq (jr [oo 1 (.build [(.fsl []),(.fsl [])] []),jS 2 0 1]) [0] .ret)⟩
def tf63 : TFn := ⟨6,[.cell 2 true 7],jq (jr [jo 1 59 0,oo 2 (.alloc 113 [(.int .i64 0),(.int .i64 0),(.int .i64 0),(.int .i64 0),(.str []),(.str []),(.bool false)])]) [1,2] (jq (jr [oL 3 5 1,jc 4 88 [.s 3],oo 5 (.build [(.int .i64 0),(.int .i64 0),(.int .i64 0),(.int .i64 0),(.str []),(.str []),(.bool false)] [(1,5,(.s 4))]),jS 7 2 5]) [2] .ret)⟩
def tf64 : TFn := ⟨6,[.cell 2 true 7],jq (jr [jo 1 59 0,oo 2 (.alloc 113 [(.int .i64 0),(.int .i64 0),(.int .i64 0),(.int .i64 0),(.str []),(.str []),(.bool false)])]) [1,2] (jq (jr [oL 3 5 1,jc 4 88 [.s 3],oo 5 (.build [(.int .i64 0),(.int .i64 0),(.int .i64 0),(.int .i64 0),(.str []),(.str []),(.bool false)] [(1,5,(.s 4)),(6,1,(.c (.bool true)))]),jS 7 2 5]) [2] .ret)⟩
def tf65 : TFn := ⟨14,[.cell 2 true 7],jq (jr [jo 1 59 0,oo 2 (.alloc 113 [(.int .i64 0),(.int .i64 0),(.int .i64 0),(.int .i64 0),(.str []),(.str []),(.bool false)])]) [1,2] (jq (jq (jr [oL 3 5 1,jc 4 89 [.s 3]]) [1,2,4] (jC 4 (jq (jr [jc 5 90 [],jS 7 2 5]) [2] .ret) .skip)) [1,2] (jq (jr [oA 6 0 1,ol 7 1 6,oA 8 1 1,ol 9 1 8,oA 10 2 1,ol 11 1 10,oo 12 (.build [(.int .i64 0),(.int .i64 0),(.int .i64 0),(.str []),(.str [])] [(0,1,(.s 7)),(1,1,(.s 9)),(2,1,(.s 11))]),jc 13 63 [.s 12],jS 7 2 13]) [2] .ret))⟩
def tf66 : TFn := ⟨21,[.cell 2 true 7],jq (jr [jo 1 59 0,oo 2 (.alloc 113 [(.int .i64 0),(.int .i64 0),(.int .i64 0),(.int .i64 0),(.str []),(.str []),(.bool false)])]) [1,2] (jq (jr [oA 6 0 1,ol 7 1 6,oA 8 1 1,ol 9 1 8,oA 10 2 1,ol 11 1 10,oo 12 (.build [(.int .i64 0),(.int .i64 0),(.int .i64 0),(.str []),(.str [])] [(0,1,(.s 7)),(1,1,(.s 9)),(2,1,(.s 11))]),jc 13 91 [.s 12],om 5 13,oe 14 0 5,oe 15 1 5,oo 3 (.alloc 59 [(.int .i64 0),(.int .i64 0),(.int .i64 0),(.str []),(.str [])]),jS 5 3 14,om 4 15]) [2,3,4] (jq (jq (jr [om 16 4,oo 17 (.un .not (.s 16))]) [2,3,17] (jC 17 (jq (jr [jc 18 92 [],jS 7 2 18]) [2] .ret) .skip)) [2,3] (jq (jr [oL 19 5 3,jc 20 63 [.s 19],jS 7 2 20]) [2] .ret)))⟩
def tf67 : TFn := ⟨41,[.cell 4 true 2],jq (jr [oo 4 (.alloc 66 [(.fsl []),(.fsl [])])]) [0,1,4] (jq (jr [om 8 0,jc 9 33 [.s 8,jI 8],om 5 9]) [0,1,4,5] (jq (jr [jc 10 62 [],oo 6 (.alloc 66 [(.fsl []),(.fsl [])]),jS 2 6 10]) [0,1,4,5,6] (jq (jq (jr [jw 7 0]) [0,1,4,5,6,7] (jk 0 (jq (jq (jr [om 11 7,om 12 1,jn 13 12,jB 14 .lss 11 13]) [0,1,4,5,6,7,14] (jC 14 .skip (.exit 0))) [0,1,4,5,6,7] (jq (.block 1 (jq (jr [om 17 5,om 18 7,oo 19 (.conv .u64 (.s 18)),jB 20 .shr 17 19,jb 21 .and 20 1,jb 22 .eql 21 1]) [0,1,4,5,6,7,22] (jC 22 (jR [oL 23 2 6,om 24 1,om 25 7,jx 26 8 24 25,oA 27 0 26,oL 28 5 27,jc 29 32 [.s 28],jc 30 93 [.s 23,.s 29],jS 2 6 30]) .skip))) [0,1,4,5,6,7] (jr [om 15 7,jb 16 .add 15 1,om 7 16]))))) [0,4,6] (jq (jq (jr [om 31 0,jc 32 33 [.s 31,jI 6]]) [4,6,32] (.block 2 (jq (jr [jb 34 .eql 32 0,om 33 34]) [4,6,32,33] (jC 33 (jq (jr [jc 35 60 [],jS 2 4 35]) [4] .ret) (jq (jr [jb 37 .eql 32 1,om 36 37]) [4,6,36] (jC 36 (jq (jr [oL 38 2 6,jc 39 94 [.s 38],jS 2 4 39]) [4] .ret) .skip)))))) [4,6] (jq (jr [oL 40 2 6,jS 2 4 40]) [4] .ret)))))⟩
def tf68 : TFn := ⟨10,[.tmp 3],jq (jr [jo 2 68 0,jv 3 jf]) [1,2,900000] (jq (jr [oA 4 0 1,oL 5 1 4,oA 6 2 1,ol 7 1 6,oL 8 3 2,jc 9 50 [.s 5,.s 7,.s 8,.s 900000],om 3 9]) [3] .ret)⟩
def tf70 : TFn := ⟨14,[.tmp 4],jq (jr [jo 2 26 0,jv 4 jf]) [1,2] (jq (jr [om 5 1,jb 6 .geq 5 0,om 7 6,jT 8 7 1,jA 9 7 0 2,jl 10 7 1 9,oT 11 7 (.len (.s 10)),oT 12 7 (.bin .lss false (.s 8) (.s 11)),jp 13 7 12,om 4 13]) [4] .ret)⟩
def tf71 : TFn := ⟨6,[.tmp 2],jq (jr [jw 2 0]) [0] (jq (jr [om 3 0,jb 4 .add 3 1,oo 5 (.bin .shl false (jI 1) (.s 4)),om 2 5]) [2] .ret)⟩
def tf72 : TFn := ⟨43,[.tmp 6],jq (jr [jo 3 26 0,jw 6 0]) [1,2,3] (jq (jq (jR [oL 7 1 3,om 8 2,jc 9 70 [.s 7,.s 8],oo 10 (.un .not (.s 9)),om 11 10,jF 12 11 2,jF 13 11 1,oF 14 11 (.len (.s 13)),oF 15 11 (.bin .geq false (.s 12) (.s 14)),oo 16 (.pick (.s 11) (.c (.bool true)) (.s 15)),om 17 16,jF 18 17 1,jF 19 17 2,oF 20 17 (.indexAddr 1 (.s 18) (.s 19)),jm 21 17 1 20,oF 22 17 (.bin .lss false (.s 21) (.c (.int .i64 (-1)))),oo 23 (.pick (.s 17) (.c (.bool true)) (.s 22)),om 24 23,jF 25 24 1,jF 26 24 2,oF 27 24 (.indexAddr 1 (.s 25) (.s 26)),jm 28 24 1 27,ja 29 24 0 3,jm 30 24 1 29,jF 31 24 2,oF 32 24 (.indexAddr 3 (.s 30) (.s 31)),ja 33 24 2 32,jm 34 24 1 33,oF 35 24 (.len (.s 34)),oF 36 24 (.bin .geq false (.s 28) (.s 35)),oo 37 (.pick (.s 24) (.c (.bool true)) (.s 36))]) [1,2,37] (jC 37 (jq (jr [jw 6 0]) [6] .ret) .skip)) [1,2] (jq (jr [om 38 1,om 39 2,jx 40 1 38 39,ol 41 1 40,jc 42 71 [.s 41],om 6 42]) [6] .ret))⟩
def tf73 : TFn := ⟨4,[.tmp 2],jq (jr [jo 1 3 0,oo 2 (.mov (.c (.val .nilFunc)))]) [1] (jq (jr [oo 3 (.mkfn 95 [.s 1]),om 2 3]) [2] .ret)⟩
def tf74 : TFn := ⟨24,[.tmp 4],jq (jr [jo 2 66 0,jo 3 59 1,jv 4 jf]) [2,3,900000] (jq (jq (jr [oL 5 2 2,jc 6 96 [.s 5,.s 900000],oo 7 (.un .not (.s 6)),om 8 7,jM 9 8 5 3,oF 10 8 (.call 97 [.s 9]),oF 11 8 (.un .not (.s 10)),oo 12 (.pick (.s 8) (.c (.bool true)) (.s 11))]) [2,3,12] (jC 12 (jq (jr [jv 4 jf]) [4] .ret) .skip)) [2,3] (jq (jq (jr [oA 13 3 3,ol 14 1 13,oo 15 (.bin .eql false (.s 14) (.c (.str [])))]) [2,3,15] (jC 15 (jq (jr [oA 16 0 2,ol 17 1 16,oL 18 5 3,jc 19 98 [.s 17,.s 18],om 4 19]) [4] .ret) .skip)) [2,3] (jq (jr [oA 20 1 2,ol 21 1 20,oL 22 5 3,jc 23 98 [.s 21,.s 22],om 4 23]) [4] .ret)))⟩
def tf75 : TFn := ⟨30,[],jq (jR [om 5 0,jb 6 .geq 5 0,om 7 6,jT 8 7 0,jY 9 7 .lss 8 16,jp 10 7 9,om 11 10,jl 12 11 1 1,jT 13 11 0,jY 14 11 .add 13 1,oT 15 11 (.bin .shl false (jI 1) (.s 14)),oT 16 11 (.bin .and false (.s 12) (.s 15)),jY 17 11 .neq 16 0,jp 18 11 17]) [0,1,2,3,18] (jC 18 (jq (jr [ol 19 1 2,ol 20 1 3,om 21 0,oo 22 (.build [(.int .i64 0),(.int .i64 0)] [(0,1,(.s 20)),(1,1,(.s 21))]),oo 23 (.buildSlice 2 50 [.s 22]),oo 24 (.append 2 50 16 (.s 19) (.s 23)),jS 1 2 24]) [0,1] (jR [ol 25 1 1,om 26 0,jb 27 .add 26 1,oo 28 (.bin .shl false (jI 1) (.s 27)),jB 29 .andNot 25 28,jS 1 1 29])) .skip)⟩
def tf76 : TFn := ⟨19,[.tmp 4],jq (jr [jo 3 50 1,jw 4 0]) [0,3] (jq (jq (jr [om 6 0,jn 7 6,jw 8 0]) [0,3,7,8] (jk 0 (jq (jr [jB 9 .lss 8 7]) [0,3,7,8,9] (jq (jC 9 .skip (.exit 0)) [0,3,7,8] (jq (.block 1 (jq (jr [om 10 8,om 5 10]) [0,3,5,7,8] (jq (jR [oL 11 2 3,om 12 0,om 13 5,jx 14 2 12 13,oL 15 2 14,oo 16 (.eqs false [0,0] (.s 11) (.s 15))]) [0,3,5,7,8,16] (jC 16 (jq (jr [om 17 5,om 4 17]) [4] .ret) .skip)))) [0,3,7,8] (jr [jb 18 .add 8 1,om 8 18])))))) [] (jq (jr [oo 4 (.mov (.c (.int .i64 (-1))))]) [4] .ret))⟩
def tf79 : TFn := ⟨19,[.tmp 4],jq (jr [jw 4 0]) [0,1] (jq (jq (jr [om 6 0,jn 7 6,jw 8 0]) [0,1,7,8] (jk 0 (jq (jr [jB 9 .lss 8 7]) [0,1,7,8,9] (jq (jC 9 .skip (.exit 0)) [0,1,7,8] (jq (.block 1 (jq (jr [om 10 8,om 5 10]) [0,1,5,7,8] (jq (jr [om 11 1,om 12 0,om 13 5,jx 14 3 12 13,oL 15 3 14,oo 16 (.callV (.s 11) [.s 15])]) [0,1,5,7,8,16] (jC 16 (jq (jr [om 17 5,om 4 17]) [4] .ret) .skip)))) [0,1,7,8] (jr [jb 18 .add 8 1,om 8 18])))))) [] (jq (jr [oo 4 (.mov (.c (.int .i64 (-1))))]) [4] .ret))⟩
def tf81 : TFn := ⟨25,[.tmp 2],jq (jr [jo 1 26 0,jv 2 jf]) [1] (jq (jq (jr [oA 4 0 1,ol 5 1 4,jn 6 5,jb 7 .lss 6 1,om 8 7,ja 9 8 0 1,jm 10 8 1 9,oF 11 8 (.len (.s 10)),jy 12 8 .gtr 11 48,oo 13 (.pick (.s 8) (.c (.bool true)) (.s 12))]) [1,13] (jC 13 (jq (jr [jv 2 jf]) [2] .ret) .skip)) [1] (jq (jq (jr [jw 3 0]) [1,3] (jk 0 (jq (jq (jr [om 14 3,oA 15 0 1,ol 16 1 15,jn 17 16,jB 18 .lss 14 17]) [1,3,18] (jC 18 .skip (.exit 0))) [1,3] (jq (.block 1 (jq (jr [oL 21 1 1,om 22 3,jc 23 99 [.s 21,.s 22],oo 24 (.un .not (.s 23))]) [1,3,24] (jC 24 (jq (jr [jv 2 jf]) [2] .ret) .skip))) [1,3] (jr [om 19 3,jb 20 .add 19 1,om 3 20]))))) [] (jq (jr [oo 2 (.mov (.c (.bool true)))]) [2] .ret)))⟩
def tf82 : TFn := ⟨67,[.tmp 6],jq (jr [jo 3 26 0,jv 6 je]) [1,2,3] (jq (jr [jv 7 je]) [1,2,3,7] (jq (jR [oA 11 0 3,ol 12 1 11,om 13 2,jx 14 3 12 13,oA 15 2 14,ol 16 1 15,om 17 1,om 18 2,jx 19 1 17 18,ol 20 1 19,jx 21 8 16 20,oL 22 8 21,oo 8 (.alloc 63 [(.int .i64 0),(.int .i64 0),(.int .i64 0),(.str []),(.str []),(.int .i64 0),(.fsl []),(.fsl [])]),jS 8 8 22]) [1,2,3,7,8] (jq (jq (jr [jw 9 0]) [1,2,3,7,8,9] (jk 0 (jq (jq (jr [om 23 9,oA 24 6 8,ol 25 1 24,jn 26 25,jB 27 .lss 23 26]) [1,2,3,7,8,9,27] (jC 27 .skip (.exit 0))) [1,2,3,7,8,9] (jq (.block 1 (jq (jR [oL 30 1 3,om 31 1,oA 32 6 8,ol 33 1 32,om 34 9,jx 35 1 33 34,ol 36 1 35,jc 37 100 [.s 30,.s 31,.s 36],oo 38 (.un .not (.s 37))]) [1,2,3,7,8,9,38] (jC 38 (jr [om 39 7,om 40 2,om 41 9,oo 42 (.build [(.int .i64 0),(.int .i64 0),(.int .i64 0)] [(0,1,(jI 2)),(1,1,(.s 40)),(2,1,(.s 41))]),oo 43 (.buildSlice 3 130 [.s 42]),oo 44 (.append 3 130 24 (.s 39) (.s 43)),om 7 44]) .skip))) [1,2,3,7,8,9] (jr [om 28 9,jb 29 .add 28 1,om 9 29]))))) [1,2,3,7,8] (jq (jq (jr [jw 10 0]) [1,2,3,7,8,10] (jk 2 (jq (jq (jr [om 45 10,oA 46 7 8,ol 47 1 46,jn 48 47,jB 49 .lss 45 48]) [1,2,3,7,8,10,49] (jC 49 .skip (.exit 2))) [1,2,3,7,8,10] (jq (.block 3 (jq (jR [oL 52 1 3,om 53 1,oA 54 7 8,ol 55 1 54,om 56 10,jx 57 3 55 56,oL 58 3 57,jc 59 101 [.s 52,.s 53,.s 58]]) [1,2,3,7,8,10,59] (jC 59 (jr [om 60 7,om 61 2,om 62 10,oo 63 (.build [(.int .i64 0),(.int .i64 0),(.int .i64 0)] [(0,1,(jI 3)),(1,1,(.s 61)),(2,1,(.s 62))]),oo 64 (.buildSlice 3 130 [.s 63]),oo 65 (.append 3 130 24 (.s 60) (.s 64)),om 7 65]) .skip))) [1,2,3,7,8,10] (jr [om 50 10,jb 51 .add 50 1,om 10 51]))))) [7] (jq (jr [om 66 7,om 6 66]) [6] .ret)))))⟩
def tf83 : TFn := ⟨39,[.tmp 2],jq (jr [jo 1 66 0,jv 2 jf]) [1] (jq (jq (jr [oA 4 0 1,ol 5 1 4,jc 6 102 [.s 5],oo 7 (.un .not (.s 6)),om 8 7,ja 9 8 1 1,jm 10 8 1 9,oF 11 8 (.call 102 [.s 10]),oF 12 8 (.un .not (.s 11)),oo 13 (.pick (.s 8) (.c (.bool true)) (.s 12))]) [1,13] (jC 13 (jq (jr [jv 2 jf]) [2] .ret) .skip)) [1] (jq (jq (jr [jw 3 0]) [1,3] (jk 0 (jq (jq (jr [om 14 3,oA 15 0 1,ol 16 1 15,jn 17 16,jB 18 .lss 14 17]) [1,3,18] (jC 18 .skip (.exit 0))) [1,3] (jq (.block 1 (jq (jr [oA 21 0 1,ol 22 1 21,om 23 3,jx 24 14 22 23,oA 25 0 24,oL 26 7 25,jc 27 103 [.s 26],oo 28 (.un .not (.s 27)),om 29 28,ja 30 29 0 1,jm 31 29 1 30,jF 32 29 3,oF 33 29 (.indexAddr 14 (.s 31) (.s 32)),ja 34 29 7 33,jM 35 29 7 34,oF 36 29 (.call 103 [.s 35]),oF 37 29 (.un .not (.s 36)),oo 38 (.pick (.s 29) (.c (.bool true)) (.s 37))]) [1,3,38] (jC 38 (jq (jr [jv 2 jf]) [2] .ret) .skip))) [1,3] (jr [om 19 3,jb 20 .add 19 1,om 3 20]))))) [] (jq (jr [oo 2 (.mov (.c (.bool true)))]) [2] .ret)))⟩
def tf84 : TFn := ⟨22,[.tmp 4],jq (jr [jo 3 59 1,jv 4 jf]) [0,3] (jq (jq (jr [jw 5 0]) [0,3,5] (jk 0 (jq (jq (jr [om 6 5,om 7 0,jn 8 7,jB 9 .lss 6 8,om 10 9,jT 11 10 0,oT 12 10 (.call 102 [.s 11]),jp 13 10 12]) [0,3,5,13] (jC 13 .skip (.exit 0))) [0,3,5] (jq (.block 1 (jq (jR [om 16 0,om 17 5,jx 18 14 16 17,oL 19 14 18,oL 20 5 3,jc 21 104 [.s 19,.s 20]]) [0,3,5,21] (jC 21 (jq (jr [oo 4 (.mov (.c (.bool true)))]) [4] .ret) .skip))) [0,3,5] (jr [om 14 5,jb 15 .add 14 1,om 5 15]))))) [] (jq (jr [jv 4 jf]) [4] .ret))⟩
def tf85 : TFn := ⟨5,[.tmp 0],jq (jr [jv 0 je]) [] (jq (jr [jc 1 90 [],jc 2 92 [],oo 3 (.build [(.int .i64 0),(.int .i64 0),(.int .i64 0),(.int .i64 0),(.str []),(.str []),(.bool false),(.int .i64 0),(.int .i64 0),(.int .i64 0),(.int .i64 0),(.str []),(.str []),(.bool false)] [(0,7,(.s 1)),(7,7,(.s 2))]),oo 4 (.buildSlice 14 116 [.s 3]),om 0 4]) [0] .ret)⟩
def tf86 : TFn := ⟨9,[.tmp 2],jq (jr [jv 2 jf]) [0] (jq (jr [om 3 0,jb 4 .geq 3 0,om 5 4,jT 6 5 0,jY 7 5 .leq 6 9999,jp 8 5 7,om 2 8]) [2] .ret)⟩
def tf87 : TFn := ⟨48,[.tmp 4],jq (jr [jv 4 jf]) [0,1] (jq (jq (jr [om 9 0,oo 10 (.bin .eql false (.s 9) (.c (.str [])))]) [0,1,10] (jC 10 (jq (jr [oo 4 (.mov (.c (.bool true)))]) [4] .ret) .skip)) [0,1] (jq (jr [om 11 0,jc 12 105 [.s 11,(.c (.int .u8 46))],om 5 12]) [1,5] (jq (jq (jr [om 13 5,jn 14 13,jb 15 .gtr 14 4]) [1,5,15] (jC 15 (jq (jr [jv 4 jf]) [4] .ret) .skip)) [1,5] (jq (jq (jr [jw 6 0]) [1,5,6] (jk 0 (jq (jq (jr [om 16 6,om 17 5,jn 18 17,jB 19 .lss 16 18]) [1,5,6,19] (jC 19 .skip (.exit 0))) [1,5,6] (jq (.block 1 (jq (jq (jr [om 22 5,om 23 6,jx 24 1 22 23,ol 25 1 24,jc 26 106 [.s 25],oo 27 (.un .not (.s 26))]) [1,5,6,27] (jC 27 (jq (jr [jv 4 jf]) [4] .ret) .skip)) [1,5,6] (jq (jr [om 29 5,om 30 6,jx 31 1 29 30,ol 32 1 31,jc 33 107 [.s 32],om 28 33,oe 34 0 28,oe 35 1 28,om 7 34,om 8 35]) [1,5,6,8] (jq (jr [om 36 1,om 37 36,jT 38 37 5,jT 39 37 6,oT 40 37 (.indexAddr 1 (.s 38) (.s 39)),jl 41 37 1 40,oT 42 37 (.call 108 [.s 41]),jp 43 37 42,om 44 43,jT 45 44 8,oT 46 44 (.un .not (.s 45)),jp 47 44 46]) [1,5,6,47] (jC 47 (jq (jr [jv 4 jf]) [4] .ret) .skip))))) [1,5,6] (jr [om 20 6,jb 21 .add 20 1,om 6 21]))))) [] (jq (jr [oo 4 (.mov (.c (.bool true)))]) [4] .ret)))))⟩
def tf88 : TFn := ⟨5,[.cell 2 true 5],jq (jr [jo 1 59 0,oo 2 (.alloc 59 [(.int .i64 0),(.int .i64 0),(.int .i64 0),(.str []),(.str [])])]) [1,2] (jq (jr [oA 3 4 1,⟨none,.store 1 (.s 3) (.c (.str [])),none⟩]) [1,2] (jq (jr [oL 4 5 1,jS 5 2 4]) [2] .ret))⟩
def tf89 : TFn := ⟨16,[.tmp 2],jq (jr [jo 1 59 0,jv 2 jf]) [1] (jq (jr [oA 3 0 1,ol 4 1 3,jb 5 .eql 4 0,om 6 5,jA 7 6 1 1,jl 8 6 1 7,jY 9 6 .eql 8 0,jp 10 6 9,om 11 10,jA 12 11 2 1,jl 13 11 1 12,jY 14 11 .eql 13 0,jp 15 11 14,om 2 15]) [2] .ret)⟩
def tf90 : TFn := ⟨2,[.cell 0 true 7],jq (jr [oo 0 (.alloc 113 [(.int .i64 0),(.int .i64 0),(.int .i64 0),(.int .i64 0),(.str []),(.str []),(.bool false)])]) [0] (jq (jr [oo 1 (.build [(.int .i64 0),(.int .i64 0),(.int .i64 0),(.int .i64 0),(.str []),(.str []),(.bool false)] [(0,1,(.c (.int .i64 (-1))))]),jS 7 0 1]) [0] .ret)⟩
def tf91 : TFn := ⟨34,[.cell 2 true 5,.tmp 3],jq (jr [jo 1 59 0,oo 2 (.alloc 59 [(.int .i64 0),(.int .i64 0),(.int .i64 0),(.str []),(.str [])]),jv 3 jf]) [1,2] (jq (jq (jr [oL 7 5 1,jc 8 61 [.s 7],oo 9 (.un .not (.s 8))]) [1,2,9] (jC 9 (jq (jr [oo 10 (.build [(.int .i64 0),(.int .i64 0),(.int .i64 0),(.str []),(.str [])] []),jS 5 2 10,jv 3 jf]) [2,3] .ret) .skip)) [1,2] (jq (jq (jr [oA 11 3 1,ol 12 1 11,oo 13 (.bin .neq false (.s 12) (.c (.str [])))]) [1,2,13] (jC 13 (jq (jr [oA 14 0 1,ol 15 1 14,oA 16 1 1,ol 17 1 16,oA 18 2 1,ol 19 1 18,oo 20 (.build [(.int .i64 0),(.int .i64 0),(.int .i64 0),(.str []),(.str [])] [(0,1,(.s 15)),(1,1,(.s 17)),(2,1,(.s 19))]),jS 5 2 20,oo 3 (.mov (.c (.bool true)))]) [2,3] .ret) .skip)) [1,2] (jq (jq (jr [jw 4 2]) [1,2,4] (jk 0 (jq (jq (jr [om 21 4,jb 22 .geq 21 0]) [1,2,4,22] (jC 22 .skip (.exit 0))) [1,2,4] (jq (.block 1 (jq (jr [oL 26 5 1,om 27 4,jc 28 109 [.s 26,.s 27],om 25 28,oe 29 0 25,oe 30 1 25,oo 5 (.alloc 59 [(.int .i64 0),(.int .i64 0),(.int .i64 0),(.str []),(.str [])]),jS 5 5 29,om 6 30]) [1,2,4,5,6] (jq (jr [om 31 6]) [1,2,4,5,31] (jC 31 (jq (jr [oL 32 5 5,jS 5 2 32,oo 3 (.mov (.c (.bool true)))]) [2,3] .ret) .skip)))) [1,2,4] (jr [om 23 4,jb 24 .sub 23 1,om 4 24]))))) [2] (jq (jr [oo 33 (.build [(.int .i64 0),(.int .i64 0),(.int .i64 0),(.str []),(.str [])] []),jS 5 2 33,jv 3 jf]) [2,3] .ret))))⟩
def tf92 : TFn := ⟨2,[.cell 0 true 7],jq (jr [oo 0 (.alloc 113 [(.int .i64 0),(.int .i64 0),(.int .i64 0),(.int .i64 0),(.str []),(.str []),(.bool false)])]) [0] (jq (jr [oo 1 (.build [(.int .i64 0),(.int .i64 0),(.int .i64 0),(.int .i64 0),(.str []),(.str []),(.bool false)] [(0,1,(jI 1))]),jS 7 0 1]) [0] .ret)⟩
def tf93 : TFn := ⟨25,[.cell 4 true 2],jq (jr [jo 2 66 0,jo 3 66 1,oo 4 (.alloc 66 [(.fsl []),(.fsl [])])]) [2,3,4] (jq (jq (jr [oL 5 2 2,jc 6 83 [.s 5],oo 7 (.un .not (.s 6)),om 8 7,jM 9 8 2 3,oF 10 8 (.call 83 [.s 9]),oF 11 8 (.un .not (.s 10)),oo 12 (.pick (.s 8) (.c (.bool true)) (.s 11))]) [2,3,4,12] (jC 12 (jq (jr [jc 13 62 [],jS 2 4 13]) [4] .ret) .skip)) [2,3,4] (jq (jR [oA 14 0 2,ol 15 1 14,oA 16 0 3,ol 17 1 16,jc 18 110 [.s 15,.s 17],oA 19 1 2,ol 20 1 19,oA 21 1 3,ol 22 1 21,jc 23 110 [.s 20,.s 22],oo 24 (.build [(.fsl []),(.fsl [])] [(0,1,(.s 18)),(1,1,(.s 23))]),jS 2 4 24]) [4] .ret))⟩
def tf94 : TFn := ⟨14,[.cell 2 true 2],jq (jr [jo 1 66 0,oo 2 (.alloc 66 [(.fsl []),(.fsl [])])]) [1,2] (jq (jq (jr [oL 3 2 1,jc 4 83 [.s 3],oo 5 (.un .not (.s 4))]) [1,2,5] (jC 5 (jq (jr [jc 6 62 [],jS 2 2 6]) [2] .ret) .skip)) [1,2] (jq (jR [oA 7 0 1,ol 8 1 7,jc 9 111 [.s 8],oA 10 1 1,ol 11 1 10,jc 12 111 [.s 11],oo 13 (.build [(.fsl []),(.fsl [])] [(0,1,(.s 9)),(1,1,(.s 12))]),jS 2 2 13]) [2] .ret))⟩
def tf95 : TFn := ⟨19,[],jq (jr [oo 3 (.mov (.c (.int .i64 (-1))))]) [0,1,3] (jk 0 (jq (jq (jr [om 4 3,jb 5 .lss 4 16]) [0,1,3,5] (jC 5 .skip (.exit 0))) [0,1,3] (jq (.block 1 (jq (jR [ol 8 1 1,om 9 3,jc 10 71 [.s 9],jB 11 .and 8 10,jb 12 .neq 11 0,om 13 12,jT 14 13 0,jT 15 13 3,oT 16 13 (.callV (.s 14) [.s 15]),oT 17 13 (.un .not (.s 16)),jp 18 13 17]) [0,1,3,18] (jC 18 .ret .skip))) [0,1,3] (jr [om 6 3,jb 7 .add 6 1,om 3 7]))))⟩
def tf96 : TFn := ⟨31,[.tmp 2],jq (jr [jo 1 66 0,jv 2 jf]) [1,900000] (jq (jq (jr [oA 5 0 1,ol 6 1 5,jn 7 6,jw 8 0]) [1,6,7,8,900000] (jk 0 (jq (jr [jB 9 .lss 8 7]) [1,6,7,8,9,900000] (jq (jC 9 .skip (.exit 0)) [1,6,7,8,900000] (jq (.block 1 (jq (jr [jx 10 14 6 8,oL 11 14 10,oo 4 (.alloc 116 [(.int .i64 0),(.int .i64 0),(.int .i64 0),(.int .i64 0),(.str []),(.str []),(.bool false),(.int .i64 0),(.int .i64 0),(.int .i64 0),(.int .i64 0),(.str []),(.str []),(.bool false)]),jS 14 4 11]) [1,4,6,7,8,900000] (jq (jr [oA 12 0 4,oL 13 7 12,jc 14 112 [.s 13,.s 900000],oo 15 (.un .not (.s 14)),om 16 15,ja 17 16 7 4,jM 18 16 7 17,oF 19 16 (.call 112 [.s 18,.s 900000]),oF 20 16 (.un .not (.s 19)),oo 21 (.pick (.s 16) (.c (.bool true)) (.s 20))]) [1,6,7,8,21,900000] (jC 21 (jq (jr [jv 2 jf]) [2] .ret) .skip)))) [1,6,7,8,900000] (jr [jb 22 .add 8 1,om 8 22])))))) [1] (jq (jr [oA 23 0 1,ol 24 1 23,jc 25 113 [.s 24],om 26 25,jA 27 26 1 1,jl 28 26 1 27,oT 29 26 (.call 113 [.s 28]),jp 30 26 29,om 2 30]) [2] .ret))⟩
def tf97 : TFn := ⟨36,[.tmp 2],jq (jr [jo 1 59 0,jv 2 jf]) [1] (jq (jr [oA 3 0 1,ol 4 1 3,jc 5 114 [.s 4],om 6 5,jA 7 6 1 1,jl 8 6 1 7,oT 9 6 (.call 114 [.s 8]),jp 10 6 9,om 11 10,jA 12 11 2 1,jl 13 11 1 12,oT 14 11 (.call 114 [.s 13]),jp 15 11 14,om 16 15,jA 17 16 3 1,jl 18 16 1 17,oT 19 16 (.bin .eql false (.s 18) (.c (.str []))),jT 20 16 19,ja 21 20 3 1,jm 22 20 1 21,oF 23 20 (.call 115 [.s 22]),oT 24 16 (.pick (.s 20) (.c (.bool true)) (.s 23)),jp 25 16 24,om 26 25,jA 27 26 4 1,jl 28 26 1 27,oT 29 26 (.bin .eql false (.s 28) (.c (.str []))),jT 30 26 29,ja 31 30 4 1,jm 32 30 1 31,oF 33 30 (.call 116 [.s 32]),oT 34 26 (.pick (.s 30) (.c (.bool true)) (.s 33)),jp 35 26 34,om 2 35]) [2] .ret)⟩
def tf98 : TFn := ⟨20,[.tmp 4],jq (jr [jo 3 59 1,jv 4 jf]) [0,3] (jq (jq (jr [om 7 0,jc 8 113 [.s 7],oo 9 (.un .not (.s 8))]) [0,3,9] (jC 9 (jq (jr [jv 4 jf]) [4] .ret) .skip)) [0,3] (jq (jq (jr [om 10 0,jn 11 10,jw 12 0]) [3,10,11,12] (jk 0 (jq (jr [jB 13 .lss 12 11]) [3,10,11,12,13] (jq (jC 13 .skip (.exit 0)) [3,10,11,12] (jq (.block 1 (jq (jr [jx 14 14 10 12,oL 15 14 14,oo 6 (.alloc 116 [(.int .i64 0),(.int .i64 0),(.int .i64 0),(.int .i64 0),(.str []),(.str []),(.bool false),(.int .i64 0),(.int .i64 0),(.int .i64 0),(.int .i64 0),(.str []),(.str []),(.bool false)]),jS 14 6 15]) [3,6,10,11,12] (jq (jr [oL 16 14 6,oL 17 5 3,jc 18 117 [.s 16,.s 17]]) [3,10,11,12,18] (jC 18 (jq (jr [oo 4 (.mov (.c (.bool true)))]) [4] .ret) .skip)))) [3,10,11,12] (jr [jb 19 .add 12 1,om 12 19])))))) [] (jq (jr [jv 4 jf]) [4] .ret)))⟩
def tf99 : TFn := ⟨94,[.tmp 4],jq (jr [jo 2 26 0,jv 4 jf]) [1,2] (jq (jr [oA 7 0 2,ol 8 1 7,om 9 1,jx 10 3 8 9,oL 11 3 10,oo 5 (.alloc 56 [(.str []),(.str []),(.fsl [])]),jS 3 5 11]) [1,2,5] (jq (jq (jr [oA 12 2 5,ol 13 1 12,jn 14 13,jb 15 .gtr 14 16]) [1,2,5,15] (jC 15 (jq (jr [jv 4 jf]) [4] .ret) .skip)) [1,2,5] (jq (jq (jr [om 16 1,jb 17 .eql 16 0,om 18 17,jA 19 18 0 5,jl 20 18 1 19,oT 21 18 (.bin .neq false (.s 20) (.c (.str []))),jT 22 18 21,ja 23 22 1 5,jm 24 22 1 23,oF 25 22 (.bin .neq false (.s 24) (.c (.str []))),oT 26 18 (.pick (.s 22) (.c (.bool true)) (.s 25)),jT 27 18 26,ja 28 27 2 5,jm 29 27 1 28,oF 30 27 (.len (.s 29)),jy 31 27 .neq 30 1,oT 32 18 (.pick (.s 27) (.c (.bool true)) (.s 31)),jp 33 18 32]) [1,2,5,33] (jC 33 (jq (jr [jv 4 jf]) [4] .ret) .skip)) [1,2,5] (jq (jq (jR [om 34 1,jb 35 .gtr 34 0,om 36 35,jA 37 36 0 5,jl 38 36 1 37,oT 39 36 (.bin .eql false (.s 38) (.c (.str []))),jp 40 36 39,om 41 40,jF 42 41 1,jy 43 41 .gtr 42 1,jF 44 41 43,jA 45 44 0 2,jl 46 44 1 45,jT 47 44 1,jY 48 44 .sub 47 1,oT 49 44 (.indexAddr 3 (.s 46) (.s 48)),jL 50 44 3 49,jL 51 44 3 5,oT 52 44 (.call 118 [.s 50,.s 51]),oT 53 44 (.un .not (.s 52)),oF 54 41 (.pick (.s 44) (.s 53) jf),oo 55 (.pick (.s 41) (.c (.bool true)) (.s 54))]) [2,5,55] (jC 55 (jq (jr [jv 4 jf]) [4] .ret) .skip)) [2,5] (jq (jq (jr [jw 6 0]) [2,5,6] (jk 0 (jq (jq (jr [om 56 6,oA 57 2 5,ol 58 1 57,jn 59 58,jB 60 .lss 56 59]) [2,5,6,60] (jC 60 .skip (.exit 0))) [2,5,6] (jq (.block 1 (jq (jR [oA 63 2 5,ol 64 1 63,om 65 6,jx 66 8 64 65,oL 67 8 66,oA 68 0 2,ol 69 1 68,jn 70 69,jc 71 119 [.s 67,.s 70],oo 72 (.un .not (.s 71)),om 73 72,jF 74 73 6,jy 75 73 .gtr 74 0,jF 76 73 75,jA 77 76 2 5,jl 78 76 1 77,jT 79 76 6,jY 80 76 .sub 79 1,oT 81 76 (.indexAddr 8 (.s 78) (.s 80)),jA 82 76 0 81,jL 83 76 5 82,jA 84 76 2 5,jl 85 76 1 84,jT 86 76 6,oT 87 76 (.indexAddr 8 (.s 85) (.s 86)),jA 88 76 0 87,jL 89 76 5 88,oT 90 76 (.call 120 [.s 83,.s 89]),jY 91 76 .geq 90 0,oF 92 73 (.pick (.s 76) (.s 91) jf),oo 93 (.pick (.s 73) (.c (.bool true)) (.s 92))]) [2,5,6,93] (jC 93 (jq (jr [jv 4 jf]) [4] .ret) .skip))) [2,5,6] (jr [om 61 6,jb 62 .add 61 1,om 6 62]))))) [] (jq (jr [oo 4 (.mov (.c (.bool true)))]) [4] .ret))))))⟩
def tf100 : TFn := ⟨21,[.tmp 6],jq (jr [jo 3 26 0,jv 6 jf]) [1,2,3] (jq (jq (jr [jw 7 0]) [1,2,3,7] (jk 0 (jq (jq (jr [om 8 7,om 9 2,jn 10 9,jB 11 .lss 8 10]) [1,2,3,7,11] (jC 11 .skip (.exit 0))) [1,2,3,7] (jq (.block 1 (jq (jR [oL 14 1 3,om 15 1,om 16 2,om 17 7,jx 18 3 16 17,oL 19 3 18,jc 20 101 [.s 14,.s 15,.s 19]]) [1,2,3,7,20] (jC 20 (jq (jr [oo 6 (.mov (.c (.bool true)))]) [6] .ret) .skip))) [1,2,3,7] (jr [om 12 7,jb 13 .add 12 1,om 7 13]))))) [] (jq (jr [jv 6 jf]) [6] .ret))⟩
def tf101 : TFn := ⟨33,[.tmp 6],jq (jr [jo 3 26 0,jo 5 68 2,jv 6 jf]) [1,3,5] (jq (jR [om 7 1,oA 8 0 5,ol 9 1 8,jx 10 1 7 9,ol 11 1 10,jb 12 .geq 11 0,om 13 12,jA 14 13 1 5,jL 15 13 2 14,jA 16 13 0 3,jl 17 13 1 16,jA 18 13 0 5,jl 19 13 1 18,oT 20 13 (.indexAddr 3 (.s 17) (.s 19)),jA 21 13 2 20,jl 22 13 1 21,jT 23 13 1,jA 24 13 0 5,jl 25 13 1 24,oT 26 13 (.indexAddr 1 (.s 23) (.s 25)),jl 27 13 1 26,oT 28 13 (.indexAddr 8 (.s 22) (.s 27)),jA 29 13 0 28,jL 30 13 5 29,oT 31 13 (.call 57 [.s 15,.s 30]),jp 32 13 31,om 6 32]) [6] .ret)⟩
def tf102 : TFn := ⟨35,[.tmp 2],jq (jr [jv 2 jf]) [0] (jq (jq (jr [jw 3 0]) [0,3] (jk 0 (jq (jq (jr [om 4 3,om 5 0,jn 6 5,jB 7 .lss 4 6]) [0,3,7] (jC 7 .skip (.exit 0))) [0,3] (jq (.block 1 (jq (jR [om 10 0,om 11 3,jx 12 14 10 11,oL 13 14 12,jc 14 121 [.s 13],oo 15 (.un .not (.s 14)),om 16 15,jF 17 16 3,jy 18 16 .gtr 17 0,jF 19 16 18,jT 20 19 0,jT 21 19 3,jY 22 19 .sub 21 1,oT 23 19 (.indexAddr 14 (.s 20) (.s 22)),jA 24 19 7 23,jL 25 19 7 24,jT 26 19 0,jT 27 19 3,oT 28 19 (.indexAddr 14 (.s 26) (.s 27)),jA 29 19 0 28,jL 30 19 7 29,oT 31 19 (.call 122 [.s 25,.s 30]),jY 32 19 .geq 31 0,oF 33 16 (.pick (.s 19) (.s 32) jf),oo 34 (.pick (.s 16) (.c (.bool true)) (.s 33))]) [0,3,34] (jC 34 (jq (jr [jv 2 jf]) [2] .ret) .skip))) [0,3] (jr [om 8 3,jb 9 .add 8 1,om 3 9]))))) [] (jq (jr [oo 2 (.mov (.c (.bool true)))]) [2] .ret))⟩
def tf103 : TFn := ⟨23,[.tmp 2],jq (jr [jo 1 113 0,jv 2 jf]) [1] (jq (jr [oA 3 0 1,ol 4 1 3,jb 5 .neq 4 0,om 6 5,ja 7 6 6 1,jm 8 6 1 7,oF 9 6 (.un .not (.s 8)),jF 10 6 9,jA 11 10 1 1,jA 12 10 3 11,jl 13 10 1 12,oT 14 10 (.bin .eql false (.s 13) (.c (.str []))),oF 15 6 (.pick (.s 10) (.s 14) jf),jF 16 6 15,jA 17 16 1 1,jL 18 16 5 17,oT 19 16 (.call 89 [.s 18]),oT 20 16 (.un .not (.s 19)),oF 21 6 (.pick (.s 16) (.s 20) jf),oo 22 (.pick (.s 6) (.c (.bool true)) (.s 21)),om 2 22]) [2] .ret)⟩
def tf104 : TFn := ⟨24,[.tmp 4],jq (jr [jo 2 116 0,jo 3 59 1,jv 4 jf]) [2,3] (jq (jr [oL 5 14 2,jc 6 121 [.s 5],om 7 6,jL 8 7 5 3,oT 9 7 (.call 61 [.s 8]),jp 10 7 9,om 11 10,jA 12 11 0 2,jL 13 11 7 12,jL 14 11 5 3,oT 15 11 (.call 123 [.s 13,.s 14]),jp 16 11 15,om 17 16,jA 18 17 7 2,jL 19 17 7 18,jL 20 17 5 3,oT 21 17 (.call 123 [.s 19,.s 20]),oT 22 17 (.un .not (.s 21)),jp 23 17 22,om 4 23]) [4] .ret)⟩
def tf105 : TFn := ⟨34,[.tmp 4],jq (jr [jv 4 je]) [0,1] (jq (jr [jv 5 je]) [0,1,5] (jq (jr [jw 6 0]) [0,1,5,6] (jq (jq (jr [jw 7 0]) [0,1,5,6,7] (jk 0 (jq (jq (jr [om 8 7,om 9 0,oo 10 (.lenStr (.s 9)),jB 11 .lss 8 10]) [0,1,5,6,7,11] (jC 11 .skip (.exit 0))) [0,1,5,6,7] (jq (.block 1 (jq (jr [om 14 0,om 15 7,oo 16 (.indexStr (.s 14) (.s 15)),om 17 1,jB 18 .eql 16 17]) [0,1,5,6,7,18] (jC 18 (jq (jr [om 19 5,om 20 0,om 21 6,om 22 7,oo 23 (.sliceStr (.s 20) (some (.s 21)) (some (.s 22))),oo 24 (.buildSlice 1 9 [.s 23]),oo 25 (.append 1 9 16 (.s 19) (.s 24)),om 5 25]) [0,1,5,7] (jr [om 26 7,jb 27 .add 26 1,om 6 27])) .skip))) [0,1,5,6,7] (jr [om 12 7,jb 13 .add 12 1,om 7 13]))))) [0,5,6] (jq (jr [om 28 5,om 29 0,om 30 6,oo 31 (.sliceStr (.s 29) (some (.s 30)) none),oo 32 (.buildSlice 1 9 [.s 31]),oo 33 (.append 1 9 16 (.s 28) (.s 32)),om 4 33]) [4] .ret))))⟩
def tf106 : TFn := ⟨40,[.tmp 2],jq (jr [jv 2 jf]) [0] (jq (jq (jr [om 5 0,oo 6 (.lenStr (.s 5)),jb 7 .lss 6 1,om 8 7,jF 9 8 0,oF 10 8 (.lenStr (.s 9)),jy 11 8 .gtr 10 8,oo 12 (.pick (.s 8) (.c (.bool true)) (.s 11))]) [0,12] (jC 12 (jq (jr [jv 2 jf]) [2] .ret) .skip)) [0] (jq (jq (jr [jw 3 0]) [0,3] (jk 0 (jq (jq (jr [om 13 3,om 14 0,oo 15 (.lenStr (.s 14)),jB 16 .lss 13 15]) [0,3,16] (jC 16 .skip (.exit 0))) [0,3] (jq (.block 1 (jq (jr [om 19 0,om 20 3,oo 21 (.indexStr (.s 19) (.s 20)),om 4 21]) [0,3,4] (jq (jr [om 22 4,oo 23 (.bin .lss false (.s 22) (.c (.int .u8 97))),om 24 23,jF 25 24 4,oF 26 24 (.bin .gtr false (.s 25) (.c (.int .u8 122))),oo 27 (.pick (.s 24) (.c (.bool true)) (.s 26)),om 28 27,jT 29 28 4,oT 30 28 (.bin .lss false (.s 29) (.c (.int .u8 48))),jT 31 28 30,jF 32 31 4,oF 33 31 (.bin .gtr false (.s 32) (.c (.int .u8 57))),oT 34 28 (.pick (.s 31) (.c (.bool true)) (.s 33)),jp 35 28 34,om 36 35,jT 37 36 4,oT 38 36 (.bin .neq false (.s 37) (.c (.int .u8 45))),jp 39 36 38]) [0,3,39] (jC 39 (jq (jr [jv 2 jf]) [2] .ret) .skip)))) [0,3] (jr [om 17 3,jb 18 .add 17 1,om 3 18]))))) [] (jq (jr [oo 2 (.mov (.c (.bool true)))]) [2] .ret)))⟩
def tf107 : TFn := ⟨46,[.tmp 2,.tmp 3],jq (jr [jw 2 0,jv 3 jf]) [0] (jq (jq (jr [om 6 0,oo 7 (.lenStr (.s 6)),jb 8 .lss 7 1,om 9 8,jF 10 9 0,oF 11 9 (.lenStr (.s 10)),jy 12 9 .gtr 11 9,oo 13 (.pick (.s 9) (.c (.bool true)) (.s 12)),om 14 13,jF 15 14 0,oF 16 14 (.lenStr (.s 15)),jy 17 14 .gtr 16 1,jF 18 14 17,jT 19 18 0,oT 20 18 (.indexStr (.s 19) (jI 0)),oT 21 18 (.bin .eql false (.s 20) (.c (.int .u8 48))),oF 22 14 (.pick (.s 18) (.s 21) jf),oo 23 (.pick (.s 14) (.c (.bool true)) (.s 22))]) [0,23] (jC 23 (jq (jr [jw 2 0,jv 3 jf]) [2,3] .ret) .skip)) [0] (jq (jr [jw 4 0]) [0,4] (jq (jq (jr [jw 5 0]) [0,4,5] (jk 0 (jq (jq (jr [om 24 5,om 25 0,oo 26 (.lenStr (.s 25)),jB 27 .lss 24 26]) [0,4,5,27] (jC 27 .skip (.exit 0))) [0,4,5] (jq (.block 1 (jq (jq (jr [om 30 0,om 31 5,oo 32 (.indexStr (.s 30) (.s 31)),jc 33 124 [.s 32],oo 34 (.un .not (.s 33))]) [0,4,5,34] (jC 34 (jq (jr [jw 2 0,jv 3 jf]) [2,3] .ret) .skip)) [0,4,5] (jr [om 35 4,jb 36 .mul 35 10,om 37 0,om 38 5,oo 39 (.indexStr (.s 37) (.s 38)),oo 40 (.bin .sub false (.s 39) (.c (.int .u8 48))),oo 41 (.conv .i64 (.s 40)),jB 42 .add 36 41,om 4 42]))) [0,4,5] (jr [om 28 5,jb 29 .add 28 1,om 5 29]))))) [4] (jq (jq (jr [om 43 4,jb 44 .gtr 43 9999]) [4,44] (jC 44 (jq (jr [jw 2 0,jv 3 jf]) [2,3] .ret) .skip)) [4] (jq (jr [om 45 4,om 2 45,oo 3 (.mov (.c (.bool true)))]) [2,3] .ret)))))⟩
def tf108 : TFn := ⟨23,[.tmp 2],jq (jr [jv 2 jf]) [0] (jq (jq (jr [jw 3 0]) [0,3] (jk 0 (jq (jq (jr [om 4 3,om 5 0,oo 6 (.lenStr (.s 5)),jB 7 .lss 4 6]) [0,3,7] (jC 7 .skip (.exit 0))) [0,3] (jq (.block 1 (jq (jr [om 10 0,om 11 3,oo 12 (.indexStr (.s 10) (.s 11)),oo 13 (.bin .lss false (.s 12) (.c (.int .u8 48))),om 14 13,jF 15 14 0,jF 16 14 3,oF 17 14 (.indexStr (.s 15) (.s 16)),oF 18 14 (.bin .gtr false (.s 17) (.c (.int .u8 57))),oo 19 (.pick (.s 14) (.c (.bool true)) (.s 18))]) [0,3,19] (jC 19 (jq (jr [jv 2 jf]) [2] .ret) .skip))) [0,3] (jr [om 8 3,jb 9 .add 8 1,om 3 9]))))) [0] (jq (jr [om 20 0,oo 21 (.lenStr (.s 20)),jb 22 .gtr 21 0,om 2 22]) [2] .ret))⟩
def tf109 : TFn := ⟨47,[.cell 4 true 5,.tmp 5],jq (jr [jo 2 59 0,oo 4 (.alloc 59 [(.int .i64 0),(.int .i64 0),(.int .i64 0),(.str []),(.str [])]),jv 5 jf]) [1,2,4] (jq (jq (jr [oL 7 5 2,jc 8 61 [.s 7],oo 9 (.un .not (.s 8)),om 10 9,jF 11 10 1,jy 12 10 .lss 11 0,oo 13 (.pick (.s 10) (.c (.bool true)) (.s 12)),om 14 13,jF 15 14 1,jy 16 14 .gtr 15 2,oo 17 (.pick (.s 14) (.c (.bool true)) (.s 16))]) [1,2,4,17] (jC 17 (jq (jr [oo 18 (.build [(.int .i64 0),(.int .i64 0),(.int .i64 0),(.str []),(.str [])] []),jS 5 4 18,jv 5 jf]) [4,5] .ret) .skip)) [1,2,4] (jq (jr [oo 6 (.alloc 59 [(.int .i64 0),(.int .i64 0),(.int .i64 0),(.str []),(.str [])])]) [1,2,4,6] (jq (jq (jr [om 19 1]) [2,4,6,19] (.block 0 (jq (jr [jb 29 .eql 19 0,om 28 29]) [2,4,6,19,28] (jC 28 (jr [oA 30 0 2,ol 31 1 30,jb 32 .add 31 1,oo 33 (.build [(.int .i64 0),(.int .i64 0),(.int .i64 0),(.str []),(.str [])] [(0,1,(.s 32))]),jS 5 6 33]) (jq (jr [jb 35 .eql 19 1,om 34 35]) [2,4,6,34] (jC 34 (jr [oA 36 0 2,ol 37 1 36,oA 38 1 2,ol 39 1 38,jb 40 .add 39 1,oo 41 (.build [(.int .i64 0),(.int .i64 0),(.int .i64 0),(.str []),(.str [])] [(0,1,(.s 37)),(1,1,(.s 40))]),jS 5 6 41]) (jr [oA 20 0 2,ol 21 1 20,oA 22 1 2,ol 23 1 22,oA 24 2 2,ol 25 1 24,jb 26 .add 25 1,oo 27 (.build [(.int .i64 0),(.int .i64 0),(.int .i64 0),(.str []),(.str [])] [(0,1,(.s 21)),(1,1,(.s 23)),(2,1,(.s 26))]),jS 5 6 27]))))))) [4,6] (jq (jq (jr [oL 42 5 6,jc 43 61 [.s 42],oo 44 (.un .not (.s 43))]) [4,6,44] (jC 44 (jq (jr [oo 45 (.build [(.int .i64 0),(.int .i64 0),(.int .i64 0),(.str []),(.str [])] []),jS 5 4 45,jv 5 jf]) [4,5] .ret) .skip)) [4,6] (jq (jr [oL 46 5 6,jS 5 4 46,oo 5 (.mov (.c (.bool true)))]) [4,5] .ret)))))⟩
def tf110 : TFn := ⟨24,[.tmp 4],jq (jr [jv 4 je]) [0,1] (jq (jq (jr [om 7 0,jc 8 102 [.s 7],oo 9 (.un .not (.s 8)),om 10 9,jF 11 10 1,oF 12 10 (.call 102 [.s 11]),oF 13 10 (.un .not (.s 12)),oo 14 (.pick (.s 10) (.c (.bool true)) (.s 13))]) [0,1,14] (jC 14 (jq (jr [jv 4 je]) [4] .ret) .skip)) [0,1] (jq (jr [om 16 0,oo 17 (.append 14 116 144 je (.s 16)),om 18 1,oo 19 (.append 14 116 144 (.s 17) (.s 18)),jc 20 125 [.s 19],om 15 20,oe 21 0 15,oe 22 1 15,om 5 21,om 6 22]) [5] (jq (jr [om 23 5,om 4 23]) [4] .ret)))⟩
def tf111 : TFn := ⟨42,[.tmp 2],jq (jr [jv 2 je]) [0] (jq (jq (jr [om 6 0,jc 7 102 [.s 6],oo 8 (.un .not (.s 7))]) [0,8] (jC 8 (jq (jr [jv 2 je]) [2] .ret) .skip)) [0] (jq (jr [jv 3 je]) [0,3] (jq (jr [om 9 0,jc 10 126 [.s 9],om 4 10]) [0,3,4] (jq (jq (jr [jw 5 0]) [0,3,4,5] (jk 0 (jq (jq (jr [om 11 5,jb 12 .add 11 1,om 13 4,jn 14 13,jB 15 .lss 12 14]) [0,3,4,5,15] (jC 15 .skip (.exit 0))) [0,3,4,5] (jq (.block 1 (jq (jR [om 18 0,om 19 4,om 20 5,jx 21 7 19 20,oL 22 7 21,om 23 4,om 24 5,jb 25 .add 24 1,jx 26 7 23 25,oL 27 7 26,jc 28 127 [.s 18,.s 22,.s 27],oo 29 (.un .not (.s 28))]) [0,3,4,5,29] (jC 29 (jR [om 30 3,om 31 4,om 32 5,jx 33 7 31 32,oL 34 7 33,om 35 4,om 36 5,jb 37 .add 36 1,jx 38 7 35 37,oL 39 7 38,jc 40 128 [.s 30,.s 34,.s 39],om 3 40]) .skip))) [0,3,4,5] (jr [om 16 5,jb 17 .add 16 1,om 5 17]))))) [3] (jq (jr [om 41 3,om 2 41]) [2] .ret)))))⟩
def tf112 : TFn := ⟨23,[.tmp 2],jq (jr [jo 1 113 0,jv 2 jf]) [1,900000] (jq (jr [oA 3 0 1,ol 4 1 3,jb 5 .neq 4 0,om 6 5,ja 7 6 6 1,jm 8 6 1 7,oF 9 6 (.un .not (.s 8)),jF 10 6 9,jA 11 10 1 1,jA 12 10 3 11,jl 13 10 1 12,oT 14 10 (.bin .eql false (.s 13) (.c (.str []))),oF 15 6 (.pick (.s 10) (.s 14) jf),jF 16 6 15,jA 17 16 1 1,jL 18 16 5 17,jL 19 16 5 900000,oT 20 16 (.eqs true [0,0,0,2,2] (.s 18) (.s 19)),oF 21 6 (.pick (.s 16) (.s 20) jf),oo 22 (.pick (.s 6) (.c (.bool true)) (.s 21)),om 2 22]) [2] .ret)⟩
def tf113 : TFn := ⟨32,[.tmp 2],jq (jr [jv 2 jf]) [0] (jq (jq (jr [om 5 0,jn 6 5,jw 7 0]) [0,5,6,7] (jk 0 (jq (jr [jB 8 .lss 7 6]) [0,5,6,7,8] (jq (jC 8 .skip (.exit 0)) [0,5,6,7] (jq (.block 1 (jq (jr [om 9 7,jx 10 14 5 7,oL 11 14 10,oo 4 (.alloc 116 [(.int .i64 0),(.int .i64 0),(.int .i64 0),(.int .i64 0),(.str []),(.str []),(.bool false),(.int .i64 0),(.int .i64 0),(.int .i64 0),(.int .i64 0),(.str []),(.str []),(.bool false)]),om 3 9,jS 14 4 11]) [0,3,4,5,6,7] (jq (jR [oL 12 14 4,jc 13 129 [.s 12],oo 14 (.un .not (.s 13)),om 15 14,jF 16 15 3,jy 17 15 .gtr 16 0,jF 18 15 17,jT 19 18 0,jT 20 18 3,jY 21 18 .sub 20 1,oT 22 18 (.indexAddr 14 (.s 19) (.s 21)),jA 23 18 7 22,jL 24 18 7 23,jA 25 18 0 4,jL 26 18 7 25,oT 27 18 (.call 130 [.s 24,.s 26]),jY 28 18 .geq 27 0,oF 29 15 (.pick (.s 18) (.s 28) jf),oo 30 (.pick (.s 15) (.c (.bool true)) (.s 29))]) [0,5,6,7,30] (jC 30 (jq (jr [jv 2 jf]) [2] .ret) .skip)))) [0,5,6,7] (jr [jb 31 .add 7 1,om 7 31])))))) [] (jq (jr [oo 2 (.mov (.c (.bool true)))]) [2] .ret))⟩
def tf114 : TFn := ⟨9,[.tmp 2],jq (jr [jv 2 jf]) [0] (jq (jr [om 3 0,jb 4 .geq 3 0,om 5 4,jT 6 5 0,jY 7 5 .leq 6 9999,jp 8 5 7,om 2 8]) [2] .ret)⟩
def tf115 : TFn := ⟨29,[.tmp 2],jq (jr [jv 2 jf]) [0] (jq (jq (jr [om 7 0,jc 8 116 [.s 7],oo 9 (.un .not (.s 8))]) [0,9] (jC 9 (jq (jr [jv 2 jf]) [2] .ret) .skip)) [0] (jq (jq (jr [om 10 0,jc 11 131 [.s 10,(.c (.int .u8 46))],jn 12 11,jw 13 0]) [11,12,13] (jk 0 (jq (jr [jB 14 .lss 13 12]) [11,12,13,14] (jq (jC 14 .skip (.exit 0)) [11,12,13] (jq (.block 1 (jq (jr [jx 15 1 11 13,ol 16 1 15,om 4 16]) [4,11,12,13] (jq (jr [om 18 4,jc 19 132 [.s 18],om 17 19,oe 20 0 17,oe 21 1 17,om 5 20,om 6 21]) [4,6,11,12,13] (jq (jr [om 22 4,jc 23 133 [.s 22],om 24 23,jT 25 24 6,oT 26 24 (.un .not (.s 25)),jp 27 24 26]) [11,12,13,27] (jC 27 (jq (jr [jv 2 jf]) [2] .ret) .skip))))) [11,12,13] (jr [jb 28 .add 13 1,om 13 28])))))) [] (jq (jr [oo 2 (.mov (.c (.bool true)))]) [2] .ret)))⟩
def tf116 : TFn := ⟨52,[.tmp 2],jq (jr [jv 2 jf]) [0] (.scope (jq (jr [om 9 0,jc 10 131 [.s 9,(.c (.int .u8 46))],om 3 10]) [3] (jq (jr [om 11 3,jn 12 11,jb 13 .leq 12 4,om 4 13]) [3,4] (.seq .skip [3,4] (jq (jq (jr [om 14 3,jn 15 14,jw 16 0]) [4,14,15,16] (jk 0 (jq (jr [jB 17 .lss 16 15]) [4,14,15,16,17] (jq (jC 17 .skip (.exit 0)) [4,14,15,16] (jq (.block 1 (jq (jr [jx 18 1 14 16,ol 19 1 18,om 6 19]) [4,6,14,15,16] (jq (jq (jr [om 20 6,oo 21 (.bin .eql false (.s 20) (.c (.str []))),om 22 21,jF 23 22 6,oF 24 22 (.lenStr (.s 23)),jy 25 22 .gtr 24 8,oo 26 (.pick (.s 22) (.c (.bool true)) (.s 25))]) [4,6,14,15,16,26] (jC 26 (jq (jr [jv 4 jf]) [4] (.exit 0)) .skip)) [4,6,14,15,16] (jq (jr [om 27 6,oo 28 (.range (.s 27))]) [4,14,15,16,28] (jk 2 (jq (jr [oo 29 (.next (.s 28)),oe 30 0 29]) [4,14,15,16,28,29,30] (jq (jC 30 .skip (.exit 2)) [4,14,15,16,28,29] (.block 3 (jq (jr [oe 31 2 29,om 8 31]) [4,8,14,15,16,28] (jq (jr [om 32 8,oo 33 (.bin .lss false (.s 32) (.c (.int .i32 97))),om 34 33,jF 35 34 8,oF 36 34 (.bin .gtr false (.s 35) (.c (.int .i32 122))),oo 37 (.pick (.s 34) (.c (.bool true)) (.s 36)),om 38 37,jT 39 38 8,oT 40 38 (.bin .lss false (.s 39) (.c (.int .i32 48))),jT 41 38 40,jF 42 41 8,oF 43 41 (.bin .gtr false (.s 42) (.c (.int .i32 57))),oT 44 38 (.pick (.s 41) (.c (.bool true)) (.s 43)),jp 45 38 44,om 46 45,jT 47 46 8,oT 48 46 (.bin .neq false (.s 47) (.c (.int .i32 45))),jp 49 46 48]) [4,14,15,16,28,49] (jC 49 (jq (jr [jv 4 jf]) [4] (.exit 0)) .skip))))))))))) [4,14,15,16] (jr [jb 50 .add 16 1,om 16 50])))))) [4] (jq (jr [om 51 4,om 2 51]) [2] .ret))))))⟩
def tf117 : TFn := ⟨24,[.tmp 4],jq (jr [jo 2 116 0,jo 3 59 1,jv 4 jf]) [2,3] (jq (jr [oL 5 14 2,jc 6 129 [.s 5],om 7 6,jL 8 7 5 3,oT 9 7 (.call 97 [.s 8]),jp 10 7 9,om 11 10,jA 12 11 0 2,jL 13 11 7 12,jL 14 11 5 3,oT 15 11 (.call 134 [.s 13,.s 14]),jp 16 11 15,om 17 16,jA 18 17 7 2,jL 19 17 7 18,jL 20 17 5 3,oT 21 17 (.call 134 [.s 19,.s 20]),oT 22 17 (.un .not (.s 21)),jp 23 17 22,om 4 23]) [4] .ret)⟩
def tf118 : TFn := ⟨24,[.tmp 4],jq (jr [jo 2 56 0,jo 3 56 1,jv 4 jf]) [2,3] (jq (jr [oA 5 0 2,ol 6 1 5,oA 7 0 3,ol 8 1 7,jB 9 .lss 6 8,om 10 9,ja 11 10 0 2,jm 12 10 1 11,ja 13 10 0 3,jm 14 10 1 13,oF 15 10 (.bin .eql false (.s 12) (.s 14)),jF 16 10 15,jA 17 16 1 2,jl 18 16 1 17,jA 19 16 1 3,jl 20 16 1 19,oT 21 16 (.bin .lss false (.s 18) (.s 20)),oF 22 10 (.pick (.s 16) (.s 21) jf),oo 23 (.pick (.s 10) (.c (.bool true)) (.s 22)),om 4 23]) [4] .ret)⟩
def tf119 : TFn := ⟨53,[.tmp 4],jq (jr [jo 2 63 0,jv 4 jf]) [1,2] (jq (jq (jr [oA 7 0 2,oL 8 5 7,jc 9 61 [.s 8],oo 10 (.un .not (.s 9)),om 11 10,ja 12 11 6 2,jm 13 11 1 12,oF 14 11 (.len (.s 13)),jy 15 11 .gtr 14 24,oo 16 (.pick (.s 11) (.c (.bool true)) (.s 15)),om 17 16,ja 18 17 7 2,jm 19 17 1 18,oF 20 17 (.len (.s 19)),jy 21 17 .gtr 20 24,oo 22 (.pick (.s 17) (.c (.bool true)) (.s 21))]) [1,2,22] (jC 22 (jq (jr [jv 4 jf]) [4] .ret) .skip)) [1,2] (jq (jq (jr [jw 5 0]) [1,2,5] (jk 0 (jq (jq (jr [om 23 5,oA 24 6 2,ol 25 1 24,jn 26 25,jB 27 .lss 23 26]) [1,2,5,27] (jC 27 .skip (.exit 0))) [1,2,5] (jq (.block 1 (jq (jr [oA 30 6 2,ol 31 1 30,om 32 5,jx 33 1 31 32,ol 34 1 33,om 35 1,jc 36 135 [.s 34,.s 35],oo 37 (.un .not (.s 36))]) [1,2,5,37] (jC 37 (jq (jr [jv 4 jf]) [4] .ret) .skip))) [1,2,5] (jr [om 28 5,jb 29 .add 28 1,om 5 29]))))) [1,2] (jq (jq (jr [jw 6 0]) [1,2,6] (jk 2 (jq (jq (jr [om 38 6,oA 39 7 2,ol 40 1 39,jn 41 40,jB 42 .lss 38 41]) [1,2,6,42] (jC 42 .skip (.exit 2))) [1,2,6] (jq (.block 3 (jq (jr [oA 45 7 2,ol 46 1 45,om 47 6,jx 48 3 46 47,oL 49 3 48,om 50 1,jc 51 136 [.s 49,.s 50],oo 52 (.un .not (.s 51))]) [1,2,6,52] (jC 52 (jq (jr [jv 4 jf]) [4] .ret) .skip))) [1,2,6] (jr [om 43 6,jb 44 .add 43 1,om 6 44]))))) [] (jq (jr [oo 4 (.mov (.c (.bool true)))]) [4] .ret))))⟩
def tf120 : TFn := ⟨45,[.tmp 4],jq (jr [jo 2 59 0,jo 3 59 1,jw 4 0]) [2,3] (jq (jq (jr [oL 8 5 2,jc 9 61 [.s 8],oo 10 (.un .not (.s 9)),om 11 10,jM 12 11 5 3,oF 13 11 (.call 61 [.s 12]),oF 14 11 (.un .not (.s 13)),oo 15 (.pick (.s 11) (.c (.bool true)) (.s 14))]) [2,3,15] (jC 15 (jq (jr [jw 4 0]) [4] .ret) .skip)) [2,3] (jq (jq (jr [oA 16 0 2,ol 17 1 16,oA 18 0 3,ol 19 1 18,jc 20 137 [.s 17,.s 19],om 5 20]) [2,3,5] (jq (jr [om 21 5,jb 22 .neq 21 0]) [2,3,5,22] (jC 22 (jq (jr [om 23 5,om 4 23]) [4] .ret) .skip))) [2,3] (jq (jq (jr [oA 24 1 2,ol 25 1 24,oA 26 1 3,ol 27 1 26,jc 28 137 [.s 25,.s 27],om 6 28]) [2,3,6] (jq (jr [om 29 6,jb 30 .neq 29 0]) [2,3,6,30] (jC 30 (jq (jr [om 31 6,om 4 31]) [4] .ret) .skip))) [2,3] (jq (jq (jr [oA 32 2 2,ol 33 1 32,oA 34 2 3,ol 35 1 34,jc 36 137 [.s 33,.s 35],om 7 36]) [2,3,7] (jq (jr [om 37 7,jb 38 .neq 37 0]) [2,3,7,38] (jC 38 (jq (jr [om 39 7,om 4 39]) [4] .ret) .skip))) [2,3] (jq (jr [oA 40 3 2,ol 41 1 40,oA 42 3 3,ol 43 1 42,jc 44 138 [.s 41,.s 43],om 4 44]) [4] .ret)))))⟩
def tf121 : TFn := ⟨19,[.tmp 2],jq (jr [jo 1 116 0,jv 2 jf]) [1] (jq (jr [oA 3 0 1,oL 4 7 3,jc 5 139 [.s 4],om 6 5,jA 7 6 7 1,jL 8 6 7 7,oT 9 6 (.call 139 [.s 8]),jp 10 6 9,om 11 10,jA 12 11 0 1,jL 13 11 7 12,jA 14 11 7 1,jL 15 11 7 14,oT 16 11 (.call 122 [.s 13,.s 15]),jY 17 11 .lss 16 0,jp 18 11 17,om 2 18]) [2] .ret)⟩
def tf122 : TFn := ⟨46,[.tmp 4],jq (jr [jo 2 113 0,jo 3 113 1,jw 4 0]) [2,3] (jq (jq (jr [oL 6 7 2,jc 7 139 [.s 6],oo 8 (.un .not (.s 7)),om 9 8,jM 10 9 7 3,oF 11 9 (.call 139 [.s 10]),oF 12 9 (.un .not (.s 11)),oo 13 (.pick (.s 9) (.c (.bool true)) (.s 12))]) [2,3,13] (jC 13 (jq (jr [jw 4 0]) [4] .ret) .skip)) [2,3] (jq (jq (jr [oA 14 0 2,ol 15 1 14,oA 16 0 3,ol 17 1 16,jB 18 .neq 15 17,om 19 18,ja 20 19 0 2,jm 21 19 1 20,jy 22 19 .neq 21 0,oo 23 (.pick (.s 19) (.c (.bool true)) (.s 22))]) [2,3,23] (jC 23 (jq (jr [oA 24 0 2,ol 25 1 24,oA 26 0 3,ol 27 1 26,jc 28 137 [.s 25,.s 27],om 4 28]) [4] .ret) .skip)) [2,3] (jq (jq (jr [oA 29 1 2,oL 30 5 29,oA 31 1 3,oL 32 5 31,jc 33 120 [.s 30,.s 32],om 5 33]) [2,3,5] (jq (jr [om 34 5,jb 35 .neq 34 0]) [2,3,5,35] (jC 35 (jq (jr [om 36 5,om 4 36]) [4] .ret) .skip))) [2,3] (jq (.block 0 (jq (jr [oA 38 6 2,ol 39 1 38,oA 40 6 3,ol 41 1 40,oo 42 (.bin .eql true (.s 39) (.s 41)),om 37 42]) [3,37] (jC 37 (jq (jr [jw 4 0]) [4] .ret) (jq (jr [oA 44 6 3,ol 45 1 44,om 43 45]) [43] (jC 43 (jq (jr [oo 4 (.mov (.c (.int .i64 (-1))))]) [4] .ret) .skip))))) [] (jq (jr [jw 4 1]) [4] .ret)))))⟩
def tf123 : TFn := ⟨35,[.tmp 4],jq (jr [jo 2 113 0,jo 3 59 1,jv 4 jf]) [2,3] (jq (jq (jr [oL 6 7 2,jc 7 139 [.s 6],oo 8 (.un .not (.s 7)),om 9 8,jM 10 9 5 3,oF 11 9 (.call 61 [.s 10]),oF 12 9 (.un .not (.s 11)),oo 13 (.pick (.s 9) (.c (.bool true)) (.s 12))]) [2,3,13] (jC 13 (jq (jr [jv 4 jf]) [4] .ret) .skip)) [2,3] (jq (jq (jr [oA 14 0 2,ol 15 1 14,jb 16 .neq 15 0]) [2,3,16] (jC 16 (jq (jr [oA 17 0 2,ol 18 1 17,jb 19 .lss 18 0,om 4 19]) [4] .ret) .skip)) [2,3] (jq (jr [oA 20 1 2,oL 21 5 20,oL 22 5 3,jc 23 120 [.s 21,.s 22],om 5 23]) [2,5] (jq (jr [om 24 5,jb 25 .lss 24 0,om 26 25,jF 27 26 5,jy 28 26 .eql 27 0,jF 29 26 28,jA 30 29 6 2,jl 31 29 1 30,oT 32 29 (.un .not (.s 31)),oF 33 26 (.pick (.s 29) (.s 32) jf),oo 34 (.pick (.s 26) (.c (.bool true)) (.s 33)),om 4 34]) [4] .ret))))⟩
def tf124 : TFn := ⟨9,[.tmp 2],jq (jr [jv 2 jf]) [0] (jq (jr [om 3 0,oo 4 (.bin .geq false (.s 3) (.c (.int .u8 48))),om 5 4,jT 6 5 0,oT 7 5 (.bin .leq false (.s 6) (.c (.int .u8 57))),jp 8 5 7,om 2 8]) [2] .ret)⟩
def tf125 : TFn := ⟨52,[.tmp 2,.tmp 3],jq (jr [jv 2 je,jv 3 jf]) [0] (jq (jq (jr [jw 4 0]) [0,4] (jk 0 (jq (jq (jr [om 8 4,om 9 0,jn 10 9,jB 11 .lss 8 10]) [0,4,11] (jC 11 .skip (.exit 0))) [0,4] (jq (.block 1 (jq (jr [om 14 0,om 15 4,jx 16 14 14 15,oL 17 14 16,jc 18 121 [.s 17],oo 19 (.un .not (.s 18))]) [0,4,19] (jC 19 (jq (jr [jv 2 je,jv 3 jf]) [2,3] .ret) .skip))) [0,4] (jr [om 12 4,jb 13 .add 12 1,om 4 13]))))) [0] (jq (jr [jv 5 je]) [0,5] (jq (jr [om 20 0,jc 21 126 [.s 20],om 6 21]) [0,5,6] (jq (jq (jr [jw 7 0]) [0,5,6,7] (jk 2 (jq (jq (jr [om 22 7,jb 23 .add 22 1,om 24 6,jn 25 24,jB 26 .lss 23 25]) [0,5,6,7,26] (jC 26 .skip (.exit 2))) [0,5,6,7] (jq (.block 3 (jq (jR [om 29 0,om 30 6,om 31 7,jx 32 7 30 31,oL 33 7 32,om 34 6,om 35 7,jb 36 .add 35 1,jx 37 7 34 36,oL 38 7 37,jc 39 127 [.s 29,.s 33,.s 38]]) [0,5,6,7,39] (jC 39 (jR [om 40 5,om 41 6,om 42 7,jx 43 7 41 42,oL 44 7 43,om 45 6,om 46 7,jb 47 .add 46 1,jx 48 7 45 47,oL 49 7 48,jc 50 128 [.s 40,.s 44,.s 49],om 5 50]) .skip))) [0,5,6,7] (jr [om 27 7,jb 28 .add 27 1,om 7 28]))))) [5] (jq (jr [om 51 5,om 2 51,oo 3 (.mov (.c (.bool true)))]) [2,3] .ret)))))⟩
def tf126 : TFn := ⟨28,[.tmp 2],jq (jr [jv 2 je]) [0] (jq (jr [jc 5 90 [],jc 6 92 [],oo 7 (.buildSlice 7 113 [.s 5,.s 6]),om 3 7]) [0,3] (jq (jq (jr [jw 4 0]) [0,3,4] (jk 0 (jq (jq (jr [om 8 4,om 9 0,jn 10 9,jB 11 .lss 8 10]) [0,3,4,11] (jC 11 .skip (.exit 0))) [0,3,4] (jq (.block 1 (jR [om 14 3,om 15 0,om 16 4,jx 17 14 15 16,oA 18 0 17,oL 19 7 18,jc 20 140 [.s 14,.s 19],om 21 0,om 22 4,jx 23 14 21 22,oA 24 7 23,oL 25 7 24,jc 26 140 [.s 20,.s 25],om 3 26])) [0,3,4] (jr [om 12 4,jb 13 .add 12 1,om 4 13]))))) [3] (jq (jr [om 27 3,om 2 27]) [2] .ret)))⟩
def tf127 : TFn := ⟨32,[.tmp 6],jq (jr [jo 4 113 1,jo 5 113 2,jv 6 jf]) [0,4,5] (jq (jq (jr [jw 7 0]) [0,4,5,7] (jk 0 (jq (jq (jr [om 8 7,om 9 0,jn 10 9,jB 11 .lss 8 10]) [0,4,5,7,11] (jC 11 .skip (.exit 0))) [0,4,5,7] (jq (.block 1 (jq (jR [om 14 0,om 15 7,jx 16 14 14 15,oA 17 0 16,oL 18 7 17,oL 19 7 4,jc 20 122 [.s 18,.s 19],jb 21 .leq 20 0,om 22 21,jL 23 22 7 5,jT 24 22 0,jT 25 22 7,oT 26 22 (.indexAddr 14 (.s 24) (.s 25)),jA 27 22 7 26,jL 28 22 7 27,oT 29 22 (.call 122 [.s 23,.s 28]),jY 30 22 .leq 29 0,jp 31 22 30]) [0,4,5,7,31] (jC 31 (jq (jr [oo 6 (.mov (.c (.bool true)))]) [6] .ret) .skip))) [0,4,5,7] (jr [om 12 7,jb 13 .add 12 1,om 7 13]))))) [] (jq (jr [jv 6 jf]) [6] .ret))⟩
def tf128 : TFn := ⟨35,[.tmp 6],jq (jr [jo 4 113 1,jo 5 113 2,jv 6 je]) [0,4,5] (jq (jq (jr [om 8 0,jn 9 8,jb 10 .sub 9 1,om 7 10]) [0,4,5,7] (jq (jR [om 11 7,jb 12 .geq 11 0,om 13 12,jT 14 13 0,jT 15 13 7,oT 16 13 (.indexAddr 14 (.s 14) (.s 15)),jA 17 13 7 16,jL 18 13 7 17,jL 19 13 7 4,oT 20 13 (.call 122 [.s 18,.s 19]),jY 21 13 .eql 20 0,jp 22 13 21]) [0,4,5,7,22] (jC 22 (jq (jr [om 23 0,om 24 7,oL 25 7 5,jx 26 14 23 24,oA 27 7 26,jS 7 27 25]) [0] (jq (jr [om 28 0,om 6 28]) [6] .ret)) .skip))) [0,4,5] (jq (jr [om 29 0,oL 30 7 4,oL 31 7 5,oo 32 (.build [(.int .i64 0),(.int .i64 0),(.int .i64 0),(.int .i64 0),(.str []),(.str []),(.bool false),(.int .i64 0),(.int .i64 0),(.int .i64 0),(.int .i64 0),(.str []),(.str []),(.bool false)] [(0,7,(.s 30)),(7,7,(.s 31))]),oo 33 (.buildSlice 14 116 [.s 32]),oo 34 (.append 14 116 144 (.s 29) (.s 33)),om 6 34]) [6] .ret))⟩
def tf129 : TFn := ⟨19,[.tmp 2],jq (jr [jo 1 116 0,jv 2 jf]) [1] (jq (jr [oA 3 0 1,oL 4 7 3,jc 5 141 [.s 4],om 6 5,jA 7 6 7 1,jL 8 6 7 7,oT 9 6 (.call 141 [.s 8]),jp 10 6 9,om 11 10,jA 12 11 0 1,jL 13 11 7 12,jA 14 11 7 1,jL 15 11 7 14,oT 16 11 (.call 130 [.s 13,.s 15]),jY 17 11 .lss 16 0,jp 18 11 17,om 2 18]) [2] .ret)⟩
def tf130 : TFn := ⟨42,[.tmp 4],jq (jr [jo 2 113 0,jo 3 113 1,jw 4 0]) [2,3] (jq (jq (jr [oL 6 7 2,jc 7 141 [.s 6],oo 8 (.un .not (.s 7)),om 9 8,jM 10 9 7 3,oF 11 9 (.call 141 [.s 10]),oF 12 9 (.un .not (.s 11)),oo 13 (.pick (.s 9) (.c (.bool true)) (.s 12))]) [2,3,13] (jC 13 (jq (jr [jw 4 0]) [4] .ret) (jq (jr [oA 14 0 2,ol 15 1 14,jb 16 .neq 15 0,om 17 16,ja 18 17 0 3,jm 19 17 1 18,jy 20 17 .neq 19 0,oo 21 (.pick (.s 17) (.c (.bool true)) (.s 20))]) [2,3,21] (jC 21 (jq (jr [oA 22 0 2,ol 23 1 22,oA 24 0 3,ol 25 1 24,jc 26 142 [.s 23,.s 25],om 4 26]) [4] .ret) (jq (jr [oA 27 1 2,oL 28 5 27,oA 29 1 3,oL 30 5 29,jc 31 143 [.s 28,.s 30],om 5 31]) [2,3,5] (jq (jr [om 32 5,jb 33 .neq 32 0]) [2,3,5,33] (jC 33 (jq (jr [om 34 5,om 4 34]) [4] .ret) (jq (jr [oA 35 6 2,ol 36 1 35,oA 37 6 3,ol 38 1 37,oo 39 (.bin .eql true (.s 36) (.s 38))]) [3,39] (jC 39 (jq (jr [jw 4 0]) [4] .ret) (jq (jr [oA 40 6 3,ol 41 1 40]) [41] (jC 41 (jq (jr [oo 4 (.mov (.c (.int .i64 (-1))))]) [4] .ret) .skip))))))))))) [] (jq (jr [jw 4 1]) [4] .ret))⟩
def tf131 : TFn := ⟨34,[.tmp 4],jq (jr [jv 4 je]) [0,1] (jq (jr [jv 5 je]) [0,1,5] (jq (jr [jw 6 0]) [0,1,5,6] (jq (jq (jr [om 8 0,oo 9 (.lenStr (.s 8)),jw 10 0]) [0,1,5,6,9,10] (jk 0 (jq (jr [jB 11 .lss 10 9]) [0,1,5,6,9,10,11] (jq (jC 11 .skip (.exit 0)) [0,1,5,6,9,10] (jq (.block 1 (jq (jr [om 12 10,om 7 12]) [0,1,5,6,7,9,10] (jq (jr [om 13 0,om 14 7,oo 15 (.indexStr (.s 13) (.s 14)),om 16 1,jB 17 .eql 15 16]) [0,1,5,6,7,9,10,17] (jC 17 (jq (jr [om 18 5,om 19 0,om 20 6,om 21 7,oo 22 (.sliceStr (.s 19) (some (.s 20)) (some (.s 21))),oo 23 (.buildSlice 1 9 [.s 22]),oo 24 (.append 1 9 16 (.s 18) (.s 23)),om 5 24]) [0,1,5,7,9,10] (jr [om 25 7,jb 26 .add 25 1,om 6 26])) .skip)))) [0,1,5,6,9,10] (jr [jb 27 .add 10 1,om 10 27])))))) [0,5,6] (jq (jr [om 28 5,om 29 0,om 30 6,oo 31 (.sliceStr (.s 29) (some (.s 30)) none),oo 32 (.buildSlice 1 9 [.s 31]),oo 33 (.append 1 9 16 (.s 28) (.s 32)),om 4 33]) [4] .ret))))⟩
def tf132 : TFn := ⟨45,[.tmp 2,.tmp 3],jq (jr [jw 2 0,jv 3 jf]) [0] (jq (jq (jr [om 7 0,oo 8 (.bin .eql false (.s 7) (.c (.str []))),om 9 8,jF 10 9 0,oF 11 9 (.lenStr (.s 10)),jy 12 9 .gtr 11 4,oo 13 (.pick (.s 9) (.c (.bool true)) (.s 12)),om 14 13,jF 15 14 0,oF 16 14 (.indexStr (.s 15) (jI 0)),oF 17 14 (.bin .eql false (.s 16) (.c (.int .u8 48))),jF 18 14 17,jT 19 18 0,oT 20 18 (.lenStr (.s 19)),jY 21 18 .gtr 20 1,oF 22 14 (.pick (.s 18) (.s 21) jf),oo 23 (.pick (.s 14) (.c (.bool true)) (.s 22))]) [0,23] (jC 23 (jq (jr [jw 2 0,jv 3 jf]) [2,3] .ret) .skip)) [0] (jq (jr [jw 4 0]) [0,4] (jq (jq (jr [om 24 0,oo 25 (.range (.s 24))]) [4,25] (jk 0 (jq (jr [oo 26 (.next (.s 25)),oe 27 0 26]) [4,25,26,27] (jq (jC 27 .skip (.exit 0)) [4,25,26] (.block 1 (jq (jr [oe 28 2 26,om 6 28]) [4,6,25] (.block 2 (jq (jr [om 30 6,oo 31 (.bin .geq false (.s 30) (.c (.int .i32 48))),om 32 31,jT 33 32 6,oT 34 32 (.bin .leq false (.s 33) (.c (.int .i32 57))),jp 35 32 34,om 29 35]) [4,6,25,29] (jC 29 (jr [om 36 4,oo 37 (.bin .mul false (jI 10) (.s 36)),om 38 6,oo 39 (.bin .sub false (.s 38) (.c (.int .i32 48))),oo 40 (.conv .i64 (.s 39)),jB 41 .add 37 40,om 4 41]) (jq (jr [jw 2 0,jv 3 jf]) [2,3] .ret)))))))))) [4] (jq (jr [om 42 4,om 43 4,jb 44 .leq 43 9999,om 2 42,om 3 44]) [2,3] .ret))))⟩
def tf133 : TFn := ⟨22,[.tmp 2],jq (jr [jv 2 jf]) [0] (jq (jq (jr [om 4 0,oo 5 (.lenStr (.s 4)),jw 6 0]) [0,5,6] (jk 0 (jq (jr [jB 7 .lss 6 5]) [0,5,6,7] (jq (jC 7 .skip (.exit 0)) [0,5,6] (jq (.block 1 (jq (jr [om 8 6,om 3 8]) [0,3,5,6] (jq (jr [om 9 0,om 10 3,oo 11 (.indexStr (.s 9) (.s 10)),oo 12 (.bin .lss false (.s 11) (.c (.int .u8 48))),om 13 12,jF 14 13 0,jF 15 13 3,oF 16 13 (.indexStr (.s 14) (.s 15)),oF 17 13 (.bin .gtr false (.s 16) (.c (.int .u8 57))),oo 18 (.pick (.s 13) (.c (.bool true)) (.s 17))]) [0,5,6,18] (jC 18 (jq (jr [jv 2 jf]) [2] .ret) .skip)))) [0,5,6] (jr [jb 19 .add 6 1,om 6 19])))))) [0] (jq (jr [om 20 0,oo 21 (.bin .neq false (.s 20) (.c (.str []))),om 2 21]) [2] .ret))⟩
def tf134 : TFn := ⟨35,[.tmp 4],jq (jr [jo 2 113 0,jo 3 59 1,jv 4 jf]) [2,3] (jq (jq (jr [oL 6 7 2,jc 7 141 [.s 6],oo 8 (.un .not (.s 7)),om 9 8,jM 10 9 5 3,oF 11 9 (.call 97 [.s 10]),oF 12 9 (.un .not (.s 11)),oo 13 (.pick (.s 9) (.c (.bool true)) (.s 12))]) [2,3,13] (jC 13 (jq (jr [jv 4 jf]) [4] .ret) (jq (jr [oA 14 0 2,ol 15 1 14,jb 16 .neq 15 0]) [2,3,16] (jC 16 (jq (jr [oA 17 0 2,ol 18 1 17,jb 19 .lss 18 0,om 4 19]) [4] .ret) .skip)))) [2,3] (jq (jr [oA 20 1 2,oL 21 5 20,oL 22 5 3,jc 23 143 [.s 21,.s 22],om 5 23]) [2,5] (jq (jr [om 24 5,jb 25 .lss 24 0,om 26 25,jF 27 26 5,jy 28 26 .eql 27 0,jF 29 26 28,jA 30 29 6 2,jl 31 29 1 30,oT 32 29 (.un .not (.s 31)),oF 33 26 (.pick (.s 29) (.s 32) jf),oo 34 (.pick (.s 26) (.c (.bool true)) (.s 33)),om 4 34]) [4] .ret)))⟩
def tf135 : TFn := ⟨27,[.tmp 4],jq (jr [jv 4 jf]) [0,1] (jq (jq (jr [jw 5 0]) [0,1,5] (jk 0 (jq (jq (jr [om 6 5,om 7 0,jn 8 7,jB 9 .lss 6 8]) [0,1,5,9] (jC 9 .skip (.exit 0))) [0,1,5] (jq (.block 1 (jq (jr [om 12 0,om 13 5,jx 14 3 12 13,oL 15 3 14,om 16 1,jc 17 136 [.s 15,.s 16],oo 18 (.un .not (.s 17))]) [0,1,5,18] (jC 18 (jq (jr [jv 4 jf]) [4] .ret) .skip))) [0,1,5] (jr [om 10 5,jb 11 .add 10 1,om 5 11]))))) [0] (jq (jr [om 19 0,jn 20 19,jb 21 .gtr 20 0,om 22 21,jT 23 22 0,oT 24 22 (.len (.s 23)),jY 25 22 .leq 24 24,jp 26 22 25,om 4 26]) [4] .ret))⟩
def tf136 : TFn := ⟨19,[.tmp 4],jq (jr [jo 2 68 0,jv 4 jf]) [1,2] (jq (jr [oA 5 0 2,ol 6 1 5,jb 7 .gtr 6 0,om 8 7,jA 9 8 0 2,jl 10 8 1 9,jT 11 8 1,oT 12 8 (.bin .lss false (.s 10) (.s 11)),jp 13 8 12,om 14 13,jA 15 14 1 2,jL 16 14 2 15,oT 17 14 (.call 83 [.s 16]),jp 18 14 17,om 4 18]) [4] .ret)⟩
def tf137 : TFn := ⟨13,[.tmp 4],jq (jr [jw 4 0]) [0,1] (jq (.block 0 (jq (jr [om 6 0,om 7 1,jB 8 .lss 6 7,om 5 8]) [0,1,5] (jC 5 (jq (jr [oo 4 (.mov (.c (.int .i64 (-1))))]) [4] .ret) (jq (jr [om 10 0,om 11 1,jB 12 .gtr 10 11,om 9 12]) [9] (jC 9 (jq (jr [jw 4 1]) [4] .ret) .skip))))) [] (jq (jr [jw 4 0]) [4] .ret))⟩
def tf138 : TFn := ⟨52,[.tmp 4],jq (jr [jw 4 0]) [0,1] (jq (.block 0 (jq (jr [om 10 0,om 11 1,jB 12 .eql 10 11,om 9 12]) [0,1,9] (jC 9 (jq (jr [jw 4 0]) [4] .ret) (jq (jr [om 14 0,oo 15 (.bin .eql false (.s 14) (.c (.str []))),om 13 15]) [0,1,13] (jC 13 (jq (jr [jw 4 1]) [4] .ret) (jq (jr [om 17 1,oo 18 (.bin .eql false (.s 17) (.c (.str []))),om 16 18]) [0,1,16] (jC 16 (jq (jr [oo 4 (.mov (.c (.int .i64 (-1))))]) [4] .ret) .skip))))))) [0,1] (jq (jr [om 19 0,jc 20 105 [.s 19,(.c (.int .u8 46))],om 21 1,jc 22 105 [.s 21,(.c (.int .u8 46))],om 5 20,om 6 22]) [5,6] (jq (jq (jr [jw 7 0]) [5,6,7] (jk 1 (jq (jq (jr [om 23 7,om 24 5,jn 25 24,jB 26 .lss 23 25,om 27 26,jT 28 27 7,jT 29 27 6,oT 30 27 (.len (.s 29)),oT 31 27 (.bin .lss false (.s 28) (.s 30)),jp 32 27 31]) [5,6,7,32] (jC 32 .skip (.exit 1))) [5,6,7] (jq (.block 2 (jq (jR [om 35 5,om 36 7,jx 37 1 35 36,ol 38 1 37,om 39 6,om 40 7,jx 41 1 39 40,ol 42 1 41,jc 43 144 [.s 38,.s 42],om 8 43]) [5,6,7,8] (jq (jr [om 44 8,jb 45 .neq 44 0]) [5,6,7,8,45] (jC 45 (jq (jr [om 46 8,om 4 46]) [4] .ret) .skip)))) [5,6,7] (jr [om 33 7,jb 34 .add 33 1,om 7 34]))))) [5,6] (jq (jr [om 47 5,jn 48 47,om 49 6,jn 50 49,jc 51 137 [.s 48,.s 50],om 4 51]) [4] .ret))))⟩
def tf139 : TFn := ⟨34,[.tmp 2],jq (jr [jo 1 113 0,jv 2 jf]) [1] (jq (jq (jr [oA 3 0 1,ol 4 1 3,jb 5 .eql 4 0]) [1,5] (jC 5 (jq (jr [oA 6 1 1,oL 7 5 6,jc 8 61 [.s 7],om 9 8,jA 10 9 1 1,jA 11 9 4 10,jl 12 9 1 11,oT 13 9 (.bin .eql false (.s 12) (.c (.str []))),jp 14 9 13,om 2 14]) [2] .ret) .skip)) [1] (jq (jr [oA 15 0 1,ol 16 1 15,oo 17 (.bin .eql false (.s 16) (.c (.int .i64 (-1)))),om 18 17,ja 19 18 0 1,jm 20 18 1 19,jy 21 18 .eql 20 1,oo 22 (.pick (.s 18) (.c (.bool true)) (.s 21)),om 23 22,jA 24 23 1 1,jL 25 23 5 24,oT 26 23 (.build [(.int .i64 0),(.int .i64 0),(.int .i64 0),(.str []),(.str [])] []),oT 27 23 (.eqs false [0,0,0,2,2] (.s 25) (.s 26)),jp 28 23 27,om 29 28,jA 30 29 6 1,jl 31 29 1 30,oT 32 29 (.un .not (.s 31)),jp 33 29 32,om 2 33]) [2] .ret))⟩
def tf140 : TFn := ⟨46,[.tmp 4],jq (jr [jo 3 113 1,jv 4 je]) [0,3] (jq (jr [jw 5 0]) [0,3,5] (jq (jk 0 (jq (jq (jR [om 6 5,om 7 0,jn 8 7,jB 9 .lss 6 8,om 10 9,jT 11 10 0,jT 12 10 5,oT 13 10 (.indexAddr 7 (.s 11) (.s 12)),jL 14 10 7 13,jL 15 10 7 3,oT 16 10 (.call 122 [.s 14,.s 15]),jY 17 10 .lss 16 0,jp 18 10 17]) [0,3,5,18] (jC 18 .skip (.exit 0))) [0,3,5] (.block 1 (jr [om 19 5,jb 20 .add 19 1,om 5 20])))) [0,3,5] (jq (jq (jR [om 21 5,om 22 0,jn 23 22,jB 24 .lss 21 23,om 25 24,jT 26 25 0,jT 27 25 5,oT 28 25 (.indexAddr 7 (.s 26) (.s 27)),jL 29 25 7 28,jL 30 25 7 3,oT 31 25 (.call 122 [.s 29,.s 30]),jY 32 25 .eql 31 0,jp 33 25 32]) [0,3,5,33] (jC 33 (jq (jr [om 34 0,om 4 34]) [4] .ret) .skip)) [0,3,5] (jq (jR [om 35 0,om 36 5,oo 37 (.slice 7 (.s 35) none (some (.s 36)) none),oo 38 (.append 7 113 72 je (.s 37)),oL 39 7 3,oo 40 (.buildSlice 7 113 [.s 39]),oo 41 (.append 7 113 72 (.s 38) (.s 40)),om 42 0,om 43 5,oo 44 (.slice 7 (.s 42) (some (.s 43)) none none),oo 45 (.append 7 113 72 (.s 41) (.s 44)),om 4 45]) [4] .ret))))⟩
def tf141 : TFn := ⟨32,[.tmp 2],jq (jr [jo 1 113 0,jv 2 jf]) [1] (jq (jq (jr [oA 3 0 1,ol 4 1 3,oo 5 (.bin .eql false (.s 4) (.c (.int .i64 (-1)))),om 6 5,ja 7 6 0 1,jm 8 6 1 7,jy 9 6 .eql 8 1,oo 10 (.pick (.s 6) (.c (.bool true)) (.s 9))]) [1,10] (jC 10 (jq (jr [oA 11 1 1,oL 12 5 11,oo 13 (.build [(.int .i64 0),(.int .i64 0),(.int .i64 0),(.str []),(.str [])] []),oo 14 (.eqs false [0,0,0,2,2] (.s 12) (.s 13)),om 15 14,jA 16 15 6 1,jl 17 15 1 16,oT 18 15 (.un .not (.s 17)),jp 19 15 18,om 2 19]) [2] .ret) (jq (jr [oA 20 0 1,ol 21 1 20,jb 22 .neq 21 0]) [1,22] (jC 22 (jq (jr [jv 2 jf]) [2] .ret) .skip)))) [1] (jq (jr [oA 23 1 1,oL 24 5 23,jc 25 97 [.s 24],om 26 25,jA 27 26 1 1,jA 28 26 4 27,jl 29 26 1 28,oT 30 26 (.bin .eql false (.s 29) (.c (.str []))),jp 31 26 30,om 2 31]) [2] .ret))⟩
def tf142 : TFn := ⟨20,[.tmp 4],jq (jr [jw 4 0]) [0,1] (jq (jr [om 7 0,jc 8 145 [.s 7],om 5 8]) [0,1,5] (jq (jr [om 9 1,jc 10 145 [.s 9],om 6 10]) [0,1,5,6] (jq (jq (jr [om 11 5]) [0,1,6,11] (jC 11 (jq (jq (jr [om 12 6]) [12] (jC 12 (jq (jr [jw 4 0]) [4] .ret) .skip)) [] (jq (jr [oo 4 (.mov (.c (.int .i64 (-1))))]) [4] .ret)) .skip)) [0,1,6] (jq (jq (jr [om 13 6]) [0,1,13] (jC 13 (jq (jr [jw 4 1]) [4] .ret) .skip)) [0,1] (jq (jq (jr [om 14 0,om 15 1,jB 16 .lss 14 15]) [0,1,16] (jC 16 (jq (jr [oo 4 (.mov (.c (.int .i64 (-1))))]) [4] .ret) .skip)) [0,1] (jq (jq (jr [om 17 0,om 18 1,jB 19 .gtr 17 18]) [19] (jC 19 (jq (jr [jw 4 1]) [4] .ret) .skip)) [] (jq (jr [jw 4 0]) [4] .ret)))))))⟩
def tf143 : TFn := ⟨86,[.tmp 4],jq (jr [jo 2 59 0,jo 3 59 1,jw 4 0]) [2,3] (jq (jq (jR [oL 10 5 2,jc 11 97 [.s 10],oo 12 (.un .not (.s 11)),om 13 12,jM 14 13 5 3,oF 15 13 (.call 97 [.s 14]),oF 16 13 (.un .not (.s 15)),oo 17 (.pick (.s 13) (.c (.bool true)) (.s 16)),om 18 17,jM 19 18 5 2,oF 20 18 (.call 146 [.s 19]),jM 21 18 5 3,oF 22 18 (.call 146 [.s 21]),oF 23 18 (.eqs false [0,0,0,2,2] (.s 20) (.s 22)),oo 24 (.pick (.s 18) (.c (.bool true)) (.s 23))]) [2,3,24] (jC 24 (jq (jr [jw 4 0]) [4] .ret) .skip)) [2,3] (jq (jq (jR [oA 25 0 2,ol 26 1 25,oA 27 0 3,ol 28 1 27,jc 29 142 [.s 26,.s 28],oA 30 1 2,ol 31 1 30,oA 32 1 3,ol 33 1 32,jc 34 142 [.s 31,.s 33],oA 35 2 2,ol 36 1 35,oA 37 2 3,ol 38 1 37,jc 39 142 [.s 36,.s 38],oo 40 (.buildSlice 1 3 [.s 29,.s 34,.s 39]),jc 41 147 [.s 40],om 5 41]) [2,3,5] (jq (jr [om 42 5,jb 43 .neq 42 0]) [2,3,5,43] (jC 43 (jq (jr [om 44 5,om 4 44]) [4] .ret) .skip))) [2,3] (jq (jq (jr [oA 45 3 2,ol 46 1 45,oo 47 (.bin .eql false (.s 46) (.c (.str [])))]) [2,3,47] (jC 47 (jq (jr [jw 4 1]) [4] .ret) .skip)) [2,3] (jq (jq (jr [oA 48 3 3,ol 49 1 48,oo 50 (.bin .eql false (.s 49) (.c (.str [])))]) [2,3,50] (jC 50 (jq (jr [oo 4 (.mov (.c (.int .i64 (-1))))]) [4] .ret) .skip)) [2,3] (jq (jR [oA 51 3 2,ol 52 1 51,jc 53 131 [.s 52,(.c (.int .u8 46))],oA 54 3 3,ol 55 1 54,jc 56 131 [.s 55,(.c (.int .u8 46))],om 6 53,om 7 56]) [6,7] (jq (jq (jr [jw 8 0]) [6,7,8] (jk 0 (jq (jq (jr [om 57 8,om 58 6,jn 59 58,jB 60 .lss 57 59,om 61 60,jT 62 61 8,jT 63 61 7,oT 64 61 (.len (.s 63)),oT 65 61 (.bin .lss false (.s 62) (.s 64)),jp 66 61 65]) [6,7,8,66] (jC 66 .skip (.exit 0))) [6,7,8] (jq (.block 1 (jq (jR [om 69 6,om 70 8,jx 71 1 69 70,ol 72 1 71,om 73 7,om 74 8,jx 75 1 73 74,ol 76 1 75,jc 77 148 [.s 72,.s 76],om 9 77]) [6,7,8,9] (jq (jr [om 78 9,jb 79 .neq 78 0]) [6,7,8,9,79] (jC 79 (jq (jr [om 80 9,om 4 80]) [4] .ret) .skip)))) [6,7,8] (jr [om 67 8,jb 68 .add 67 1,om 8 68]))))) [6,7] (jq (jr [om 81 6,jn 82 81,om 83 7,jn 84 83,jc 85 142 [.s 82,.s 84],om 4 85]) [4] .ret)))))))⟩
def tf144 : TFn := ⟨40,[.tmp 4],jq (jr [jw 4 0]) [0,1] (jq (jr [om 11 0,jc 12 108 [.s 11],om 13 1,jc 14 108 [.s 13],om 5 12,om 6 14]) [0,1,5,6] (jq (.block 0 (jq (jr [om 16 5,om 17 16,jT 18 17 6,jp 19 17 18,om 15 19]) [0,1,5,6,15] (jC 15 (jq (jr [om 21 0,jc 22 107 [.s 21],om 20 22,oe 23 0 20,oe 24 1 20,om 7 23,om 8 24]) [1,7] (jq (jr [om 26 1,jc 27 107 [.s 26],om 25 27,oe 28 0 25,oe 29 1 25,om 9 28,om 10 29]) [7,9] (jq (jr [om 30 7,om 31 9,jc 32 137 [.s 30,.s 31],om 4 32]) [4] .ret))) (jq (jr [om 34 5,om 33 34]) [0,1,6,33] (jC 33 (jq (jr [oo 4 (.mov (.c (.int .i64 (-1))))]) [4] .ret) (jq (jr [om 36 6,om 35 36]) [0,1,35] (jC 35 (jq (jr [jw 4 1]) [4] .ret) .skip))))))) [0,1] (jq (jr [om 37 0,om 38 1,jc 39 149 [.s 37,.s 38],om 4 39]) [4] .ret)))⟩
def tf145 : TFn := ⟨6,[.tmp 2],jq (jr [jv 2 jf]) [0] (jq (jr [om 3 0,om 4 0,jB 5 .neq 3 4,om 2 5]) [2] .ret)⟩
def tf146 : TFn := ⟨5,[.cell 2 true 5],jq (jr [jo 1 59 0,oo 2 (.alloc 59 [(.int .i64 0),(.int .i64 0),(.int .i64 0),(.str []),(.str [])])]) [1,2] (jq (jr [oA 3 4 1,⟨none,.store 1 (.s 3) (.c (.str [])),none⟩]) [1,2] (jq (jr [oL 4 5 1,jS 5 2 4]) [2] .ret))⟩
def tf147 : TFn := ⟨18,[.tmp 2],jq (jr [jw 2 0]) [0] (jq (jr [jw 3 0]) [0,3] (jq (jq (jr [om 6 0,jn 7 6,jw 8 0]) [3,6,7,8] (jk 0 (jq (jr [jB 9 .lss 8 7]) [3,6,7,8,9] (jq (jC 9 .skip (.exit 0)) [3,6,7,8] (jq (.block 1 (jq (jr [jx 10 1 6 8,ol 11 1 10,om 5 11]) [3,5,6,7,8] (jq (jr [om 12 5,om 13 3,jB 14 .neq 12 13]) [3,5,6,7,8,14] (jC 14 (jq (jr [om 15 5,om 2 15]) [2] .ret) .skip)))) [3,6,7,8] (jr [jb 16 .add 8 1,om 8 16])))))) [3] (jq (jr [om 17 3,om 2 17]) [2] .ret)))⟩
def tf148 : TFn := ⟨39,[.tmp 4],jq (jr [jw 4 0]) [0,1] (jq (jr [om 11 0,jc 12 133 [.s 11],om 13 1,jc 14 133 [.s 13],om 5 12,om 6 14]) [0,1,5,6] (jq (jq (jr [om 15 5,om 16 15,jT 17 16 6,jp 18 16 17]) [0,1,5,6,18] (jC 18 (jq (jr [om 20 0,jc 21 132 [.s 20],om 19 21,oe 22 0 19,oe 23 1 19,om 7 22,om 8 23]) [1,7] (jq (jr [om 25 1,jc 26 132 [.s 25],om 24 26,oe 27 0 24,oe 28 1 24,om 9 27,om 10 28]) [7,9] (jq (jr [om 29 7,om 30 9,jc 31 142 [.s 29,.s 30],om 4 31]) [4] .ret))) .skip)) [0,1,5,6] (jq (jq (jr [om 32 5,om 33 6,oo 34 (.bin .neq true (.s 32) (.s 33))]) [0,1,5,34] (jC 34 (jq (jq (jr [om 35 5]) [35] (jC 35 (jq (jr [oo 4 (.mov (.c (.int .i64 (-1))))]) [4] .ret) .skip)) [] (jq (jr [jw 4 1]) [4] .ret)) .skip)) [0,1] (jq (jr [om 36 0,om 37 1,jc 38 150 [.s 36,.s 37],om 4 38]) [4] .ret))))⟩
def tf149 : TFn := ⟨13,[.tmp 4],jq (jr [jw 4 0]) [0,1] (jq (.block 0 (jq (jr [om 6 0,om 7 1,jB 8 .lss 6 7,om 5 8]) [0,1,5] (jC 5 (jq (jr [oo 4 (.mov (.c (.int .i64 (-1))))]) [4] .ret) (jq (jr [om 10 0,om 11 1,jB 12 .gtr 10 11,om 9 12]) [9] (jC 9 (jq (jr [jw 4 1]) [4] .ret) .skip))))) [] (jq (jr [jw 4 0]) [4] .ret))⟩
def tf150 : TFn := ⟨20,[.tmp 4],jq (jr [jw 4 0]) [0,1] (jq (jr [om 7 0,jc 8 151 [.s 7],om 5 8]) [0,1,5] (jq (jr [om 9 1,jc 10 151 [.s 9],om 6 10]) [0,1,5,6] (jq (jq (jr [om 11 5]) [0,1,6,11] (jC 11 (jq (jq (jr [om 12 6]) [12] (jC 12 (jq (jr [jw 4 0]) [4] .ret) .skip)) [] (jq (jr [oo 4 (.mov (.c (.int .i64 (-1))))]) [4] .ret)) .skip)) [0,1,6] (jq (jq (jr [om 13 6]) [0,1,13] (jC 13 (jq (jr [jw 4 1]) [4] .ret) .skip)) [0,1] (jq (jq (jr [om 14 0,om 15 1,jB 16 .lss 14 15]) [0,1,16] (jC 16 (jq (jr [oo 4 (.mov (.c (.int .i64 (-1))))]) [4] .ret) .skip)) [0,1] (jq (jq (jr [om 17 0,om 18 1,jB 19 .gtr 17 18]) [19] (jC 19 (jq (jr [jw 4 1]) [4] .ret) .skip)) [] (jq (jr [jw 4 0]) [4] .ret)))))))⟩
def tf151 : TFn := ⟨6,[.tmp 2],jq (jr [jv 2 jf]) [0] (jq (jr [om 3 0,om 4 0,jB 5 .neq 3 4,om 2 5]) [2] .ret)⟩
theorem tp5 : QH Tryz.prog Tryz.f5 = some tf5.erase := by kernel_rfl
theorem tp8 : QH Tryz.prog Tryz.f8 = some tf8.erase := by kernel_rfl
theorem tp9 : QH Tryz.prog Tryz.f9 = some tf9.erase := by kernel_rfl
theorem Qhz : QH Tryz.prog Tryz.f10 = some tf10.erase := by kernel_rfl
theorem QhA : QH Tryz.prog Tryz.f12 = some tf12.erase := by kernel_rfl
theorem QhB : QH Tryz.prog Tryz.f13 = some tf13.erase := by kernel_rfl
theorem QhC : QH Tryz.prog Tryz.f14 = some tf14.erase := by kernel_rfl
theorem QhD : QH Tryz.prog Tryz.f15 = some tf15.erase := by kernel_rfl
theorem QhE : QH Tryz.prog Tryz.f18 = some tf18.erase := by kernel_rfl
theorem QhF : QH Tryz.prog Tryz.f20 = some tf20.erase := by kernel_rfl
theorem QhG : QH Tryz.prog Tryz.f25 = some tf25.erase := by kernel_rfl
theorem QhH : QH Tryz.prog Tryz.f27 = some tf27.erase := by kernel_rfl
theorem QhI : QH Tryz.prog Tryz.f29 = some tf29.erase := by kernel_rfl
theorem QhJ : QH Tryz.prog Tryz.f30 = some tf30.erase := by kernel_rfl
theorem QhK : QH Tryz.prog Tryz.f31 = some tf31.erase := by kernel_rfl
theorem QhL : QH Tryz.prog Tryz.f32 = some tf32.erase := by kernel_rfl
theorem QhM : QH Tryz.prog Tryz.f33 = some tf33.erase := by kernel_rfl
theorem QhN : QH Tryz.prog Tryz.f34 = some tf34.erase := by kernel_rfl
theorem QhO : QH Tryz.prog Tryz.f35 = some tf35.erase := by kernel_rfl
theorem QhP : QH Tryz.prog Tryz.f36 = some tf36.erase := by kernel_rfl
theorem QhQ : QH Tryz.prog Tryz.f37 = some tf37.erase := by kernel_rfl
theorem QhR : QH Tryz.prog Tryz.f38 = some tf38.erase := by kernel_rfl
theorem QhS : QH Tryz.prog Tryz.f39 = some tf39.erase := by kernel_rfl
theorem QhT : QH Tryz.prog Tryz.f41 = some tf41.erase := by kernel_rfl
theorem QhU : QH Tryz.prog Tryz.f42 = some tf42.erase := by kernel_rfl
theorem QhV : QH Tryz.prog Tryz.f43 = some tf43.erase := by kernel_rfl
theorem QhW : QH Tryz.prog Tryz.f44 = some tf44.erase := by kernel_rfl
theorem QhX : QH Tryz.prog Tryz.f45 = some tf45.erase := by kernel_rfl
theorem QhY : QH Tryz.prog Tryz.f47 = some tf47.erase := by kernel_rfl
theorem QhZ : QH Tryz.prog Tryz.f48 = some tf48.erase := by kernel_rfl
theorem Qh0 : QH Tryz.prog Tryz.f49 = some tf49.erase := by kernel_rfl
theorem Qh1 : QH Tryz.prog Tryz.f50 = some tf50.erase := by kernel_rfl
theorem Qh2 : QH Tryz.prog Tryz.f54 = some tf54.erase := by kernel_rfl
theorem Qh3 : QH Tryz.prog Tryz.f55 = some tf55.erase := by kernel_rfl
theorem Qh4 : QH Tryz.prog Tryz.f56 = some tf56.erase := by kernel_rfl
theorem Qh5 : QH Tryz.prog Tryz.f57 = some tf57.erase := by kernel_rfl
theorem Qh6 : QH Tryz.prog Tryz.f58 = some tf58.erase := by kernel_rfl
theorem Qh7 : QH Tryz.prog Tryz.f59 = some tf59.erase := by kernel_rfl
theorem Qh8 : QH Tryz.prog Tryz.f60 = some tf60.erase := by kernel_rfl
theorem Qh9 : QH Tryz.prog Tryz.f61 = some tf61.erase := by kernel_rfl
theorem Qia : QH Tryz.prog Tryz.f62 = some tf62.erase := by kernel_rfl
theorem Qib : QH Tryz.prog Tryz.f63 = some tf63.erase := by kernel_rfl
theorem Qic : QH Tryz.prog Tryz.f64 = some tf64.erase := by kernel_rfl
theorem Qid : QH Tryz.prog Tryz.f65 = some tf65.erase := by kernel_rfl
theorem Qie : QH Tryz.prog Tryz.f66 = some tf66.erase := by kernel_rfl
theorem Qif : QH Tryz.prog Tryz.f67 = some tf67.erase := by kernel_rfl
theorem Qig : QH Tryz.prog Tryz.f68 = some tf68.erase := by kernel_rfl
theorem Qih : QH Tryz.prog Tryz.f70 = some tf70.erase := by kernel_rfl
theorem Qii : QH Tryz.prog Tryz.f71 = some tf71.erase := by kernel_rfl
theorem Qij : QH Tryz.prog Tryz.f72 = some tf72.erase := by kernel_rfl
theorem Qik : QH Tryz.prog Tryz.f73 = some tf73.erase := by kernel_rfl
theorem Qil : QH Tryz.prog Tryz.f74 = some tf74.erase := by kernel_rfl
theorem Qim : QH Tryz.prog Tryz.f75 = some tf75.erase := by kernel_rfl
theorem Qin : QH Tryz.prog Tryz.f76 = some tf76.erase := by kernel_rfl
theorem Qio : QH Tryz.prog Tryz.f79 = some tf79.erase := by kernel_rfl
theorem Qip : QH Tryz.prog Tryz.f81 = some tf81.erase := by kernel_rfl
theorem Qiq : QH Tryz.prog Tryz.f82 = some tf82.erase := by kernel_rfl
theorem Qir : QH Tryz.prog Tryz.f83 = some tf83.erase := by kernel_rfl
theorem Qis : QH Tryz.prog Tryz.f84 = some tf84.erase := by kernel_rfl
theorem Qit : QH Tryz.prog Tryz.f85 = some tf85.erase := by kernel_rfl
theorem Qiu : QH Tryz.prog Tryz.f86 = some tf86.erase := by kernel_rfl
theorem Qiv : QH Tryz.prog Tryz.f87 = some tf87.erase := by kernel_rfl
theorem Qiw : QH Tryz.prog Tryz.f88 = some tf88.erase := by kernel_rfl
theorem Qix : QH Tryz.prog Tryz.f89 = some tf89.erase := by kernel_rfl
theorem Qiy : QH Tryz.prog Tryz.f90 = some tf90.erase := by kernel_rfl
theorem Qiz : QH Tryz.prog Tryz.f91 = some tf91.erase := by kernel_rfl
theorem QiA : QH Tryz.prog Tryz.f92 = some tf92.erase := by kernel_rfl
theorem QiB : QH Tryz.prog Tryz.f93 = some tf93.erase := by kernel_rfl
theorem QiC : QH Tryz.prog Tryz.f94 = some tf94.erase := by kernel_rfl
theorem QiD : QH Tryz.prog Tryz.f95 = some tf95.erase := by kernel_rfl
theorem QiE : QH Tryz.prog Tryz.f96 = some tf96.erase := by kernel_rfl
theorem QiF : QH Tryz.prog Tryz.f97 = some tf97.erase := by kernel_rfl
theorem QiG : QH Tryz.prog Tryz.f98 = some tf98.erase := by kernel_rfl
theorem QiH : QH Tryz.prog Tryz.f99 = some tf99.erase := by kernel_rfl
theorem Qgp : QH Tryz.prog Tryz.f100 = some tf100.erase := by kernel_rfl
theorem Qgq : QH Tryz.prog Tryz.f101 = some tf101.erase := by kernel_rfl
theorem Qgr : QH Tryz.prog Tryz.f102 = some tf102.erase := by kernel_rfl
theorem Qgs : QH Tryz.prog Tryz.f103 = some tf103.erase := by kernel_rfl
theorem Qgt : QH Tryz.prog Tryz.f104 = some tf104.erase := by kernel_rfl
theorem Qgu : QH Tryz.prog Tryz.f105 = some tf105.erase := by kernel_rfl
theorem Qgv : QH Tryz.prog Tryz.f106 = some tf106.erase := by kernel_rfl
theorem Qgw : QH Tryz.prog Tryz.f107 = some tf107.erase := by kernel_rfl
theorem Qgx : QH Tryz.prog Tryz.f108 = some tf108.erase := by kernel_rfl
theorem Qgy : QH Tryz.prog Tryz.f109 = some tf109.erase := by kernel_rfl
theorem Qgz : QH Tryz.prog Tryz.f110 = some tf110.erase := by kernel_rfl
theorem QgA : QH Tryz.prog Tryz.f111 = some tf111.erase := by kernel_rfl
theorem QgB : QH Tryz.prog Tryz.f112 = some tf112.erase := by kernel_rfl
theorem QgC : QH Tryz.prog Tryz.f113 = some tf113.erase := by kernel_rfl
theorem QgD : QH Tryz.prog Tryz.f114 = some tf114.erase := by kernel_rfl
theorem QgE : QH Tryz.prog Tryz.f115 = some tf115.erase := by kernel_rfl
theorem QgF : QH Tryz.prog Tryz.f116 = some tf116.erase := by kernel_rfl
theorem QgG : QH Tryz.prog Tryz.f117 = some tf117.erase := by kernel_rfl
theorem QgH : QH Tryz.prog Tryz.f118 = some tf118.erase := by kernel_rfl
theorem QgI : QH Tryz.prog Tryz.f119 = some tf119.erase := by kernel_rfl
theorem QgJ : QH Tryz.prog Tryz.f120 = some tf120.erase := by kernel_rfl
theorem QgK : QH Tryz.prog Tryz.f121 = some tf121.erase := by kernel_rfl
theorem QgL : QH Tryz.prog Tryz.f122 = some tf122.erase := by kernel_rfl
theorem QgM : QH Tryz.prog Tryz.f123 = some tf123.erase := by kernel_rfl
theorem QgN : QH Tryz.prog Tryz.f124 = some tf124.erase := by kernel_rfl
theorem QgO : QH Tryz.prog Tryz.f125 = some tf125.erase := by kernel_rfl
theorem QgP : QH Tryz.prog Tryz.f126 = some tf126.erase := by kernel_rfl
theorem QgQ : QH Tryz.prog Tryz.f127 = some tf127.erase := by kernel_rfl
theorem QgR : QH Tryz.prog Tryz.f128 = some tf128.erase := by kernel_rfl
theorem QgS : QH Tryz.prog Tryz.f129 = some tf129.erase := by kernel_rfl
theorem QgT : QH Tryz.prog Tryz.f130 = some tf130.erase := by kernel_rfl
theorem QgU : QH Tryz.prog Tryz.f131 = some tf131.erase := by kernel_rfl
theorem QgV : QH Tryz.prog Tryz.f132 = some tf132.erase := by kernel_rfl
theorem QgW : QH Tryz.prog Tryz.f133 = some tf133.erase := by kernel_rfl
theorem QgX : QH Tryz.prog Tryz.f134 = some tf134.erase := by kernel_rfl
theorem QgY : QH Tryz.prog Tryz.f135 = some tf135.erase := by kernel_rfl
theorem QgZ : QH Tryz.prog Tryz.f136 = some tf136.erase := by kernel_rfl
theorem Qg0 : QH Tryz.prog Tryz.f137 = some tf137.erase := by kernel_rfl
theorem Qg1 : QH Tryz.prog Tryz.f138 = some tf138.erase := by kernel_rfl
theorem Qg2 : QH Tryz.prog Tryz.f139 = some tf139.erase := by kernel_rfl
theorem Qg3 : QH Tryz.prog Tryz.f140 = some tf140.erase := by kernel_rfl
theorem Qg4 : QH Tryz.prog Tryz.f141 = some tf141.erase := by kernel_rfl
theorem Qg5 : QH Tryz.prog Tryz.f142 = some tf142.erase := by kernel_rfl
theorem Qg6 : QH Tryz.prog Tryz.f143 = some tf143.erase := by kernel_rfl
theorem Qg7 : QH Tryz.prog Tryz.f144 = some tf144.erase := by kernel_rfl
theorem Qg8 : QH Tryz.prog Tryz.f145 = some tf145.erase := by kernel_rfl
theorem Qg9 : QH Tryz.prog Tryz.f146 = some tf146.erase := by kernel_rfl
theorem Qha : QH Tryz.prog Tryz.f147 = some tf147.erase := by kernel_rfl
theorem Qhb : QH Tryz.prog Tryz.f148 = some tf148.erase := by kernel_rfl
theorem Qhc : QH Tryz.prog Tryz.f149 = some tf149.erase := by kernel_rfl
theorem Qhd : QH Tryz.prog Tryz.f150 = some tf150.erase := by kernel_rfl
theorem Qhe : QH Tryz.prog Tryz.f151 = some tf151.erase := by kernel_rfl
theorem ZL : Tryz.prog.follows .mixedOrders = true := by kernel_rfl
end Go.Proofs
namespace M3
open Go Go.Abs
def Pw (n : Int) : Bool := decide (0 <= n) && decide (n <= 9999)
def ZU (m n : Int) : Int := if m < n then -1 else if n < m then 1 else 0
def Xm (c : UInt8) : Bool := decide (48 <= c.toNat) && decide (c.toNat <= 57)
def Xe (s : List UInt8) : Bool := s.all Xm && !decide (s = [])
theorem Gn {s : List UInt8} {i : Nat} (h : i < s.length) (hd : Xm s[i] = false) : Xe s = false := by
 have : s.all Xm = false := by
  rw [Bool.eq_false_iff]
  intro ha
  rw [QiW] at ha
  rw [ha _ (QiR h)] at hd
  cases hd
 rw [Xe, this]; rfl
theorem M0 {s : List UInt8} {i : Nat} (hi : s.length <= i) (h : (s.take i).all Xm = true) : Xe s = !decide (s = []) := by
 rw [Qi2 hi] at h
 rw [Xe, h]; rfl
def MW (v n : Int) : Int := if v.tmod n < 0 then v.tmod n + n else v.tmod n
def QS (l : List Int) : D := .sl (l.map fun x => [.int .i64 x])
theorem QbX {v n : Int} (h : 0 < n) : 0 <= MW v n := by
 unfold MW
 have h1 := Int.tmod_lt_of_pos v h
 have h2 := Int.lt_tmod_of_pos v h
 split <;> omega
theorem QbW {v n : Int} (h : 0 < n) : MW v n < n := by
 unfold MW
 have h1 := Int.tmod_lt_of_pos v h
 split <;> omega
end M3
namespace M3
open Go Go.Abs
def Kq (c : Int) : List UInt8 -> List UInt8 -> List (List UInt8)
 | [], cur => [cur]
 | x :: xs, cur => if (x.toNat : Int) = c then cur :: Kq c xs [] else Kq c xs (cur ++ [x])
def Za (s : List UInt8) (c : Int) : List (List UInt8) := Kq c s []
def YU (l : List (List UInt8)) : List (List D) := l.map fun x => [.str x]
def SplitI (s : List UInt8) (c : Int) (i k : Nat) (acc : List (List UInt8)) : Prop :=
 i <= s.length /\ k <= i /\ acc.length <= i /\ Za s c = acc ++ Kq c (s.drop i) ((s.take i).drop k)
theorem SplitI.zero {s : List UInt8} {c : Int} : SplitI s c 0 0 [] := ⟨QiY _, Nat.le_refl _, Nat.le_refl _, by simp [Za]⟩
theorem SplitI.hit {s : List UInt8} {c : Int} {i k : Nat} {acc : List (List UInt8)} (h : SplitI s c i k acc) (hi : i < s.length) (he : ((s[i]).toNat : Int) = c) : SplitI s c (i + 1) (i + 1) (acc ++ [(s.take i).drop k]) := by
 obtain ⟨h1, h2, h3, h4⟩ := h
 refine ⟨hi, Nat.le_refl _, by simp; omega, ?_⟩
 rw [Qi3 hi] at h4
 simp only [Kq, he, if_true] at h4
 rw [h4, List.append_assoc]
 simp
theorem SplitI.miss {s : List UInt8} {c : Int} {i k : Nat} {acc : List (List UInt8)} (h : SplitI s c i k acc) (hi : i < s.length) (he : ¬ ((s[i]).toNat : Int) = c) : SplitI s c (i + 1) k acc := by
 obtain ⟨h1, h2, h3, h4⟩ := h
 refine ⟨hi, Wa, Wa, ?_⟩
 rw [Qi3 hi] at h4
 simp only [Kq, he, if_false] at h4
 rw [h4, List.take_succ_eq_append_getElem hi, List.drop_append_of_le_length Wf]
theorem SplitI.done {s : List UInt8} {c : Int} {i k : Nat} {acc : List (List UInt8)} (h : SplitI s c i k acc) (hi : s.length <= i) : Za s c = acc ++ [s.drop k] := by
 obtain ⟨h1, h2, h3, h4⟩ := h
 rw [h4, Qi7 hi, Qi2 hi]
 rfl
end M3
namespace M3
open Go Go.Abs
def Hc (a b : List UInt8) : Int := if Op.bytesLess a b = true then -1 else if a = b then 0 else 1
def XP (c : Int) : Bool := decide (48 <= c) && decide (c <= 57)
def Yy (c : UInt8) : Bool := (decide (97 <= c.toNat) && decide (c.toNat <= 122)) || (decide (48 <= c.toNat) && decide (c.toNat <= 57)) || decide (c.toNat = 45)
def Pm (s : List UInt8) : Bool := decide (1 <= s.length) && decide (s.length <= 8) && s.all Yy
def val (s : List UInt8) : Nat := s.foldl (fun n c => 10 * n + (c.toNat - 48)) 0
def Yk (s : List UInt8) : Int × Bool :=
 if s.length < 1 \/ 9 < s.length \/ (1 < s.length /\ s.head? = some 48) \/ s.all Xm = false \/ 9999 < val s then (0, false) else ((val s : Int), true)
def TD (a b : List UInt8) : Int :=
 if Xe a = true /\ Xe b = true then ZU (Yk a).1 (Yk b).1
 else if Xe a = true then -1 else if Xe b = true then 1 else Hc a b
def Dt : List (List UInt8) -> List (List UInt8) -> Int
 | [], [] => 0
 | [], _ :: _ => -1
 | _ :: _, [] => 1
 | a :: l, b :: m => if TD a b ≠ 0 then TD a b else Dt l m
def NM (a b : List UInt8) : Int := if a = b then 0 else if a = [] then 1 else if b = [] then -1 else Dt (Za a 46) (Za b 46)
def Nn (pre : Bool) (t : List UInt8) : Bool := Pm t && !(pre && Xe t && !(Yk t).2)
def Nf (s : List UInt8) (pre : Bool) : Bool := decide (s = []) || (decide ((Za s 46).length <= 4) && (Za s 46).all (Nn pre))
def Ks (a b c : Int) (p q : List UInt8) : Bool := Pw a && Pw b && Pw c && Nf p true && Nf q false
def Nd (a b c : Int) (p q : List UInt8) (a' b' c' : Int) (p' q' : List UInt8) : Int :=
 if Ks a b c p q = false \/ Ks a' b' c' p' q' = false then 0
 else if ZU a a' ≠ 0 then ZU a a' else if ZU b b' ≠ 0 then ZU b b' else if ZU c c' ≠ 0 then ZU c c' else NM p p'
theorem X2 {α : Type} {s : List α} {p : α -> Bool} {i : Nat} (h : i < s.length) (hd : p s[i] = false) : s.all p = false := by
 rw [Bool.eq_false_iff]
 intro ha
 rw [QiW] at ha
 rw [ha _ (QiR h)] at hd
 cases hd
theorem Ke {α : Type} {s : List α} {p : α -> Bool} {i : Nat} (hi : s.length <= i) (h : (s.take i).all p = true) : s.all p = true := by rwa [Qi2 hi] at h
theorem DY {s : List UInt8} {i : Nat} (h : i < s.length) : val (s.take (i + 1)) = 10 * val (s.take i) + (s[i].toNat - 48) := by
 rw [List.take_succ_eq_append_getElem h]; simp only [val, List.foldl_append, List.foldl_cons, List.foldl_nil]
theorem QaI : ∀ {s : List UInt8}, s.all Xm = true -> val s < 10 ^ s.length := by
 intro s
 rw [<- List.reverse_reverse s]
 generalize s.reverse = r
 induction r with
 | nil => intro _; decide
 | cons c r ih =>
  intro h
  rw [List.reverse_cons, List.all_append, QiQ] at h
  have h1 := ih h.1
  have h2 : Xm c = true := by simpa using h.2
  simp only [Xm, QiQ, decide_eq_true_eq] at h2
  rw [List.reverse_cons]
  simp only [val, List.foldl_append, List.foldl_cons, List.foldl_nil, List.length_append, List.length_cons, List.length_nil] at h1 ⊢
  rw [Nat.pow_succ]
  omega
theorem S5 {l m : List (List UInt8)} {i : Nat} (h1 : i < l.length) (h2 : i < m.length) (h : TD l[i] m[i] = 0) : Dt (l.drop i) (m.drop i) = Dt (l.drop (i + 1)) (m.drop (i + 1)) := by
 rw [Qi3 h1, Qi3 h2]
 simp [Dt, h]
theorem Du {l m : List (List UInt8)} {i : Nat} (h1 : i < l.length) (h2 : i < m.length) (h : TD l[i] m[i] ≠ 0) : Dt (l.drop i) (m.drop i) = TD l[i] m[i] := by
 rw [Qi3 h1, Qi3 h2]
 simp [Dt, h]
theorem NX {l m : List (List UInt8)} {i : Nat} (hl : i <= l.length) (hm : i <= m.length) (h : l.length <= i \/ m.length <= i) : Dt (l.drop i) (m.drop i) = ZU l.length m.length := by
 rcases Qja i l.length with h1 | h1 <;> rcases Qja i m.length with h2 | h2
 ·omega
 ·rw [Qi3 h1, Qi7 h2]
  simp only [Dt, ZU]
  rw [if_neg Wa, if_pos Wa]
 ·rw [Qi3 h2, Qi7 h1]
  simp only [Dt, ZU]
  rw [if_pos Wa]
 ·rw [Qi7 h1, Qi7 h2]
  simp only [Dt, ZU]
  rw [if_neg Wa, if_neg Wa]
end M3
namespace M3
end M3
namespace M3
theorem Qe9 {s : List UInt8} (h : 0 < s.length) (e : ((s[0]).toNat : Int) = 48) : s.head? = some 48 := by
 cases s with
 | nil => simp at h
 | cons x r =>
  simp only [List.getElem_cons_zero] at e
  have : x = 48 := UInt8.toNat_inj.1 (by simpa using (by omega : x.toNat = 48))
  simp [this]
theorem RD {s : List UInt8} (h : 0 < s.length) (e : ¬ ((s[0]).toNat : Int) = 48) : s.head? ≠ some 48 := by
 cases s with
 | nil => simp at h
 | cons x r =>
  simp only [List.getElem_cons_zero] at e
  intro hh
  simp at hh
  subst hh
  exact e rfl
theorem QcJ {s : List UInt8} {i : Nat} (h : ¬ (s.length < 1 \/ 9 < s.length \/ (1 < s.length /\ s.head? = some 48))) (hi : s.length <= i) (ha : (s.take i).all Xm = true) (hv : val (s.take i) <= 9999) : Yk s = ((val (s.take i) : Int), true) := by
 have h1 := Ke hi ha
 rw [Qi2 hi] at hv ⊢
 rw [Yk, if_neg]
 rintro (q | q | q | q | q)
 ·exact h (.inl q)
 ·exact h (.inr (.inl q))
 ·exact h (.inr (.inr q))
 ·rw [h1] at q; cases q
 ·omega
theorem QdM {s : List UInt8} {i : Nat} (hi : s.length <= i) (hv : 9999 < val (s.take i)) : Yk s = (0, false) := by
 rw [Qi2 hi] at hv
 rw [Yk, if_pos (.inr (.inr (.inr (.inr hv))))]
theorem RQ {s : List UInt8} {i : Nat} (h : i < s.length) (hd : Xm s[i] = false) : Yk s = (0, false) := by
 rw [Yk, if_pos (.inr (.inr (.inr (.inl (X2 h hd)))))]
theorem B7 {s : List UInt8} (h : s.length < 1 \/ 9 < s.length) : Yk s = (0, false) := by
 rw [Yk, if_pos (by rcases h with h | h; exact .inl h; exact .inr (.inl h))]
theorem Dz {s : List UInt8} (h : 1 < s.length) (e : ((s[0]).toNat : Int) = 48) : Yk s = (0, false) := by
 rw [Yk, if_pos (.inr (.inr (.inl ⟨h, Qe9 Wa e⟩)))]
end M3
namespace M3
open Go Go.Abs
theorem Qy (l : List (List UInt8)) : (YU l).length = l.length := by simp [YU]
theorem Jg {l : List (List UInt8)} {i : Nat} (h : i < l.length) : (YU l)[((i : Nat) : Int).toNat]? = some [.str l[i]] := by simp [YU, h]
theorem K5 {c : Int} : ∀ (s cur : List UInt8), (Kq c s cur).length <= s.length + 1 /\ ∀ x ∈ Kq c s cur, x.length <= s.length + cur.length
 | [], cur => by simp [Kq]
 | x :: xs, cur => by
  simp only [Kq]
  split
  ·obtain ⟨h1, h2⟩ := K5 (c := c) xs []
   refine ⟨by simp; omega, fun y hy => ?_⟩
   rcases QiO.1 hy with rfl | hy
   ·simp <;> omega
   ·have := h2 y hy; simp at this ⊢; omega
  ·obtain ⟨h1, h2⟩ := K5 (c := c) xs (cur ++ [x])
   refine ⟨by simp; omega, fun y hy => ?_⟩
   have := h2 y hy; simp at this ⊢; omega
theorem FW {s : List UInt8} {c : Int} : (Za s c).length <= s.length + 1 := (K5 s []).1
theorem Ji {s : List UInt8} {c : Int} {i : Nat} (h : i < (Za s c).length) (hl : s.length <= 1000000) : ((Za s c)[i]).length <= 1000000 := by
 have := (K5 (c := c) s []).2 _ (QiR h)
 simp only [List.length_nil, Nat.add_zero] at this
 exact Qi5 this hl
end M3
namespace M3
open Go Go.Abs
theorem Dv {s : List UInt8} {pre : Bool} {i : Nat} (hs : s ≠ []) (h : i < (Za s 46).length) (hd : Nn pre (Za s 46)[i] = false) : Nf s pre = false := by
 rw [Nf, X2 h hd]; simp [hs]
theorem BY {s : List UInt8} {pre : Bool} {i : Nat} (h4 : (Za s 46).length <= 4) (hi : (Za s 46).length <= i) (h : ((Za s 46).take i).all (Nn pre) = true) : Nf s pre = true := by
 rw [Nf, Ke hi h]; simp [h4]
def Ys : List Int -> Int
 | [] => 0
 | x :: r => if x ≠ 0 then x else Ys r
theorem T9 {l : List Int} {i : Nat} (h : i < l.length) (e : ¬ l[i] = 0) : Ys (l.drop i) = l[i] := by
 rw [Qi3 h]; simp [Ys, e]
theorem SL {l : List Int} {i : Nat} (h : i < l.length) (e : l[i] = 0) : Ys (l.drop i) = Ys (l.drop (i + 1)) := by
 rw [Qi3 h]; simp [Ys, e]
end M3
namespace M3
open Go Go.Abs
structure Cu where
 e : Int
 a : Int
 b : Int
 c : Int
 p : List UInt8
 q : List UInt8
 f : Bool
def XY (e a b c : Int) (p q : List UInt8) (f : Bool) : Bool :=
 if e = 0 then Ks a b c p q && decide (q = [])
 else (decide (e = -1) || decide (e = 1)) && (decide (a = 0) && (decide (b = 0) && (decide (c = 0) && (decide (p = []) && (decide (q = []) && true))))) && !f
def Km (e a b c : Int) (p q : List UInt8) (f : Bool) (e' a' b' c' : Int) (p' q' : List UInt8) (f' : Bool) : Int :=
 if XY e a b c p q f = false \/ XY e' a' b' c' p' q' f' = false then 0
 else if e ≠ e' \/ e ≠ 0 then ZU e e'
 else if Nd a b c p q a' b' c' p' q' ≠ 0 then Nd a b c p q a' b' c' p' q'
 else if f = f' then 0 else if f' = true then -1 else 1
def Jc (e a b c : Int) (p q : List UInt8) (f : Bool) (a' b' c' : Int) (p' q' : List UInt8) : Bool :=
 if XY e a b c p q f = false \/ Ks a' b' c' p' q' = false then false
 else if e ≠ 0 then decide (e < 0)
 else decide (Nd a b c p q a' b' c' p' q' < 0) || (decide (Nd a b c p q a' b' c' p' q' = 0) && !f)
end M3
namespace M3
def MX (e a b c : Int) (p q : List UInt8) (f : Bool) (e' a' b' c' : Int) (p' q' : List UInt8) (f' : Bool) : Bool :=
 XY e a b c p q f && XY e' a' b' c' p' q' f' && decide (Km e a b c p q f e' a' b' c' p' q' f' < 0)
def HO (e a b c : Int) (p q : List UInt8) (f : Bool) (e' a' b' c' : Int) (p' q' : List UInt8) (f' : Bool) (x y z : Int) (r s : List UInt8) : Bool :=
 MX e a b c p q f e' a' b' c' p' q' f' && Ks x y z r s && Jc e a b c p q f x y z r s && !Jc e' a' b' c' p' q' f' x y z r s
end M3
namespace M3
open Go Go.Abs
theorem RP {s : List UInt8} (h : s = [] \/ 4 < s.length) : Yk s = (0, false) := by
 rcases h with rfl | h
 ·rfl
 ·unfold Yk
  split
  ·rfl
  ·rename_i hn
   exfalso
   apply hn
   by_cases h1 : s.head? = some 48
   ·exact .inr (.inr (.inl ⟨Wa, h1⟩))
   ·cases hd : s.all Xm with
    | false => exact .inr (.inr (.inr (.inl rfl)))
    | true =>
     refine .inr (.inr (.inr (.inr ?_)))
     cases s with
     | nil => simp at h
     | cons x r =>
      simp only [List.all_cons, QiQ, Xm, decide_eq_true_eq] at hd
      simp only [List.head?_cons, QiP] at h1
      have hx : 1 <= x.toNat - 48 := by
       have : x.toNat ≠ 48 := fun e => h1 (UInt8.toNat_inj.1 (by simpa using e))
       omega
      have key : ∀ (r : List UInt8) (n : Nat), n * 10 ^ r.length <= r.foldl (fun n c => 10 * n + (c.toNat - 48)) n := by
       intro r
       induction r with
       | nil => intro n; simp
       | cons c r ih =>
        intro n
        simp only [List.foldl_cons, List.length_cons]
        refine Qi5 ?_ (ih _)
        rw [Nat.pow_succ, <- Nat.mul_assoc, Nat.mul_right_comm]
        exact Nat.mul_le_mul_right _ Wa
      have h2 := key r (10 * 0 + (x.toNat - 48))
      have h3 : 10 ^ 4 <= 10 ^ r.length := Nat.pow_le_pow_right Wa (by simp at h; omega)
      have h4 : 10 ^ r.length <= (10 * 0 + (x.toNat - 48)) * 10 ^ r.length := Nat.le_mul_of_pos_left _ Wa
      show 9999 < (x :: r).foldl (fun n c => 10 * n + (c.toNat - 48)) 0
      simp only [List.foldl_cons]
      omega
theorem QdL {s : List UInt8} {i : Nat} (h : ¬ (s = [] \/ 4 < s.length \/ (1 < s.length /\ s.head? = some 48))) (hi : s.length <= i) (ha : (s.take i).all Xm = true) : Yk s = ((val (s.take i) : Int), true) := by
 have h1 := Ke hi ha
 have hv := QaI h1
 have h4 : s.length <= 4 := Nat.le_of_not_lt fun q => h (.inr (.inl q))
 have hp : 10 ^ s.length <= 10 ^ 4 := Nat.pow_le_pow_right Wa h4
 refine QcJ ?_ hi ha ?_
 ·rintro (q | q | q)
  ·exact h (.inl (List.eq_nil_of_length_eq_zero Wa))
  ·omega
  ·exact h (.inr (.inr q))
 ·rw [Qi2 hi]; omega
end M3
namespace M3
open Go Go.Abs
def GO (s : List UInt8) : Bool := decide ((Za s 46).length <= 4) && (Za s 46).all Pm
theorem QdG {t : List UInt8} (h0 : ¬ t = []) (h8 : t.length <= 8) (h : t.all Yy = true) : Pm t = true := by
 have : 1 <= t.length := List.length_pos_iff.2 h0
 simp [Pm, h, h8, this]
theorem Gl {t : List UInt8} (h : t = [] \/ 8 < t.length) : Pm t = false := by
 rcases h with rfl | h
 ·rfl
 ·simp [Pm]; omega
theorem NY {t : List UInt8} (h : t.all Yy = false) : Pm t = false := by simp [Pm, h]
theorem XJ {s : List UInt8} {i : Nat} (h : i < (Za s 46).length) (hd : Pm (Za s 46)[i] = false) : GO s = false := by
 rw [GO, X2 h hd, Bool.and_false]
theorem QaC {s : List UInt8} {i : Nat} (hi : (Za s 46).length <= i) (h : ((Za s 46).take i).all Pm = true) : GO s = decide ((Za s 46).length <= 4) := by
 rw [GO, Ke hi h, Bool.and_true]
theorem YO (s : List UInt8) : Nf s false = (decide (s = []) || GO s) := by
 have : Nn false = Pm := by funext t; simp [Nn]
 rw [Nf, GO, this]
end M3
namespace M3
open Go Go.Abs
def PA (t : List UInt8) : Bool := !(Xe t && !(Yk t).2)
def S4 (s : List UInt8) : Bool := GO s && (Za s 46).all PA
theorem QdV {s : List UInt8} {i : Nat} (h : i < (Za s 46).length) (hd : PA (Za s 46)[i] = false) : S4 s = false := by
 rw [S4, X2 h hd, Bool.and_false]
theorem QbY {s : List UInt8} {i : Nat} (h1 : GO s = true) (hi : (Za s 46).length <= i) (h : ((Za s 46).take i).all PA = true) : S4 s = true := by
 rw [S4, Ke hi h, h1]; rfl
theorem Xk (s : List UInt8) : Nf s true = (decide (s = []) || S4 s) := by
 have : Nn true = fun t => Pm t && PA t := by funext t; simp [Nn, PA]
 rw [Nf, S4, GO, this, Bool.and_assoc]
 congr 2
 induction (Za s 46) with
 | nil => rfl
 | cons x xs ih => simp only [List.all_cons, ih]; cases Pm x <;> cases PA x <;> simp
theorem P3 {a b : Int} : ZU a b = 0 ↔ a = b := by unfold ZU; (repeat' split) <;> omega
theorem Qe3 {a b c : Int} {p q : List UInt8} {a' b' c' : Int} {p' q' : List UInt8} (h1 : Ks a b c p q = true) (h2 : Ks a' b' c' p' q' = true)
  (h : (decide (a = a') && (decide (b = b') && (decide (c = c') && (decide (p = p') && (decide (([] : List UInt8) = []) && true))))) = true) : Nd a b c p q a' b' c' p' q' = 0 := by
 simp only [QiQ, decide_eq_true_eq, and_true] at h
 obtain ⟨rfl, rfl, rfl, rfl⟩ := h
 have e : ∀ x, ZU x x = 0 := fun x => P3.2 rfl
 simp [Nd, h1, h2, e, NM]
theorem Qdo {a b c : Int} {p q : List UInt8} {a' b' c' : Int} {p' q' : List UInt8} (h1 : Ks a b c p q = true) (h2 : Ks a' b' c' p' q' = true)
  (h : ¬ Ys [ZU a a', ZU b b', ZU c c'] = 0) : Ys [ZU a a', ZU b b', ZU c c'] = Nd a b c p q a' b' c' p' q' := by
 simp only [Ys, Nd, h1, h2] at h ⊢
 simp only [Bool.true_eq_false, or_self, if_false]
 repeat' split
 all_goals first | rfl | (exfalso; simp_all)
theorem Mw {a b c : Int} {p q : List UInt8} {a' b' c' : Int} {p' q' : List UInt8} (h1 : Ks a b c p q = true) (h2 : Ks a' b' c' p' q' = true) (h : Ys [ZU a a', ZU b b', ZU c c'] = 0) :
  Nd a b c p q a' b' c' p' q' = NM p p' := by
 simp only [Ys] at h
 simp only [Nd, h1, h2, Bool.true_eq_false, or_self, if_false]
 repeat' split
 all_goals first | rfl | (exfalso; simp_all)
theorem Qcw {a b c : Int} {p : List UInt8} {a' b' c' : Int} {p' : List UInt8} (h : (decide (a = a') && (decide (b = b') && (decide (c = c') && (decide (p = p') && (decide (([] : List UInt8) = []) && true))))) = false)
  (h0 : Ys [ZU a a', ZU b b', ZU c c'] = 0) : p ≠ p' := by
 rintro rfl
 have e : ZU a a' = 0 /\ ZU b b' = 0 /\ ZU c c' = 0 := by
  simp only [Ys] at h0
  revert h0
  repeat' split
  all_goals simp_all
 simp only [P3] at e
 simp [e] at h
theorem Qa9 {a b c : Int} {p q : List UInt8} {a' b' c' : Int} {p' q' : List UInt8} (h1 : Ks a b c p q = true) (h2 : Ks a' b' c' p' q' = true)
  (h : (decide (a = a') && (decide (b = b') && (decide (c = c') && (decide (p = p') && (decide (([] : List UInt8) = []) && true))))) = false)
  (h0 : Ys [ZU a a', ZU b b', ZU c c'] = 0) (hp : p = []) : Nd a b c p q a' b' c' p' q' = 1 := by
 rw [Mw h1 h2 h0, NM, if_neg (Qcw h h0), if_pos hp]
theorem Qba {a b c : Int} {p q : List UInt8} {a' b' c' : Int} {p' q' : List UInt8} (h1 : Ks a b c p q = true) (h2 : Ks a' b' c' p' q' = true)
  (h0 : Ys [ZU a a', ZU b b', ZU c c'] = 0) (hp : ¬ p = []) (hp' : p' = []) : Nd a b c p q a' b' c' p' q' = -1 := by
 have : p ≠ p' := fun e => hp (e.trans hp')
 rw [Mw h1 h2 h0, NM, if_neg this, if_neg hp, if_pos hp']
theorem Qdp {a b c : Int} {p q : List UInt8} {a' b' c' : Int} {p' q' : List UInt8} (h1 : Ks a b c p q = true) (h2 : Ks a' b' c' p' q' = true)
  (h : (decide (a = a') && (decide (b = b') && (decide (c = c') && (decide (p = p') && (decide (([] : List UInt8) = []) && true))))) = false)
  (h0 : Ys [ZU a a', ZU b b', ZU c c'] = 0) (hp : ¬ p = []) (hp' : ¬ p' = []) : Nd a b c p q a' b' c' p' q' = Dt ((Za p 46).drop 0) ((Za p' 46).drop 0) := by
 rw [Mw h1 h2 h0, NM, if_neg (Qcw h h0), if_neg hp, if_neg hp']; rfl
end M3
namespace M3
open Go Go.Abs
theorem Qa7 {e a b c : Int} {p q : List UInt8} {f : Bool} {e' a' b' c' : Int} {p' q' : List UInt8} {f' : Bool} (h1 : XY e a b c p q f = true) (h2 : XY e' a' b' c' p' q' f' = true) (h : ¬ e = 0 \/ ¬ e' = 0) :
  Km e a b c p q f e' a' b' c' p' q' f' = ZU e e' := by
 rw [Km, h1, h2, if_neg Wd, if_pos]
 by_cases h0 : e = 0
 ·exact .inl Wa
 ·exact .inr h0
end M3
namespace Go.Proofs
open Go Go.Abs M3
theorem Ki {n : Int} : Ok Tryz.prog 114 [.int .i64 n] (.bool (Pw n)) := by
 refine Ok.ofT ZL Tryz.func114 QgD (QiM Z) ?_
 show TW _ _ tf114.body _ _
 refine Qb fun K hK => Qa Z (kc1 hK Z ?_)
 refine Qb fun K hK => Qa Z (GQ Z Z (Qa Z ?_))
 refine Qp (g := 5) Z (fun h1 => ?_) (fun h1 => ?_)
 ·rw [h1]
  simp only [qB] at h1
  refine Qd Z (Qa Z (Qd Z (CJ Z Z (Qg Z Z (Qa Z (kc1 hK Z ?_))))))
  refine Qo (Qi Z ?_)
  (repeat clear hK K); simp_all [Pw] <;> omega
 ·rw [h1]
  simp only [qB] at h1
  refine gn2 Z Z (Qg Z Z (Qa Z (kc1 hK Z ?_)))
  refine Qo (Qi Z ?_)
  (repeat clear hK K); simp_all [Pw] <;> omega
theorem Xq {n : Int} : Ok Tryz.prog 86 [.int .i64 n] (.bool (Pw n)) := by
 refine Ok.ofT ZL Tryz.func86 Qiu (QiM Z) ?_
 show TW _ _ tf86.body _ _
 refine Qb fun K hK => Qa Z (kc1 hK Z ?_)
 refine Qb fun K hK => Qa Z (GQ Z Z (Qa Z ?_))
 refine Qp (g := 5) Z (fun h1 => ?_) (fun h1 => ?_)
 ·rw [h1]
  simp only [qB] at h1
  refine Qd Z (Qa Z (Qd Z (CJ Z Z (Qg Z Z (Qa Z (kc1 hK Z ?_))))))
  refine Qo (Qi Z ?_)
  (repeat clear hK K); simp_all [Pw] <;> omega
 ·rw [h1]
  simp only [qB] at h1
  refine gn2 Z Z (Qg Z Z (Qa Z (kc1 hK Z ?_)))
  refine Qo (Qi Z ?_)
  (repeat clear hK K); simp_all [Pw] <;> omega
theorem Ho {n : Int} : Ok Tryz.prog 145 [.int .i64 n] (.bool false) := by
 refine Ok.ofT ZL Tryz.func145 Qg8 (QiM Z) ?_
 show TW _ _ tf145.body _ _
 refine Qb fun K hK => Qa Z (kc1 hK Z ?_)
 refine Qb fun K hK => mv2 Z Z (YA Z Z (Qa Z (kc1 hK Z ?_)))
 refine Qo (Qi Z ?_)
 (repeat clear hK K); simp_all
theorem ZE {m n : Int} : Ok Tryz.prog 137 [.int .i64 m, .int .i64 n] (.int .i64 (ZU m n)) := by
 refine Ok.ofT ZL Tryz.func137 Qg0 (QiM Z) ?_
 show TW _ _ tf137.body _ _
 refine Qb fun K hK => Qa Z (kc2 hK Z Z ?_)
 refine QB ?_ -- 0
 refine QC (Qb fun K hK => mv2 Z Z (ZT Z Z (Qa Z (kc3 hK Z Z Z ?_))))
 refine Qs Z (fun h1 => ?_) (fun h1 => ?_)
 ·rw [h1]
  simp only [qB] at h1
  refine Qb fun K hK => Qa Z (kc1 hK Z ?_)
  refine Qo (Qu (Qj (Qx Z ?_)))
  (repeat clear hK K); simp_all [ZU] <;> omega
 ·rw [h1]
  simp only [qB] at h1
  refine Qb fun K hK => mv2 Z Z (Kr Z Z (Qa Z (kc1 hK Z ?_)))
  refine Qs Z (fun h2 => ?_) (fun h2 => ?_)
  ·rw [h2]
   simp only [qB] at h2
   refine Qb fun K hK => Qa Z (kc1 hK Z ?_)
   refine Qo (Qu (Qj (Qx Z ?_)))
   (repeat clear hK K); simp_all [ZU] <;> omega
  ·rw [h2]
   simp only [qB] at h2
   refine Qq (Qh (QX (Zg) (Qb fun K hK => Qa Z (kc1 hK Z ?_))))
   refine Qo (Qx Z ?_)
   (repeat clear hK K); simp_all [ZU] <;> omega
theorem ZM {m n : Int} : Ok Tryz.prog 142 [.int .i64 m, .int .i64 n] (.int .i64 (ZU m n)) := by
 refine Ok.ofT ZL Tryz.func142 Qg5 (QiM Z) ?_
 show TW _ _ tf142.body _ _
 refine Qb fun K hK => Qa Z (kc2 hK Z Z ?_)
 refine Qb fun K hK => Qa Z (Qv (Ho) Z Z (.inr Z) (Qa Z (kc3 hK Z Z Z ?_)))
 refine Qb fun K hK => Qa Z (Qv (Ho) Z Z (.inr Z) (Qa Z (kc4 hK Z Z Z Z ?_)))
 refine QB ?_ -- 0
 refine Qb fun K hK => Qa Z (kc4 hK Z Z Z Z ?_)
 refine Qs Z (fun h1 => ?_) (fun h1 => ?_)
 ·rw [h1]
  refine QB ?_ -- 1
  refine Qb fun K hK => Qa Z (kc1 hK Z ?_)
  refine Qs Z (fun h2 => ?_) (fun h2 => ?_)
  ·rw [h2]
   simp only [qB] at h2
   refine Qb fun K hK => Qa Z (kc1 hK Z ?_)
   refine Qo (Qj (Qj (Qx Z ?_)))
   (repeat clear hK K); simp_all [ZU] <;> omega
  ·rw [h2]
   refine Qq (QX (Zg) (Qb fun K hK => Qa Z (kc1 hK Z ?_)))
   refine Qo (Qj (Qx Z ?_))
   (repeat clear hK K); simp_all [ZU] <;> omega
 ·rw [h1]
  simp only [qB] at h1
  refine Qq (ks3 Z Z Z ?_)
  refine QB ?_ -- 2
  refine Qb fun K hK => Qa Z (kc3 hK Z Z Z ?_)
  refine Qs Z (fun h3 => ?_) (fun h3 => ?_)
  ·rw [h3]
   refine Qb fun K hK => Qa Z (kc1 hK Z ?_)
   refine Qo (Qj (Qx Z ?_))
   (repeat clear hK K); simp_all [ZU] <;> omega
  ·rw [h3]
   simp only [qB] at h3
   refine Qq (ks2 Z Z ?_)
   refine QB ?_ -- 3
   refine Qb fun K hK => mv2 Z Z (ZT Z Z (kc3 hK Z Z Z ?_))
   refine Qs Z (fun h4 => ?_) (fun h4 => ?_)
   ·rw [h4]
    simp only [qB] at h4
    refine Qb fun K hK => Qa Z (kc1 hK Z ?_)
    refine Qo (Qj (Qx Z ?_))
    (repeat clear hK K); simp_all [ZU] <;> omega
   ·rw [h4]
    simp only [qB] at h4
    refine Qq (ks2 Z Z ?_)
    refine QB ?_ -- 4
    refine Qb fun K hK => mv2 Z Z (Kr Z Z (kc1 hK Z ?_))
    refine Qs Z (fun h5 => ?_) (fun h5 => ?_)
    ·rw [h5]
     simp only [qB] at h5
     refine Qb fun K hK => Qa Z (kc1 hK Z ?_)
     refine Qo (Qj (Qx Z ?_))
     (repeat clear hK K); simp_all [ZU] <;> omega
    ·rw [h5]
     simp only [qB] at h5
     refine Qq (QX (Zg) (Qb fun K hK => Qa Z (kc1 hK Z ?_)))
     refine Qo (Qx Z ?_)
     (repeat clear hK K); simp_all [ZU] <;> omega
theorem _root_.Wr {p : Prop} (h : p := by simp [Xm]; omega) : p := h
theorem _root_.Wb {p : Prop} (h : p := by exact Qr (by omega) (by omega)) : p := h
theorem Xx {s : List UInt8} (hl : s.length <= 1000000) : Ok Tryz.prog 133 [.str s] (.bool (Xe s)) := by
 refine Ok.ofT ZL Tryz.func133 QgW (QiM Z) ?_
 show TW _ _ tf133.body _ _
 refine Qb fun K hK => Qa Z (kc1 hK Z ?_)
 refine QB ?_ -- 0
 refine Qb fun K hK => Qa Z (Yr Z (Qa Z (kc3 hK Z Z Z ?_)))
 refine QC ?_
 refine Zs (ι := Nat) (fun i => ⟨[(0, .str s), (5, .int .i64 s.length), (6, .int .i64 i)], []⟩) (fun i => i <= s.length /\ (s.take i).all Xm = true) (fun i => s.length - i) 0 ?_ ?_ ?_
 ·exact Q4 (kp3 rfl rfl rfl)
 ·exact ⟨QiY _, rfl⟩
 intro i hI
 refine Qb fun K hK => ZT Z Z (kc4 hK Z Z Z Z ?_)
 refine QB ?_ -- 1
 refine Qs Z (fun h1 => ?_) (fun h1 => ?_)
 ·rw [h1]
  simp only [qB] at h1
  refine Qq (ks3 Z Z Z ?_)
  refine QB ?_ -- 2
  refine QC (Qb fun K hK => mv2 Z Z (kc4 hK Z Z Z Z ?_))
  refine Qb fun K hK => mv2 Z Z (Yl Z Z Wa (J5 Wa) (ZT Z Z (Qa Z ?_)))
  refine Qp (g := 13) Z (fun h2 => ?_) (fun h2 => ?_)
  ·rw [h2]
   simp only [qB] at h2
   refine gn4 Z Z Z Z (Qg Z Z (kc4 hK Z Z Z Z ?_))
   refine Zl Z (Qb fun K hK => Qa Z (kc1 hK Z ?_))
   refine Qo (Qu (Qj (QV (Qu (Qj (Qi Z ?_))))))
   exact (Gn (i := i) Wa Wr).symm
  ·rw [h2]
   simp only [qB] at h2
   refine Qd Z (Qa Z (Qd Z (Qa Z (Qd Z (Yl Z Z Wa (J5 Wa) (Qd Z (Kr Z Z (Qg Z Z (kc4 hK Z Z Z Z ?_)))))))))
   refine Qs Z (fun h3 => ?_) (fun h3 => ?_)
   ·rw [h3]
    simp only [qB] at h3
    refine Qb fun K hK => Qa Z (kc1 hK Z ?_)
    refine Qo (Qu (Qj (QV (Qu (Qj (Qi Z ?_))))))
    exact (Gn (i := i) Wa Wr).symm
   ·rw [h3]
    simp only [qB] at h3
    refine Qq (Qh (ks3 Z Z Z (QN fun K hK => Q2 Z Z Wb (Qa Z (hK _ ?_)))))
    refine Qk (i + 1) ?_ ?_ ?_
    ·exact Q4 (kp3 rfl rfl rfl)
    ·exact ⟨Wa, Zn Wa hI.2 Wr⟩
    ·omega
 ·rw [h1]
  simp only [qB] at h1
  refine Q7 (QF (Qw (QE (ks1 Z (Qb fun K hK => Qa Z (TJ Z Z (Qa Z (kc1 hK Z ?_))))))))
  refine Qo (Qi Z ?_)
  exact (M0 (i := i) Wa hI.2).symm
theorem Y4 {s : List UInt8} {c : Int} (hl : s.length <= 1000000) : Ok Tryz.prog 105 [.str s, .int .u8 c] (.sl (YU (Za s c))) := by
 refine Ok.ofT ZL Tryz.func105 Qgu (QiM Z) ?_
 show TW _ _ tf105.body _ _
 refine Qb fun K hK => Qa Z (kc2 hK Z Z ?_)
 refine Qb fun K hK => Qa Z (kc3 hK Z Z Z ?_)
 refine Qb fun K hK => Qa Z (kc4 hK Z Z Z Z ?_)
 refine QB ?_ -- 0
 refine Qb fun K hK => Qa Z (kc5 hK Z Z Z Z Z ?_)
 refine QC ?_
 refine Zs (ι := Nat × Nat × List (List UInt8)) (fun ⟨i, k, acc⟩ => ⟨[(0, .str s), (1, .int .u8 c), (5, .osl 25 acc.length), (6, .int .i64 k), (7, .int .i64 i)], [(25, ⟨YU acc, 1, 9, true⟩)]⟩) (fun ⟨i, k, acc⟩ => SplitI s c i k acc) (fun ⟨i, k, acc⟩ => s.length - i) (0, 0, []) ?_ ?_ ?_
 ·exact le_trans (Yn 5 25 1 9 rfl rfl) (QW (l := [0, 1, 5, 6, 7]) (lH := [25]) (kp5 rfl rfl rfl rfl rfl) (Qf rfl Qn) rfl rfl rfl)
 ·exact SplitI.zero
 intro ⟨i, k, acc⟩ hI
 have hI1 := hI.1
 have hI2 := hI.2.1
 have hI3 := hI.2.2.1
 dsimp only
 refine QB ?_ -- 1
 refine Qb fun K hK => mv2 Z Z (Yr Z (ZT Z Z (kc6 hK Z Z Z Z Z Z ?_)))
 refine Qs Z (fun h1 => ?_) (fun h1 => ?_)
 ·rw [h1]
  simp only [qB] at h1
  refine Qq (ks5 Z Z Z Z Z ?_)
  refine QB ?_ -- 2
  refine QC (Qb fun K hK => mv2 Z Z (Yl Z Z Wa (J5 Wa) (Qa Z (Yw Z Z (kc6 hK Z Z Z Z Z Z ?_)))))
  refine Qs Z (fun h2 => ?_) (fun h2 => ?_)
  ·rw [h2]
   simp only [qB] at h2
   refine Qb fun K hK => mv2 Z Z (mv2 Z Z (H6 Z Z Z Wa Wa Wa Z (QK Z Z (XK Z Z (fun _ h => Xt Z Z Z h) Z (by simp [YU]) Z Z Z Wf Wf (Qa Z (kc4 hK Z Z Z Z ?_))))))
   refine QN fun K hK => Qa Z (Q2 Z Z Wb (Qa Z (hK _ ?_)))
   refine Qh (ks5 Z Z Z Z Z (QN fun K hK => Qa Z (Q2 Z Z Wb (Qa Z (hK _ ?_)))))
   refine Qk (i + 1, i + 1, acc ++ [(s.take i).drop k]) ?_ ?_ ?_
   ·exact QW (l := [0, 1, 5, 6, 7]) (lH := [25]) (kp5 rfl rfl rfl rfl rfl) (Qf rfl Qn) (by simp [YU, D.scrub]) (by simp [YU, Box.scrub]) rfl
   ·exact hI.hit Wa Wh
   ·show s.length - (i + 1) < s.length - i; omega
  ·rw [h2]
   simp only [qB] at h2
   refine Qq (Qh (ks5 Z Z Z Z Z (QN fun K hK => Qa Z (Q2 Z Z Wb (Qa Z (hK _ ?_))))))
   refine Qk (i + 1, k, acc) ?_ ?_ ?_
   ·exact QW (l := [0, 1, 5, 6, 7]) (lH := [25]) (kp5 rfl rfl rfl rfl rfl) (Qf rfl Qn) (by simp [YU, D.scrub]) (by simp [YU, Box.scrub]) rfl
   ·exact hI.miss Wa Wh
   ·show s.length - (i + 1) < s.length - i; omega
 ·rw [h1]
  simp only [qB] at h1
  refine Q7 (QF (Qw (QE (ks3 Z Z Z (Qb fun K hK => mv2 Z Z (Qa Z (H6 Z Z Z Wa Wa Wa Z (QK Z Z (XK Z Z (fun _ h => Xt Z Z Z h) Z (by simp [YU]) Z Z Z Wf Wf ?_)))))))))
  refine Qa Z (kc1 hK Z ?_)
  refine Qo (ZW Z ?_)
  rw [hI.done Wa]; simp [XV, D.fz, D.fzS, GR, lk, D.can, D.canS, YU]
theorem Je {s : List UInt8} {c : Int} (hl : s.length <= 1000000) : Ok Tryz.prog 131 [.str s, .int .u8 c] (.sl (YU (Za s c))) := by
 refine Ok.ofT ZL Tryz.func131 QgU (QiM Z) ?_
 show TW _ _ tf131.body _ _
 refine Qb fun K hK => Qa Z (kc2 hK Z Z ?_)
 refine Qb fun K hK => Qa Z (kc3 hK Z Z Z ?_)
 refine Qb fun K hK => Qa Z (kc4 hK Z Z Z Z ?_)
 refine QB ?_ -- 0
 refine Qb fun K hK => Qa Z (Yr Z (Qa Z (kc6 hK Z Z Z Z Z Z ?_)))
 refine QC ?_
 refine Zs (ι := Nat × Nat × List (List UInt8)) (fun ⟨i, k, acc⟩ => ⟨[(0, .str s), (1, .int .u8 c), (5, .osl 24 acc.length), (6, .int .i64 k), (9, .int .i64 s.length), (10, .int .i64 i)], [(24, ⟨YU acc, 1, 9, true⟩)]⟩) (fun ⟨i, k, acc⟩ => SplitI s c i k acc) (fun ⟨i, k, acc⟩ => s.length - i) (0, 0, []) ?_ ?_ ?_
 ·exact le_trans (Yn 5 24 1 9 rfl rfl) (QW (l := [0, 1, 5, 6, 9, 10]) (lH := [24]) (kp6 rfl rfl rfl rfl rfl rfl) (Qf rfl Qn) rfl rfl rfl)
 ·exact SplitI.zero
 intro ⟨i, k, acc⟩ hI
 have hI1 := hI.1
 have hI2 := hI.2.1
 have hI3 := hI.2.2.1
 dsimp only
 refine Qb fun K hK => ZT Z Z (kc7 hK Z Z Z Z Z Z Z ?_)
 refine QB ?_ -- 1
 refine Qs Z (fun h1 => ?_) (fun h1 => ?_)
 ·rw [h1]
  simp only [qB] at h1
  refine Qq (ks6 Z Z Z Z Z Z ?_)
  refine QB ?_ -- 2
  refine QC (Qb fun K hK => mv2 Z Z (kc7 hK Z Z Z Z Z Z Z ?_))
  refine Qb fun K hK => mv2 Z Z (Yl Z Z Wa (J5 Wa) (Qa Z (Yw Z Z (kc8 hK Z Z Z Z Z Z Z Z ?_))))
  refine Qs Z (fun h2 => ?_) (fun h2 => ?_)
  ·rw [h2]
   simp only [qB] at h2
   refine Qb fun K hK => mv2 Z Z (mv2 Z Z (H6 Z Z Z Wa Wa Wa Z (QK Z Z (XK Z Z (fun _ h => Xt Z Z Z h) Z (by simp [YU]) Z Z Z Wf Wf (Qa Z (kc6 hK Z Z Z Z Z Z ?_))))))
   refine QN fun K hK => Qa Z (Q2 Z Z Wb (Qa Z (hK _ ?_)))
   refine Qh (ks6 Z Z Z Z Z Z (QN fun K hK => Q2 Z Z Wb (Qa Z (hK _ ?_))))
   refine Qk (i + 1, i + 1, acc ++ [(s.take i).drop k]) ?_ ?_ ?_
   ·exact QW (l := [0, 1, 5, 6, 9, 10]) (lH := [24]) (kp6 rfl rfl rfl rfl rfl rfl) (Qf rfl Qn) (by simp [YU, D.scrub]) (by simp [YU, Box.scrub]) rfl
   ·exact hI.hit Wa Wh
   ·show s.length - (i + 1) < s.length - i; omega
  ·rw [h2]
   simp only [qB] at h2
   refine Qq (Qh (ks6 Z Z Z Z Z Z (QN fun K hK => Q2 Z Z Wb (Qa Z (hK _ ?_)))))
   refine Qk (i + 1, k, acc) ?_ ?_ ?_
   ·exact QW (l := [0, 1, 5, 6, 9, 10]) (lH := [24]) (kp6 rfl rfl rfl rfl rfl rfl) (Qf rfl Qn) (by simp [YU, D.scrub]) (by simp [YU, Box.scrub]) rfl
   ·exact hI.miss Wa Wh
   ·show s.length - (i + 1) < s.length - i; omega
 ·rw [h1]
  simp only [qB] at h1
  refine Q7 (QF (Qw (QE (ks3 Z Z Z (Qb fun K hK => mv2 Z Z (Qa Z (H6 Z Z Z Wa Wa Wa Z (QK Z Z (XK Z Z (fun _ h => Xt Z Z Z h) Z (by simp [YU]) Z Z Z Wf Wf ?_)))))))))
  refine Qa Z (kc1 hK Z ?_)
  refine Qo (ZW Z ?_)
  rw [hI.done Wa]; simp [XV, D.fz, D.fzS, GR, lk, D.can, D.canS, YU]
open Go Go.Abs M3
theorem JT {s : List UInt8} : Ok Tryz.prog 151 [.str s] (.bool false) := by
 refine Ok.ofT ZL Tryz.func151 Qhe (QiM Z) ?_
 show TW _ _ tf151.body _ _
 refine Qb fun K hK => Qa Z (kc1 hK Z ?_)
 refine Qb fun K hK => mv2 Z Z (TJ Z Z (Qa Z (kc1 hK Z ?_)))
 refine Qo (Qi Z ?_)
 simp
theorem X3 {a b : List UInt8} : Ok Tryz.prog 150 [.str a, .str b] (.int .i64 (Hc a b)) := by
 refine Ok.ofT ZL Tryz.func150 Qhd (QiM Z) ?_
 show TW _ _ tf150.body _ _
 refine Qb fun K hK => Qa Z (kc2 hK Z Z ?_)
 refine Qb fun K hK => Qa Z (Qv (JT) Z Z (.inr Z) (Qa Z (kc3 hK Z Z Z ?_)))
 refine Qb fun K hK => Qa Z (Qv (JT) Z Z (.inr Z) (Qa Z (kc4 hK Z Z Z Z ?_)))
 refine QB ?_ -- 0
 refine Qb fun K hK => Qa Z (kc4 hK Z Z Z Z ?_)
 refine Qs Z (fun h1 => ?_) (fun h1 => ?_)
 ·rw [h1]
  refine QB ?_ -- 1
  refine Qb fun K hK => Qa Z (kc1 hK Z ?_)
  refine Qs Z (fun h2 => ?_) (fun h2 => ?_)
  ·rw [h2]
   simp only [qB] at h2
   refine Qb fun K hK => Qa Z (kc1 hK Z ?_)
   refine Qo (Qj (Qj (Qx Z ?_)))
   (repeat clear hK K); simp_all [Hc]
  ·rw [h2]
   refine Qq (QX (Zg) (Qb fun K hK => Qa Z (kc1 hK Z ?_)))
   refine Qo (Qj (Qx Z ?_))
   (repeat clear hK K); simp_all [Hc]
 ·rw [h1]
  simp only [qB] at h1
  refine Qq (ks3 Z Z Z ?_)
  refine QB ?_ -- 2
  refine Qb fun K hK => Qa Z (kc3 hK Z Z Z ?_)
  refine Qs Z (fun h3 => ?_) (fun h3 => ?_)
  ·rw [h3]
   refine Qb fun K hK => Qa Z (kc1 hK Z ?_)
   refine Qo (Qj (Qx Z ?_))
   (repeat clear hK K); simp_all [Hc]
  ·rw [h3]
   simp only [qB] at h3
   refine Qq (ks2 Z Z ?_)
   refine QB ?_ -- 3
   refine Qb fun K hK => mv2 Z Z (QaU Z Z (kc3 hK Z Z Z ?_))
   refine Qs Z (fun h4 => ?_) (fun h4 => ?_)
   ·rw [h4]
    refine Qb fun K hK => Qa Z (kc1 hK Z ?_)
    refine Qo (Qj (Qx Z ?_))
    (repeat clear hK K); simp_all [Hc]
   ·rw [h4]
    refine Qq (ks2 Z Z ?_)
    refine QB ?_ -- 4
    refine Qb fun K hK => mv2 Z Z (QeL Z Z (kc1 hK Z ?_))
    refine Qs Z (fun h5 => ?_) (fun h5 => ?_)
    ·rw [h5]
     simp only [qB] at h5
     refine Qb fun K hK => Qa Z (kc1 hK Z ?_)
     refine Qo (Qj (Qx Z ?_))
     (repeat clear hK K); simp_all [Hc]
    ·rw [h5]
     simp only [qB] at h5
     refine Qq (QX (Zg) (Qb fun K hK => Qa Z (kc1 hK Z ?_)))
     refine Qo (Qx Z ?_)
     (repeat clear hK K); simp_all [Hc]
theorem GD {a b : List UInt8} : Ok Tryz.prog 149 [.str a, .str b] (.int .i64 (Hc a b)) := by
 refine Ok.ofT ZL Tryz.func149 Qhc (QiM Z) ?_
 show TW _ _ tf149.body _ _
 refine Qb fun K hK => Qa Z (kc2 hK Z Z ?_)
 refine QB ?_ -- 0
 refine QC (Qb fun K hK => mv2 Z Z (QaU Z Z (Qa Z (kc3 hK Z Z Z ?_))))
 refine Qs Z (fun h1 => ?_) (fun h1 => ?_)
 ·rw [h1]
  refine Qb fun K hK => Qa Z (kc1 hK Z ?_)
  refine Qo (Qu (Qj (Qx Z ?_)))
  (repeat clear hK K); simp_all [Hc]
 ·rw [h1]
  refine Qb fun K hK => mv2 Z Z (QeL Z Z (Qa Z (kc1 hK Z ?_)))
  refine Qs Z (fun h2 => ?_) (fun h2 => ?_)
  ·rw [h2]
   simp only [qB] at h2
   refine Qb fun K hK => Qa Z (kc1 hK Z ?_)
   refine Qo (Qu (Qj (Qx Z ?_)))
   (repeat clear hK K); simp_all [Hc]
  ·rw [h2]
   simp only [qB] at h2
   refine Qq (Qh (QX (Zg) (Qb fun K hK => Qa Z (kc1 hK Z ?_))))
   refine Qo (Qx Z ?_)
   (repeat clear hK K); simp_all [Hc]
theorem GB {c : Int} : Ok Tryz.prog 124 [.int .u8 c] (.bool (XP c)) := by
 refine Ok.ofT ZL Tryz.func124 QgN (QiM Z) ?_
 show TW _ _ tf124.body _ _
 refine Qb fun K hK => Qa Z (kc1 hK Z ?_)
 refine Qb fun K hK => Qa Z (GQ Z Z (Qa Z ?_))
 refine Qp (g := 5) Z (fun h1 => ?_) (fun h1 => ?_)
 ·rw [h1]
  simp only [qB] at h1
  refine Qd Z (Qa Z (Qd Z (CJ Z Z (Qg Z Z (Qa Z (kc1 hK Z ?_))))))
  refine Qo (Qi Z ?_)
  (repeat clear hK K); simp_all [XP] <;> omega
 ·rw [h1]
  simp only [qB] at h1
  refine gn2 Z Z (Qg Z Z (Qa Z (kc1 hK Z ?_)))
  refine Qo (Qi Z ?_)
  (repeat clear hK K); simp_all [XP] <;> omega
theorem YC {s : List UInt8} (hl : s.length <= 1000000) : Ok Tryz.prog 108 [.str s] (.bool (Xe s)) := by
 refine Ok.ofT ZL Tryz.func108 Qgx (QiM Z) ?_
 show TW _ _ tf108.body _ _
 refine Qb fun K hK => Qa Z (kc1 hK Z ?_)
 refine QB ?_ -- 0
 refine Qb fun K hK => Qa Z (kc2 hK Z Z ?_)
 refine QC ?_
 refine Zs (ι := Nat) (fun i => ⟨[(0, .str s), (3, .int .i64 i)], []⟩) (fun i => i <= s.length /\ (s.take i).all Xm = true) (fun i => s.length - i) 0 ?_ ?_ ?_
 ·exact Q4 (kp2 rfl rfl)
 ·exact ⟨QiY _, rfl⟩
 intro i hI
 refine QB ?_ -- 1
 refine Qb fun K hK => mv2 Z Z (Yr Z (ZT Z Z (kc3 hK Z Z Z ?_)))
 refine Qs Z (fun h1 => ?_) (fun h1 => ?_)
 ·rw [h1]
  simp only [qB] at h1
  refine Qq (ks2 Z Z ?_)
  refine QB ?_ -- 2
  refine QC (Qb fun K hK => mv2 Z Z (Yl Z Z Wa (J5 Wa) (ZT Z Z (Qa Z ?_))))
  refine Qp (g := 14) Z (fun h2 => ?_) (fun h2 => ?_)
  ·rw [h2]
   simp only [qB] at h2
   refine gn4 Z Z Z Z (Qg Z Z (kc3 hK Z Z Z ?_))
   refine Zl Z (Qb fun K hK => Qa Z (kc1 hK Z ?_))
   refine Qo (Qu (Qj (QV (Qu (Qj (Qi Z ?_))))))
   exact (Gn (i := i) Wa Wr).symm
  ·rw [h2]
   simp only [qB] at h2
   refine Qd Z (Qa Z (Qd Z (Qa Z (Qd Z (Yl Z Z Wa (J5 Wa) (Qd Z (Kr Z Z (Qg Z Z (kc3 hK Z Z Z ?_)))))))))
   refine Qs Z (fun h3 => ?_) (fun h3 => ?_)
   ·rw [h3]
    simp only [qB] at h3
    refine Qb fun K hK => Qa Z (kc1 hK Z ?_)
    refine Qo (Qu (Qj (QV (Qu (Qj (Qi Z ?_))))))
    exact (Gn (i := i) Wa Wr).symm
   ·rw [h3]
    simp only [qB] at h3
    refine Qq (Qh (ks2 Z Z (QN fun K hK => Qa Z (Q2 Z Z Wb (Qa Z (hK _ ?_))))))
    refine Qk (i + 1) ?_ ?_ ?_
    ·exact Q4 (kp2 rfl rfl)
    ·exact ⟨Wa, Zn Wa hI.2 Wr⟩
    ·omega
 ·rw [h1]
  simp only [qB] at h1
  refine Q7 (QF (Qw (QE (ks1 Z (Qb fun K hK => Qa Z (Yr Z (Kr Z Z (Qa Z (kc1 hK Z ?_)))))))))
  refine Qo (Qi Z ?_)
  rw [M0 (i := i) Wa hI.2]; cases s <;> simp
theorem _root_.Wm {p : Prop} (h : p := by simp [Yy]; omega) : p := h
theorem Fj {s : List UInt8} (hl : s.length <= 1000000) : Ok Tryz.prog 106 [.str s] (.bool (Pm s)) := by
 refine Ok.ofT ZL Tryz.func106 Qgv (QiM Z) ?_
 show TW _ _ tf106.body _ _
 refine Qb fun K hK => Qa Z (kc1 hK Z ?_)
 refine QB ?_ -- 0
 refine Qb fun K hK => Qa Z (Yr Z (ZT Z Z (Qa Z ?_)))
 refine Qp (g := 8) Z (fun h1 => ?_) (fun h1 => ?_)
 ·rw [h1]
  simp only [qB] at h1
  refine gn3 Z Z Z (Qg Z Z (kc2 hK Z Z ?_))
  refine Zl Z (Qb fun K hK => Qa Z (kc1 hK Z ?_))
  refine Qo (Qj (Qi Z ?_))
  (simp [Pm]; omega)
 ·rw [h1]
  simp only [qB] at h1
  refine Qd Z (Qa Z (Qd Z (Yr Z (Qd Z (Kr Z Z (Qg Z Z (kc2 hK Z Z ?_)))))))
  refine Qs Z (fun h2 => ?_) (fun h2 => ?_)
  ·rw [h2]
   simp only [qB] at h2
   refine Qb fun K hK => Qa Z (kc1 hK Z ?_)
   refine Qo (Qj (Qi Z ?_))
   (simp [Pm]; omega)
  ·rw [h2]
   simp only [qB] at h2
   refine Qq (ks1 Z ?_)
   refine QB ?_ -- 1
   refine Qb fun K hK => Qa Z (kc2 hK Z Z ?_)
   refine QC ?_
   refine Zs (ι := Nat) (fun i => ⟨[(0, .str s), (3, .int .i64 i)], []⟩) (fun i => i <= s.length /\ (s.take i).all Yy = true) (fun i => s.length - i) 0 ?_ ?_ ?_
   ·exact Q4 (kp2 rfl rfl)
   ·exact ⟨QiY _, rfl⟩
   intro i hI
   refine QB ?_ -- 2
   refine Qb fun K hK => mv2 Z Z (Yr Z (ZT Z Z (kc3 hK Z Z Z ?_)))
   refine Qs Z (fun h3 => ?_) (fun h3 => ?_)
   ·rw [h3]
    simp only [qB] at h3
    refine Qq (ks2 Z Z ?_)
    refine QB ?_ -- 3
    refine QC (Qb fun K hK => mv2 Z Z (Yl Z Z Wa (J5 Wa) (Qa Z (kc3 hK Z Z Z ?_))))
    refine Qb fun K hK => Qa Z (ZT Z Z (Qa Z ?_))
    refine Qp (g := 24) Z (fun h4 => ?_) (fun h4 => ?_)
    ·rw [h4]
     simp only [qB] at h4
     refine gn2 Z Z (Qg Z Z (Qa Z (Qd Z (Qa Z (Qd Z (ZT Z Z (Qd Z (Qa Z ?_))))))))
     refine Qp (g := 31) Z (fun h5 => ?_) (fun h5 => ?_)
     ·rw [h5]
      simp only [qB] at h5
      refine gn2 Z Z (Qd Z (Qg Z Z (Qg Z Z (Qa Z (Qd Z (Qa Z (Qd Z (YA Z Z (Qg Z Z (kc3 hK Z Z Z ?_))))))))))
      refine Qs Z (fun h6 => ?_) (fun h6 => ?_)
      ·rw [h6]
       simp only [qB] at h6
       refine Qb fun K hK => Qa Z (kc1 hK Z ?_)
       refine Qo (Qu (Qj (QV (Qu (Qj (Qi Z ?_))))))
       (have hz := X2 (p := Yy) (s := s) (i := i) Wa Wm; simp [Pm, hz]; done)
      ·rw [h6]
       simp only [qB] at h6
       refine Qq (Qh (ks2 Z Z (QN fun K hK => Qa Z (Q2 Z Z Wb (Qa Z (hK _ ?_))))))
       refine Qk (i + 1) ?_ ?_ ?_
       ·exact Q4 (kp2 rfl rfl)
       ·exact ⟨Wa, Zn Wa hI.2 Wm⟩
       ·omega
     ·rw [h5]
      simp only [qB] at h5
      refine Qd Z (Qa Z (Qd Z (Kr Z Z (Qd Z (Qg Z Z (Qg Z Z (Qa Z ?_)))))))
      refine Qp (g := 36) Z (fun h7 => ?_) (fun h7 => ?_)
      ·rw [h7]
       simp only [qB] at h7
       refine Qd Z (Qa Z (Qd Z (YA Z Z (Qg Z Z (kc3 hK Z Z Z ?_)))))
       refine Qs Z (fun h8 => ?_) (fun h8 => ?_)
       ·rw [h8]
        simp only [qB] at h8
        refine Qb fun K hK => Qa Z (kc1 hK Z ?_)
        refine Qo (Qu (Qj (QV (Qu (Qj (Qi Z ?_))))))
        (have hz := X2 (p := Yy) (s := s) (i := i) Wa Wm; simp [Pm, hz]; done)
       ·rw [h8]
        simp only [qB] at h8
        refine Qq (Qh (ks2 Z Z (QN fun K hK => Qa Z (Q2 Z Z Wb (Qa Z (hK _ ?_))))))
        refine Qk (i + 1) ?_ ?_ ?_
        ·exact Q4 (kp2 rfl rfl)
        ·exact ⟨Wa, Zn Wa hI.2 Wm⟩
        ·omega
      ·rw [h7]
       simp only [qB] at h7
       refine gn2 Z Z (Qg Z Z (kc3 hK Z Z Z ?_))
       refine Zk Z (Qq (Qh (ks2 Z Z (QN fun K hK => Qa Z (Q2 Z Z Wb (Qa Z (hK _ ?_)))))))
       refine Qk (i + 1) ?_ ?_ ?_
       ·exact Q4 (kp2 rfl rfl)
       ·exact ⟨Wa, Zn Wa hI.2 Wm⟩
       ·omega
    ·rw [h4]
     simp only [qB] at h4
     refine Qd Z (Qa Z (Qd Z (Kr Z Z (Qg Z Z (Qa Z ?_)))))
     refine Qp (g := 28) Z (fun h9 => ?_) (fun h9 => ?_)
     ·rw [h9]
      simp only [qB] at h9
      refine Qd Z (Qa Z (Qd Z (ZT Z Z (Qd Z (Qa Z ?_)))))
      refine Qp (g := 31) Z (fun h10 => ?_) (fun h10 => ?_)
      ·rw [h10]
       simp only [qB] at h10
       refine gn2 Z Z (Qd Z (Qg Z Z (Qg Z Z (Qa Z (Qd Z (Qa Z (Qd Z (YA Z Z (Qg Z Z (kc3 hK Z Z Z ?_))))))))))
       refine Qs Z (fun h11 => ?_) (fun h11 => ?_)
       ·rw [h11]
        simp only [qB] at h11
        refine Qb fun K hK => Qa Z (kc1 hK Z ?_)
        refine Qo (Qu (Qj (QV (Qu (Qj (Qi Z ?_))))))
        (have hz := Ke (p := Yy) (s := s) (i := i) Wa hI.2; simp [Pm, hz]; omega)
       ·rw [h11]
        simp only [qB] at h11
        refine Qq (Qh (ks2 Z Z (QN fun K hK => Qa Z (Q2 Z Z Wb (Qa Z (hK _ ?_))))))
        refine Qk (i + 1) ?_ ?_ ?_
        ·exact Q4 (kp2 rfl rfl)
        ·exact ⟨Wa, Zn Wa hI.2 Wm⟩
        ·omega
      ·rw [h10]
       simp only [qB] at h10
       refine Qd Z (Qa Z (Qd Z (Kr Z Z (Qd Z (Qg Z Z (Qg Z Z (Qa Z ?_)))))))
       refine Qp (g := 36) Z (fun h12 => ?_) (fun h12 => ?_)
       ·rw [h12]
        simp only [qB] at h12
        refine Qd Z (Qa Z (Qd Z (YA Z Z (Qg Z Z (kc3 hK Z Z Z ?_)))))
        refine Qs Z (fun h13 => ?_) (fun h13 => ?_)
        ·rw [h13]
         simp only [qB] at h13
         refine Qb fun K hK => Qa Z (kc1 hK Z ?_)
         refine Qo (Qu (Qj (QV (Qu (Qj (Qi Z ?_))))))
         (have hz := X2 (p := Yy) (s := s) (i := i) Wa Wm; simp [Pm, hz]; done)
        ·rw [h13]
         simp only [qB] at h13
         refine Qq (Qh (ks2 Z Z (QN fun K hK => Qa Z (Q2 Z Z Wb (Qa Z (hK _ ?_))))))
         refine Qk (i + 1) ?_ ?_ ?_
         ·exact Q4 (kp2 rfl rfl)
         ·exact ⟨Wa, Zn Wa hI.2 Wm⟩
         ·omega
       ·rw [h12]
        simp only [qB] at h12
        refine gn2 Z Z (Qg Z Z (kc3 hK Z Z Z ?_))
        refine Zk Z (Qq (Qh (ks2 Z Z (QN fun K hK => Qa Z (Q2 Z Z Wb (Qa Z (hK _ ?_)))))))
        refine Qk (i + 1) ?_ ?_ ?_
        ·exact Q4 (kp2 rfl rfl)
        ·exact ⟨Wa, Zn Wa hI.2 Wm⟩
        ·omega
     ·rw [h9]
      simp only [qB] at h9
      refine gn3 Z Z Z (QI Z (QI Z (Xd Z (Qg Z Z (Qa Z (gn2 Z Z (Qg Z Z (kc3 hK Z Z Z ?_))))))))
      refine Zk Z (Qq (Qh (ks2 Z Z (QN fun K hK => Qa Z (Q2 Z Z Wb (Qa Z (hK _ ?_)))))))
      refine Qk (i + 1) ?_ ?_ ?_
      ·exact Q4 (kp2 rfl rfl)
      ·exact ⟨Wa, Zn Wa hI.2 Wm⟩
      ·omega
   ·rw [h3]
    simp only [qB] at h3
    refine Q7 (QF (Qw (QE (QX (Zg) (Qb fun K hK => Qa Z (kc1 hK Z ?_))))))
    refine Qo (Qi Z ?_)
    (have hz := Ke (p := Yy) (s := s) (i := i) Wa hI.2; simp [Pm, hz]; omega)
theorem GI {a b c : Int} {p q : List UInt8} : Ok Tryz.prog 146 [.agg [.int .i64 a, .int .i64 b, .int .i64 c, .str p, .str q]] (.agg [.int .i64 a, .int .i64 b, .int .i64 c, .str p, .str []]) := by
 refine Ok.ofT ZL Tryz.func146 Qg9 (QiM Z) ?_
 show TW _ _ tf146.body _ _
 refine Qb fun K hK => Zi Z Z Z (Zz Z (kc2 hK Z Z ?_))
 refine Qb fun K hK => Qe Z Z (QZ Z Z Z Z Z Z Z Z (kc2 hK Z Z ?_))
 refine Qb fun K hK => Qz (cs := [_, _, _, _, _]) Z Z Z Z (QZ Z Z Z Z Z Z Z Z (kc1 hK Z ?_))
 refine Qo (ZH (cs := [_, _, _, _, _]) Z Z Z Z ?_)
 exact rfl
theorem YI {s : List UInt8} (hl : s.length <= 1000000) : Ok Tryz.prog 107 [.str s] (.tup [.int .i64 (Yk s).1, .bool (Yk s).2]) := by
 refine Ok.ofT ZL Tryz.func107 Qgw (QiM Z) ?_
 show TW _ _ tf107.body _ _
 refine Qb fun K hK => mv2 Z Z (kc1 hK Z ?_)
 refine GH (ι := Unit) (fun _u => ⟨[(0, .str s)], []⟩) (fun _u => ¬ (s.length < 1 \/ 9 < s.length \/ (1 < s.length /\ s.head? = some 48))) ?_ ?_
 ·skip
  refine Qb fun K hK => Qa Z (Yr Z (ZT Z Z (Qa Z ?_)))
  refine Qp (g := 9) Z (fun h1 => ?_) (fun h1 => ?_)
  ·rw [h1]
   simp only [qB, XP, QiQ, QiZ] at h1
   refine gn3 Z Z Z (Qg Z Z (Qa Z (gn4 Z Z Z Z (QI Z (QI Z (QI Z ?_))))))
   refine Xd Z (Qg Z Z (kc2 hK Z Z ?_))
   refine Zl Z (Qb fun K hK => mv2 Z Z (kc2 hK Z Z ?_))
   refine Qo (Gj (ZN Z Z ?_))
   (rw [B7 (s := s) Wa]; exact ⟨rfl, rfl⟩)
  ·rw [h1]
   simp only [qB, XP, QiQ, QiZ] at h1
   refine Qd Z (Qa Z (Qd Z (Yr Z (Qd Z (Kr Z Z (Qg Z Z (Qa Z ?_)))))))
   refine Qp (g := 14) Z (fun h2 => ?_) (fun h2 => ?_)
   ·rw [h2]
    simp only [qB, XP, QiQ, QiZ] at h2
    refine gn4 Z Z Z Z (QI Z (QI Z (QI Z (Xd Z (Qg Z Z (kc2 hK Z Z ?_))))))
    refine Zl Z (Qb fun K hK => mv2 Z Z (kc2 hK Z Z ?_))
    refine Qo (Gj (ZN Z Z ?_))
    (rw [B7 (s := s) Wa]; exact ⟨rfl, rfl⟩)
   ·rw [h2]
    simp only [qB, XP, QiQ, QiZ] at h2
    refine Qd Z (Qa Z (Qd Z (Yr Z (Qd Z (Kr Z Z (Qd Z (Qa Z ?_)))))))
    refine Qp (g := 18) Z (fun h3 => ?_) (fun h3 => ?_)
    ·rw [h3]
     simp only [qB, XP, QiQ, QiZ] at h3
     refine Qd Z (Qa Z (Qd Z (Yl Z Z Wa (J5 (i := 0) Wa) (Qd Z (Yw Z Z (Qd Z (Qg Z Z (Qg Z Z (kc2 hK Z Z ?_)))))))))
     refine Qs Z (fun h4 => ?_) (fun h4 => ?_)
     ·rw [h4]
      simp only [qB, XP, QiQ, QiZ] at h4
      refine Qb fun K hK => mv2 Z Z (kc2 hK Z Z ?_)
      refine Qo (Gj (ZN Z Z ?_))
      (rw [Dz (s := s) Wa Wh]; exact ⟨rfl, rfl⟩)
     ·rw [h4]
      simp only [qB, XP, QiQ, QiZ] at h4
      refine Qq ?_
      refine Zc () ?_ ?_
      ·exact Q4 (kp1 rfl)
      ·rintro (q | q | q) <;> first | omega | exact RD (s := s) Wa Wh q.2
    ·rw [h3]
     simp only [qB, XP, QiQ, QiZ] at h3
     refine gn3 Z Z Z (Qd Z (Qg Z Z (Qg Z Z (kc2 hK Z Z ?_))))
     refine Zk Z (Qq ?_)
     refine Zc () ?_ ?_
     ·exact Q4 (kp1 rfl)
     ·rintro (q | q | q) <;> first | omega | exact RD (s := s) Wa Wh q.2
 intro _u hJ
 refine Qb fun K hK => Qa Z (kc2 hK Z Z ?_)
 refine QB ?_ -- 1
 refine Qb fun K hK => Qa Z (kc3 hK Z Z Z ?_)
 refine QC ?_
 refine Zs (ι := Nat) (fun i => ⟨[(0, .str s), (4, .int .i64 (val (s.take i))), (5, .int .i64 i)], []⟩) (fun i => i <= s.length /\ (s.take i).all Xm = true /\ s.length <= 9) (fun i => s.length - i) 0 ?_ ?_ ?_
 ·exact Q4 (kp3 rfl rfl rfl)
 ·exact ⟨QiY _, rfl, Wa⟩
 intro i hI
 have hv := QaI (s := s.take i) hI.2.1
 have hp : 10 ^ (s.take i).length <= 10 ^ 9 := Nat.pow_le_pow_right Wa Wf
 refine QB ?_ -- 2
 refine Qb fun K hK => mv2 Z Z (Yr Z (ZT Z Z (kc4 hK Z Z Z Z ?_)))
 refine Qs Z (fun h5 => ?_) (fun h5 => ?_)
 ·rw [h5]
  simp only [qB, XP, QiQ, QiZ] at h5
  refine Qq (ks3 Z Z Z ?_)
  refine QB ?_ -- 3
  refine QC ?_
  refine QB ?_ -- 4
  refine Qb fun K hK => mv2 Z Z (Yl Z Z Wa (J5 Wa) (Qv (GB) Z Z (.inr Z) (ZB Z (kc4 hK Z Z Z Z ?_))))
  refine Qs Z (fun h6 => ?_) (fun h6 => ?_)
  ·rw [h6]
   simp only [qB, XP, QiQ, QiZ] at h6
   refine Qb fun K hK => mv2 Z Z (kc2 hK Z Z ?_)
   refine Qo (Qj (Qu (Qj (QV (Qu (Qj (ZN Z Z ?_)))))))
   (rw [RQ (s := s) (i := i) Wa Wr]; exact ⟨rfl, rfl⟩)
  ·rw [h6]
   simp only [qB, XP, QiQ, QiZ] at h6
   refine Qq (ks3 Z Z Z (QN fun K hK => Qa Z (CL Z Z Wb (mv2 Z Z (Yl Z Z Wa (J5 Wa) (Hk Z Z (by exact Qeo Wa Wa) (Sl Z Wb (Q2 Z Z Wb (Qa Z ?_)))))))))
   refine hK _ ?_
   refine Qh (ks3 Z Z Z (QN fun K hK => Qa Z (Q2 Z Z Wb (Qa Z (hK _ ?_)))))
   refine Qk (i + 1) ?_ ?_ ?_
   ·exact QW (l := [0, 4, 5]) (kp3 rfl rfl rfl) Qn (by rw [DY Wa]; simp; omega) rfl rfl
   ·exact ⟨Wa, Zn Wa hI.2.1 Wr, hI.2.2⟩
   ·omega
 ·rw [h5]
  simp only [qB, XP, QiQ, QiZ] at h5
  refine Q7 (QF (Qw (QE (ks1 Z ?_))))
  refine QB ?_ -- 5
  refine Qb fun K hK => Qa Z (Kr Z Z (kc2 hK Z Z ?_))
  refine Qs Z (fun h7 => ?_) (fun h7 => ?_)
  ·rw [h7]
   simp only [qB, XP, QiQ, QiZ] at h7
   refine Qb fun K hK => mv2 Z Z (kc2 hK Z Z ?_)
   refine Qo (Qj (ZN Z Z ?_))
   (rw [QdM (s := s) (i := i) Wa Wa]; exact ⟨rfl, rfl⟩)
  ·rw [h7]
   simp only [qB, XP, QiQ, QiZ] at h7
   refine Qq (ks1 Z (Qb fun K hK => mv2 Z Z (Qa Z (kc2 hK Z Z ?_))))
   refine Qo (ZN Z Z ?_)
   (rw [QcJ (s := s) (i := i) hJ Wa hI.2.1 Wa]; exact ⟨rfl, rfl⟩)
open Go Go.Abs M3
theorem Fi {a b : List UInt8} (ha : a.length <= 1000000) (hb : b.length <= 1000000) : Ok Tryz.prog 144 [.str a, .str b] (.int .i64 (TD a b)) := by
 refine Ok.ofT ZL Tryz.func144 Qg7 (QiM Z) ?_
 show TW _ _ tf144.body _ _
 refine Qb fun K hK => Qa Z (kc2 hK Z Z ?_)
 refine Qb fun K hK => Qa Z (Qv (YC Wa) Z Z (.inr Z) (Qa Z (Qv (YC Wa) Z Z (.inr Z) (mv2 Z Z (kc4 hK Z Z Z Z ?_)))))
 refine QB ?_ -- 0
 refine QC (Qb fun K hK => mv2 Z Z ?_)
 refine Qp (g := 17) Z (fun h1 => ?_) (fun h1 => ?_)
 ·rw [h1]
  refine Qd Z (Qa Z (Qg Z Z (Qa Z (kc5 hK Z Z Z Z Z ?_))))
  refine Qs Z (fun h2 => ?_) (fun h2 => ?_)
  ·rw [h2]
   refine Qb fun K hK => Qa Z (Qv (YI Wa) Z Z (.inr Z) (Qa Z (Q0 Z Z (Q0 Z Z (mv2 Z Z (kc2 hK Z Z ?_))))))
   refine Qb fun K hK => Qa Z (Qv (YI Wa) Z Z (.inr Z) (Qa Z (Q0 Z Z (Q0 Z Z (mv2 Z Z (kc2 hK Z Z ?_))))))
   refine Qb fun K hK => mv2 Z Z (Qv (ZE) Z Z (.inr Z) (Qa Z (kc1 hK Z ?_)))
   refine Qo (Qu (Qj (Qx Z ?_)))
   simp [TD, h1, h2]
  ·rw [h2]
   refine Qb fun K hK => mv2 Z Z (kc4 hK Z Z Z Z ?_)
   refine Zl Z (Qb fun K hK => Qa Z (kc1 hK Z ?_))
   refine Qo (Qu (Qj (Qx Z ?_)))
   simp [TD, h1, h2]
 ·rw [h1]
  refine Xd Z (Qg Z Z (Qa Z (kc5 hK Z Z Z Z Z ?_)))
  refine Zk Z (Qb fun K hK => mv2 Z Z (kc4 hK Z Z Z Z ?_))
  refine Zk Z (Qb fun K hK => mv2 Z Z (kc3 hK Z Z Z ?_))
  refine Qs Z (fun h3 => ?_) (fun h3 => ?_)
  ·rw [h3]
   refine Qb fun K hK => Qa Z (kc1 hK Z ?_)
   refine Qo (Qu (Qj (Qx Z ?_)))
   simp [TD, h1, h3]
  ·rw [h3]
   refine Qq (Qh (ks2 Z Z (Qb fun K hK => mv2 Z Z (Qv (GD) Z Z (.inr Z) (Qa Z (kc1 hK Z ?_))))))
   refine Qo (Qx Z ?_)
   simp [TD, h1, h3]
theorem GY {a b : List UInt8} (ha : a.length <= 1000000) (hb : b.length <= 1000000) : Ok Tryz.prog 138 [.str a, .str b] (.int .i64 (NM a b)) := by
 refine Ok.ofT ZL Tryz.func138 Qg1 (QiM Z) ?_
 show TW _ _ tf138.body _ _
 refine Qb fun K hK => Qa Z (kc2 hK Z Z ?_)
 refine QB ?_ -- 0
 refine QC (Qb fun K hK => mv2 Z Z (KH Z Z (Qa Z (kc3 hK Z Z Z ?_))))
 refine Qs Z (fun h1 => ?_) (fun h1 => ?_)
 ·rw [h1]
  simp only [qB, Qy] at h1
  refine Qb fun K hK => Qa Z (kc1 hK Z ?_)
  refine Qo (Qu (Qj (Qx Z ?_)))
  (repeat clear hK K); (simp_all [NM]; done)
 ·rw [h1]
  simp only [qB, Qy] at h1
  refine Qb fun K hK => Qa Z (KH Z Z (Qa Z (kc3 hK Z Z Z ?_)))
  refine Qs Z (fun h2 => ?_) (fun h2 => ?_)
  ·rw [h2]
   simp only [qB, Qy] at h2
   refine Qb fun K hK => Qa Z (kc1 hK Z ?_)
   refine Qo (Qu (Qj (Qx Z ?_)))
   (repeat clear hK K); (simp_all [NM]; done)
  ·rw [h2]
   simp only [qB, Qy] at h2
   refine Qb fun K hK => Qa Z (KH Z Z (Qa Z (kc3 hK Z Z Z ?_)))
   refine Qs Z (fun h3 => ?_) (fun h3 => ?_)
   ·rw [h3]
    simp only [qB, Qy] at h3
    refine Qb fun K hK => Qa Z (kc1 hK Z ?_)
    refine Qo (Qu (Qj (Qx Z ?_)))
    (repeat clear hK K); (simp_all [NM]; done)
   ·rw [h3]
    simp only [qB, Qy] at h3
    refine Qq (Qh (ks2 Z Z (Qb fun K hK => Qa Z (Qv (Y4 Wa) Z Z (.inl Z) (Qa Z (Qv (Y4 Wa) Z Z (.inl Z) (mv2 Z Z (kc2 hK Z Z ?_))))))))
    refine QB ?_ -- 1
    refine Qb fun K hK => Qa Z (kc3 hK Z Z Z ?_)
    refine QC ?_
    refine Zs (ι := Nat) (fun i => ⟨[(5, .sl (YU (Za a 46))), (6, .sl (YU (Za b 46))), (7, .int .i64 i)], []⟩) (fun i => i <= (Za a 46).length /\ i <= (Za b 46).length /\ NM a b = Dt ((Za a 46).drop i) ((Za b 46).drop i)) (fun i => (Za a 46).length - i) 0 ?_ ?_ ?_
    ·exact Q4 (kp3 rfl rfl rfl)
    ·exact ⟨QiY _, QiY _, by simp_all [NM]⟩
    intro i hI
    have sl := FW (s := a) (c := 46)
    refine QB ?_ -- 2
    refine Qb fun K hK => mv2 Z Z (Zd Z Z (ZT Z Z (Qa Z ?_)))
    refine Qp (g := 27) Z (fun h4 => ?_) (fun h4 => ?_)
    ·rw [h4]
     simp only [qB, Qy] at h4
     refine Qd Z (Qa Z (Qd Z (Qa Z (Qd Z (Zd Z Z (Qd Z (ZT Z Z (Qg Z Z (kc4 hK Z Z Z Z ?_)))))))))
     refine Qs Z (fun h5 => ?_) (fun h5 => ?_)
     ·rw [h5]
      simp only [qB, Qy] at h5
      refine Qq (ks3 Z Z Z ?_)
      refine QB ?_ -- 3
      refine QC (Qb fun K hK => mv2 Z Z (QJ Z Z Z Wa (Jg Wa) Z (QP (ds0 := [1, 0]) Z Z Z Z Z (mv2 Z Z (QJ Z Z Z Wa (Jg Wa) Z (QP (ds0 := [1, 0]) Z Z Z Z Z (Q5 (ds0 := [0]) (Fi (Ji Wa ha) (Ji Wa hb)) Z Z (.inr Z) Z Z (Qa Z ?_))))))))
      refine kc4 hK Z Z Z Z ?_
      refine Qb fun K hK => Qa Z (YA Z Z (kc5 hK Z Z Z Z Z ?_))
      refine Qs Z (fun h6 => ?_) (fun h6 => ?_)
      ·rw [h6]
       simp only [qB, Qy] at h6
       refine Qb fun K hK => mv2 Z Z (kc1 hK Z ?_)
       refine Qo (Qu (Qj (QV (Qu (Qj (Qx Z ?_))))))
       rw [hI.2.2, Du Wa Wa Wh]
      ·rw [h6]
       simp only [qB, Qy] at h6
       refine Qq (Qh (ks3 Z Z Z (QN fun K hK => Qa Z (Q2 Z Z Wb (Qa Z (hK _ ?_))))))
       refine Qk (i + 1) ?_ ?_ ?_
       ·exact Q4 (kp3 rfl rfl rfl)
       ·exact ⟨Wa, Wa, by rw [hI.2.2, S5 Wa Wa Wh]⟩
       ·omega
     ·rw [h5]
      simp only [qB, Qy] at h5
      refine Q7 (QF (Qw (QE (ks2 Z Z (Qb fun K hK => Qa Z (Zd Z Z (Qa Z (Zd Z Z (Qv (ZE) Z Z (.inr Z) (Qa Z ?_))))))))))
      refine kc1 hK Z ?_
      refine Qo (Qx Z ?_)
      (rw [hI.2.2, NX Wa Wa Wa]; simp [Qy])
    ·rw [h4]
     simp only [qB, Qy] at h4
     refine gn4 Z Z Z Z (Qg Z Z (kc4 hK Z Z Z Z ?_))
     refine Zk Z (Q7 (QF (Qw (QE (ks2 Z Z (Qb fun K hK => Qa Z (Zd Z Z (Qa Z (Zd Z Z (Qv (ZE) Z Z (.inr Z) ?_))))))))))
     refine Qa Z (kc1 hK Z ?_)
     refine Qo (Qx Z ?_)
     (rw [hI.2.2, NX Wa Wa Wa]; simp [Qy])
theorem Jr {s : List UInt8} {pre : Bool} (hl : s.length <= 1000000) : Ok Tryz.prog 87 [.str s, .bool pre] (.bool (Nf s pre)) := by
 refine Ok.ofT ZL Tryz.func87 Qiv (QiM Z) ?_
 show TW _ _ tf87.body _ _
 refine Qb fun K hK => Qa Z (kc2 hK Z Z ?_)
 refine QB ?_ -- 0
 refine Qb fun K hK => Qa Z (KH Z Z (kc3 hK Z Z Z ?_))
 refine Qs Z (fun h1 => ?_) (fun h1 => ?_)
 ·rw [h1]
  simp only [qB, Qy] at h1
  refine Qb fun K hK => Qa Z (kc1 hK Z ?_)
  refine Qo (Qj (Qi Z ?_))
  (repeat clear hK K); (simp_all [Nf]; done)
 ·rw [h1]
  simp only [qB, Qy] at h1
  refine Qq (ks2 Z Z (Qb fun K hK => Qa Z (Qv (Y4 Wa) Z Z (.inl Z) (Qa Z (kc2 hK Z Z ?_)))))
  refine QB ?_ -- 1
  refine Qb fun K hK => Qa Z (Zd Z Z (Kr Z Z (kc3 hK Z Z Z ?_)))
  refine Qs Z (fun h2 => ?_) (fun h2 => ?_)
  ·rw [h2]
   simp only [qB, Qy] at h2
   refine Qb fun K hK => Qa Z (kc1 hK Z ?_)
   refine Qo (Qj (Qi Z ?_))
   (simp [Nf, h1, h2]; omega)
  ·rw [h2]
   simp only [qB, Qy] at h2
   refine Qq (ks2 Z Z ?_)
   refine QB ?_ -- 2
   refine Qb fun K hK => Qa Z (kc3 hK Z Z Z ?_)
   refine QC ?_
   refine Zs (ι := Nat) (fun i => ⟨[(1, .bool pre), (5, .sl (YU (Za s 46))), (6, .int .i64 i)], []⟩) (fun i => i <= (Za s 46).length /\ ((Za s 46).take i).all (Nn pre) = true) (fun i => (Za s 46).length - i) 0 ?_ ?_ ?_
   ·exact Q4 (kp3 rfl rfl rfl)
   ·exact ⟨QiY _, rfl⟩
   intro i hI
   refine QB ?_ -- 3
   refine Qb fun K hK => mv2 Z Z (Zd Z Z (ZT Z Z (kc4 hK Z Z Z Z ?_)))
   refine Qs Z (fun h3 => ?_) (fun h3 => ?_)
   ·rw [h3]
    simp only [qB, Qy] at h3
    refine Qq (ks3 Z Z Z ?_)
    refine QB ?_ -- 4
    refine QC ?_
    refine QB ?_ -- 5
    refine Qb fun K hK => mv2 Z Z (QJ Z Z Z Wa (Jg Wa) Z (QA Z Z Z (Qv (Fj (Ji Wa hl)) Z Z (.inr Z) (ZB Z (kc4 hK Z Z Z Z ?_)))))
    refine Qs Z (fun h4 => ?_) (fun h4 => ?_)
    ·rw [h4]
     simp only [qB, Qy] at h4
     refine Qb fun K hK => Qa Z (kc1 hK Z ?_)
     refine Qo (Qj (Qu (Qj (QV (Qu (Qj (Qi Z ?_)))))))
     exact (Dv (i := i) Wh Wa (by simp [Nn, h1, h2, h3, h4])).symm
    ·rw [h4]
     simp only [qB, Qy] at h4
     refine Qq (ks3 Z Z Z (Qb fun K hK => mv2 Z Z (QJ Z Z Z Wa (Jg Wa) Z (QA Z Z Z (Qv (YI (Ji Wa hl)) Z Z (.inr Z) (Qa Z (Q0 Z Z (Q0 Z Z (Qa Z ?_)))))))))
     refine Qa Z (kc4 hK Z Z Z Z ?_)
     refine Qb fun K hK => mv2 Z Z ?_
     refine Qp (g := 37) Z (fun h5 => ?_) (fun h5 => ?_)
     ·rw [h5]
      refine Qd Z (Qa Z (Qd Z (Qa Z (Qd Z (QJ Z Z Z Wa (Jg Wa) Z (Qd Z (QA Z Z Z (Qd Z (Qv (YC (Ji Wa hl)) Z Z (.inr Z) (Qg Z Z (Qa Z ?_)))))))))))
      refine Qp (g := 44) Z (fun h6 => ?_) (fun h6 => ?_)
      ·rw [h6]
       refine Qd Z (Qa Z (Qd Z (ZB Z (Qg Z Z (kc4 hK Z Z Z Z ?_)))))
       refine Qs Z (fun h7 => ?_) (fun h7 => ?_)
       ·rw [h7]
        simp only [qB, Qy] at h7
        refine Qb fun K hK => Qa Z (kc1 hK Z ?_)
        refine Qo (Qu (Qj (QV (Qu (Qj (Qi Z ?_))))))
        exact (Dv (i := i) Wh Wa (by simp [Nn, h1, h2, h3, h4, h5, h6, h7])).symm
       ·rw [h7]
        simp only [qB, Qy] at h7
        refine Qq (Qh (ks3 Z Z Z (QN fun K hK => Qa Z (Q2 Z Z Wb (Qa Z (hK _ ?_))))))
        refine Qk (i + 1) ?_ ?_ ?_
        ·exact QW (l := [1, 5, 6]) (kp3 rfl rfl rfl) Qn (by simp [h1, h2, h3, h4, h5, h6, h7]) rfl rfl
        ·exact ⟨Wa, Zn Wa hI.2 (by simp [Nn, h1, h2, h3, h4, h5, h6, h7])⟩
        ·omega
      ·rw [h6]
       refine gn2 Z Z (Qg Z Z (kc4 hK Z Z Z Z ?_))
       refine Zk Z (Qq (Qh (ks3 Z Z Z (QN fun K hK => Qa Z (Q2 Z Z Wb (Qa Z (hK _ ?_)))))))
       refine Qk (i + 1) ?_ ?_ ?_
       ·exact QW (l := [1, 5, 6]) (kp3 rfl rfl rfl) Qn (by simp [h1, h2, h3, h4, h5, h6]) rfl rfl
       ·exact ⟨Wa, Zn Wa hI.2 (by simp [Nn, h1, h2, h3, h4, h5, h6])⟩
       ·omega
     ·rw [h5]
      refine gn4 Z Z Z Z (Xd Z (Qg Z Z (Qa Z (gn2 Z Z (Qg Z Z (kc4 hK Z Z Z Z ?_))))))
      refine Zk Z (Qq (Qh (ks3 Z Z Z (QN fun K hK => Qa Z (Q2 Z Z Wb (Qa Z (hK _ ?_)))))))
      refine Qk (i + 1) ?_ ?_ ?_
      ·exact QW (l := [1, 5, 6]) (kp3 rfl rfl rfl) Qn (by simp [h1, h2, h3, h4, h5]) rfl rfl
      ·exact ⟨Wa, Zn Wa hI.2 (by simp [Nn, h1, h2, h3, h4, h5])⟩
      ·omega
   ·rw [h3]
    simp only [qB, Qy] at h3
    refine Q7 (QF (Qw (QE (QX (Zg) (Qb fun K hK => Qa Z (kc1 hK Z ?_))))))
    refine Qo (Qi Z ?_)
    exact (BY (i := i) Wa Wa hI.2).symm
theorem Zb {a b c : Int} {p q : List UInt8} (hp : p.length <= 1000000) (hq : q.length <= 1000000) : Ok Tryz.prog 61 [.agg [.int .i64 a, .int .i64 b, .int .i64 c, .str p, .str q]] (.bool (Ks a b c p q)) := by
 refine Ok.ofT ZL Tryz.func61 Qh9 (QiM Z) ?_
 show TW _ _ tf61.body _ _
 refine Qb fun K hK => Zi Z Z Z (Qa Z (kc1 hK Z ?_))
 refine Qb fun K hK => Qe Z Z (QA Z Z Z (Qv (Xq) Z Z (.inr Z) (Qa Z ?_)))
 refine Qp (g := 6) Z (fun h1 => ?_) (fun h1 => ?_)
 ·rw [h1]
  refine Qd Z (Qe Z Z (Qd Z (QA Z Z Z (Qd Z (Qv (Xq) Z Z (.inr Z) (Qg Z Z (Qa Z ?_)))))))
  refine Qp (g := 11) Z (fun h2 => ?_) (fun h2 => ?_)
  ·rw [h2]
   refine Qd Z (Qe Z Z (Qd Z (QA Z Z Z (Qd Z (Qv (Xq) Z Z (.inr Z) (Qg Z Z (Qa Z ?_)))))))
   refine Qp (g := 16) Z (fun h3 => ?_) (fun h3 => ?_)
   ·rw [h3]
    refine Qd Z (Qe Z Z (Qd Z (QA Z Z Z (Qd Z (Qv (Jr Wa) Z Z (.inr Z) (Qg Z Z (Qa Z ?_)))))))
    refine Qp (g := 21) Z (fun h4 => ?_) (fun h4 => ?_)
    ·rw [h4]
     refine Qd Z (Qe Z Z (Qd Z (QA Z Z Z (Qd Z (Qv (Jr Wa) Z Z (.inr Z) (Qg Z Z (Qa Z (kc1 hK Z ?_))))))))
     refine Qo (Qi Z ?_)
     simp [Ks, h1, h2, h3, h4]
    ·rw [h4]
     refine gn3 Z Z Z (Qg Z Z (Qa Z (kc1 hK Z ?_)))
     refine Qo (Qi Z ?_)
     simp [Ks, h1, h2, h3, h4]
   ·rw [h3]
    refine gn3 Z Z Z (Qg Z Z (Qa Z (gn3 Z Z Z (Qg Z Z (Qa Z (kc1 hK Z ?_))))))
    refine Qo (Qi Z ?_)
    simp [Ks, h1, h2, h3]
  ·rw [h2]
   refine gn3 Z Z Z (Qg Z Z (Qa Z (gn3 Z Z Z (Qg Z Z (Qa Z (gn2 Z Z ?_))))))
   refine Xd Z (Qg Z Z (Qa Z (kc1 hK Z ?_)))
   refine Qo (Qi Z ?_)
   simp [Ks, h1, h2]
 ·rw [h1]
  refine gn3 Z Z Z (Qg Z Z (Qa Z (gn3 Z Z Z (Qg Z Z (Qa Z (gn2 Z Z ?_))))))
  refine Xd Z (Qg Z Z (Qa Z (gn3 Z Z Z (Qg Z Z (Qa Z (kc1 hK Z ?_))))))
  refine Qo (Qi Z ?_)
  simp [Ks, h1]
theorem Sz {l : List Int} (hl : l.length <= 1000000) : Ok Tryz.prog 147 [QS l] (.int .i64 (Ys l)) := by
 refine Ok.ofT ZL Tryz.func147 Qha (QiM Z) ?_
 show TW _ _ tf147.body _ _
 refine Qb fun K hK => Qa Z (kc1 hK Z ?_)
 refine Qb fun K hK => Qa Z (kc2 hK Z Z ?_)
 refine QB ?_ -- 0
 refine Qb fun K hK => Qa Z (Zd Z Z (Qa Z (kc4 hK Z Z Z Z ?_)))
 refine QC ?_
 refine Zs (ι := Nat) (fun i => ⟨[(3, .int .i64 0), (6, QS l), (7, .int .i64 l.length), (8, .int .i64 i)], []⟩) (fun i => i <= l.length /\ Ys l = Ys (l.drop i)) (fun i => l.length - i) 0 ?_ ?_ ?_
 ·exact QW (l := [3, 6, 7, 8]) (kp4 rfl rfl rfl rfl) Qn (by simp [QS]) rfl rfl
 ·exact ⟨QiY _, rfl⟩
 intro i hI
 refine Qb fun K hK => ZT Z Z (kc5 hK Z Z Z Z Z ?_)
 refine QB ?_ -- 1
 refine Qs Z (fun h1 => ?_) (fun h1 => ?_)
 ·rw [h1]
  simp only [qB] at h1
  refine Qq (ks4 Z Z Z Z ?_)
  refine QB ?_ -- 2
  refine QC (Qb fun K hK => QJ Z Z Z Wa (Q6 Wa) Z (QA Z Z Z (Qa Z (kc5 hK Z Z Z Z Z ?_))))
  refine Qb fun K hK => mv2 Z Z (YA Z Z (kc6 hK Z Z Z Z Z Z ?_))
  refine Qs Z (fun h2 => ?_) (fun h2 => ?_)
  ·rw [h2]
   simp only [qB] at h2
   refine Qb fun K hK => mv2 Z Z (kc1 hK Z ?_)
   refine Qo (Qu (Qj (QV (Qu (Qj (Qx Z ?_))))))
   rw [hI.2, T9 Wa Wh]
  ·rw [h2]
   simp only [qB] at h2
   refine Qq (Qh (ks4 Z Z Z Z (QN fun K hK => Q2 Z Z Wb (Qa Z (hK _ ?_)))))
   refine Qk (i + 1) ?_ ?_ ?_
   ·exact Q4 (kp4 rfl rfl rfl rfl)
   ·exact ⟨Wa, by rw [hI.2, SL Wa Wh]⟩
   ·omega
 ·rw [h1]
  simp only [qB] at h1
  refine Q7 (QF (Qw (QE (ks1 Z (Qb fun K hK => mv2 Z Z (kc1 hK Z ?_))))))
  refine Qo (Qx Z ?_)
  (rw [hI.2, Qi7 Wa]; rfl)
open Go Go.Abs M3
theorem YB {a b c : Int} {p q : List UInt8} (hp : p.length <= 1000000) (hq : q.length <= 1000000) {a' b' c' : Int} {p' q' : List UInt8} (hp' : p'.length <= 1000000) (hq' : q'.length <= 1000000) : Ok Tryz.prog 120 [.agg [.int .i64 a, .int .i64 b, .int .i64 c, .str p, .str q], .agg [.int .i64 a', .int .i64 b', .int .i64 c', .str p', .str q']] (.int .i64 (Nd a b c p q a' b' c' p' q')) := by
 refine Ok.ofT ZL Tryz.func120 QgJ (QiM Z) ?_
 show TW _ _ tf120.body _ _
 refine Qb fun K hK => Zi Z Z Z (Zi Z Z Z (Qa Z (kc2 hK Z Z ?_)))
 refine QB ?_ -- 0
 refine Qb fun K hK => Qz (cs := [_, _, _, _, _]) Z Z Z Z (Qv (Zb Wa Wa) Z Z (.inr Z) (ZB Z (Qa Z ?_)))
 refine Qp (g := 11) Z (fun h1 => ?_) (fun h1 => ?_)
 ·rw [h1]
  simp only [qB] at h1
  refine gn3 Z Z Z (Qg Z Z (kc3 hK Z Z Z ?_))
  refine Zl Z (Qb fun K hK => Qa Z (kc1 hK Z ?_))
  refine Qo (Qj (Qx Z ?_))
  simp [Nd, h1]
 ·rw [h1]
  simp only [qB] at h1
  refine Qd Z (Qz (cs := [_, _, _, _, _]) Z Z Z Z (Qd Z (Qv (Zb Wa Wa) Z Z (.inr Z) (Qd Z (ZB Z (Qg Z Z (kc3 hK Z Z Z ?_)))))))
  refine Qs Z (fun h2 => ?_) (fun h2 => ?_)
  ·rw [h2]
   simp only [qB] at h2
   refine Qb fun K hK => Qa Z (kc1 hK Z ?_)
   refine Qo (Qj (Qx Z ?_))
   simp [Nd, h1, h2]
  ·rw [h2]
   simp only [qB] at h2
   refine Qq (ks2 Z Z ?_)
   refine QB ?_ -- 1
   refine Qb fun K hK => Qe Z Z (QA Z Z Z (Qe Z Z (QA Z Z Z (Qv (ZE) Z Z (.inr Z) (Qa Z (kc3 hK Z Z Z ?_))))))
   refine Qb fun K hK => Qa Z (YA Z Z (kc4 hK Z Z Z Z ?_))
   refine Qs Z (fun h3 => ?_) (fun h3 => ?_)
   ·rw [h3]
    simp only [qB] at h3
    refine Qb fun K hK => mv2 Z Z (kc1 hK Z ?_)
    refine Qo (Qj (Qx Z ?_))
    simp [Nd, h1, h2, h3]
   ·rw [h3]
    simp only [qB] at h3
    refine Qq (ks2 Z Z ?_)
    refine QB ?_ -- 2
    refine Qb fun K hK => Qe Z Z (QA Z Z Z (Qe Z Z (QA Z Z Z (Qv (ZE) Z Z (.inr Z) (Qa Z (kc3 hK Z Z Z ?_))))))
    refine Qb fun K hK => Qa Z (YA Z Z (kc4 hK Z Z Z Z ?_))
    refine Qs Z (fun h4 => ?_) (fun h4 => ?_)
    ·rw [h4]
     simp only [qB] at h4
     refine Qb fun K hK => mv2 Z Z (kc1 hK Z ?_)
     refine Qo (Qj (Qx Z ?_))
     simp [Nd, h1, h2, h3, h4]
    ·rw [h4]
     simp only [qB] at h4
     refine Qq (ks2 Z Z ?_)
     refine QB ?_ -- 3
     refine Qb fun K hK => Qe Z Z (QA Z Z Z (Qe Z Z (QA Z Z Z (Qv (ZE) Z Z (.inr Z) (Qa Z (kc3 hK Z Z Z ?_))))))
     refine Qb fun K hK => Qa Z (YA Z Z (kc4 hK Z Z Z Z ?_))
     refine Qs Z (fun h5 => ?_) (fun h5 => ?_)
     ·rw [h5]
      simp only [qB] at h5
      refine Qb fun K hK => mv2 Z Z (kc1 hK Z ?_)
      refine Qo (Qj (Qx Z ?_))
      simp [Nd, h1, h2, h3, h4, h5]
     ·rw [h5]
      simp only [qB] at h5
      refine Qq (ks2 Z Z (Qb fun K hK => Qe Z Z (QA Z Z Z (Qe Z Z (QA Z Z Z (Qv (GY Wa Wa) Z Z (.inr Z) (Qa Z (kc1 hK Z ?_))))))))
      refine Qo (Qx Z ?_)
      simp [Nd, h1, h2, h3, h4, h5]
theorem Yi {e a b c : Int} {p q : List UInt8} {f : Bool} (hp : p.length <= 1000000) (hq : q.length <= 1000000) : Ok Tryz.prog 139 [.agg [.int .i64 e, .int .i64 a, .int .i64 b, .int .i64 c, .str p, .str q, .bool f]] (.bool (XY e a b c p q f)) := by
 refine Ok.ofT ZL Tryz.func139 Qg2 (QiM Z) ?_
 show TW _ _ tf139.body _ _
 refine Qb fun K hK => Zi Z Z Z (Qa Z (kc1 hK Z ?_))
 refine QB ?_ -- 0
 refine Qb fun K hK => Qe Z Z (QA Z Z Z (Yw Z Z (kc2 hK Z Z ?_)))
 refine Qs Z (fun h1 => ?_) (fun h1 => ?_)
 ·rw [h1]
  simp only [qB] at h1
  refine Qb fun K hK => Qe Z Z (Qz (cs := [_, _, _, _, _]) Z Z Z Z (Qv (Zb Wa Wa) Z Z (.inr Z) (Qa Z ?_)))
  refine Qp (g := 9) Z (fun h2 => ?_) (fun h2 => ?_)
  ·rw [h2]
   refine Qd Z (Qe Z Z (Qd Z (Qe Z Z (Qd Z (QA Z Z Z (Qd Z (KH Z Z (Qg Z Z (Qa Z (kc1 hK Z ?_))))))))))
   refine Qo (Qj (Qi Z ?_))
   (repeat clear hK K); simp_all [XY]
  ·rw [h2]
   refine gn4 Z Z Z Z (Qg Z Z (Qa Z (kc1 hK Z ?_)))
   refine Qo (Qj (Qi Z ?_))
   (repeat clear hK K); simp_all [XY]
 ·rw [h1]
  simp only [qB] at h1
  refine Qq (ks1 Z (Qb fun K hK => Qe Z Z (QA Z Z Z (Yw Z Z (Qa Z ?_)))))
  refine Qp (g := 18) Z (fun h3 => ?_) (fun h3 => ?_)
  ·rw [h3]
   simp only [qB] at h3
   refine gn3 Z Z Z (Qg Z Z (Qa Z (Qd Z (Qe Z Z (Qd Z (Qz (cs := [_, _, _, _, _]) Z Z Z Z (Qd Z (QT Z Z (Qd Z ?_)))))))))
   refine Nr Z Z Z (Qg Z Z (Qa Z ?_))
   refine Qp (g := 29) Z (fun h4 => ?_) (fun h4 => ?_)
   ·rw [h4]
    simp only [qB] at h4
    refine Qd Z (Qe Z Z (Qd Z (QA Z Z Z (Qd Z (ZB Z (Qg Z Z (Qa Z (kc1 hK Z ?_))))))))
    refine Qo (Qi Z ?_)
    (repeat clear hK K); simp_all [XY]
   ·rw [h4]
    simp only [qB] at h4
    refine gn3 Z Z Z (Qg Z Z (Qa Z (kc1 hK Z ?_)))
    refine Qo (Qi Z ?_)
    (repeat clear hK K); simp_all [XY]
  ·rw [h3]
   simp only [qB] at h3
   refine Qd Z (Qe Z Z (Qd Z (QA Z Z Z (Qd Z (Yw Z Z (Qg Z Z (Qa Z ?_)))))))
   refine Qp (g := 23) Z (fun h5 => ?_) (fun h5 => ?_)
   ·rw [h5]
    simp only [qB] at h5
    refine Qd Z (Qe Z Z (Qd Z (Qz (cs := [_, _, _, _, _]) Z Z Z Z (Qd Z (QT Z Z (Qd Z (Nr Z Z Z (Qg Z Z (Qa Z ?_)))))))))
    refine Qp (g := 29) Z (fun h6 => ?_) (fun h6 => ?_)
    ·rw [h6]
     simp only [qB] at h6
     refine Qd Z (Qe Z Z (Qd Z (QA Z Z Z (Qd Z (ZB Z (Qg Z Z (Qa Z (kc1 hK Z ?_))))))))
     refine Qo (Qi Z ?_)
     (repeat clear hK K); simp_all [XY]
    ·rw [h6]
     simp only [qB] at h6
     refine gn3 Z Z Z (Qg Z Z (Qa Z (kc1 hK Z ?_)))
     refine Qo (Qi Z ?_)
     (repeat clear hK K); simp_all [XY]
   ·rw [h5]
    simp only [qB] at h5
    refine gn4 Z Z Z Z (Qg Z Z (Qa Z (gn3 Z Z Z (Qg Z Z (Qa Z (kc1 hK Z ?_))))))
    refine Qo (Qi Z ?_)
    (repeat clear hK K); simp_all [XY]
theorem ZA {e a b c : Int} {p q : List UInt8} {f : Bool} (hp : p.length <= 1000000) (hq : q.length <= 1000000) {e' a' b' c' : Int} {p' q' : List UInt8} {f' : Bool} (hp' : p'.length <= 1000000) (hq' : q'.length <= 1000000) : Ok Tryz.prog 122 [.agg [.int .i64 e, .int .i64 a, .int .i64 b, .int .i64 c, .str p, .str q, .bool f], .agg [.int .i64 e', .int .i64 a', .int .i64 b', .int .i64 c', .str p', .str q', .bool f']] (.int .i64 (Km e a b c p q f e' a' b' c' p' q' f')) := by
 refine Ok.ofT ZL Tryz.func122 QgL (QiM Z) ?_
 show TW _ _ tf122.body _ _
 refine Qb fun K hK => Zi Z Z Z (Zi Z Z Z (Qa Z (kc2 hK Z Z ?_)))
 refine QB ?_ -- 0
 refine Qb fun K hK => Qz (cs := [_, _, _, _, _, _, _]) Z Z Z Z (Qv (Yi Wa Wa) Z Z (.inr Z) (ZB Z (Qa Z ?_)))
 refine Qp (g := 9) Z (fun h1 => ?_) (fun h1 => ?_)
 ·rw [h1]
  simp only [qB] at h1
  refine gn3 Z Z Z (Qg Z Z (kc3 hK Z Z Z ?_))
  refine Zl Z (Qb fun K hK => Qa Z (kc1 hK Z ?_))
  refine Qo (Qj (Qx Z ?_))
  (simp [Km, h1]; done)
 ·rw [h1]
  simp only [qB] at h1
  refine Qd Z (Qz (cs := [_, _, _, _, _, _, _]) Z Z Z Z (Qd Z (Qv (Yi Wa Wa) Z Z (.inr Z) (Qd Z (ZB Z (Qg Z Z (kc3 hK Z Z Z ?_)))))))
  refine Qs Z (fun h2 => ?_) (fun h2 => ?_)
  ·rw [h2]
   simp only [qB] at h2
   refine Qb fun K hK => Qa Z (kc1 hK Z ?_)
   refine Qo (Qj (Qx Z ?_))
   (simp [Km, h1, h2]; done)
  ·rw [h2]
   simp only [qB] at h2
   refine Qq (ks2 Z Z ?_)
   refine QB ?_ -- 1
   refine Qb fun K hK => Qe Z Z (QA Z Z Z (Qe Z Z (QA Z Z Z (YA Z Z (Qa Z ?_)))))
   refine Qp (g := 19) Z (fun h3 => ?_) (fun h3 => ?_)
   ·rw [h3]
    simp only [qB] at h3
    refine gn3 Z Z Z (Qg Z Z (kc3 hK Z Z Z ?_))
    refine Zl Z (Qb fun K hK => Qe Z Z (QA Z Z Z (Qe Z Z (QA Z Z Z (Qv (ZE) Z Z (.inr Z) (Qa Z (kc1 hK Z ?_)))))))
    refine Qo (Qj (Qx Z ?_))
    (simp [Km, h1, h2, h3]; done)
   ·rw [h3]
    simp only [qB] at h3
    refine Qd Z (Qe Z Z (Qd Z (QA Z Z Z (Qd Z (YA Z Z (Qg Z Z (kc3 hK Z Z Z ?_)))))))
    refine Qs Z (fun h4 => ?_) (fun h4 => ?_)
    ·rw [h4]
     simp only [qB] at h4
     refine Qb fun K hK => Qe Z Z (QA Z Z Z (Qe Z Z (QA Z Z Z (Qv (ZE) Z Z (.inr Z) (Qa Z (kc1 hK Z ?_))))))
     refine Qo (Qj (Qx Z ?_))
     (repeat clear hK K); (simp_all [Km]; done)
    ·rw [h4]
     simp only [qB] at h4
     refine Qq (ks2 Z Z ?_)
     refine QB ?_ -- 2
     refine Qb fun K hK => Qe Z Z (Qz (cs := [_, _, _, _, _]) Z Z Z Z (Qe Z Z (Qz (cs := [_, _, _, _, _]) Z Z Z Z (Qv (YB Wa Wa Wa Wa) Z Z (.inr Z) (Qa Z (kc3 hK Z Z Z ?_))))))
     refine Qb fun K hK => Qa Z (YA Z Z (kc4 hK Z Z Z Z ?_))
     refine Qs Z (fun h5 => ?_) (fun h5 => ?_)
     ·rw [h5]
      simp only [qB] at h5
      refine Qb fun K hK => mv2 Z Z (kc1 hK Z ?_)
      refine Qo (Qj (Qx Z ?_))
      (repeat clear hK K); (simp_all [Km]; done)
     ·rw [h5]
      simp only [qB] at h5
      refine Qq (ks2 Z Z ?_)
      refine QB ?_ -- 3
      refine QC (Qb fun K hK => Qe Z Z (QA Z Z Z (Qe Z Z (QA Z Z Z (Ca Z Z (Qa Z (kc2 hK Z Z ?_)))))))
      refine Qs Z (fun h6 => ?_) (fun h6 => ?_)
      ·rw [h6]
       simp only [qB] at h6
       refine Qb fun K hK => Qa Z (kc1 hK Z ?_)
       refine Qo (Qu (Qj (Qx Z ?_)))
       (repeat clear hK K); (simp_all [Km]; done)
      ·rw [h6]
       simp only [qB] at h6
       refine Qb fun K hK => Qe Z Z (QA Z Z Z (Qa Z (kc1 hK Z ?_)))
       refine Qs Z (fun h7 => ?_) (fun h7 => ?_)
       ·rw [h7]
        refine Qb fun K hK => Qa Z (kc1 hK Z ?_)
        refine Qo (Qu (Qj (Qx Z ?_)))
        (repeat clear hK K); (simp_all [Km]; done)
       ·rw [h7]
        refine Qq (Qh (QX (Zg) (Qb fun K hK => Qa Z (kc1 hK Z ?_))))
        refine Qo (Qx Z ?_)
        (repeat clear hK K); (simp_all [Km]; done)
theorem X5 {e a b c : Int} {p q : List UInt8} {f : Bool} (hp : p.length <= 1000000) (hq : q.length <= 1000000) {a' b' c' : Int} {p' q' : List UInt8} (hp' : p'.length <= 1000000) (hq' : q'.length <= 1000000) : Ok Tryz.prog 123 [.agg [.int .i64 e, .int .i64 a, .int .i64 b, .int .i64 c, .str p, .str q, .bool f], .agg [.int .i64 a', .int .i64 b', .int .i64 c', .str p', .str q']] (.bool (Jc e a b c p q f a' b' c' p' q')) := by
 refine Ok.ofT ZL Tryz.func123 QgM (QiM Z) ?_
 show TW _ _ tf123.body _ _
 refine Qb fun K hK => Zi Z Z Z (Zi Z Z Z (Qa Z (kc2 hK Z Z ?_)))
 refine QB ?_ -- 0
 refine Qb fun K hK => Qz (cs := [_, _, _, _, _, _, _]) Z Z Z Z (Qv (Yi Wa Wa) Z Z (.inr Z) (ZB Z (Qa Z ?_)))
 refine Qp (g := 9) Z (fun h1 => ?_) (fun h1 => ?_)
 ·rw [h1]
  simp only [qB] at h1
  refine gn3 Z Z Z (Qg Z Z (kc3 hK Z Z Z ?_))
  refine Zl Z (Qb fun K hK => Qa Z (kc1 hK Z ?_))
  refine Qo (Qj (Qi Z ?_))
  (simp [Jc, h1]; done)
 ·rw [h1]
  simp only [qB] at h1
  refine Qd Z (Qz (cs := [_, _, _, _, _]) Z Z Z Z (Qd Z (Qv (Zb Wa Wa) Z Z (.inr Z) (Qd Z (ZB Z (Qg Z Z (kc3 hK Z Z Z ?_)))))))
  refine Qs Z (fun h2 => ?_) (fun h2 => ?_)
  ·rw [h2]
   simp only [qB] at h2
   refine Qb fun K hK => Qa Z (kc1 hK Z ?_)
   refine Qo (Qj (Qi Z ?_))
   (simp [Jc, h1, h2]; done)
  ·rw [h2]
   simp only [qB] at h2
   refine Qq (ks2 Z Z ?_)
   refine QB ?_ -- 1
   refine Qb fun K hK => Qe Z Z (QA Z Z Z (YA Z Z (kc3 hK Z Z Z ?_)))
   refine Qs Z (fun h3 => ?_) (fun h3 => ?_)
   ·rw [h3]
    simp only [qB] at h3
    refine Qb fun K hK => Qe Z Z (QA Z Z Z (ZT Z Z (Qa Z (kc1 hK Z ?_))))
    refine Qo (Qj (Qi Z ?_))
    (simp [Jc, h1, h2, h3]; done)
   ·rw [h3]
    simp only [qB] at h3
    refine Qq (ks2 Z Z (Qb fun K hK => Qe Z Z (Qz (cs := [_, _, _, _, _]) Z Z Z Z (Qz (cs := [_, _, _, _, _]) Z Z Z Z (Qv (YB Wa Wa Wa Wa) Z Z (.inr Z) (Qa Z (kc2 hK Z Z ?_)))))))
    refine Qb fun K hK => Qa Z (ZT Z Z (Qa Z ?_))
    refine Qp (g := 26) Z (fun h4 => ?_) (fun h4 => ?_)
    ·rw [h4]
     simp only [qB] at h4
     refine gn3 Z Z Z (QI Z (QI Z (QI Z (Xd Z (Qg Z Z (Qa Z (kc1 hK Z ?_)))))))
     refine Qo (Qi Z ?_)
     (repeat clear hK K); (simp_all [Jc]; done)
    ·rw [h4]
     simp only [qB] at h4
     refine Qd Z (Qa Z (Qd Z (Yw Z Z (Qd Z (Qa Z ?_)))))
     refine Qp (g := 29) Z (fun h5 => ?_) (fun h5 => ?_)
     ·rw [h5]
      simp only [qB] at h5
      refine Qd Z (Qe Z Z (Qd Z (QA Z Z Z (Qd Z (ZB Z (Qd Z (Qg Z Z (Qg Z Z (Qa Z (kc1 hK Z ?_))))))))))
      refine Qo (Qi Z ?_)
      (repeat clear hK K); (simp_all [Jc]; done)
     ·rw [h5]
      simp only [qB] at h5
      refine gn3 Z Z Z (Qd Z (Qg Z Z (Qg Z Z (Qa Z (kc1 hK Z ?_)))))
      refine Qo (Qi Z ?_)
      (simp [Jc, h1, h2, h3, h4, h5]; done)
theorem YE {e a b c : Int} {p q : List UInt8} {f : Bool} (hp : p.length <= 1000000) (hq : q.length <= 1000000) {e' a' b' c' : Int} {p' q' : List UInt8} {f' : Bool} (hp' : p'.length <= 1000000) (hq' : q'.length <= 1000000) : Ok Tryz.prog 121 [.agg [.int .i64 e, .int .i64 a, .int .i64 b, .int .i64 c, .str p, .str q, .bool f, .int .i64 e', .int .i64 a', .int .i64 b', .int .i64 c', .str p', .str q', .bool f']] (.bool (MX e a b c p q f e' a' b' c' p' q' f')) := by
 refine Ok.ofT ZL Tryz.func121 QgK (QiM Z) ?_
 show TW _ _ tf121.body _ _
 refine Qb fun K hK => Zi Z Z Z (Qa Z (kc1 hK Z ?_))
 refine Qb fun K hK => Qe Z Z (Qz (cs := [_, _, _, _, _, _, _]) Z Z Z Z (Qv (Yi Wa Wa) Z Z (.inr Z) (Qa Z ?_)))
 refine Qp (g := 6) Z (fun h1 => ?_) (fun h1 => ?_)
 ·rw [h1]
  refine Qd Z (Qe Z Z (Qd Z (Qz (cs := [_, _, _, _, _, _, _]) Z Z Z Z (Qd Z (Qv (Yi Wa Wa) Z Z (.inr Z) (Qg Z Z (Qa Z ?_)))))))
  refine Qp (g := 11) Z (fun h2 => ?_) (fun h2 => ?_)
  ·rw [h2]
   refine Qd Z (Qe Z Z (Qd Z (Qz (cs := [_, _, _, _, _, _, _]) Z Z Z Z (Qd Z (Qe Z Z (Qd Z (Qz (cs := [_, _, _, _, _, _, _]) Z Z Z Z (Qd Z (Qv (ZA Wa Wa Wa Wa) Z Z (.inr Z) (Qd Z (ZT Z Z ?_)))))))))))
   refine Qg Z Z (Qa Z (kc1 hK Z ?_))
   refine Qo (Qi Z ?_)
   (simp [MX, h1, h2]; done)
  ·rw [h2]
   refine gn4 Z Z Z Z (gn2 Z Z (Qg Z Z (Qa Z (kc1 hK Z ?_))))
   refine Qo (Qi Z ?_)
   (simp [MX, h1, h2]; done)
 ·rw [h1]
  refine gn3 Z Z Z (Qg Z Z (Qa Z (gn4 Z Z Z Z (gn2 Z Z (Qg Z Z ?_)))))
  refine Qa Z (kc1 hK Z ?_)
  refine Qo (Qi Z ?_)
  (simp [MX, h1]; done)
theorem GE {e a b c : Int} {p q : List UInt8} {f : Bool} (hp : p.length <= 1000000) (hq : q.length <= 1000000) {e' a' b' c' : Int} {p' q' : List UInt8} {f' : Bool} (hp' : p'.length <= 1000000) (hq' : q'.length <= 1000000) {x y z : Int} {r s : List UInt8} (hr : r.length <= 1000000) (hs : s.length <= 1000000) : Ok Tryz.prog 104 [.agg [.int .i64 e, .int .i64 a, .int .i64 b, .int .i64 c, .str p, .str q, .bool f, .int .i64 e', .int .i64 a', .int .i64 b', .int .i64 c', .str p', .str q', .bool f'], .agg [.int .i64 x, .int .i64 y, .int .i64 z, .str r, .str s]] (.bool (HO e a b c p q f e' a' b' c' p' q' f' x y z r s)) := by
 refine Ok.ofT ZL Tryz.func104 Qgt (QiM Z) ?_
 show TW _ _ tf104.body _ _
 refine Qb fun K hK => Zi Z Z Z (Zi Z Z Z (Qa Z (kc2 hK Z Z ?_)))
 refine Qb fun K hK => Qz (cs := [_, _, _, _, _, _, _, _, _, _, _, _, _, _]) Z Z Z Z (Qv (YE Wa Wa Wa Wa) Z Z (.inr Z) (Qa Z ?_))
 refine Qp (g := 7) Z (fun h1 => ?_) (fun h1 => ?_)
 ·rw [h1]
  refine Qd Z (Qz (cs := [_, _, _, _, _]) Z Z Z Z (Qd Z (Qv (Zb Wa Wa) Z Z (.inr Z) (Qg Z Z (Qa Z ?_)))))
  refine Qp (g := 11) Z (fun h2 => ?_) (fun h2 => ?_)
  ·rw [h2]
   refine Qd Z (Qe Z Z (Qd Z (Qz (cs := [_, _, _, _, _, _, _]) Z Z Z Z (Qd Z (Qz (cs := [_, _, _, _, _]) Z Z Z Z (Qd Z (Qv (X5 Wa Wa Wa Wa) Z Z (.inr Z) (Qg Z Z (Qa Z ?_)))))))))
   refine Qp (g := 17) Z (fun h3 => ?_) (fun h3 => ?_)
   ·rw [h3]
    refine Qd Z (Qe Z Z (Qd Z (Qz (cs := [_, _, _, _, _, _, _]) Z Z Z Z (Qd Z (Qz (cs := [_, _, _, _, _]) Z Z Z Z (Qd Z (Qv (X5 Wa Wa Wa Wa) Z Z (.inr Z) (Qd Z (ZB Z (Qg Z Z (Qa Z ?_)))))))))))
    refine kc1 hK Z ?_
    refine Qo (Qi Z ?_)
    (simp [HO, h1, h2, h3]; done)
   ·rw [h3]
    refine gn4 Z Z Z Z (Xd Z (Qg Z Z (Qa Z (kc1 hK Z ?_))))
    refine Qo (Qi Z ?_)
    (simp [HO, h1, h2, h3]; done)
  ·rw [h2]
   refine gn4 Z Z Z Z (Qg Z Z (Qa Z (gn4 Z Z Z Z (Xd Z (Qg Z Z ?_)))))
   refine Qa Z (kc1 hK Z ?_)
   refine Qo (Qi Z ?_)
   (simp [HO, h1, h2]; done)
 ·rw [h1]
  refine gn2 Z Z (Qg Z Z (Qa Z (gn4 Z Z Z Z (Qg Z Z (Qa Z (gn2 Z Z ?_))))))
  refine gn3 Z Z Z (Qg Z Z (Qa Z (kc1 hK Z ?_)))
  refine Qo (Qi Z ?_)
  (simp [HO, h1]; done)
open Go Go.Abs M3
theorem _root_.Wn {p : Prop} (h : p := by first | (left; assumption) | (right; omega)) : p := h
theorem Kg {s : List UInt8} (hl : s.length <= 1000000) : Ok Tryz.prog 132 [.str s] (.tup [.int .i64 (Yk s).1, .bool (Yk s).2]) := by
 refine Ok.ofT ZL Tryz.func132 QgV (QiM Z) ?_
 show TW _ _ tf132.body _ _
 refine Qb fun K hK => mv2 Z Z (kc1 hK Z ?_)
 refine GH (ι := Unit) (fun _u => ⟨[(0, .str s)], []⟩) (fun _u => ¬ (s = [] \/ 4 < s.length \/ (1 < s.length /\ s.head? = some 48))) ?_ ?_
 ·skip
  refine Qb fun K hK => Qa Z (KH Z Z (Qa Z ?_))
  refine Qp (g := 9) Z (fun h1 => ?_) (fun h1 => ?_)
  ·rw [h1]
   simp only [qB, QiQ, QiZ, decide_eq_true_eq] at h1
   refine gn3 Z Z Z (Qg Z Z (Qa Z (gn4 Z Z Z Z (QI Z (QI Z (QI Z ?_))))))
   refine Xd Z (Qg Z Z (kc2 hK Z Z ?_))
   refine Zl Z (Qb fun K hK => mv2 Z Z (kc2 hK Z Z ?_))
   refine Qo (Gj (ZN Z Z ?_))
   (rw [RP (s := s) Wn]; exact ⟨rfl, rfl⟩)
  ·rw [h1]
   simp only [qB, QiQ, QiZ, decide_eq_true_eq] at h1
   refine Qd Z (Qa Z (Qd Z (Yr Z (Qd Z (Kr Z Z (Qg Z Z (Qa Z ?_)))))))
   refine Qp (g := 14) Z (fun h2 => ?_) (fun h2 => ?_)
   ·rw [h2]
    simp only [qB, QiQ, QiZ, decide_eq_true_eq] at h2
    refine gn4 Z Z Z Z (QI Z (QI Z (QI Z (Xd Z (Qg Z Z (kc2 hK Z Z ?_))))))
    refine Zl Z (Qb fun K hK => mv2 Z Z (kc2 hK Z Z ?_))
    refine Qo (Gj (ZN Z Z ?_))
    (rw [RP (s := s) Wn]; exact ⟨rfl, rfl⟩)
   ·rw [h2]
    simp only [qB, QiQ, QiZ, decide_eq_true_eq] at h2
    refine Qd Z (Qa Z (Qd Z (Yl Z Z Wa (J5 (i := 0) (List.length_pos_iff.2 Wh)) (Qd Z (Yw Z Z (Qd Z (Qa Z ?_)))))))
    refine Qp (g := 18) Z (fun h3 => ?_) (fun h3 => ?_)
    ·rw [h3]
     simp only [qB, QiQ, QiZ, decide_eq_true_eq] at h3
     refine Qd Z (Qa Z (Qd Z (Yr Z (Qd Z (Kr Z Z (Qd Z (Qg Z Z (Qg Z Z (kc2 hK Z Z ?_)))))))))
     refine Qs Z (fun h4 => ?_) (fun h4 => ?_)
     ·rw [h4]
      simp only [qB, QiQ, QiZ, decide_eq_true_eq] at h4
      refine Qb fun K hK => mv2 Z Z (kc2 hK Z Z ?_)
      refine Qo (Gj (ZN Z Z ?_))
      (rw [Dz (s := s) Wa Wh]; exact ⟨rfl, rfl⟩)
     ·rw [h4]
      simp only [qB, QiQ, QiZ, decide_eq_true_eq] at h4
      refine Qq ?_
      refine Zc () ?_ ?_
      ·exact Q4 (kp1 rfl)
      ·rintro (q | q | q) <;> first | (simp_all; done) | omega | exact RD (s := s) Wa Wh q.2
    ·rw [h3]
     simp only [qB, QiQ, QiZ, decide_eq_true_eq] at h3
     refine gn3 Z Z Z (Qd Z (Qg Z Z (Qg Z Z (kc2 hK Z Z ?_))))
     refine Zk Z (Qq ?_)
     refine Zc () ?_ ?_
     ·exact Q4 (kp1 rfl)
     ·rintro (q | q | q) <;> first | (simp_all; done) | omega | exact RD (s := s) Wa Wh q.2
 intro _u hJ
 refine Qb fun K hK => Qa Z (kc2 hK Z Z ?_)
 refine QB ?_ -- 1
 refine Qb fun K hK => Qa Z (CM Z Z (kc2 hK Z Z ?_))
 refine QC ?_
 refine Zs (ι := Nat) (fun i => ⟨[(4, .int .i64 (val (s.take i))), (25, .ref 25 0 0)], [(25, ⟨[], 0, Zw s i, false⟩)]⟩) (fun i => i <= s.length /\ (s.take i).all Xm = true /\ s.length <= 4 /\ 0 < s.length) (fun i => s.length - i) 0 ?_ ?_ ?_
 ·exact QW (l := [4, 25]) (lH := [25]) (kp2 rfl rfl) (Qf rfl Qn) (by simp [val]) rfl rfl
 ·exact ⟨QiY _, rfl, Nat.le_of_not_lt fun h => hJ (.inr (.inl h)), List.length_pos_iff.2 fun h => hJ (.inl h)⟩
 intro i hI
 have hv := QaI (s := s.take i) hI.2.1
 have hp : 10 ^ (s.take i).length <= 10 ^ 4 := Nat.pow_le_pow_right Wa Wf
 have hI1 := hI.1
 have hI3 := hI.2.2.1
 refine Qb fun K hK => ?_
 rcases Qja (i) (s).length with h5 | h5
 ·rcases Qja (((s)[i]).toNat) 128 with h6 | h6
  ·refine LO Z Z h5 (SF h5 h6) (Q0 Z Z (kc4 hK Z Z Z Z ?_))
   refine QB ?_ -- 2
   refine Zl Z (Qq (ks3 Z Z Z (QC (Qb fun K hK => Q0 Z Z (Qa Z (kc3 hK Z Z Z ?_))))))
   refine QC (Qb fun K hK => Qa Z (GQ Z Z (Qa Z ?_)))
   refine Qp (g := 32) Z (fun h7 => ?_) (fun h7 => ?_)
   ·rw [h7]
    simp only [qB, QiQ, QiZ, decide_eq_true_eq] at h7
    refine Qd Z (Qa Z (Qd Z (CJ Z Z (Qg Z Z (Qa Z (kc4 hK Z Z Z Z ?_))))))
    refine Qs Z (fun h8 => ?_) (fun h8 => ?_)
    ·rw [h8]
     simp only [qB, QiQ, QiZ, decide_eq_true_eq] at h8
     refine QN fun K hK => Qa Z (CL Z Z Wb (Qa Z (Hk Z Z (by exact D2 Wa Wa) (Sl Z Wb (Q2 Z Z Wb (Qa Z (hK _ ?_)))))))
     refine Qh (Qh ?_)
     refine Qk (i + 1) ?_ ?_ ?_
     ·exact QW (l := [4, 25]) (lH := [25]) (kp2 rfl rfl) (Qf rfl Qn) (by rw [DY Wa]; simp; omega) rfl rfl
     ·exact ⟨Wa, Zn Wa hI.2.1 Wr, hI.2.2⟩
     ·omega
    ·rw [h8]
     simp only [qB, QiQ, QiZ, decide_eq_true_eq] at h8
     refine Qb fun K hK => mv2 Z Z (kc2 hK Z Z ?_)
     refine Qo (Qu (Qu (QV (Qu (Qj (ZN Z Z ?_))))))
     (rw [RQ (s := s) (i := i) Wa Wr]; exact ⟨rfl, rfl⟩)
   ·rw [h7]
    simp only [qB, QiQ, QiZ, decide_eq_true_eq] at h7
    refine gn2 Z Z (Qg Z Z (Qa Z (kc4 hK Z Z Z Z ?_)))
    refine Zk Z (Qb fun K hK => mv2 Z Z (kc2 hK Z Z ?_))
    refine Qo (Qu (Qu (QV (Qu (Qj (ZN Z Z ?_))))))
    (rw [RQ (s := s) (i := i) Wa Wr]; exact ⟨rfl, rfl⟩)
  ·obtain ⟨cwh6, nwh6, hch6, hdh6⟩ := LV h5 h6
   refine LO Z Z h5 hdh6 (Q0 Z Z (kc4 hK Z Z Z Z ?_))
   refine QB ?_ -- 2
   refine Zl Z (Qq (ks3 Z Z Z (QC (Qb fun K hK => Q0 Z Z (Qa Z (kc3 hK Z Z Z ?_))))))
   refine QC (Qb fun K hK => Qa Z (GQ Z Z (Qa Z ?_)))
   refine Qp (g := 32) Z (fun h9 => ?_) (fun h9 => ?_)
   ·rw [h9]
    simp only [qB, QiQ, QiZ, decide_eq_true_eq] at h9
    refine Qd Z (Qa Z (Qd Z (CJ Z Z (Qg Z Z (Qa Z (kc4 hK Z Z Z Z ?_))))))
    refine Qs Z (fun h10 => ?_) (fun h10 => ?_)
    ·rw [h10]
     simp only [qB, QiQ, QiZ, decide_eq_true_eq] at h10
     refine QN fun K hK => Qa Z (CL Z Z Wb (Qa Z (Hk Z Z (by exact D2 Wa Wa) (Sl Z Wb (Q2 Z Z Wb (Qa Z (hK _ ?_)))))))
     refine Qh (Qh ?_)
     refine Qk (i + 1) ?_ ?_ ?_
     ·(exfalso; omega)
     ·exact ⟨Wa, Zn Wa hI.2.1 Wr, hI.2.2⟩
     ·omega
    ·rw [h10]
     simp only [qB, QiQ, QiZ, decide_eq_true_eq] at h10
     refine Qb fun K hK => mv2 Z Z (kc2 hK Z Z ?_)
     refine Qo (Qu (Qu (QV (Qu (Qj (ZN Z Z ?_))))))
     (rw [RQ (s := s) (i := i) Wa Wr]; exact ⟨rfl, rfl⟩)
   ·rw [h9]
    simp only [qB, QiQ, QiZ, decide_eq_true_eq] at h9
    refine gn2 Z Z (Qg Z Z (Qa Z (kc4 hK Z Z Z Z ?_)))
    refine Zk Z (Qb fun K hK => mv2 Z Z (kc2 hK Z Z ?_))
    refine Qo (Qu (Qu (QV (Qu (Qj (ZN Z Z ?_))))))
    (rw [RP (s := s) Wn]; exact ⟨rfl, rfl⟩)
 ·refine Sn Z Z Wa (Q0 Z Z (kc4 hK Z Z Z Z ?_))
  refine QB ?_ -- 2
  refine Zk Z (Q7 (QF (Qw (QE (ks1 Z (Qb fun K hK => mv2 Z Z (CJ Z Z (mv2 Z Z ?_))))))))
  refine kc2 hK Z Z ?_
  refine Qo (ZN Z Z ?_)
  (rw [QdL (s := s) (i := i) hJ Wa hI.2.1]; exact ⟨rfl, by simp [XV, D.fz, D.fzS, D.can, D.canS]; omega⟩)
theorem _root_.Wg {p : Prop} (h : p := by decide) : p := h
theorem Kj {s : List UInt8} (hl : s.length <= 1000000) : Ok Tryz.prog 116 [.str s] (.bool (GO s)) := by
 refine Ok.ofT ZL Tryz.func116 QgF (QiM Z) ?_
 show TW _ _ tf116.body _ _
 refine Qb fun K hK => Qa Z (kc1 hK Z ?_)
 refine Qc5 (Qb fun K hK => Qa Z (Qv (Je Wa) Z Z (.inl Z) (Qa Z (kc1 hK Z ?_))))
 refine Qb fun K hK => Qa Z (Zd Z Z (CJ Z Z (Qa Z (kc2 hK Z Z ?_))))
 refine QB ?_ -- 0
 refine Qq (ks2 Z Z ?_)
 refine QB ?_ -- 1
 refine Qb fun K hK => Qa Z (Zd Z Z (Qa Z (kc4 hK Z Z Z Z ?_)))
 refine QC ?_
 refine Zs (ι := Nat) (fun i => ⟨[(4, .bool (decide ((Za s 46).length <= 4))), (14, .sl (YU (Za s 46))), (15, .int .i64 (Za s 46).length), (16, .int .i64 i)], []⟩) (fun i => i <= (Za s 46).length /\ ((Za s 46).take i).all Pm = true) (fun i => (Za s 46).length - i) 0 ?_ ?_ ?_
 ·exact QW (l := [4, 14, 15, 16]) (kp4 rfl rfl rfl rfl) Qn (by simp [Qy]; omega) rfl rfl
 ·exact ⟨QiY _, rfl⟩
 intro i hI
 have sl := FW (s := s) (c := 46)
 refine Qb fun K hK => ZT Z Z (kc5 hK Z Z Z Z Z ?_)
 refine QB ?_ -- 2
 refine Qs Z (fun h1 => ?_) (fun h1 => ?_)
 ·rw [h1]
  simp only [qB, Qy] at h1
  refine Qq (ks4 Z Z Z Z ?_)
  refine QB ?_ -- 3
  refine QC (Qb fun K hK => QJ Z Z Z Wa (Jg Wa) Z (QA Z Z Z (Qa Z (kc5 hK Z Z Z Z Z ?_))))
  refine QB ?_ -- 4
  refine Qb fun K hK => Qa Z (KH Z Z (Qa Z ?_))
  refine Qp (g := 22) Z (fun h2 => ?_) (fun h2 => ?_)
  ·rw [h2]
   simp only [qB, Qy] at h2
   refine gn3 Z Z Z (Qg Z Z (kc6 hK Z Z Z Z Z Z ?_))
   refine Zl Z (Qb fun K hK => Qa Z (kc1 hK Z ?_))
   refine Q7 (QF (Zh Wg (QF (Qw (QE (ks1 Z (Qb fun K hK => mv2 Z Z (kc1 hK Z ?_))))))))
   refine Qo (Qi Z ?_)
   exact (XJ (i := i) Wa (Gl Wn)).symm
  ·rw [h2]
   simp only [qB, Qy] at h2
   refine Qd Z (Qa Z (Qd Z (Yr Z (Qd Z (Kr Z Z (Qg Z Z (kc6 hK Z Z Z Z Z Z ?_)))))))
   refine Qs Z (fun h3 => ?_) (fun h3 => ?_)
   ·rw [h3]
    simp only [qB, Qy] at h3
    refine Qb fun K hK => Qa Z (kc1 hK Z ?_)
    refine Q7 (QF (Zh Wg (QF (Qw (QE (ks1 Z (Qb fun K hK => mv2 Z Z (kc1 hK Z ?_))))))))
    refine Qo (Qi Z ?_)
    exact (XJ (i := i) Wa (Gl Wn)).symm
   ·rw [h3]
    simp only [qB, Qy] at h3
    refine Qq (ks5 Z Z Z Z Z (Qb fun K hK => Qa Z (CM Z Z (kc5 hK Z Z Z Z Z ?_))))
    refine QC ?_
    have hlt : i < (Za s 46).length := Wa
    refine Zs (ι := Nat) (fun j => ⟨[(4, .bool (decide ((Za s 46).length <= 4))), (14, .sl (YU (Za s 46))), (15, .int .i64 (Za s 46).length), (16, .int .i64 i), (28, .ref 28 0 0)], [(28, ⟨[], 0, Zw ((Za s 46)[i]'hlt) j, false⟩)]⟩) (fun j => j <= ((Za s 46)[i]'hlt).length /\ (((Za s 46)[i]'hlt).take j).all Yy = true) (fun j => ((Za s 46)[i]'hlt).length - j) 0 ?_ ?_ ?_
    ·exact QW (l := [4, 14, 15, 16, 28]) (lH := [28]) (kp5 rfl rfl rfl rfl rfl) (Qf rfl Qn) rfl rfl rfl
    ·exact ⟨QiY _, rfl⟩
    intro j hJ
    have hJ1 := hJ.1
    refine Qb fun K hK => ?_
    rcases Qja (j) (((Za s 46)[i]'hlt)).length with h4 | h4
    ·rcases Qja (((((Za s 46)[i]'hlt))[j]).toNat) 128 with h5 | h5
     ·refine LO Z Z h4 (SF h4 h5) (Q0 Z Z (kc7 hK Z Z Z Z Z Z Z ?_))
      refine QB ?_ -- 5
      refine Zl Z (Qq (ks6 Z Z Z Z Z Z (QC (Qb fun K hK => Q0 Z Z (Qa Z (kc6 hK Z Z Z Z Z Z ?_))))))
      refine Qb fun K hK => Qa Z (ZT Z Z (Qa Z ?_))
      refine Qp (g := 34) Z (fun h6 => ?_) (fun h6 => ?_)
      ·rw [h6]
       simp only [qB, Qy] at h6
       refine gn2 Z Z (Qg Z Z (Qa Z (Qd Z (Qa Z (Qd Z (ZT Z Z (Qd Z (Qa Z ?_))))))))
       refine Qp (g := 41) Z (fun h7 => ?_) (fun h7 => ?_)
       ·rw [h7]
        simp only [qB, Qy] at h7
        refine gn2 Z Z (Qd Z (Qg Z Z (Qg Z Z (Qa Z (Qd Z (Qa Z (Qd Z (YA Z Z (Qg Z Z (kc6 hK Z Z Z Z Z Z ?_))))))))))
        refine Qs Z (fun h8 => ?_) (fun h8 => ?_)
        ·rw [h8]
         simp only [qB, Qy] at h8
         refine Qb fun K hK => Qa Z (kc1 hK Z ?_)
         refine Q7 (Zh Wg (Qw (Zh Wg (Zh Wg (QF (Qw (QE (ks1 Z (Qb fun K hK => mv2 Z Z ?_)))))))))
         refine kc1 hK Z ?_
         refine Qo (Qi Z ?_)
         exact (XJ (i := i) Wa (NY (X2 (i := j) Wa Wm))).symm
        ·rw [h8]
         simp only [qB, Qy] at h8
         refine Qq (Qh ?_)
         refine Qk (j + 1) ?_ ?_ ?_
         ·exact QW (l := [4, 14, 15, 16, 28]) (lH := [28]) (kp5 rfl rfl rfl rfl rfl) (Qf rfl Qn) rfl rfl rfl
         ·exact ⟨Wa, Zn Wa hJ.2 Wm⟩
         ·omega
       ·rw [h7]
        simp only [qB, Qy] at h7
        refine Qd Z (Qa Z (Qd Z (Kr Z Z (Qd Z (Qg Z Z (Qg Z Z (Qa Z ?_)))))))
        refine Qp (g := 46) Z (fun h9 => ?_) (fun h9 => ?_)
        ·rw [h9]
         simp only [qB, Qy] at h9
         refine Qd Z (Qa Z (Qd Z (YA Z Z (Qg Z Z (kc6 hK Z Z Z Z Z Z ?_)))))
         refine Qs Z (fun h10 => ?_) (fun h10 => ?_)
         ·rw [h10]
          simp only [qB, Qy] at h10
          refine Qb fun K hK => Qa Z (kc1 hK Z ?_)
          refine Q7 (Zh Wg (Qw (Zh Wg (Zh Wg (QF (Qw (QE (ks1 Z (Qb fun K hK => mv2 Z Z ?_)))))))))
          refine kc1 hK Z ?_
          refine Qo (Qi Z ?_)
          exact (XJ (i := i) Wa (NY (X2 (i := j) Wa Wm))).symm
         ·rw [h10]
          simp only [qB, Qy] at h10
          refine Qq (Qh ?_)
          refine Qk (j + 1) ?_ ?_ ?_
          ·exact QW (l := [4, 14, 15, 16, 28]) (lH := [28]) (kp5 rfl rfl rfl rfl rfl) (Qf rfl Qn) rfl rfl rfl
          ·exact ⟨Wa, Zn Wa hJ.2 Wm⟩
          ·omega
        ·rw [h9]
         simp only [qB, Qy] at h9
         refine gn2 Z Z (Qg Z Z (kc6 hK Z Z Z Z Z Z ?_))
         refine Zk Z (Qq (Qh ?_))
         refine Qk (j + 1) ?_ ?_ ?_
         ·exact QW (l := [4, 14, 15, 16, 28]) (lH := [28]) (kp5 rfl rfl rfl rfl rfl) (Qf rfl Qn) rfl rfl rfl
         ·exact ⟨Wa, Zn Wa hJ.2 Wm⟩
         ·omega
      ·rw [h6]
       simp only [qB, Qy] at h6
       refine Qd Z (Qa Z (Qd Z (Kr Z Z (Qg Z Z (Qa Z ?_)))))
       refine Qp (g := 38) Z (fun h11 => ?_) (fun h11 => ?_)
       ·rw [h11]
        simp only [qB, Qy] at h11
        refine Qd Z (Qa Z (Qd Z (ZT Z Z (Qd Z (Qa Z ?_)))))
        refine Qp (g := 41) Z (fun h12 => ?_) (fun h12 => ?_)
        ·rw [h12]
         simp only [qB, Qy] at h12
         refine gn2 Z Z (Qd Z (Qg Z Z (Qg Z Z (Qa Z (Qd Z (Qa Z (Qd Z (YA Z Z (Qg Z Z (kc6 hK Z Z Z Z Z Z ?_))))))))))
         refine Qs Z (fun h13 => ?_) (fun h13 => ?_)
         ·rw [h13]
          simp only [qB, Qy] at h13
          refine Qb fun K hK => Qa Z (kc1 hK Z ?_)
          refine Q7 (Zh Wg (Qw (Zh Wg (Zh Wg (QF (Qw (QE (ks1 Z (Qb fun K hK => mv2 Z Z ?_)))))))))
          refine kc1 hK Z ?_
          refine Qo (Qi Z ?_)
          exact (XJ (i := i) Wa (Gl Wn)).symm
         ·rw [h13]
          simp only [qB, Qy] at h13
          refine Qq (Qh ?_)
          refine Qk (j + 1) ?_ ?_ ?_
          ·exact QW (l := [4, 14, 15, 16, 28]) (lH := [28]) (kp5 rfl rfl rfl rfl rfl) (Qf rfl Qn) rfl rfl rfl
          ·exact ⟨Wa, Zn Wa hJ.2 Wm⟩
          ·omega
        ·rw [h12]
         simp only [qB, Qy] at h12
         refine Qd Z (Qa Z (Qd Z (Kr Z Z (Qd Z (Qg Z Z (Qg Z Z (Qa Z ?_)))))))
         refine Qp (g := 46) Z (fun h14 => ?_) (fun h14 => ?_)
         ·rw [h14]
          simp only [qB, Qy] at h14
          refine Qd Z (Qa Z (Qd Z (YA Z Z (Qg Z Z (kc6 hK Z Z Z Z Z Z ?_)))))
          refine Qs Z (fun h15 => ?_) (fun h15 => ?_)
          ·rw [h15]
           simp only [qB, Qy] at h15
           refine Qb fun K hK => Qa Z (kc1 hK Z ?_)
           refine Q7 (Zh Wg (Qw (Zh Wg (Zh Wg (QF (Qw (QE (ks1 Z (Qb fun K hK => mv2 Z Z ?_)))))))))
           refine kc1 hK Z ?_
           refine Qo (Qi Z ?_)
           exact (XJ (i := i) Wa (NY (X2 (i := j) Wa Wm))).symm
          ·rw [h15]
           simp only [qB, Qy] at h15
           refine Qq (Qh ?_)
           refine Qk (j + 1) ?_ ?_ ?_
           ·exact QW (l := [4, 14, 15, 16, 28]) (lH := [28]) (kp5 rfl rfl rfl rfl rfl) (Qf rfl Qn) rfl rfl rfl
           ·exact ⟨Wa, Zn Wa hJ.2 Wm⟩
           ·omega
         ·rw [h14]
          simp only [qB, Qy] at h14
          refine gn2 Z Z (Qg Z Z (kc6 hK Z Z Z Z Z Z ?_))
          refine Zk Z (Qq (Qh ?_))
          refine Qk (j + 1) ?_ ?_ ?_
          ·exact QW (l := [4, 14, 15, 16, 28]) (lH := [28]) (kp5 rfl rfl rfl rfl rfl) (Qf rfl Qn) rfl rfl rfl
          ·exact ⟨Wa, Zn Wa hJ.2 Wm⟩
          ·omega
       ·rw [h11]
        simp only [qB, Qy] at h11
        refine gn3 Z Z Z (QI Z (QI Z (Xd Z (Qg Z Z (Qa Z (gn2 Z Z (Qg Z Z (kc6 hK Z Z Z Z Z Z ?_))))))))
        refine Zk Z (Qq (Qh ?_))
        refine Qk (j + 1) ?_ ?_ ?_
        ·exact QW (l := [4, 14, 15, 16, 28]) (lH := [28]) (kp5 rfl rfl rfl rfl rfl) (Qf rfl Qn) rfl rfl rfl
        ·exact ⟨Wa, Zn Wa hJ.2 Wm⟩
        ·omega
     ·obtain ⟨cwh5, nwh5, hch5, hdh5⟩ := LV h4 h5
      refine LO Z Z h4 hdh5 (Q0 Z Z (kc7 hK Z Z Z Z Z Z Z ?_))
      refine QB ?_ -- 5
      refine Zl Z (Qq (ks6 Z Z Z Z Z Z (QC (Qb fun K hK => Q0 Z Z (Qa Z (kc6 hK Z Z Z Z Z Z ?_))))))
      refine Qb fun K hK => Qa Z (ZT Z Z (Qa Z ?_))
      refine Qp (g := 34) Z (fun h16 => ?_) (fun h16 => ?_)
      ·rw [h16]
       simp only [qB, Qy] at h16
       refine gn2 Z Z (Qg Z Z (Qa Z (Qd Z (Qa Z (Qd Z (ZT Z Z (Qd Z (Qa Z ?_))))))))
       refine Qp (g := 41) Z (fun h17 => ?_) (fun h17 => ?_)
       ·rw [h17]
        simp only [qB, Qy] at h17
        refine gn2 Z Z (Qd Z (Qg Z Z (Qg Z Z (Qa Z (Qd Z (Qa Z (Qd Z (YA Z Z (Qg Z Z (kc6 hK Z Z Z Z Z Z ?_))))))))))
        refine Qs Z (fun h18 => ?_) (fun h18 => ?_)
        ·rw [h18]
         simp only [qB, Qy] at h18
         refine Qb fun K hK => Qa Z (kc1 hK Z ?_)
         refine Q7 (Zh Wg (Qw (Zh Wg (Zh Wg (QF (Qw (QE (ks1 Z (Qb fun K hK => mv2 Z Z ?_)))))))))
         refine kc1 hK Z ?_
         refine Qo (Qi Z ?_)
         exact (XJ (i := i) Wa (Gl Wn)).symm
        ·rw [h18]
         simp only [qB, Qy] at h18
         refine Qq (Qh ?_)
         refine Qk (j + 1) ?_ ?_ ?_
         ·(exfalso; omega)
         ·exact ⟨Wa, Zn Wa hJ.2 Wm⟩
         ·omega
       ·rw [h17]
        simp only [qB, Qy] at h17
        refine Qd Z (Qa Z (Qd Z (Kr Z Z (Qd Z (Qg Z Z (Qg Z Z (Qa Z ?_)))))))
        refine Qp (g := 46) Z (fun h19 => ?_) (fun h19 => ?_)
        ·rw [h19]
         simp only [qB, Qy] at h19
         refine Qd Z (Qa Z (Qd Z (YA Z Z (Qg Z Z (kc6 hK Z Z Z Z Z Z ?_)))))
         refine Qs Z (fun h20 => ?_) (fun h20 => ?_)
         ·rw [h20]
          simp only [qB, Qy] at h20
          refine Qb fun K hK => Qa Z (kc1 hK Z ?_)
          refine Q7 (Zh Wg (Qw (Zh Wg (Zh Wg (QF (Qw (QE (ks1 Z (Qb fun K hK => mv2 Z Z ?_)))))))))
          refine kc1 hK Z ?_
          refine Qo (Qi Z ?_)
          exact (XJ (i := i) Wa (Gl Wn)).symm
         ·rw [h20]
          simp only [qB, Qy] at h20
          refine Qq (Qh ?_)
          refine Qk (j + 1) ?_ ?_ ?_
          ·(exfalso; omega)
          ·exact ⟨Wa, Zn Wa hJ.2 Wm⟩
          ·omega
        ·rw [h19]
         simp only [qB, Qy] at h19
         refine gn2 Z Z (Qg Z Z (kc6 hK Z Z Z Z Z Z ?_))
         refine Zk Z (Qq (Qh ?_))
         refine Qk (j + 1) ?_ ?_ ?_
         ·(exfalso; omega)
         ·exact ⟨Wa, Zn Wa hJ.2 Wm⟩
         ·omega
      ·rw [h16]
       simp only [qB, Qy] at h16
       refine Qd Z (Qa Z (Qd Z (Kr Z Z (Qg Z Z (Qa Z ?_)))))
       refine Qp (g := 38) Z (fun h21 => ?_) (fun h21 => ?_)
       ·rw [h21]
        simp only [qB, Qy] at h21
        refine Qd Z (Qa Z (Qd Z (ZT Z Z (Qd Z (Qa Z ?_)))))
        refine Qp (g := 41) Z (fun h22 => ?_) (fun h22 => ?_)
        ·rw [h22]
         simp only [qB, Qy] at h22
         refine gn2 Z Z (Qd Z (Qg Z Z (Qg Z Z (Qa Z (Qd Z (Qa Z (Qd Z (YA Z Z (Qg Z Z (kc6 hK Z Z Z Z Z Z ?_))))))))))
         refine Qs Z (fun h23 => ?_) (fun h23 => ?_)
         ·rw [h23]
          simp only [qB, Qy] at h23
          refine Qb fun K hK => Qa Z (kc1 hK Z ?_)
          refine Q7 (Zh Wg (Qw (Zh Wg (Zh Wg (QF (Qw (QE (ks1 Z (Qb fun K hK => mv2 Z Z ?_)))))))))
          refine kc1 hK Z ?_
          refine Qo (Qi Z ?_)
          exact (XJ (i := i) Wa (Gl Wn)).symm
         ·rw [h23]
          simp only [qB, Qy] at h23
          refine Qq (Qh ?_)
          refine Qk (j + 1) ?_ ?_ ?_
          ·(exfalso; omega)
          ·exact ⟨Wa, Zn Wa hJ.2 Wm⟩
          ·omega
        ·rw [h22]
         simp only [qB, Qy] at h22
         refine Qd Z (Qa Z (Qd Z (Kr Z Z (Qd Z (Qg Z Z (Qg Z Z (Qa Z ?_)))))))
         refine Qp (g := 46) Z (fun h24 => ?_) (fun h24 => ?_)
         ·rw [h24]
          simp only [qB, Qy] at h24
          refine Qd Z (Qa Z (Qd Z (YA Z Z (Qg Z Z (kc6 hK Z Z Z Z Z Z ?_)))))
          refine Qs Z (fun h25 => ?_) (fun h25 => ?_)
          ·rw [h25]
           simp only [qB, Qy] at h25
           refine Qb fun K hK => Qa Z (kc1 hK Z ?_)
           refine Q7 (Zh Wg (Qw (Zh Wg (Zh Wg (QF (Qw (QE (ks1 Z (Qb fun K hK => mv2 Z Z ?_)))))))))
           refine kc1 hK Z ?_
           refine Qo (Qi Z ?_)
           exact (XJ (i := i) Wa (NY (X2 (i := j) Wa Wm))).symm
          ·rw [h25]
           simp only [qB, Qy] at h25
           refine Qq (Qh ?_)
           refine Qk (j + 1) ?_ ?_ ?_
           ·(exfalso; omega)
           ·exact ⟨Wa, Zn Wa hJ.2 Wm⟩
           ·omega
         ·rw [h24]
          simp only [qB, Qy] at h24
          refine gn2 Z Z (Qg Z Z (kc6 hK Z Z Z Z Z Z ?_))
          refine Zk Z (Qq (Qh ?_))
          refine Qk (j + 1) ?_ ?_ ?_
          ·(exfalso; omega)
          ·exact ⟨Wa, Zn Wa hJ.2 Wm⟩
          ·omega
       ·rw [h21]
        simp only [qB, Qy] at h21
        refine gn3 Z Z Z (QI Z (QI Z (Xd Z (Qg Z Z (Qa Z (gn2 Z Z (Qg Z Z (kc6 hK Z Z Z Z Z Z ?_))))))))
        refine Zk Z (Qq (Qh ?_))
        refine Qk (j + 1) ?_ ?_ ?_
        ·(exfalso; omega)
        ·exact ⟨Wa, Zn Wa hJ.2 Wm⟩
        ·omega
    ·refine Sn Z Z Wa (Q0 Z Z (kc7 hK Z Z Z Z Z Z Z ?_))
     refine QB ?_ -- 5
     refine Zk Z (Q7 (QF (Qw (QE (Qh (ks4 Z Z Z Z (QN fun K hK => Q2 Z Z Wb (Qa Z (hK _ ?_)))))))))
     refine Qk (i + 1) ?_ ?_ ?_
     ·exact QW (l := [4, 14, 15, 16]) (kp4 rfl rfl rfl rfl) Qn rfl rfl rfl
     ·exact ⟨Wa, Zn Wa hI.2 (QdG Wh Wa (Ke Wa hJ.2))⟩
     ·omega
 ·rw [h1]
  simp only [qB, Qy] at h1
  refine Q7 (QF (Qw (QE (ks1 Z (Qb fun K hK => mv2 Z Z (kc1 hK Z ?_))))))
  refine Qo (Qi Z ?_)
  exact (QaC Wa hI.2).symm
end Go.Proofs
