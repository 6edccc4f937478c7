/- Part 3 of the means of the proof: a verified abstract evaluator, the prepared functions, and contracts of functions. It states nothing of the claim by itself. -/
import Derived.Test.YtgikdkfobdfmfaaGreatB2
import Derived.KernelRfl
import Derived.Test.YtgikdkfobdfmfaaGreatProg
set_option maxRecDepth 4000
set_option linter.unusedSimpArgs false
set_option linter.unusedVariables false
namespace Go.Abs
open Go
/-! ### Walks that end in some state of a kind: the state is picked on the way -/
def TX (P : Program) (nt : Nat) (c : TCode) (Q : Yy -> St -> Prop) (s : St) : Prop := ∃ e s', Q e s' /\ TW P nt c (fun e2 s2 => e2 = e /\ s2 = s') s
section
variable {P : Program} {nt : Nat} {Q Q' : Yy -> St -> Prop} {s : St}
theorem Xh {c : TCode} (h : ∀ e s, Q e s -> Q' e s) (k : TW P nt c Q s) : TW P nt c Q' s := fun code E g a w hm hp hn hfl r =>
 wpIn_mono (k code E g a w hm hp hn hfl r) fun e a' w' hq => by
  cases e <;> simp only [AQ] at hq ⊢ <;> try exact hq
  all_goals
   obtain ⟨s', g', hq, r'⟩ := hq
   exact ⟨s', g', h _ _ hq, r'⟩
/-! #### A region's walk picks its state -/
theorem BS {op : BinOp} {bt : Bool} {p q : D} {kk : D -> Prop} (h : QaG op bt p q kk) : ∃ d, kk d /\ ∀ k2 : D -> Prop, k2 d -> QaG op bt p q k2 := by
 cases p <;> cases q <;> simp only [QaG] at h ⊢ <;> try exact h.elim
 ·obtain ⟨h1, h2⟩ := h
  cases op <;> simp only [Ce] at h2 ⊢
  case quo => exact ⟨_, h2.2, fun k2 hk => ⟨h1, h2.1, hk⟩⟩
  case rem => exact ⟨_, h2.2, fun k2 hk => ⟨h1, h2.1, hk⟩⟩
  case shl => exact ⟨_, h2.2, fun k2 hk => ⟨h1, h2.1, hk⟩⟩
  case shr => exact ⟨_, h2.2, fun k2 hk => ⟨h1, h2.1, hk⟩⟩
  all_goals exact ⟨_, h2, fun k2 hk => ⟨h1, hk⟩⟩
 ·obtain ⟨h1, h2⟩ := h
  cases op <;> simp only [BQ] at h2 ⊢ <;> try exact h2.elim
  all_goals exact ⟨_, h2, fun k2 hk => ⟨h1, hk⟩⟩
 ·cases op <;> simp only [BT] at h ⊢ <;> try exact h.elim
  case add => exact ⟨_, h.2, fun k2 hk => ⟨h.1, hk⟩⟩
  all_goals exact ⟨_, h, fun k2 hk => hk⟩
 ·obtain ⟨h1, h2, h3, h4⟩ := h
  exact ⟨_, h4, fun k2 hk => ⟨h1, h2, h3, hk⟩⟩
theorem DH {dr : Bool} {op : AOp} {dst : Option Nat} {k : St -> Prop} (h : PS P dr op dst s k) : ∃ s', k s' /\ ∀ k2 : St -> Prop, k2 s' -> PS P dr op dst s k2 := by
 cases op <;> simp only [PS] at h ⊢
 case mov x => obtain ⟨d, h1, h2⟩ := h; exact ⟨_, h2, fun k2 hk => ⟨d, h1, hk⟩⟩
 case pick c x y => obtain ⟨cd, h1, t, h2, d, h3, h4⟩ := h; exact ⟨_, h4, fun k2 hk => ⟨cd, h1, t, h2, d, h3, hk⟩⟩
 case alloc et cells => obtain ⟨t, h1, h2, h3⟩ := h; exact ⟨_, h3, fun k2 hk => ⟨t, h1, h2, hk⟩⟩
 case box et x => obtain ⟨t, h1, v, h2, cells, h3, h4, h5⟩ := h; exact ⟨_, h5, fun k2 hk => ⟨t, h1, v, h2, cells, h3, h4, hk⟩⟩
 case build zero parts => obtain ⟨qs, h1, ds, h2, h3⟩ := h; exact ⟨_, h3, fun k2 hk => ⟨qs, h1, ds, h2, hk⟩⟩
 case buildSlice esz et parts =>
  rcases h with ⟨t, h1, rows, h2, h3, h4⟩ | ⟨rows, h2, h3, h4⟩
  ·exact ⟨_, h4, fun k2 hk => .inl ⟨t, h1, rows, h2, h3, hk⟩⟩
  ·exact ⟨_, h4, fun k2 hk => .inr ⟨rows, h2, h3, hk⟩⟩
 case load agg sz x =>
  obtain ⟨p, h1, cells, h2, h3⟩ := h
  cases agg with
  | true => exact ⟨_, h3.2, fun k2 hk => ⟨p, h1, cells, h2, h3.1, hk⟩⟩
  | false => obtain ⟨d, h4, h5⟩ := h3; exact ⟨_, h5, fun k2 hk => ⟨p, h1, cells, h2, d, h4, hk⟩⟩
 case store sz x v =>
  obtain ⟨p, h1, h2⟩ := h
  cases p <;> simp only [Qch] at h2 <;> try exact h2.elim
  obtain ⟨b, h3, row, h4, q, h5, cells, h6, h7, h8, h9⟩ := h2
  exact ⟨_, h9, fun k2 hk => ⟨_, h1, b, h3, row, h4, q, h5, cells, h6, h7, h8, hk⟩⟩
 case nilCheck x => obtain ⟨p, h1, h2, h3⟩ := h; exact ⟨_, h3, fun k2 hk => ⟨p, h1, h2, hk⟩⟩
 case bin op bt x y =>
  obtain ⟨p, h1, q, h2, h3⟩ := h
  obtain ⟨d, h4, h5⟩ := BS h3
  exact ⟨_, h4, fun k2 hk => ⟨p, h1, q, h2, h5 _ hk⟩⟩
 case eqs neg ks x y => obtain ⟨p, h1, q, h2, xs, h3, ys, h4, b, h5, h6⟩ := h; exact ⟨_, h6, fun k2 hk => ⟨p, h1, q, h2, xs, h3, ys, h4, b, h5, hk⟩⟩
 case un op x =>
  obtain ⟨p, h1, h2⟩ := h
  cases op <;> cases p <;> simp only [unK] at h2 <;> try exact h2.elim
  all_goals exact ⟨_, h2, fun k2 hk => ⟨_, h1, hk⟩⟩
 case conv kk x => obtain ⟨p, h1, d, h2, h3⟩ := h; exact ⟨_, h3, fun k2 hk => ⟨p, h1, d, h2, hk⟩⟩
 case slice esz x lo hi mx =>
  obtain ⟨p, h1, rows, h2, l, h3, hh, h4, h5, h6, h7, h8, h9⟩ := h
  cases mx with
  | none => exact ⟨_, h9, fun k2 hk => ⟨p, h1, rows, h2, l, h3, hh, h4, h5, h6, h7, h8, hk⟩⟩
  | some m =>
   obtain ⟨h10, h11, h12⟩ := h9
   exact ⟨_, h12, fun k2 hk => ⟨p, h1, rows, h2, l, h3, hh, h4, h5, h6, h7, h8, h10, h11, hk⟩⟩
 case sliceStr x lo hi => obtain ⟨p, h1, c, h2, l, h3, hh, h4, h5, h6, h7, h8⟩ := h; exact ⟨_, h8, fun k2 hk => ⟨p, h1, c, h2, l, h3, hh, h4, h5, h6, h7, hk⟩⟩
 case fieldAddr off x =>
  obtain ⟨p, h1, h2⟩ := h
  cases p <;> simp only [Mz] at h2 <;> try exact h2.elim
  all_goals exact ⟨_, h2.2, fun k2 hk => ⟨_, h1, h2.1, hk⟩⟩
 case field agg off sz x =>
  obtain ⟨p, h1, cells, h2, h3⟩ := h
  cases agg with
  | true => exact ⟨_, h3.2, fun k2 hk => ⟨p, h1, cells, h2, h3.1, hk⟩⟩
  | false => obtain ⟨d, h4, h5⟩ := h3; exact ⟨_, h5, fun k2 hk => ⟨p, h1, cells, h2, d, h4, hk⟩⟩
 case indexAddr esz x i =>
  obtain ⟨n, h1, p, h2, h3⟩ := h
  cases n <;> try (simp only [Rt] at h3; done)
  cases p <;> simp only [Rt] at h3 <;> try exact h3.elim
  ·obtain ⟨row, h4, h5, h6, h7⟩ := h3; exact ⟨_, h7, fun k2 hk => ⟨_, h1, _, h2, row, h4, h5, h6, hk⟩⟩
  ·obtain ⟨row, h4, h5, h6, h7⟩ := h3; exact ⟨_, h7, fun k2 hk => ⟨_, h1, _, h2, row, h4, h5, h6, hk⟩⟩
  ·obtain ⟨b, h4, h5, h6, h7, h8, h9⟩ := h3; exact ⟨_, h9, fun k2 hk => ⟨_, h1, _, h2, b, h4, h5, h6, h7, h8, hk⟩⟩
 case indexStr x i =>
  obtain ⟨n, h1, p, h2, h3⟩ := h
  cases n <;> try (simp only [KY] at h3; done)
  cases p <;> simp only [KY] at h3 <;> try exact h3.elim
  obtain ⟨c, h4, h5, h6⟩ := h3
  exact ⟨_, h6, fun k2 hk => ⟨_, h1, _, h2, c, h4, h5, hk⟩⟩
 case extract i x => obtain ⟨p, h1, ds, h2, d, h3, h4⟩ := h; exact ⟨_, h4, fun k2 hk => ⟨p, h1, ds, h2, d, h3, hk⟩⟩
 case len x => obtain ⟨p, h1, n, h2, h3⟩ := h; exact ⟨_, h3, fun k2 hk => ⟨p, h1, n, h2, hk⟩⟩
 case lenStr x => obtain ⟨p, h1, l, h2, h3⟩ := h; exact ⟨_, h3, fun k2 hk => ⟨p, h1, l, h2, hk⟩⟩
 case min x y =>
  obtain ⟨p, h1, q, h2, h3⟩ := h
  cases p <;> try (simp only [Qbr] at h3; done)
  cases q <;> simp only [Qbr] at h3 <;> try exact h3.elim
  exact ⟨_, h3, fun k2 hk => ⟨_, h1, _, h2, hk⟩⟩
 case append esz et bytes x y =>
  obtain ⟨p, h1, q, h2, h3⟩ := h
  have happ : ∀ (ys : List (List D)) (pr : Bool), C7 dr esz et bytes dst s p ys pr k -> ∃ s', k s' /\ ∀ k2 : St -> Prop, k2 s' -> C7 dr esz et bytes dst s p ys pr k2 := by
   intro ys pr h5
   cases p <;> simp only [C7] at h5 <;> try exact h5.elim
   ·obtain ⟨t, h6, h7, h8, h9, h10, h11, h12⟩ := h5
    exact ⟨_, h12, fun k2 hk => ⟨t, h6, h7, h8, h9, h10, h11, hk⟩⟩
   ·obtain ⟨hd, hk0, b, h6, h7, h8, h9, h10, h12, h13, h14⟩ := h5
    exact ⟨_, h14, fun k2 hk => ⟨hd, hk0, b, h6, h7, h8, h9, h10, h12, h13, hk⟩⟩
  cases q <;> simp only [D3] at h3 <;> try exact h3.elim
  ·obtain ⟨s', q1, q2⟩ := happ _ _ h3.2
   exact ⟨s', q1, fun k2 hk => ⟨p, h1, _, h2, h3.1, q2 k2 hk⟩⟩
  ·obtain ⟨s', q1, q2⟩ := happ _ _ h3.2
   exact ⟨s', q1, fun k2 hk => ⟨p, h1, _, h2, h3.1, q2 k2 hk⟩⟩
  ·obtain ⟨b, h4, h5, h6, h7⟩ := h3
   obtain ⟨s', q1, q2⟩ := happ _ _ h7
   exact ⟨s', q1, fun k2 hk => ⟨p, h1, _, h2, b, h4, h5, h6, q2 k2 hk⟩⟩
 case makeSlice esz et bytes zero x y =>
  obtain ⟨p, h1, q, h2, h3⟩ := h
  cases p <;> try (simp only [Db] at h3; done)
  cases q <;> simp only [Db] at h3 <;> try exact h3.elim
  obtain ⟨t, h4, h5, h6, h7, h8, h9, h10⟩ := h3
  exact ⟨_, h10, fun k2 hk => ⟨_, h1, _, h2, t, h4, h5, h6, h7, h8, h9, hk⟩⟩
 case range x => obtain ⟨t, h1, p, h2, l, h3, h4, h5⟩ := h; exact ⟨_, h5, fun k2 hk => ⟨t, h1, p, h2, l, h3, h4, hk⟩⟩
 case next x =>
  obtain ⟨hd, p, h1, h2⟩ := h
  unfold B9 at h2
  split at h2
  ·obtain ⟨l, q, h3, h4⟩ := h2
   rcases h4 with ⟨h4, h5⟩ | ⟨h4, h5⟩
   ·exact ⟨_, h5, fun k2 hk => ⟨hd, _, h1, l, q, h3, .inl ⟨h4, hk⟩⟩⟩
   ·exact ⟨_, h5, fun k2 hk => ⟨hd, _, h1, l, q, h3, .inr ⟨h4, hk⟩⟩⟩
  ·exact h2.elim
 case indexArr len esz x i =>
  obtain ⟨nd, h1, p, h2, h3⟩ := h
  cases nd <;> try (simp only [Qb1] at h3; done)
  obtain ⟨h4, h5, h6⟩ := h3
  cases p <;> simp only [Mz] at h6 <;> try exact h6.elim
  all_goals exact ⟨_, h6.2, fun k2 hk => ⟨_, h1, _, h2, h4, h5, h6.1, hk⟩⟩
 case indexAgg agg len esz x i =>
  obtain ⟨nd, h1, n, h2, p, h3, cells, h4, h5, h6, h7⟩ := h
  cases agg with
  | true => exact ⟨_, h7.2, fun k2 hk => ⟨nd, h1, n, h2, p, h3, cells, h4, h5, h6, h7.1, hk⟩⟩
  | false => obtain ⟨d, h8, h9⟩ := h7; exact ⟨_, h9, fun k2 hk => ⟨nd, h1, n, h2, p, h3, cells, h4, h5, h6, d, h8, hk⟩⟩
 case call f args => obtain ⟨ds, h1, d, h2, h3, h4⟩ := h; exact ⟨_, h4, fun k2 hk => ⟨ds, h1, d, h2, h3, hk⟩⟩
 case mkfn f xs => obtain ⟨ds, h1, h2, h3⟩ := h; exact ⟨_, h3, fun k2 hk => ⟨ds, h1, h2, hk⟩⟩
 case mkbn f xs => obtain ⟨ds, h1, h2, h3⟩ := h; exact ⟨_, h3, fun k2 hk => ⟨ds, h1, h2, hk⟩⟩
 case callV x az =>
  obtain ⟨p, h1, h2⟩ := h
  rcases h2 with h2 | ⟨rfl, h2⟩
  ·cases p <;> simp only [Qb8] at h2 <;> try exact h2.elim
   obtain ⟨h3, ds, h4, d, h5, h6, h7⟩ := h2
   exact ⟨_, h7, fun k2 hk => ⟨_, h1, .inl ⟨h3, ds, h4, d, h5, h6, hk⟩⟩⟩
  ·cases p <;> simp only [Qb3] at h2 <;> try exact h2.elim
   obtain ⟨h3, d, h5, h6, h7⟩ := h2
   exact ⟨_, h7, fun k2 hk => ⟨_, h1, .inr ⟨rfl, h3, d, h5, h6, hk⟩⟩⟩
theorem Hi {K : St -> Prop} : ∀ {l : List AOper} {dr : Dr} {s : St}, run P dr l K s -> ∃ s', K s' /\ ∀ k2 : St -> Prop, k2 s' -> run P dr l k2 s
 | [], _, s, h => ⟨s, h, fun _ hk => hk⟩
 | ⟨dst, op, none⟩ :: r, dr, s, h => by
  simp only [run] at h ⊢
  rcases h with ⟨h1, h2⟩ | ⟨p, q, d, ef, h1, h2, h3⟩ | ⟨f, args, HF, Hn, Hu, d, h1, h2, h3, h5⟩ | ⟨s', d, bx, h1, h2, h3, h5⟩
  ·obtain ⟨s1, h3, h4⟩ := DH h2
   obtain ⟨s2, h5, h6⟩ := Hi h3
   exact ⟨s2, h5, fun k2 hk => .inl ⟨h1, h4 _ (h6 k2 hk)⟩⟩
  ·obtain ⟨s2, h6, h7⟩ := Hi h3
   exact ⟨s2, h6, fun k2 hk => .inr (.inl ⟨p, q, d, ef, h1, h2, h7 k2 hk⟩)⟩
  ·obtain ⟨s2, h6, h7⟩ := Hi h5
   exact ⟨s2, h6, fun k2 hk => .inr (.inr (.inl ⟨f, args, HF, Hn, Hu, d, h1, h2, h3, h7 k2 hk⟩))⟩
  ·obtain ⟨s2, h6, h7⟩ := Hi h5
   exact ⟨s2, h6, fun k2 hk => .inr (.inr (.inr ⟨s', d, bx, h1, h2, h3, h7 k2 hk⟩))⟩
 | ⟨dst, op, some (t, b)⟩ :: r, dr, s, h => by
  simp only [run] at h ⊢
  obtain ⟨d, h0, h⟩ := h
  have hA : ((dr.ok r.length (pk op s) (wk op s) = true /\ PS P dr.dr op dst s fun s' => run P (dr.nx (FJ op dst r) (pk op s) (wk op s)) r K s') \/
    (∃ p q d ef, EF P dr.B op dst s p q d ef /\ dr.ok r.length p q = true /\ run P (dr.nx (Ke dst.toList r) p q) r K (s.eff dst d ef)) \/
    (∃ f args HF Hn Hu d, dr = .fixed /\ HM s op f args /\ KD P f args s HF Hn Hu d /\ run P dr r K (St.apply { s with H := Hn ++ (Hu ++ s.H) } dst d none)) \/
    ∃ s' d bx, dr = .fixed /\ s.le s' /\ XO P ⟨dst, op, none⟩ s' d bx /\ run P dr r K (s'.apply dst d bx)) ->
    ∃ s', K s' /\ ∀ k2 : St -> Prop, k2 s' -> ((dr.ok r.length (pk op s) (wk op s) = true /\ PS P dr.dr op dst s fun s' => run P (dr.nx (FJ op dst r) (pk op s) (wk op s)) r k2 s') \/
    (∃ p q d ef, EF P dr.B op dst s p q d ef /\ dr.ok r.length p q = true /\ run P (dr.nx (Ke dst.toList r) p q) r k2 (s.eff dst d ef)) \/
    (∃ f args HF Hn Hu d, dr = .fixed /\ HM s op f args /\ KD P f args s HF Hn Hu d /\ run P dr r k2 (St.apply { s with H := Hn ++ (Hu ++ s.H) } dst d none)) \/
    ∃ s' d bx, dr = .fixed /\ s.le s' /\ XO P ⟨dst, op, none⟩ s' d bx /\ run P dr r k2 (s'.apply dst d bx)) := fun h => by
   rcases h with ⟨h1, h2⟩ | ⟨p, q, d, ef, h1, h2, h3⟩ | ⟨f, args, HF, Hn, Hu, d, h1, h2, h3, h5⟩ | ⟨s', d, bx, h1, h2, h3, h5⟩
   ·obtain ⟨s1, h3, h4⟩ := DH h2
    obtain ⟨s2, h5, h6⟩ := Hi h3
    exact ⟨s2, h5, fun k2 hk => .inl ⟨h1, h4 _ (h6 k2 hk)⟩⟩
   ·obtain ⟨s2, h6, h7⟩ := Hi h3
    exact ⟨s2, h6, fun k2 hk => .inr (.inl ⟨p, q, d, ef, h1, h2, h7 k2 hk⟩)⟩
   ·obtain ⟨s2, h6, h7⟩ := Hi h5
    exact ⟨s2, h6, fun k2 hk => .inr (.inr (.inl ⟨f, args, HF, Hn, Hu, d, h1, h2, h3, h7 k2 hk⟩))⟩
   ·obtain ⟨s2, h6, h7⟩ := Hi h5
    exact ⟨s2, h6, fun k2 hk => .inr (.inr (.inr ⟨s', d, bx, h1, h2, h3, h7 k2 hk⟩))⟩
  have hB : run P dr r K (s.apply dst .undef none) -> ∃ s', K s' /\ ∀ k2 : St -> Prop, k2 s' -> run P dr r k2 (s.apply dst .undef none) := Hi
  cases d <;> simp only [MC] at h <;> try exact h.elim
  ·obtain ⟨s2, h1, h2⟩ := hB h
   exact ⟨s2, h1, fun k2 hk => ⟨_, h0, h2 k2 hk⟩⟩
  ·rename_i c
   cases c <;> cases b
   ·obtain ⟨s2, h1, h2⟩ := hA (h.1 rfl)
    exact ⟨s2, h1, fun k2 hk => ⟨_, h0, ⟨fun _ => h2 k2 hk, fun h => by cases h⟩⟩⟩
   ·obtain ⟨s2, h1, h2⟩ := hB (h.2 rfl)
    exact ⟨s2, h1, fun k2 hk => ⟨_, h0, ⟨(fun h => by cases h), fun _ => h2 k2 hk⟩⟩⟩
   ·obtain ⟨s2, h1, h2⟩ := hB (h.2 rfl)
    exact ⟨s2, h1, fun k2 hk => ⟨_, h0, ⟨(fun h => by cases h), fun _ => h2 k2 hk⟩⟩⟩
   ·obtain ⟨s2, h1, h2⟩ := hA (h.1 rfl)
    exact ⟨s2, h1, fun k2 hk => ⟨_, h0, ⟨fun _ => h2 k2 hk, fun h => by cases h⟩⟩⟩
/-! #### The rules -/
variable {l : List Nat} {b : TCode} {id i : Nat}
theorem Q5 {dr : Bool} {ops : List AOper} (h : ∀ K : St -> Prop, (∀ fr H, TX P nt b Q ⟨Zf l fr, H⟩ -> K ⟨fr, H⟩) -> run P (Dr.of s.H dr) ops K s) : TX P nt (.seq (.region dr ops) l b) Q s := by
 obtain ⟨s1, ⟨e, s2, h1, h2⟩, h3⟩ := Hi (h (fun st => TX P nt b Q ⟨Zf l st.fr, st.H⟩) fun fr H h => h)
 exact ⟨e, s2, h1, Qb fun K hK => h3 K (hK s1.fr s1.H h2)⟩
theorem ZI {dr : Bool} {ops : List AOper} (h : ∀ K : St -> Prop, (∀ s', Q .normal s' -> K s') -> run P (Dr.of s.H dr) ops K s) : TX P nt (.region dr ops) Q s := by
 obtain ⟨s1, h1, h3⟩ := Hi (h (Q .normal) fun _ h => h)
 exact ⟨.normal, s1, h1, QQ fun K hK => h3 K (hK s1 ⟨rfl, rfl⟩)⟩
def Qbw (P : Program) (nt : Nat) (l : List Nat) (b : TCode) (Q : Yy -> St -> Prop) : Yy -> St -> Prop
 | .normal, s => TX P nt b Q ⟨Zf l s.fr, s.H⟩
 | e, s => Q e s
theorem XE {a : TCode} (h : TX P nt a (Qbw P nt l b Q) s) : TX P nt (.seq a l b) Q s := by
 obtain ⟨e, s1, h1, h2⟩ := h
 cases e with
 | normal =>
  obtain ⟨e2, s2, h3, h4⟩ := h1
  exact ⟨e2, s2, h3, QA (Xh (fun _ _ ⟨p, q⟩ => by subst p q; exact h4) h2)⟩
 | exit n => exact ⟨.exit n, s1, h1, QA (Xh (fun _ _ ⟨p, q⟩ => by subst p q; exact ⟨rfl, rfl⟩) h2)⟩
 | ret => exact ⟨.ret, s1, h1, QA (Xh (fun _ _ ⟨p, q⟩ => by subst p q; exact ⟨rfl, rfl⟩) h2)⟩
theorem YG {c : Opd} {x y : TCode} {t : Bool} (hc : s.ev c = some (.bool t)) (h1 : t = true -> TX P nt x Q s) (h2 : t = false -> TX P nt y Q s) : TX P nt (.cond c x y) Q s := by
 cases t
 ·obtain ⟨e, s1, h3, h4⟩ := h2 rfl; exact ⟨e, s1, h3, Zp hc h4⟩
 ·obtain ⟨e, s1, h3, h4⟩ := h1 rfl; exact ⟨e, s1, h3, ZD hc h4⟩
theorem R2 {c : Opd} {x y : TCode} (hc : s.ev c = some (.bool false)) (h1 : TX P nt y Q s) : TX P nt (.cond c x y) Q s := YG hc (fun h => by cases h) (fun _ => h1)
theorem YC {a : TCode} (h : TX P nt a (Ju id Q) s) : TX P nt (.block id a) Q s := by
 obtain ⟨e, s1, h1, h2⟩ := h
 cases e with
 | normal => exact ⟨.normal, s1, h1, Qy (Xh (fun _ _ ⟨p, q⟩ => by subst p q; exact ⟨rfl, rfl⟩) h2)⟩
 | ret => exact ⟨.ret, s1, h1, Qy (Xh (fun _ _ ⟨p, q⟩ => by subst p q; exact ⟨rfl, rfl⟩) h2)⟩
 | exit n =>
  by_cases hn : n = id
  ·subst hn
   simp only [Ju, if_true] at h1
   exact ⟨.normal, s1, h1, Qy (Xh (fun _ _ ⟨p, q⟩ => by subst p q; simp only [Ju, if_true]; exact ⟨trivial, trivial⟩) h2)⟩
  ·simp only [Ju, if_neg hn] at h1
   exact ⟨.exit n, s1, h1, Qy (Xh (fun _ _ ⟨p, q⟩ => by subst p q; simp only [Ju, if_neg hn]; exact ⟨trivial, trivial⟩) h2)⟩
theorem HN (h : Q (.exit id) s) : TX P nt (.exit id) Q s := ⟨_, s, h, Zd ⟨rfl, rfl⟩⟩
theorem Mc (h : Q .ret s) : TX P nt .ret Q s := ⟨_, s, h, Qr ⟨rfl, rfl⟩⟩
theorem YZ (h : Q .normal s) : TX P nt .skip Q s := ⟨_, s, h, Qp ⟨rfl, rfl⟩⟩
theorem Lj {c : TCode} {s' : St} (h : s.le s') (hw : TX P nt c Q s') : TX P nt c Q s := let ⟨e, s1, h1, h2⟩ := hw; ⟨e, s1, h1, QbX h h2⟩
inductive Rounds (P : Program) (nt : Nat) (a : TCode) (e : Yy) (s' : St) : Nat -> St -> Prop
 | stop {s : St} : TW P nt a (fun e2 s2 => e2 = e /\ s2 = s') s -> e ≠ .normal -> Rounds P nt a e s' 0 s
 | next {s t s2 : St} {n : Nat} : TW P nt a (fun e2 s3 => e2 = .normal /\ s3 = t) s -> t.le s2 -> Rounds P nt a e s' n s2 -> Rounds P nt a e s' (n + 1) s
theorem Rounds.tw {a : TCode} {e : Yy} {s' : St} {n : Nat} (h : Rounds P nt a e s' n s) : TW P nt (.loop a) (fun e2 s2 => e2 = e /\ s2 = s') s := by
 refine Zy (ι := Nat × St) (fun j => j.2) (fun j => Rounds P nt a e s' j.1 j.2) (fun j => j.1) (n, s) (le_refl _) h fun j hj => ?_
 obtain ⟨m, st⟩ := j
 dsimp only at hj ⊢
 cases hj with
 | stop h1 h2 =>
  refine Xh (fun e2 s2 ⟨p, q⟩ => ?_) h1
  subst p q
  cases e2 with
  | normal => exact absurd rfl h2
  | exit n => exact ⟨rfl, rfl⟩
  | ret => exact ⟨rfl, rfl⟩
 | next h1 h2 h3 =>
  refine Xh (fun e2 s2 ⟨p, q⟩ => ?_) h1
  subst p q
  exact ⟨(_, _), h2, h3, Nat.lt_succ_self _⟩
theorem Fy {ι : Type} {a : TCode} (st : ι -> St) (I : ι -> Prop) (μ : ι -> Nat) (i0 : ι) (h0 : s.le (st i0)) (hI : I i0) (round : ∀ i, I i -> TX P nt a (MO st I μ i Q) (st i)) : TX P nt (.loop a) Q s := by
 refine Lj h0 ?_
 have key : ∀ n i, μ i = n -> I i -> ∃ e s', Q e s' /\ ∃ m, Rounds P nt a e s' m (st i) := by
  intro n
  induction n using Nat.strongRecOn with
  | _ n ih =>
   intro i hn hi
   obtain ⟨e, s1, h1, h2⟩ := round i hi
   cases e with
   | normal =>
    obtain ⟨j, hle, hj, hlt⟩ := h1
    obtain ⟨e, s', h3, m, h4⟩ := ih (μ j) (hn ▸ hlt) j rfl hj
    exact ⟨e, s', h3, m + 1, .next h2 hle h4⟩
   | exit k => exact ⟨_, _, h1, 0, .stop h2 Wg⟩
   | ret => exact ⟨_, _, h1, 0, .stop h2 Wg⟩
 obtain ⟨e, s', h1, m, h2⟩ := key _ i0 rfl hI
 exact ⟨e, s', h1, h2.tw⟩
theorem Lk {ι : Type} (st : ι -> St) (I : ι -> Prop) {a : TCode} (h : TX P nt a (Cx st I Q) s) (k : ∀ j, I j -> TX P nt b Q (st j)) : TX P nt (.seq a l b) Q s := by
 obtain ⟨e, s1, h1, h2⟩ := h
 cases e with
 | normal =>
  obtain ⟨j, hle, hI⟩ := h1
  obtain ⟨e2, s2, h3, h4⟩ := k j hI
  refine ⟨e2, s2, h3, F9 (ι := Unit) (fun _ => st j) (fun _ => True) (Xh (fun _ _ ⟨p, q⟩ => by subst p q; exact ⟨(), hle, trivial⟩) h2) fun _ _ => h4⟩
 | exit n => exact ⟨.exit n, s1, h1, QA (Xh (fun _ _ ⟨p, q⟩ => by subst p q; exact ⟨rfl, rfl⟩) h2)⟩
 | ret => exact ⟨.ret, s1, h1, QA (Xh (fun _ _ ⟨p, q⟩ => by subst p q; exact ⟨rfl, rfl⟩) h2)⟩
theorem QM {fr fr' : Qet} {H : Qes} (h : Zf l fr = fr') (k : TX P nt b Q ⟨fr', H⟩) : TX P nt b Q ⟨Zf l fr, H⟩ := h ▸ k
theorem Q4 {fr fr' : Qet} {H : Qes} (h : Zf l fr = fr') (k : TX P nt b Q ⟨fr', H⟩) : Qbw P nt l b Q .normal ⟨fr, H⟩ := by
 simp only [Qbw, h]; exact k
theorem Y6 (h : Q (.exit id) s) : Qbw P nt l b Q (.exit id) s := h
theorem TD (h : Q .ret s) : Qbw P nt l b Q .ret s := h
end
section
variable {P : Program}
theorem Ok.ofX {f : Nat} {fn : Func} {tf : TFn} {ds : List D} {R : D -> Prop} (hm : P.follows .mixedOrders = true) (hf : P.funcs[f]? = some fn) (hp : QF P fn = some tf.erase) (hn : ds.length <= tf.nt)
  (h : TX P tf.nt tf.body (fun e s => ∃ d, R d /\ Post tf.rs d e s) ⟨TR 0 ds, []⟩) (hg : PP f = [] := by rfl) : ∃ d, R d /\ Ok P f ds d := by
 obtain ⟨e, s, ⟨d, h1, h2⟩, h3⟩ := h
 exact ⟨d, h1, Ok.ofT hm hf hp hn (Xh (fun _ _ ⟨p, q⟩ => by subst p q; exact h2) h3) hg⟩
theorem OkH.ofX {f : Nat} {fn : Func} {tf : TFn} {ds : List D} {H : Qes} {R : D -> Qes -> Prop} (hm : P.follows .mixedOrders = true) (hf : P.funcs[f]? = some fn) (hp : QF P fn = some tf.erase) (hn : ds.length <= tf.nt)
  (h : TX P tf.nt tf.body (fun e s => ∃ d H', R d H' /\ (∀ k, 1000000 <= k -> (lk H k).isSome = true -> (lk H' k).isSome = true) /\ (∀ k b, lk H' k = some b -> 500000 <= k /\ ∀ j ∈ b.ids, (lk H' j).isSome = true) /\ PW tf.rs d H' e s) ⟨TR 0 ds, H⟩) (hg : PP f = [] := by rfl) : ∃ d H', R d H' /\ OkH P f ds H d H' := by
 obtain ⟨e, s, ⟨d, H', h1, h2, h3, h4⟩, h5⟩ := h
 exact ⟨d, H', h1, OkH.ofT hm hf hp hn h2 h3 (Xh (fun _ _ ⟨p, q⟩ => by subst p q; exact h4) h5) hg⟩
end
section
variable {fr : Qet} {H H' : Qes} {t : Nat}
theorem Jm {e : Yy} {p d : D} (h : lk fr t = some p) (hd : D1 Mp ⟨fr, H⟩ p = d) (hH : ∀ k b, lk H' k = some b -> lk H k = some b) (he : e = .ret \/ e = .normal := by first | exact .inl rfl | exact .inr rfl) : PW [.tmp t] d H' e ⟨fr, H⟩ := by
 subst hd; rcases he with rfl | rfl <;> exact ⟨.inr ⟨_, rfl, _, h, rfl⟩, hH⟩
theorem Hx {e : Yy} {sz : Nat} {p : D} {cells cs : List D} {d : D} (h : lk fr t = some p) (ha : St.atO ⟨fr, H⟩ p = some cells) (hl : Nat.ble sz cells.length = true) (hc : cells.take sz = cs) (hd : D1 Mp ⟨fr, H⟩ (.agg cs) = d) (hH : ∀ k b, lk H' k = some b -> lk H k = some b) (he : e = .ret \/ e = .normal := by first | exact .inl rfl | exact .inr rfl) : PW [.cell t true sz] d H' e ⟨fr, H⟩ := by
 subst hc hd
 rcases he with rfl | rfl <;> exact ⟨.inr ⟨_, rfl, p, cells, h, P2.2 ha, by simp only [if_true]; exact ⟨Qev hl, trivial⟩⟩, hH⟩
end
theorem Bb {P : Program} {f : Nat} {args : List Opd} {s : St} {ds ds' : List D} {k t n' : Nat} {b b' : Box} (ha : Zn s args = some ds) (hb : lk s.H k = some b) (hp : b.pr = true) (hk : k < 1000000) (hn : lk s.H t = none) (ht : t < 1000000) (hds : ∀ x ∈ ds, ∀ j ∈ x.ids, j = k) (hkd : ∃ x ∈ ds, k ∈ x.ids) (hp' : b'.pr = true)
  (hu : ds.map (QbZ k) = ds') (hok : OkH P f ds' [(500000, b)] (.osl 500000 n') [(500000, b')]) : TP P f args s [] k t b b' n' := by
 subst hu
 exact ⟨ds, ha, hb, hp, hk, hn, ht, (fun j x hj => by cases hj), (fun j x hj => by cases hj), (fun x hx j hj => .inl (hds x hx j hj)), hkd, hp', hok⟩
section
variable {fr : Qet} {H : Qes} {t u : Nat}
theorem Post.eq {rs : List PT} {d d' : D} {e : Yy} {s : St} (h : Post rs d e s) (hd : d = d') : Post rs d' e s := hd ▸ h
theorem Xx {e : Yy} {sz : Nat} {p q d' : D} {cells cs ds : List D} (h : lk fr t = some p) (ha : St.atO ⟨fr, H⟩ p = some cells) (hl : Nat.ble sz cells.length = true) (hc : cells.take sz = cs) (h2 : lk fr u = some q) (hd : XP ⟨fr, H⟩ (.agg cs) = .agg ds /\ XP ⟨fr, H⟩ q = d')
  (he : e = .ret \/ e = .normal := by first | exact .inl rfl | exact .inr rfl) : Post [.cell t true sz, .tmp u] (.tup [.agg ds, d']) e ⟨fr, H⟩ := by
 subst hc
 obtain ⟨h3, rfl⟩ := hd
 have : RK ⟨fr, H⟩ [.cell t true sz, .tmp u] [.agg ds, XP ⟨fr, H⟩ q] :=
  ⟨_, _, rfl, ⟨p, cells, h, P2.2 ha, by simp only [if_true]; exact ⟨Qev hl, h3.symm⟩⟩, _, _, rfl, ⟨q, h2, rfl⟩, rfl⟩
 rcases he with rfl | rfl <;> exact ⟨_, rfl, this⟩
end
theorem XY {m k : Nat} {b0 b : Box} (h : lk [(m, b0)] k = some b) : k = m /\ b = b0 := by
 rw [Qk] at h
 split at h
 ·rename_i e; cases h; exact ⟨e.symm, rfl⟩
 ·cases h
theorem OkH.mv {P : Program} {f : Nat} {fn : Func} {tf : TFn} {ds : List D} {d : D} {b b' : Box} (hm : P.follows .mixedOrders = true) (hf : P.funcs[f]? = some fn) (hp : QF P fn = some tf.erase) (hn : ds.length <= tf.nt) (hb : b'.pr = true)
  (h : TW P tf.nt tf.body (PW tf.rs d [(500000, b')]) ⟨TR 0 ds, [(500000, b)]⟩) (hg : PP f = [] := by rfl) : OkH P f ds [(500000, b)] d [(500000, b')] := by
 refine OkH.ofT hm hf hp hn (fun k hk h1 => ?_) (fun k x hk => ?_) h hg
 ·obtain ⟨y, hy⟩ := QeB.1 h1
  obtain ⟨rfl, _⟩ := XY hy
  omega
 ·obtain ⟨rfl, rfl⟩ := XY hk
  refine ⟨Nat.le_refl _, fun j hj => ?_⟩
  simp [Box.ids, hb] at hj
theorem SF {H : Qes} {m : Nat} {b0 : Box} (h : lk H m = some b0) : ∀ k b, lk [(m, b0)] k = some b -> lk H k = some b := fun k b hk => by
 obtain ⟨rfl, rfl⟩ := XY hk; exact h
theorem Yk {s : St} {k i off : Nat} {b : Box} {row : List D} (hb : lk s.H k = some b) (hr : b.rows[i]? = some row) : s.atO (.ref k i off) = some (row.drop off) := by
 simp only [St.atO, hb, hr]
theorem LZ {l : List Nat} {fr fr1 : Qet} {H : Qes} {t u n : Nat} {b : Box} (m : Nat) (hk : Zf l fr = fr1) (hp : (fr1.all fun p => p.2.ids.isEmpty) = true) (hu : lk fr u = some (.osl t n)) (hb : lk H t = some b) (hpr : b.pr = true)
  (hB : Qa5 H [] = true := by rfl) (ht : t < 1000000 := by decide) (hm : m < 1000000 := by decide) : St.le ⟨fr, H⟩ ⟨(u, .osl m n) :: fr1, [(m, b)]⟩ := fun E g a w r => by
 obtain ⟨g', r'⟩ := So t m ht hm ⟨fr, H⟩ E g a w r
 have hsw : KF t m t = m := by unfold KF; rw [if_pos rfl]
 have hsm : KF t m m = t := by have := G1 t m t; rw [hsw] at this; exact this
 have hren : b.ren (KF t m) = b := Box.ren_pure ((r.bx t b hb).2.1 hpr)
 have hids : ∀ v d, lk fr1 v = some d -> d.ids = [] := fun v d h => by
  simp only [QeF] at hp
  have := hp (v, d) (Ym h)
  simpa using this
 refine ⟨g', r'.less (fun v d h => ?_) (fun j x h => ?_) (fun v d h j hj => ?_) (fun j x h i hi => ?_) fun j hj hs => ?_⟩
 ·simp only [St.ren, Z2]
  rw [Qk] at h
  split at h
  ·rename_i e
   cases h; subst e
   rw [hu]
   simp only [Option.map_some, D.ren, D.renS, hsw]
  ·have h2 : lk fr v = some d := by subst hk; exact Xj l fr v d h
   rw [h2, Option.map_some]
   have h3 := hids v d h
   congr 1
   cases d <;> first | rfl | (simp [D.ids, D.sid] at h3; done) | skip
   ·rename_i cs
    simp only [D.ren]
    congr 1
    have one : ∀ d : D, d.sid = [] -> d.renS (KF t m) = d := fun d hd => by cases d <;> first | rfl | (simp [D.sid] at hd)
    simp only [D.ids, List.flatMap_eq_nil_iff] at h3
    exact Y3 fun x hx => one x (h3 x hx)
   ·rename_i f cs
    simp only [D.ren]
    congr 1
    have one : ∀ d : D, d.sid = [] -> d.renS (KF t m) = d := fun d hd => by cases d <;> first | rfl | (simp [D.sid] at hd)
    simp only [D.ids, List.flatMap_eq_nil_iff] at h3
    exact Y3 fun x hx => one x (h3 x hx)
 ·obtain ⟨rfl, rfl⟩ := XY h
  show lk (PR (KF t j) H) j = some x
  rw [Pm (G1 t j), hsm, hb, Option.map_some, hren]
 ·rw [Qk] at h
  split at h
  ·cases h
   simp [D.ids, D.sid] at hj; subst hj; simp [Qk]
  ·rw [hids v d h] at hj; cases hj
 ·obtain ⟨rfl, rfl⟩ := XY h
  simp [Box.ids, hpr] at hi
 ·exfalso
  have hs' : (lk (PR (KF t m) H) j).isSome = true := hs
  rw [Pm (G1 t m), QeN] at hs'
  have hj' : KF t m j = j := by unfold KF; rw [if_neg Wa, if_neg Wa]
  rw [hj'] at hs'
  have := R5 hB j hj hs'
  cases this
theorem OkH.lent {P : Program} {f : Nat} {fn : Func} {tf : TFn} {ds : List D} {d : D} {k : Nat} {b b' : Box} (hk : 1000000 <= k) (hm : P.follows .mixedOrders = true) (hf : P.funcs[f]? = some fn) (hp : QF P fn = some tf.erase) (hn : ds.length <= tf.nt) (hb : b'.pr = true)
  (h : TW P tf.nt tf.body (PW tf.rs d ((k, b') :: [(k, b)])) ⟨TR 0 ds, [(k, b)]⟩) (hg : PP f = [] := by rfl) : OkH P f ds [(k, b)] d ((k, b') :: [(k, b)]) := by
 refine OkH.ofT hm hf hp hn (fun j hj h1 => ?_) (fun j x hj => ?_) h hg
 ·obtain ⟨y, hy⟩ := QeB.1 h1
  obtain ⟨rfl, _⟩ := XY hy
  rw [Qk, if_pos rfl]; rfl
 ·rw [Qk] at hj
  split at hj
  ·rename_i e; subst e; cases hj
   exact ⟨Wa, fun i hi => by simp [Box.ids, hb] at hi⟩
  ·rename_i e
   obtain ⟨rfl, _⟩ := XY hj
   exact absurd rfl e
theorem Qav {H : Qes} {m : Nat} {b0 b1 : Box} (h : lk H m = some b0) : ∀ k b, lk ((m, b0) :: [(m, b1)]) k = some b -> lk H k = some b := fun k b hk => by
 rw [Qk] at hk
 split at hk
 ·rename_i e; subst e; cases hk; exact h
 ·rename_i e
  obtain ⟨rfl, _⟩ := XY hk
  exact absurd rfl e
section
variable {P : Program} {dr : Dr} {r : List AOper} {K : St -> Prop} {fr : Qet} {H : Qes} {t : Nat} {bt : Bool} {x y : Opd} {ki kj : IntKind} {m n z : Int}
theorem BE (hx : St.ev ⟨fr, H⟩ x = some (.int ki m)) (hy : St.ev ⟨fr, H⟩ y = some (.int ki n)) (k : run P dr r K ⟨(t, .int ki (KX .and ki m n)) :: fr, H⟩) : run P dr (⟨some t, .bin .and bt x y, none⟩ :: r) K ⟨fr, H⟩ := QR rfl rfl ⟨_, hx, _, hy, .inr rfl, k⟩
theorem Qc3 (hx : St.ev ⟨fr, H⟩ x = some (.int ki m)) (hy : St.ev ⟨fr, H⟩ y = some (.int ki n)) (k : run P dr r K ⟨(t, .int ki (KX .or ki m n)) :: fr, H⟩) : run P dr (⟨some t, .bin .or bt x y, none⟩ :: r) K ⟨fr, H⟩ := QR rfl rfl ⟨_, hx, _, hy, .inr rfl, k⟩
theorem QbW (hx : St.ev ⟨fr, H⟩ x = some (.int ki m)) (hy : St.ev ⟨fr, H⟩ y = some (.int kj n)) (h0 : 0 <= n) (hz : ki.wrap (m * 2 ^ min n.toNat ki.bits) = z) (k : run P dr r K ⟨(t, .int ki z) :: fr, H⟩) : run P dr (⟨some t, .bin .shl bt x y, none⟩ :: r) K ⟨fr, H⟩ := by
 subst hz; exact QR rfl rfl ⟨_, hx, _, hy, .inl rfl, h0, k⟩
theorem QaX (hx : St.ev ⟨fr, H⟩ x = some (.int ki m)) (hy : St.ev ⟨fr, H⟩ y = some (.int kj n)) (h0 : 0 <= n) (k : run P dr r K ⟨(t, .int ki (m.fdiv (2 ^ min n.toNat ki.bits))) :: fr, H⟩) : run P dr (⟨some t, .bin .shr bt x y, none⟩ :: r) K ⟨fr, H⟩ :=
 QR rfl rfl ⟨_, hx, _, hy, .inl rfl, h0, k⟩
end
end Go.Abs
namespace Go.Abs
open Go
theorem Fh {H : Qes} {S : Nat -> Bool} {d : D} (h : ∀ k ∈ d.sid, S k = false) : d.fzS H S = d := by
 cases d <;> try rfl
 ·rename_i k n
  simp only [D.fzS]; rw [if_neg (by rw [h k (by simp [D.sid])]; simp)]
 ·rename_i k i o
  simp only [D.fzS]; rw [if_neg (by rw [h k (by simp [D.sid])]; simp)]
theorem Rn {H : Qes} {S : Nat -> Bool} {d : D} (h : ∀ k ∈ d.ids, S k = false) : d.fz H S = d := by
 cases d
 case agg cs =>
  simp only [D.fz]
  rw [Y3 fun x hx => Fh fun k hk => h k (QeC.2 ⟨x, hx, hk⟩)]
 case clo f cs =>
  simp only [D.fz]
  rw [Y3 fun x hx => Fh fun k hk => h k (QeC.2 ⟨x, hx, hk⟩)]
 case osl k n => exact Fh (d := .osl k n) h
 case ref k i o => exact Fh (d := .ref k i o) h
 all_goals rfl
theorem XF {H : Qes} {S : Nat -> Bool} {b : Box} (h : b.pr = true \/ ∀ k ∈ b.ids, S k = false) : b.fz H S = b := by
 unfold Box.fz
 split
 ·rfl
 ·rename_i hp
  have h' := h.resolve_left hp
  have hids : b.ids = b.rows.flatMap fun r => r.flatMap D.sid := by unfold Box.ids; rw [if_neg hp]
  rw [hids] at h'
  have key : ∀ rows : List (List D), (∀ k ∈ rows.flatMap (fun r => r.flatMap D.sid), S k = false) -> (rows.map fun r => r.map (D.fzS H S)) = rows := by
   intro rows
   induction rows with
   | nil => intro _; rfl
   | cons r rs ih =>
    intro h'
    rw [List.map_cons, ih (fun k hk => h' k (by rw [List.flatMap_cons]; exact QeK _ hk)),
     Y3 fun x hx => Fh fun k hk => h' k (by rw [List.flatMap_cons]; exact List.mem_append_left _ (QeC.2 ⟨x, hx, hk⟩))]
  have this := key b.rows h'
  rw [this]
theorem Rv {fr fr1 : Qet} {H H1 : Qes} {l lH : List Nat} (k t : Nat) {n : Nat} {b : Box} (hf : Zf l fr = fr1) (hH : Mh lH H = H1) (ht : lk fr t = some (.osl k n)) (hb : lk H k = some b) (hp : b.pr = true) (hn : n = b.rows.length)
  (c1 : (fr1.all fun p => !p.2.ids.contains k) = true) (c2 : (H1.all fun p => p.1 != k && (p.2.pr || !p.2.ids.contains k)) = true) (hw : wfB H1 fr1 = true) (hbk : Qa5 H H1 = true) (hk : k < 1000000 := by decide) : St.le ⟨fr, H⟩ ⟨(t, .sl b.rows) :: fr1, H1⟩ := by
 intro E g a w r
 obtain ⟨g', _, r'⟩ := r.freeze k hk
 subst hf hH
 simp only [wfB, Qez, QeF] at hw
 simp only [QeF, Bool.not_eq_true', List.contains_eq_mem, decide_eq_false_iff_not] at c1
 simp only [QeF, Qez, Bool.or_eq_true, Bool.not_eq_true', List.contains_eq_mem, decide_eq_false_iff_not, bne_iff_ne, ne_eq] at c2
 have hS : ∀ (x : D), k ∉ x.ids -> x.fz H (· == k) = x := fun x hx => Rn fun j hj => by
  simp only [beq_eq_false_iff_ne, ne_eq]; rintro rfl; exact hx hj
 refine ⟨g', r'.less (fun u d h => ?_) (fun j x h => ?_) (fun u d h j hj => ?_) (fun j x h i hi => hw.2 (j, x) (Ym h) i hi) fun j hj hs => ?_⟩
 ·simp only [St.freeze, Z2]
  rw [Qk] at h
  split at h
  ·rename_i e; cases h; subst e
   rw [ht]; simp only [Option.map_some]
   congr 1
   simp only [D.fz, D.fzS, beq_self_eq_true, if_true, hb, hp, hn, and_self]
  ·have h1 := Xj l fr u d h
   rw [h1, Option.map_some, hS d (c1 (u, d) (Ym h))]
 ·have h1 := FT lH H j x h
  have h2 := c2 (j, x) (Ym h)
  simp only [St.freeze, K4]
  rw [if_neg h2.1, Z2 (Box.fz H (· == k)), h1, Option.map_some]
  congr 1
  refine XF (h2.2.imp id fun h3 i hi => ?_)
  simp only [beq_eq_false_iff_ne, ne_eq]; rintro rfl; exact h3 hi
 ·rw [Qk] at h
  split at h
  ·cases h; simp [D.ids, D.sid] at hj
  ·exact hw.1 (u, d) (Ym h) j hj
 ·have : (lk H j).isSome = true := by
   simp only [St.freeze, K4] at hs
   rw [if_neg Wa, Z2 (Box.fz H (· == k)), QeN] at hs
   exact hs
  exact R5 hbk j hj this
theorem QH {α : Type} {f : α -> List D} {l : List α} : QaI (.sl (l.map f)) = some (l.length : Int) := by simp [QaI]
section
variable {P : Program} {dr : Dr} {r : List AOper} {K : St -> Prop} {fr : Qet} {H : Qes} {t : Nat}
theorem C2 {esz et bytes : Nat} {zero : List D} {x y : Opd} {ki kj : IntKind} {n : Int} (hx : St.ev ⟨fr, H⟩ x = some (.int ki n)) (hy : St.ev ⟨fr, H⟩ y = some (.int kj n)) (hn : lk H t = none) (h0 : 0 <= n) (hb : n.toNat * bytes <= 281474976710656) (hc : n.toNat <= 4611686018427387904)
  (k : run P dr r K ⟨(t, .osl t n.toNat) :: fr, (t, ⟨List.replicate n.toNat zero, esz, et, true⟩) :: H⟩) : run P dr (⟨some t, .makeSlice esz et bytes zero x y, none⟩ :: r) K ⟨fr, H⟩ := QR rfl rfl ⟨_, hx, _, hy, t, rfl, hn, rfl, h0, hb, hc, k⟩
end
end Go.Abs
namespace Go.Abs
open Go
/-! ### Walks over boxes that are lent, of which little is known -/
def Big (H : Qes) : Prop := ∀ k b, lk H k = some b -> 1000000 <= k
def Closed (H : Qes) : Prop := ∀ k b, lk H k = some b -> ∀ j ∈ b.ids, (lk H j).isSome = true
theorem Big.none {H : Qes} (h : Big H) {k : Nat} (hk : k < 1000000) : lk H k = none := by
 cases hh : lk H k with
 | none => rfl
 | some b => have := h k b hh; omega
theorem Qj {α : Type} {H : List (Nat × α)} {k k' : Nat} {x b : α} (h : k' ≠ k) (e : lk H k = some b) : lk ((k', x) :: H) k = some b := by rw [Qk, if_neg h]; exact e
theorem Zw {α : Type} {H : List (Nat × α)} {k k' : Nat} {x : α} (h : k' ≠ k) (e : lk H k = none) : lk ((k', x) :: H) k = none := by rw [Qk, if_neg h]; exact e
theorem Qw {α : Type} {k : Nat} {v : α} {l : List (Nat × α)} : lk ((k, v) :: l) k = some v := by rw [Qk, if_pos rfl]
theorem Big.cons {H : Qes} (h : Big H) {k : Nat} {b : Box} (hk : 1000000 <= k) : Big ((k, b) :: H) := fun j x hj => by
 rw [Qk] at hj
 split at hj
 ·rename_i e; subst e; exact hk
 ·exact h j x hj
theorem QV {H : Qes} {k j : Nat} {b : Box} (h : (lk H j).isSome = true) : (lk ((k, b) :: H) j).isSome = true := by
 rw [Qk]; split
 ·rfl
 ·exact h
theorem QW {k : Nat} {b : Box} {l : Qes} : (lk ((k, b) :: l) k).isSome = true := by rw [Qw]; rfl
theorem Zu {l : Qes} {k : Nat} {b : Box} (h : lk l k = some b) : (lk l k).isSome = true := by rw [h]; rfl
def QaR (b : Box) : Prop := b.ids = []
theorem X5 {b : Box} (h : b.pr = true) : b.ids = [] := by simp [Box.ids, h]
theorem Closed.cons {H : Qes} (h : Closed H) {k : Nat} {b : Box} (hb : ∀ j ∈ b.ids, (lk H j).isSome = true) : Closed ((k, b) :: H) := fun j x hj i hi => by
 rw [Qk] at hj
 split at hj
 ·cases hj; exact QV (hb i hi)
 ·exact QV (h j x hj i hi)
theorem Closed.pr {H : Qes} (h : Closed H) {k : Nat} {b : Box} (hb : b.pr = true) : Closed ((k, b) :: H) := h.cons fun j hj => by rw [X5 hb] at hj; cases hj
theorem Bg {l : List Nat} {fr fr1 fr' : Qet} {H H' : Qes} (hf : Zf l fr = fr1) (ef : fr1 = fr') (hH : ∀ k b, lk H' k = some b -> lk H k = some b) (hfr : ∀ p ∈ fr', ∀ k ∈ p.2.ids, (lk H' k).isSome = true) (hcl : Closed H') (hbig : ∀ k, 1000000 <= k -> (lk H k).isSome = true -> (lk H' k).isSome = true) : St.le ⟨fr, H⟩ ⟨fr', H'⟩ := by
 subst hf ef
 intro E g a w r
 exact ⟨g, r.less (fun t d h => Xj l fr t d h) hH (fun t d h k hk => hfr (t, d) (Ym h) k hk) hcl hbig⟩
theorem Km {fr fr' : Qet} {H H' : Qes} (ef : fr = fr') (hH : ∀ k, lk H k = lk H' k) : St.le ⟨fr, H⟩ ⟨fr', H'⟩ := by
 subst ef; exact Sn ⟨fun _ => rfl, hH⟩
theorem NJ {A H0 : Qes} {k : Nat} {b : Box} (h : lk (A ++ H0) k = some b) : (k, b) ∈ A \/ (lk A k = none /\ lk H0 k = some b) := by
 rw [ZV] at h
 split at h
 ·rename_i v hv; cases h; exact .inl (Ym hv)
 ·rename_i hv; exact .inr ⟨hv, h⟩
theorem Qbi {l : List Nat} {fr fr1 fr' : Qet} {H A H0 : Qes} (hf : Zf l fr = fr1) (ef : fr1 = fr') (hA : ∀ p ∈ A, lk H p.1 = some p.2 /\ p.2.pr = true) (h0 : ∀ k b, lk A k = none -> lk H0 k = some b -> lk H k = some b) (hfr : ∀ p ∈ fr', ∀ k ∈ p.2.ids, (lk (A ++ H0) k).isSome = true) (hcl : Closed H0)
  (hbig : ∀ k, 1000000 <= k -> (lk H k).isSome = true -> (lk (A ++ H0) k).isSome = true) : St.le ⟨fr, H⟩ ⟨fr', A ++ H0⟩ := by
 have up : ∀ j, (lk H0 j).isSome = true -> (lk (A ++ H0) j).isSome = true := fun j hj => by
  rw [ZV]; split
  ·rfl
  ·exact hj
 refine Bg hf ef (fun k b hk => ?_) hfr (fun k b hk j hj => ?_) hbig
 ·rcases NJ hk with h | ⟨h1, h2⟩
  ·exact (hA _ h).1
  ·exact h0 k b h1 h2
 ·rcases NJ hk with h | ⟨h1, h2⟩
  ·rw [X5 (hA _ h).2] at hj; cases hj
  ·exact up j (hcl k b h2 j hj)
theorem SJ {H : Qes} : Big (upH H) := fun k b hk => by
 obtain ⟨j, b0, rfl, _, _⟩ := YO hk
 unfold upN; omega
theorem Fv {H : Qes} (h : Closed H) : Closed (upH H) := fun k b hk j hj => by
 obtain ⟨i, b0, rfl, h1, rfl⟩ := YO hk
 rw [Box.ren_ids] at hj
 obtain ⟨j0, hj0, rfl⟩ := QeJ.1 hj
 rw [JB, QeN]
 exact h i b0 h1 j0 hj0
theorem SX {P : Program} {f : Nat} {args : List Opd} {s : St} {ds ds' : List D} {HF : Qes} {k : Nat} {b b' : Box} {d : D} (ha : Zn s args = some ds) (hF : ∀ j x, lk HF j = some x -> lk s.H j = some x) (hcl : Closed HF) (hds : ∀ x ∈ ds, ∀ j ∈ x.ids, (lk HF j).isSome = true)
  (hk : (lk HF k).isSome = true) (hb : b.pr = true) (hd : d.ids = []) (hu : ds.map Qb0 = ds') (hr : b.ren upN = b') (hok : OkH P f ds' (upH HF) d ((upN k, b') :: upH HF)) : KD P f args s HF [] [(k, b)] d := by
 subst hu hr
 refine ⟨ds, ha, hF, hcl, hds, fun j x hj => ?_, (fun j x hj => by cases hj), (fun j hj => by rw [hd] at hj; cases hj), hok⟩
 rw [Qk] at hj
 split at hj
 ·rename_i e; cases hj; subst e; exact ⟨hk, fun i hi => by rw [X5 hb] at hi; cases hi⟩
 ·cases hj
theorem XC {H : Qes} {k : Nat} {b : Box} (hB : Big H) (hC : Closed H) (hk : 1000000 <= k) (hb : b.pr = true) : (∀ j, 1000000 <= j -> (lk H j).isSome = true -> (lk ((k, b) :: H) j).isSome = true) /\ (∀ j x, lk ((k, b) :: H) j = some x -> 500000 <= j /\ ∀ i ∈ x.ids, (lk ((k, b) :: H) i).isSome = true) :=
 ⟨fun _ _ h => QV h, fun j x hj => ⟨by have := hB.cons (b := b) hk j x hj; omega, hC.pr hb j x hj⟩⟩
theorem NG {l : List Nat} {fr fr1 fr' : Qet} {B A A' H0 : Qes} (hf : Zf l fr = fr1) (ef : fr1 = fr') (hA : ∀ p ∈ A, lk B p.1 = some p.2 /\ p.2.pr = true) (eA : A = A') (hBA : ∀ p ∈ B, 1000000 <= p.1 -> (lk A p.1).isSome = true) (hb : Big H0) (hcl : Closed H0) (hfr : ∀ p ∈ fr', ∀ k ∈ p.2.ids, (lk (A' ++ H0) k).isSome = true) : St.le ⟨fr, B ++ H0⟩ ⟨fr', A' ++ H0⟩ := by
 subst eA
 have noB : ∀ k b, lk H0 k = some b -> lk A k = none -> lk B k = none := fun k b h1 h2 => by
  cases h : lk B k with
  | none => rfl
  | some x =>
   have := hBA (k, x) (Ym h) (hb k b h1)
   simp only at this
   rw [h2] at this; cases this
 refine Qbi hf ef (fun p hp => ?_) (fun k b h1 h2 => ?_) hfr hcl fun k hk hs => ?_
 ·obtain ⟨q1, q2⟩ := hA p hp
  exact ⟨Yu q1, q2⟩
 ·rw [YV (noB k b h2 h1)]; exact h2
 ·rw [ZV] at hs ⊢
  cases h : lk B k with
  | some x =>
   have := hBA (k, x) (Ym h) hk
   obtain ⟨y, hy⟩ := QeB.1 this
   simp only at hy
   rw [hy]; rfl
  | none =>
   rw [h] at hs
   cases h2 : lk A k with
   | some x => rfl
   | none => exact hs
theorem Jz {B H : Qes} {kg : Nat} {g : Box} (hb : Big H) (h1 : lk B kg = some g) (h2 : ∀ p ∈ B, 1000000 <= p.1 -> p.1 = kg) : ∀ k b, lk ((kg, g) :: H) k = some b -> lk (B ++ H) k = some b := fun k b hk => by
 rw [Qk] at hk
 split at hk
 ·rename_i e; cases hk; subst e; exact Yu h1
 ·rename_i e
  rw [ZV]
  cases h : lk B k with
  | none => exact hk
  | some x => exact absurd (h2 (k, x) (Ym h) (hb k b hk)).symm e
def scr (k : Nat) (H : Qes) : Qes := H.map fun p => (p.1, p.2.scrub k)
theorem RO {k : Nat} {b : Box} (h : k ∉ b.ids) : b.scrub k = b := by
 unfold Box.scrub
 split
 ·rfl
 ·rename_i hp
  have hids : b.ids = b.rows.flatMap fun r => r.flatMap D.sid := by unfold Box.ids; rw [if_neg hp]
  rw [hids] at h
  have key : ∀ rows : List (List D), (k ∉ rows.flatMap fun r => r.flatMap D.sid) -> (rows.map fun r => r.map (D.scrubC k)) = rows := by
   intro rows
   induction rows with
   | nil => intro _; rfl
   | cons r rs ih =>
    intro h'
    rw [List.flatMap_cons, QeG] at h'
    rw [List.map_cons, ih (fun hh => h' (.inr hh)), Y3 fun x hx => ?_]
    have hx' : k ∉ x.sid := fun hk => h' (.inl (QeC.2 ⟨x, hx, hk⟩))
    cases x <;> try rfl
    ·rename_i j n
     simp only [D.sid, QeE] at hx'
     simp only [D.scrubC]
     first | rfl | rw [if_neg (fun e => hx' e.symm)] | rw [if_neg (fun e => hx' e)]
    ·rename_i j i o
     simp only [D.sid, QeE] at hx'
     simp only [D.scrubC]
     first | rfl | rw [if_neg (fun e => hx' e.symm)] | rw [if_neg (fun e => hx' e)]
  rw [key b.rows h]
theorem Bi {k : Nat} : ∀ {H : Qes} {j : Nat}, lk (scr k H) j = (lk H j).map (Box.scrub k)
 | [], _ => rfl
 | (i, b) :: H, j => by
  show (if i = j then some (b.scrub k) else lk (scr k H) j) = _
  rw [Qk, Bi]
  split <;> rfl
theorem Pn {H : Qes} {k j : Nat} (hB : Big H) (hC : Closed H) (hk : k < 1000000) : lk (scr k H) j = lk H j := by
 rw [Bi]
 cases h : lk H j with
 | none => rfl
 | some b =>
  rw [Option.map_some, RO fun hi => ?_]
  obtain ⟨x, hx⟩ := QeB.1 (hC j b h k hi)
  have := hB k x hx
  omega
theorem Qbj {fr : Qet} {B H0 : Qes} (k : Nat) (hB : Big H0) (hC : Closed H0) (hk : k < 1000000 := by decide) : St.le ⟨fr, B ++ scr k H0⟩ ⟨fr, B ++ H0⟩ :=
 Sn ⟨fun _ => rfl, fun j => by
  show lk (B ++ scr k H0) j = lk (B ++ H0) j
  rw [ZV, ZV, Pn hB hC hk]⟩
theorem Sk {l : List Nat} {fr fr1 : Qet} {B A H0 : Qes} (k t : Nat) {n : Nat} {b : Box} (hf : Zf l fr = fr1) (ht : lk fr t = some (.osl k n)) (hb : lk B k = some b) (hp : b.pr = true) (hn : n = b.rows.length) (c1 : ∀ p ∈ fr1, k ∉ p.2.ids)
  (hA : ∀ p ∈ A, p.1 ≠ k /\ lk B p.1 = some p.2 /\ p.2.pr = true) (hBA : ∀ p ∈ B, 1000000 <= p.1 -> (lk A p.1).isSome = true) (hB : Big H0) (hC : Closed H0) (hfr : ∀ p ∈ fr1, ∀ j ∈ p.2.ids, (lk (A ++ H0) j).isSome = true) (hk : k < 1000000 := by decide) : St.le ⟨fr, B ++ H0⟩ ⟨(t, .sl b.rows) :: fr1, A ++ H0⟩ := by
 intro E g a w r
 obtain ⟨g', _, r'⟩ := r.freeze k hk
 subst hf
 have hbB : lk (B ++ H0) k = some b := Yu hb
 have hS : ∀ (x : D), k ∉ x.ids -> x.fz (B ++ H0) (· == k) = x := fun x hx => Rn fun j hj => by
  simp only [beq_eq_false_iff_ne, ne_eq]; rintro rfl; exact hx hj
 have hH0k : ∀ j x, lk H0 j = some x -> k ∉ x.ids := fun j x h hi => by
  obtain ⟨y, hy⟩ := QeB.1 (hC j x h k hi)
  have := hB k y hy
  omega
 have noB : ∀ j x, lk H0 j = some x -> lk A j = none -> lk B j = none := fun j x h1 h2 => by
  cases h : lk B j with
  | none => rfl
  | some y =>
   have := hBA (j, y) (Ym h) (hB j x h1)
   simp only at this
   rw [h2] at this; cases this
 have boxOf : ∀ j x, lk (A ++ H0) j = some x -> j ≠ k /\ lk (B ++ H0) j = some x /\ (x.pr = true \/ k ∉ x.ids) := fun j x h => by
  rcases NJ h with h | ⟨h1, h2⟩
  ·obtain ⟨q1, q2, q3⟩ := hA _ h
   exact ⟨q1, Yu q2, .inl q3⟩
  ·refine ⟨fun e => ?_, ?_, .inr (hH0k j x h2)⟩
   ·subst e; have := hB _ x h2; omega
   ·rw [YV (noB j x h2 h1)]; exact h2
 refine ⟨g', r'.less (fun u d h => ?_) (fun j x h => ?_) (fun u d h j hj => ?_) (fun j x h i hi => ?_) fun j hj hs => ?_⟩
 ·simp only [St.freeze, Z2]
  rw [Qk] at h
  split at h
  ·rename_i e; cases h; subst e
   rw [ht]; simp only [Option.map_some]
   congr 1
   simp only [D.fz, D.fzS, beq_self_eq_true, if_true, hbB, hp, hn, and_self]
  ·have h1 := Xj l fr u d h
   rw [h1, Option.map_some, hS d (c1 (u, d) (Ym h))]
 ·obtain ⟨q1, q2, q3⟩ := boxOf j x h
  simp only [St.freeze, K4]
  rw [if_neg q1, Z2 (Box.fz (B ++ H0) (· == k)), q2, Option.map_some]
  congr 1
  refine XF (q3.imp id fun h3 i hi => ?_)
  simp only [beq_eq_false_iff_ne, ne_eq]; rintro rfl; exact h3 hi
 ·rw [Qk] at h
  split at h
  ·cases h; simp [D.ids, D.sid] at hj
  ·exact hfr (u, d) (Ym h) j hj
 ·rcases NJ h with h | ⟨h1, h2⟩
  ·rw [X5 (hA _ h).2.2] at hi; cases hi
  ·have := hC j x h2 i hi
   rw [ZV]; split
   ·rfl
   ·exact this
 ·have hs' : (lk (B ++ H0) j).isSome = true := by
   simp only [St.freeze, K4] at hs
   rw [if_neg Wa, Z2 (Box.fz (B ++ H0) (· == k)), QeN] at hs
   exact hs
  rw [ZV] at hs' ⊢
  cases h : lk B j with
  | some x =>
   have := hBA (j, x) (Ym h) hj
   obtain ⟨y, hy⟩ := QeB.1 this
   simp only at hy
   rw [hy]; rfl
  | none =>
   rw [h] at hs'
   cases h2 : lk A j with
   | some x => rfl
   | none => exact hs'
section
variable {P : Program} {r : List AOper} {K : St -> Prop} {fr : Qet} {H : Qes} {t : Nat}
theorem BF {esz et bytes kk n : Nat} {x y : Opd} {b : Box} {ys : List (List D)} {q : D} {pr : Bool} (hx : St.ev ⟨fr, H⟩ x = some (.osl kk n)) (hy : St.ev ⟨fr, H⟩ y = some q) (hq : kk ∉ q.ids) (hs : St.src ⟨fr, H⟩ esz q ys pr) (hn : lk H t = none)
  (hb : lk H kk = some b) (hl : n = b.rows.length) (he : b.esz = esz) (het : b.et = et) (hbb : (n + ys.length) * bytes <= 140737488355328) (hc : n + ys.length <= 4611686018427387904)
  (k : run P .fixed r K ⟨(t, .osl t (n + ys.length)) :: fr, (t, ⟨b.rows ++ ys, esz, et, b.pr && pr⟩) :: (kk, Z1) :: H⟩) (hk0 : kk < 1000000 := by decide) (ht0 : t < 1000000 := by decide) : run P .fixed (⟨some t, .append esz et bytes x y, none⟩ :: r) K ⟨fr, H⟩ :=
 .inr (.inl ⟨_, _, _, _, ⟨t, kk, n, b, q, ys, pr, rfl, hx, hk0, hn, ht0, hb, hl, he, het, hy, hq, hs, hbb, hc, rfl, rfl, rfl, rfl⟩, rfl, k⟩)
end
/-! ### The same over boxes whose names are greater than N -/
def QcT (N : Nat) (H : Qes) : Prop := ∀ k b, lk H k = some b -> N <= k
def D6 (H : Qes) : Prop := ∀ p ∈ H, p.2.pr = true
theorem Bu {k : Nat} : ∀ {H : Qes}, D6 H -> scr k H = H
 | [], _ => rfl
 | (j, b) :: H, h => by
  show (j, b.scrub k) :: scr k H = _
  have hb : b.scrub k = b := by unfold Box.scrub; rw [if_pos (h (j, b) Wg)]
  rw [hb, Bu fun p hp => h p (by simp [hp])]
theorem Pj {fr : Qet} {B H0 : Qes} (k : Nat) (h : D6 H0) : St.le ⟨fr, B ++ scr k H0⟩ ⟨fr, B ++ H0⟩ := by rw [Bu h]; exact le_refl _
theorem Sp {l : List Nat} {fr fr1 fr' : Qet} {B A A' H0 : Qes} {N : Nat} (hf : Zf l fr = fr1) (ef : fr1 = fr') (hA : ∀ p ∈ A, lk B p.1 = some p.2) (eA : A = A') (hcA : ∀ p ∈ A', ∀ j ∈ p.2.ids, (lk (A' ++ H0) j).isSome = true) (hBA : ∀ p ∈ B, N <= p.1 -> (lk A p.1).isSome = true) (hb : QcT N H0) (hpr : D6 H0) (hfr : ∀ p ∈ fr', ∀ k ∈ p.2.ids, (lk (A' ++ H0) k).isSome = true) (hN : N <= 1000000 := by decide) : St.le ⟨fr, B ++ H0⟩ ⟨fr', A' ++ H0⟩ := by
 subst eA
 have noB : ∀ k b, lk H0 k = some b -> lk A k = none -> lk B k = none := fun k b h1 h2 => by
  cases h : lk B k with
  | none => rfl
  | some x =>
   have := hBA (k, x) (Ym h) (hb k b h1)
   simp only at this
   rw [h2] at this; cases this
 refine Bg hf ef (fun k b hk => ?_) hfr (fun k b hk j hj => ?_) fun k hk hs => ?_
 ·rcases NJ hk with h | ⟨h1, h2⟩
  ·exact Yu (hA _ h)
  ·rw [YV (noB k b h2 h1)]; exact h2
 ·rcases NJ hk with h | ⟨h1, h2⟩
  ·exact hcA _ h j hj
  ·rw [X5 (hpr _ (Ym h2))] at hj; cases hj
 ·rw [ZV] at hs ⊢
  cases h : lk B k with
  | some x =>
   have := hBA (k, x) (Ym h) (QeO hN hk)
   obtain ⟨y, hy⟩ := QeB.1 this
   simp only at hy
   rw [hy]; rfl
  | none =>
   rw [h] at hs
   cases h2 : lk A k with
   | some x => rfl
   | none => exact hs
/-! ### Cells told az plain slices -/
theorem canS_cell {d : D} : d.canS.isCell = d.isCell := by cases d <;> rfl
theorem Hm {d : D} : d.canS.sid = d.sid := by cases d <;> rfl
theorem RepS.canS {g : Gh} {d : D} {v : Value} (h : RepS g d v) : RepS g d.canS v := by
 cases d <;> simp only [D.canS] <;> try exact h
 simp only [RepS, RepP] at h ⊢
 obtain ⟨a0, q1, q2⟩ := h
 exact ⟨a0, _, q1, Nat.le_refl _, q2⟩
theorem CellsC.canS {g : Gh} {c : Array Value} : ∀ {off : Nat} {ds : List D}, CellsC g c off ds -> CellsC g c off (ds.map D.canS)
 | _, [], _ => by simp only [List.map_nil, CellsC]
 | off, d :: ds, h => by
  simp only [CellsC, List.map_cons] at h ⊢
  obtain ⟨⟨h1, x, h2, h3⟩, h4⟩ := h
  exact ⟨⟨canS_cell.trans h1, x, h2, h3.canS⟩, h4.canS⟩
theorem RowsC.canAt {g : Gh} {c : Array Value} : ∀ {off : Nat} {rs : List (List D)} (i : Nat), RowsC g c off rs -> RowsC g c off (rs.modify i fun r => r.map D.canS)
 | _, [], i, h => by cases i <;> exact h
 | off, r :: rs, 0, h => by
  simp only [RowsC, List.modify_zero_cons] at h ⊢
  exact ⟨h.1.canS, by rw [List.length_map]; exact h.2⟩
 | off, r :: rs, i + 1, h => by
  simp only [RowsC, List.modify_succ_cons] at h ⊢
  exact ⟨h.1, RowsC.canAt i h.2⟩
theorem JY {α : Type} {f : α -> α} : ∀ {l : List α} {i : Nat} {x : α}, x ∈ l.modify i f -> x ∈ l \/ ∃ y ∈ l, x = f y
 | [], i, x, h => by cases i <;> exact absurd h Wg
 | a :: l, 0, x, h => by
  simp only [List.modify_zero_cons, Qex] at h
  rcases h with rfl | h
  ·exact .inr ⟨a, by simp, rfl⟩
  ·exact .inl (by simp [h])
 | a :: l, i + 1, x, h => by
  simp only [List.modify_succ_cons, Qex] at h
  rcases h with rfl | h
  ·exact .inl Wg
  ·rcases JY h with h | ⟨y, hy, e⟩
   ·exact .inl (by simp [h])
   ·exact .inr ⟨y, by simp [hy], e⟩
theorem Cz {fr : Qet} {H : Qes} {k : Nat} {b : Box} (i : Nat) (hb : lk H k = some b) : St.le ⟨fr, H⟩ ⟨fr, (k, { b with rows := b.rows.modify i fun r => r.map D.canS }) :: H⟩ := fun E g a w r => by
 have hsid : ∀ (r : List D), (r.map D.canS).flatMap D.sid = r.flatMap D.sid := fun r => by
  induction r with
  | nil => rfl
  | cons d r ih => rw [List.map_cons, List.flatMap_cons, List.flatMap_cons, Hm, ih]
 have hids : ∀ j, j ∈ Box.ids { b with rows := b.rows.modify i fun r => r.map D.canS } -> j ∈ b.ids := fun j hj => by
  unfold Box.ids at hj ⊢
  simp only at hj
  split at hj
  ·cases hj
  ·rename_i hp
   rw [if_neg hp]
   obtain ⟨row, hrow, hk⟩ := QeC.1 hj
   rcases JY hrow with h | ⟨y, hy, rfl⟩
   ·exact QeC.2 ⟨row, h, hk⟩
   ·rw [hsid] at hk; exact QeC.2 ⟨y, hy, hk⟩
 have hsome : ∀ j, (lk ((k, ({ b with rows := b.rows.modify i fun r => r.map D.canS } : Box)) :: H) j).isSome = (lk H j).isSome := fun j => by
  rw [Qk]; split
  ·rename_i e; subst e; rw [hb]; rfl
  ·rfl
 have hget : ∀ j b', lk ((k, ({ b with rows := b.rows.modify i fun r => r.map D.canS } : Box)) :: H) j = some b' -> (j = k /\ b' = { b with rows := b.rows.modify i fun r => r.map D.canS }) \/ (j ≠ k /\ lk H j = some b') := fun j b' h => by
  rw [Qk] at h
  split at h
  ·rename_i e; cases h; exact .inl ⟨e.symm, rfl⟩
  ·rename_i e; exact .inr ⟨Ne.symm e, h⟩
 refine ⟨g, r.nt, r.df, r.fr, fun t d h j hj => (hsome j).trans (r.wfF t d h j hj), fun j b' h i' hi => ?_, fun j b' h => ?_, fun j j' b1 b2 B e e' h1 h2 h3 h4 => ?_, r.kr, r.ext, r.kx, fun j hj => let ⟨h1, h2, h3, h4⟩ := r.kp j hj; ⟨h1, h2, h3, (hsome j).trans h4⟩⟩
 ·rcases hget j b' h with ⟨rfl, rfl⟩ | ⟨_, h⟩
  ·rw [hsome]; exact r.wfH _ b hb i' (hids i' hi)
  ·rw [hsome]; exact r.wfH j b' h i' hi
 ·rcases hget j b' h with ⟨rfl, rfl⟩ | ⟨_, h⟩
  ·obtain ⟨h1, h2, h3⟩ := r.bx _ b hb
   by_cases hr : b.rows = []
   ·have e : ({ b with rows := b.rows.modify i fun r => r.map D.canS } : Box) = b := by
     obtain ⟨rows, e1, e2, e3⟩ := b
     simp only at hr
     subst hr
     cases i <;> rfl
    rw [e]; exact ⟨h1, h2, h3⟩
   ·refine ⟨fun row hrow => ?_, fun hp row hrow d hd => ?_, .inr ?_⟩
    ·rcases JY hrow with h | ⟨y, hy, rfl⟩
     ·exact h1 row h
     ·rw [List.length_map]; exact h1 y hy
    ·rcases JY hrow with h | ⟨y, hy, rfl⟩
     ·exact h2 hp row h d hd
     ·obtain ⟨d0, hd0, rfl⟩ := QeJ.1 hd
      rw [Hm]; exact h2 hp y hy d0 hd0
    ·obtain ⟨_, B, c, q1, q2, q3, q4, q5⟩ := h3.resolve_left fun h => hr h.1
     refine ⟨fun e => hr ?_, B, c, q1, q2, q3, q4.canAt i, q5⟩
     have := congrArg List.length e
     simp only [List.length_modify, List.length_nil] at this
     exact List.eq_nil_of_length_eq_zero this
  ·exact r.bx j b' h
 ·have : ∀ j b', lk ((k, ({ b with rows := b.rows.modify i fun r => r.map D.canS } : Box)) :: H) j = some b' -> ∃ b'', lk H j = some b'' := fun j b' h => by
   rcases hget j b' h with ⟨rfl, _⟩ | ⟨_, h⟩
   ·exact ⟨b, hb⟩
   ·exact ⟨b', h⟩
  obtain ⟨c1, q1⟩ := this j b1 h1
  obtain ⟨c2, q2⟩ := this j' b2 h2
  exact r.inj j j' c1 c2 B e e' q1 q2 h3 h4
theorem Bh {fr fr' : Qet} {H H' : Qes} (k : Nat) (hk : k < 1000000) (hF : ∀ t d, lk fr' t = some d -> ∃ d0, lk fr t = some d0 /\ d0.fz H (· == k) = d) (hH : ∀ j b, lk H' j = some b -> j ≠ k /\ ∃ b0, lk H j = some b0 /\ b0.fz H (· == k) = b)
  (wfF : ∀ t d, lk fr' t = some d -> ∀ j ∈ d.ids, (lk H' j).isSome = true) (wfH : Closed H') (hbig : ∀ j, 1000000 <= j -> (lk H j).isSome = true -> (lk H' j).isSome = true) : St.le ⟨fr, H⟩ ⟨fr', H'⟩ := by
 intro E g a w r
 obtain ⟨g', _, r'⟩ := r.freeze k hk
 refine ⟨g', r'.less (fun u d h => ?_) (fun j x h => ?_) wfF wfH fun j hj hs => hbig j hj ?_⟩
 ·obtain ⟨d0, q1, q2⟩ := hF u d h
  simp only [St.freeze, Z2, q1, Option.map_some, q2]
 ·obtain ⟨q1, b0, q2, q3⟩ := hH j x h
  simp only [St.freeze, K4]
  rw [if_neg q1, Z2 (Box.fz H (· == k)), q2, Option.map_some, q3]
 ·simp only [St.freeze, K4] at hs
  rw [if_neg Wa, Z2 (Box.fz H (· == k)), QeN] at hs
  exact hs
theorem Qaa {fr fr' : Qet} {H H' : Qes} (S : Nat -> Bool) (hS : ∀ k, S k = true -> k < 1000000) (hF : ∀ t d, lk fr' t = some d -> ∃ d0, lk fr t = some d0 /\ d0.fz H S = d) (hH : ∀ j b, lk H' j = some b -> S j = false /\ ∃ b0, lk H j = some b0 /\ b0.fz H S = b)
  (wfF : ∀ t d, lk fr' t = some d -> ∀ j ∈ d.ids, (lk H' j).isSome = true) (wfH : Closed H') (hbig : ∀ j, 1000000 <= j -> (lk H j).isSome = true -> (lk H' j).isSome = true) : St.le ⟨fr, H⟩ ⟨fr', H'⟩ := by
 intro E g a w r
 obtain ⟨g', _, r'⟩ := r.freezeS S hS
 refine ⟨g', r'.less (fun u d h => ?_) (fun j x h => ?_) wfF wfH fun j hj hs => hbig j hj ?_⟩
 ·obtain ⟨d0, q1, q2⟩ := hF u d h
  simp only [St.freezeS, Z2, q1, Option.map_some, q2]
 ·obtain ⟨q1, b0, q2, q3⟩ := hH j x h
  simp only [St.freezeS, NK]
  rw [if_neg (by rw [q1]; simp), Z2 (Box.fz H S), q2, Option.map_some, q3]
 ·simp only [St.freezeS, NK] at hs
  split at hs
  ·cases hs
  ·rw [Z2 (Box.fz H S), QeN] at hs
   exact hs
theorem Zq (n : Nat) (p : List Nat) : KV n p [] = true := by simp [KV]
theorem Zr {n k : Nat} {R : List (Nat × List Nat)} : KV n [k] R = R.all fun e => e.1 != k || e.2.contains n := by simp [KV]
theorem Zs {n k j : Nat} {R : List (Nat × List Nat)} : KV n [k, j] R = ((R.all fun e => e.1 != k || e.2.contains n) && R.all fun e => e.1 != j || e.2.contains n) := by simp [KV]
theorem ZF {P ds : List Nat} {n k : Nat} (h : ds.contains n = true) : ((P.map fun x => (x, ds)).all fun e => e.1 != k || e.2.contains n) = true := by
 rw [QeF]
 intro e he
 obtain ⟨x, _, rfl⟩ := QeJ.1 he
 rw [h, Bool.or_true]
end Go.Abs
namespace Go.Abs
open Go
end Go.Abs
namespace Go.Abs
open Go
theorem Z.{u} {α : Sort u} {a : α} : a = a := rfl
theorem qB : (∀ (p : Prop) [Decidable p], (decide p = true) = p) /\ (∀ (p : Prop) [Decidable p], (decide p = false) ↔ ¬ p) /\ (∀ a b : Bool, ((!a) = b) = (a = !b)) /\ (!true) = false /\ (!false) = true := ⟨fun _ _ => decide_eq_true_eq, fun _ _ => decide_eq_false_iff_not, fun a b => by simp, rfl, rfl⟩
theorem qA : (∀ (p : Prop) [Decidable p], (decide p = true) = p) /\ (∀ (p : Prop) [Decidable p], (decide p = false) ↔ ¬ p) /\ (∀ a b : Bool, ((!a) = b) = (a = !b)) /\ (!true) = false /\ (!false) = true /\ (∀ (α β : Type) (f : α -> β) (l : List α), (l.map f).length = l.length) := ⟨qB.1, qB.2.1, qB.2.2.1, rfl, rfl, fun _ _ _ _ => List.length_map _⟩
theorem qa {p : Prop} [Decidable p] : (decide p = true) = p := decide_eq_true_eq
theorem qb {p : Prop} [Decidable p] : (decide p = false) ↔ ¬ p := decide_eq_false_iff_not
theorem qc {a b : Bool} : ((!a) = b) = (a = !b) := by simp
theorem qd : (!true) = false := rfl
theorem qe : (!false) = true := rfl
section
variable {fr : Qet} {t0 t1 t2 t3 t4 t5 t6 t7 t8 t9 t10 t11 t12 t13 t14 t15 t16 t17 t18 t19 t20 t21 t22 t23 : Nat} {d0 d1 d2 d3 d4 d5 d6 d7 d8 d9 d10 d11 d12 d13 d14 d15 d16 d17 d18 d19 d20 d21 d22 d23 : D}
abbrev kE (fr : Qet) (t : Nat) (d : D) : Prop := lk fr t = some d
theorem kp1 (h0 : kE fr t0 d0) : Zf [t0] fr = [(t0, d0)] := YA h0 Zj
theorem kp2 (h0 : kE fr t0 d0) (h1 : kE fr t1 d1) : Zf [t0, t1] fr = [(t0, d0), (t1, d1)] := YA h0 (kp1 h1)
theorem kp3 (h0 : kE fr t0 d0) (h1 : kE fr t1 d1) (h2 : kE fr t2 d2) : Zf [t0, t1, t2] fr = [(t0, d0), (t1, d1), (t2, d2)] := YA h0 (kp2 h1 h2)
theorem kp4 (h0 : kE fr t0 d0) (h1 : kE fr t1 d1) (h2 : kE fr t2 d2) (h3 : kE fr t3 d3) : Zf [t0, t1, t2, t3] fr = [(t0, d0), (t1, d1), (t2, d2), (t3, d3)] := YA h0 (kp3 h1 h2 h3)
theorem kp5 (h0 : kE fr t0 d0) (h1 : kE fr t1 d1) (h2 : kE fr t2 d2) (h3 : kE fr t3 d3) (h4 : kE fr t4 d4) : Zf [t0, t1, t2, t3, t4] fr = [(t0, d0), (t1, d1), (t2, d2), (t3, d3), (t4, d4)] := YA h0 (kp4 h1 h2 h3 h4)
theorem kp6 (h0 : kE fr t0 d0) (h1 : kE fr t1 d1) (h2 : kE fr t2 d2) (h3 : kE fr t3 d3) (h4 : kE fr t4 d4) (h5 : kE fr t5 d5) : Zf [t0, t1, t2, t3, t4, t5] fr = [(t0, d0), (t1, d1), (t2, d2), (t3, d3), (t4, d4), (t5, d5)] := YA h0 (kp5 h1 h2 h3 h4 h5)
theorem kp7 (h0 : kE fr t0 d0) (h1 : kE fr t1 d1) (h2 : kE fr t2 d2) (h3 : kE fr t3 d3) (h4 : kE fr t4 d4) (h5 : kE fr t5 d5) (h6 : kE fr t6 d6) : Zf [t0, t1, t2, t3, t4, t5, t6] fr = [(t0, d0), (t1, d1), (t2, d2), (t3, d3), (t4, d4), (t5, d5), (t6, d6)] := YA h0 (kp6 h1 h2 h3 h4 h5 h6)
theorem kp8 (h0 : kE fr t0 d0) (h1 : kE fr t1 d1) (h2 : kE fr t2 d2) (h3 : kE fr t3 d3) (h4 : kE fr t4 d4) (h5 : kE fr t5 d5) (h6 : kE fr t6 d6) (h7 : kE fr t7 d7) : Zf [t0, t1, t2, t3, t4, t5, t6, t7] fr = [(t0, d0), (t1, d1), (t2, d2), (t3, d3), (t4, d4), (t5, d5), (t6, d6), (t7, d7)] := YA h0 (kp7 h1 h2 h3 h4 h5 h6 h7)
theorem kp9 (h0 : kE fr t0 d0) (h1 : kE fr t1 d1) (h2 : kE fr t2 d2) (h3 : kE fr t3 d3) (h4 : kE fr t4 d4) (h5 : kE fr t5 d5) (h6 : kE fr t6 d6) (h7 : kE fr t7 d7) (h8 : kE fr t8 d8) : Zf [t0, t1, t2, t3, t4, t5, t6, t7, t8] fr = [(t0, d0), (t1, d1), (t2, d2), (t3, d3), (t4, d4), (t5, d5), (t6, d6), (t7, d7), (t8, d8)] := YA h0 (kp8 h1 h2 h3 h4 h5 h6 h7 h8)
theorem T0 (h0 : kE fr t0 d0) (h1 : kE fr t1 d1) (h2 : kE fr t2 d2) (h3 : kE fr t3 d3) (h4 : kE fr t4 d4) (h5 : kE fr t5 d5) (h6 : kE fr t6 d6) (h7 : kE fr t7 d7) (h8 : kE fr t8 d8) (h9 : kE fr t9 d9) : Zf [t0, t1, t2, t3, t4, t5, t6, t7, t8, t9] fr = [(t0, d0), (t1, d1), (t2, d2), (t3, d3), (t4, d4), (t5, d5), (t6, d6), (t7, d7), (t8, d8), (t9, d9)] := YA h0 (kp9 h1 h2 h3 h4 h5 h6 h7 h8 h9)
theorem QcX (h0 : kE fr t0 d0) (h1 : kE fr t1 d1) (h2 : kE fr t2 d2) (h3 : kE fr t3 d3) (h4 : kE fr t4 d4) (h5 : kE fr t5 d5) (h6 : kE fr t6 d6) (h7 : kE fr t7 d7) (h8 : kE fr t8 d8) (h9 : kE fr t9 d9) (h10 : kE fr t10 d10) : Zf [t0, t1, t2, t3, t4, t5, t6, t7, t8, t9, t10] fr = [(t0, d0), (t1, d1), (t2, d2), (t3, d3), (t4, d4), (t5, d5), (t6, d6), (t7, d7), (t8, d8), (t9, d9), (t10, d10)] := YA h0 (T0 h1 h2 h3 h4 h5 h6 h7 h8 h9 h10)
theorem QcY (h0 : kE fr t0 d0) (h1 : kE fr t1 d1) (h2 : kE fr t2 d2) (h3 : kE fr t3 d3) (h4 : kE fr t4 d4) (h5 : kE fr t5 d5) (h6 : kE fr t6 d6) (h7 : kE fr t7 d7) (h8 : kE fr t8 d8) (h9 : kE fr t9 d9) (h10 : kE fr t10 d10) (h11 : kE fr t11 d11) : Zf [t0, t1, t2, t3, t4, t5, t6, t7, t8, t9, t10, t11] fr = [(t0, d0), (t1, d1), (t2, d2), (t3, d3), (t4, d4), (t5, d5), (t6, d6), (t7, d7), (t8, d8), (t9, d9), (t10, d10), (t11, d11)] := YA h0 (QcX h1 h2 h3 h4 h5 h6 h7 h8 h9 h10 h11)
end
section
variable {P : Program} {nt : Nat} {Q : Yy -> St -> Prop} {l : List Nat} {b : TCode} {K : St -> Prop} {H : Qes} {fr fr' : Qet} {r : List AOper} {dr : Dr} {x y z v : Opd} {p q : D} {t u : Nat}
variable {t0 t1 t2 t3 t4 t5 t6 t7 t8 : Nat} {d0 d1 d2 d3 d4 d5 d6 d7 d8 : D}
theorem kc (hK : ∀ fr H, TW P nt b Q ⟨Zf l fr, H⟩ -> K ⟨fr, H⟩) (h : Zf l fr = fr') (k : TW P nt b Q ⟨fr', H⟩) : K ⟨fr, H⟩ := hK _ _ (HV h k)
theorem kc1 (hK : ∀ fr H, TW P nt b Q ⟨Zf [t0] fr, H⟩ -> K ⟨fr, H⟩) (h0 : kE fr t0 d0) (k : TW P nt b Q ⟨[(t0, d0)], H⟩) : K ⟨fr, H⟩ := kc hK (kp1 h0) k
theorem ks1 (h0 : kE fr t0 d0) (k : TW P nt b Q ⟨[(t0, d0)], H⟩) : T8 P nt [t0] b Q .normal ⟨fr, H⟩ := QY (kp1 h0) k
theorem kc2 (hK : ∀ fr H, TW P nt b Q ⟨Zf [t0, t1] fr, H⟩ -> K ⟨fr, H⟩) (h0 : kE fr t0 d0) (h1 : kE fr t1 d1) (k : TW P nt b Q ⟨[(t0, d0), (t1, d1)], H⟩) : K ⟨fr, H⟩ := kc hK (kp2 h0 h1) k
theorem ks2 (h0 : kE fr t0 d0) (h1 : kE fr t1 d1) (k : TW P nt b Q ⟨[(t0, d0), (t1, d1)], H⟩) : T8 P nt [t0, t1] b Q .normal ⟨fr, H⟩ := QY (kp2 h0 h1) k
theorem kc3 (hK : ∀ fr H, TW P nt b Q ⟨Zf [t0, t1, t2] fr, H⟩ -> K ⟨fr, H⟩) (h0 : kE fr t0 d0) (h1 : kE fr t1 d1) (h2 : kE fr t2 d2) (k : TW P nt b Q ⟨[(t0, d0), (t1, d1), (t2, d2)], H⟩) : K ⟨fr, H⟩ := kc hK (kp3 h0 h1 h2) k
theorem ks3 (h0 : kE fr t0 d0) (h1 : kE fr t1 d1) (h2 : kE fr t2 d2) (k : TW P nt b Q ⟨[(t0, d0), (t1, d1), (t2, d2)], H⟩) : T8 P nt [t0, t1, t2] b Q .normal ⟨fr, H⟩ := QY (kp3 h0 h1 h2) k
theorem kc4 (hK : ∀ fr H, TW P nt b Q ⟨Zf [t0, t1, t2, t3] fr, H⟩ -> K ⟨fr, H⟩) (h0 : kE fr t0 d0) (h1 : kE fr t1 d1) (h2 : kE fr t2 d2) (h3 : kE fr t3 d3) (k : TW P nt b Q ⟨[(t0, d0), (t1, d1), (t2, d2), (t3, d3)], H⟩) : K ⟨fr, H⟩ := kc hK (kp4 h0 h1 h2 h3) k
theorem ks4 (h0 : kE fr t0 d0) (h1 : kE fr t1 d1) (h2 : kE fr t2 d2) (h3 : kE fr t3 d3) (k : TW P nt b Q ⟨[(t0, d0), (t1, d1), (t2, d2), (t3, d3)], H⟩) : T8 P nt [t0, t1, t2, t3] b Q .normal ⟨fr, H⟩ := QY (kp4 h0 h1 h2 h3) k
theorem kc5 (hK : ∀ fr H, TW P nt b Q ⟨Zf [t0, t1, t2, t3, t4] fr, H⟩ -> K ⟨fr, H⟩) (h0 : kE fr t0 d0) (h1 : kE fr t1 d1) (h2 : kE fr t2 d2) (h3 : kE fr t3 d3) (h4 : kE fr t4 d4) (k : TW P nt b Q ⟨[(t0, d0), (t1, d1), (t2, d2), (t3, d3), (t4, d4)], H⟩) : K ⟨fr, H⟩ := kc hK (kp5 h0 h1 h2 h3 h4) k
theorem ks5 (h0 : kE fr t0 d0) (h1 : kE fr t1 d1) (h2 : kE fr t2 d2) (h3 : kE fr t3 d3) (h4 : kE fr t4 d4) (k : TW P nt b Q ⟨[(t0, d0), (t1, d1), (t2, d2), (t3, d3), (t4, d4)], H⟩) : T8 P nt [t0, t1, t2, t3, t4] b Q .normal ⟨fr, H⟩ := QY (kp5 h0 h1 h2 h3 h4) k
theorem kc6 (hK : ∀ fr H, TW P nt b Q ⟨Zf [t0, t1, t2, t3, t4, t5] fr, H⟩ -> K ⟨fr, H⟩) (h0 : kE fr t0 d0) (h1 : kE fr t1 d1) (h2 : kE fr t2 d2) (h3 : kE fr t3 d3) (h4 : kE fr t4 d4) (h5 : kE fr t5 d5) (k : TW P nt b Q ⟨[(t0, d0), (t1, d1), (t2, d2), (t3, d3), (t4, d4), (t5, d5)], H⟩) : K ⟨fr, H⟩ := kc hK (kp6 h0 h1 h2 h3 h4 h5) k
theorem ks6 (h0 : kE fr t0 d0) (h1 : kE fr t1 d1) (h2 : kE fr t2 d2) (h3 : kE fr t3 d3) (h4 : kE fr t4 d4) (h5 : kE fr t5 d5) (k : TW P nt b Q ⟨[(t0, d0), (t1, d1), (t2, d2), (t3, d3), (t4, d4), (t5, d5)], H⟩) : T8 P nt [t0, t1, t2, t3, t4, t5] b Q .normal ⟨fr, H⟩ := QY (kp6 h0 h1 h2 h3 h4 h5) k
theorem kc7 (hK : ∀ fr H, TW P nt b Q ⟨Zf [t0, t1, t2, t3, t4, t5, t6] fr, H⟩ -> K ⟨fr, H⟩) (h0 : kE fr t0 d0) (h1 : kE fr t1 d1) (h2 : kE fr t2 d2) (h3 : kE fr t3 d3) (h4 : kE fr t4 d4) (h5 : kE fr t5 d5) (h6 : kE fr t6 d6) (k : TW P nt b Q ⟨[(t0, d0), (t1, d1), (t2, d2), (t3, d3), (t4, d4), (t5, d5), (t6, d6)], H⟩) : K ⟨fr, H⟩ := kc hK (kp7 h0 h1 h2 h3 h4 h5 h6) k
theorem kc8 (hK : ∀ fr H, TW P nt b Q ⟨Zf [t0, t1, t2, t3, t4, t5, t6, t7] fr, H⟩ -> K ⟨fr, H⟩) (h0 : kE fr t0 d0) (h1 : kE fr t1 d1) (h2 : kE fr t2 d2) (h3 : kE fr t3 d3) (h4 : kE fr t4 d4) (h5 : kE fr t5 d5) (h6 : kE fr t6 d6) (h7 : kE fr t7 d7) (k : TW P nt b Q ⟨[(t0, d0), (t1, d1), (t2, d2), (t3, d3), (t4, d4), (t5, d5), (t6, d6), (t7, d7)], H⟩) : K ⟨fr, H⟩ := kc hK (kp8 h0 h1 h2 h3 h4 h5 h6 h7) k
theorem ks8 (h0 : kE fr t0 d0) (h1 : kE fr t1 d1) (h2 : kE fr t2 d2) (h3 : kE fr t3 d3) (h4 : kE fr t4 d4) (h5 : kE fr t5 d5) (h6 : kE fr t6 d6) (h7 : kE fr t7 d7) (k : TW P nt b Q ⟨[(t0, d0), (t1, d1), (t2, d2), (t3, d3), (t4, d4), (t5, d5), (t6, d6), (t7, d7)], H⟩) : T8 P nt [t0, t1, t2, t3, t4, t5, t6, t7] b Q .normal ⟨fr, H⟩ := QY (kp8 h0 h1 h2 h3 h4 h5 h6 h7) k
theorem kc9 (hK : ∀ fr H, TW P nt b Q ⟨Zf [t0, t1, t2, t3, t4, t5, t6, t7, t8] fr, H⟩ -> K ⟨fr, H⟩) (h0 : kE fr t0 d0) (h1 : kE fr t1 d1) (h2 : kE fr t2 d2) (h3 : kE fr t3 d3) (h4 : kE fr t4 d4) (h5 : kE fr t5 d5) (h6 : kE fr t6 d6) (h7 : kE fr t7 d7) (h8 : kE fr t8 d8) (k : TW P nt b Q ⟨[(t0, d0), (t1, d1), (t2, d2), (t3, d3), (t4, d4), (t5, d5), (t6, d6), (t7, d7), (t8, d8)], H⟩) : K ⟨fr, H⟩ := kc hK (kp9 h0 h1 h2 h3 h4 h5 h6 h7 h8) k
theorem gn2 {o0 : AOp} {g0 : Nat} {b0 : Bool} {w0 : Nat} {o1 : AOp} {g1 : Nat} {b1 : Bool} {w1 : Nat} (h0 : lk (fr) g0 = some (.bool (!b0))) (h1 : lk ((w0, .undef) :: fr) g1 = some (.bool (!b1))) (k : run P dr r K ⟨(w1, .undef) :: (w0, .undef) :: fr, H⟩) : run P dr (⟨some w0, o0, some (g0, b0)⟩ :: ⟨some w1, o1, some (g1, b1)⟩ :: r) K ⟨fr, H⟩ := (J9 h0 (J9 h1 k))
theorem gn3 {o0 : AOp} {g0 : Nat} {b0 : Bool} {w0 : Nat} {o1 : AOp} {g1 : Nat} {b1 : Bool} {w1 : Nat} {o2 : AOp} {g2 : Nat} {b2 : Bool} {w2 : Nat} (h0 : lk (fr) g0 = some (.bool (!b0))) (h1 : lk ((w0, .undef) :: fr) g1 = some (.bool (!b1))) (h2 : lk ((w1, .undef) :: (w0, .undef) :: fr) g2 = some (.bool (!b2))) (k : run P dr r K ⟨(w2, .undef) :: (w1, .undef) :: (w0, .undef) :: fr, H⟩) : run P dr (⟨some w0, o0, some (g0, b0)⟩ :: ⟨some w1, o1, some (g1, b1)⟩ :: ⟨some w2, o2, some (g2, b2)⟩ :: r) K ⟨fr, H⟩ := (J9 h0 (J9 h1 (J9 h2 k)))
theorem gn4 {o0 : AOp} {g0 : Nat} {b0 : Bool} {w0 : Nat} {o1 : AOp} {g1 : Nat} {b1 : Bool} {w1 : Nat} {o2 : AOp} {g2 : Nat} {b2 : Bool} {w2 : Nat} {o3 : AOp} {g3 : Nat} {b3 : Bool} {w3 : Nat} (h0 : lk (fr) g0 = some (.bool (!b0))) (h1 : lk ((w0, .undef) :: fr) g1 = some (.bool (!b1))) (h2 : lk ((w1, .undef) :: (w0, .undef) :: fr) g2 = some (.bool (!b2))) (h3 : lk ((w2, .undef) :: (w1, .undef) :: (w0, .undef) :: fr) g3 = some (.bool (!b3))) (k : run P dr r K ⟨(w3, .undef) :: (w2, .undef) :: (w1, .undef) :: (w0, .undef) :: fr, H⟩) : run P dr (⟨some w0, o0, some (g0, b0)⟩ :: ⟨some w1, o1, some (g1, b1)⟩ :: ⟨some w2, o2, some (g2, b2)⟩ :: ⟨some w3, o3, some (g3, b3)⟩ :: r) K ⟨fr, H⟩ := (J9 h0 (J9 h1 (J9 h2 (J9 h3 k))))
theorem mv2 (hx : St.ev ⟨fr, H⟩ x = some p) (hy : St.ev ⟨(t, p) :: fr, H⟩ y = some q) (k : run P dr r K ⟨(u, q) :: (t, p) :: fr, H⟩) : run P dr (⟨some t, .mov x, none⟩ :: ⟨some u, .mov y, none⟩ :: r) K ⟨fr, H⟩ := Qa hx (Qa hy k)
end
end Go.Abs
namespace Go.Proofs
open Go Go.Abs
set_option maxRecDepth 100000
abbrev oo (t : Nat) (op : AOp) : AOper := ⟨some t,op,none⟩
abbrev om (t x : Nat) : AOper := ⟨some t,.mov (.s x),none⟩
abbrev oL (t n x : Nat) : AOper := ⟨some t,.load true n (.s x),none⟩
abbrev ol (t n x : Nat) : AOper := ⟨some t,.load false n (.s x),none⟩
abbrev oA (t n x : Nat) : AOper := ⟨some t,.fieldAddr n (.s x),none⟩
abbrev oe (t n x : Nat) : AOper := ⟨some t,.extract n (.s x),none⟩
abbrev oT (t g : Nat) (op : AOp) : AOper := ⟨some t,op,some (g,true)⟩
abbrev oF (t g : Nat) (op : AOp) : AOper := ⟨some t,op,some (g,false)⟩
abbrev jf : Opd := .c (.bool false)
abbrev je : Opd := .c (.fsl [])
abbrev jv (t : Nat) (x : Opd) : AOper := ⟨some t,.mov x,none⟩
abbrev jw (t : Nat) (x : Int) : AOper := ⟨some t,.mov (.c (.int .i64 x)),none⟩
abbrev jp (t x y : Nat) : AOper := ⟨some t,.pick (.s x) (.s y) (.c (.bool false)),none⟩
abbrev jh (t x : Nat) : AOper := ⟨some t,.nilCheck (.s x),none⟩
abbrev jA (t g n x : Nat) : AOper := ⟨some t,.fieldAddr n (.s x),some (g,true)⟩
abbrev ja (t g n x : Nat) : AOper := ⟨some t,.fieldAddr n (.s x),some (g,false)⟩
abbrev jY (t g : Nat) (o : BinOp) (x : Nat) (y : Int) : AOper := ⟨some t,.bin o false (.s x) (.c (.int .i64 y)),some (g,true)⟩
abbrev jy (t g : Nat) (o : BinOp) (x : Nat) (y : Int) : AOper := ⟨some t,.bin o false (.s x) (.c (.int .i64 y)),some (g,false)⟩
abbrev jS (n a b : Nat) : AOper := ⟨none,.store n (.s a) (.s b),none⟩
abbrev jI (n : Int) : Opd := .c (.int .i64 n)
abbrev jn (t x : Nat) : AOper := ⟨some t,.len (.s x),none⟩
abbrev jB (t : Nat) (o : BinOp) (x y : Nat) : AOper := ⟨some t,.bin o false (.s x) (.s y),none⟩
abbrev jb (t : Nat) (o : BinOp) (x : Nat) (y : Int) : AOper := ⟨some t,.bin o false (.s x) (.c (.int .i64 y)),none⟩
abbrev jx (t e x y : Nat) : AOper := ⟨some t,.indexAddr e (.s x) (.s y),none⟩
abbrev jc (t f : Nat) (l : List Opd) : AOper := ⟨some t,.call f l,none⟩
abbrev jo (t e x : Nat) : AOper := ⟨some t,.box e (.s x),none⟩
abbrev jT (t g x : Nat) : AOper := ⟨some t,.mov (.s x),some (g,true)⟩
abbrev jF (t g x : Nat) : AOper := ⟨some t,.mov (.s x),some (g,false)⟩
abbrev jL (t g n x : Nat) : AOper := ⟨some t,.load true n (.s x),some (g,true)⟩
abbrev jl (t g n x : Nat) : AOper := ⟨some t,.load false n (.s x),some (g,true)⟩
abbrev jM (t g n x : Nat) : AOper := ⟨some t,.load true n (.s x),some (g,false)⟩
abbrev jm (t g n x : Nat) : AOper := ⟨some t,.load false n (.s x),some (g,false)⟩
abbrev jC (c : Nat) (a b : TCode) : TCode := .cond (.s c) a b
abbrev jr (l : List AOper) : TCode := .region false l
abbrev jR (l : List AOper) : TCode := .region true l
abbrev jq (a : TCode) (v : List Nat) (b : TCode) : TCode := .seq a v b
abbrev jk (n : Nat) (a : TCode) : TCode := .block n (.loop a)
def tf5 : TFn := ⟨109,[.tmp 8],jq (jr [jv 8 jf]) [0,1,2,3] (jq (jq (jr [om 17 1,jn 18 17,jb 19 .gtr 18 60,om 20 19,jF 21 20 3,oF 22 20 (.len (.s 21)),jy 23 20 .gtr 22 60,oo 24 (.pick (.s 20) (.c (.bool true)) (.s 23))]) [0,1,2,3,24] (jC 24 (jq (jr [jc 25 6 [],om 8 25]) [8] .ret) .skip)) [0,1,2,3] (jq (jr [om 26 0,jc 27 7 [.s 26,jI 5],oo 9 (.alloc 27 [(.fsl [])]),jS 1 9 27]) [1,2,3,9] (jq (jR [oL 28 1 9,om 29 1,jc 30 8 [.s 29],jc 31 13 [.s 28,.s 30],om 10 31]) [2,3,9,10] (jq (jR [oL 32 1 9,om 33 2,oL 34 1 9,jc 35 25 [.s 34],jc 36 10 [.s 33,.s 35],jc 37 24 [.s 32,.s 36],om 11 37]) [3,9,10,11] (jq (jr [jv 12 je,jv 13 je]) [3,9,10,11,12,13] (jq (jr [jw 14 0]) [3,9,10,11,12,13,14] (jq (jq (jr [jw 15 0]) [3,9,10,11,12,13,14,15] (jk 0 (jq (jq (jr [om 38 15,om 39 10,jn 40 39,jB 41 .lss 38 40]) [3,9,10,11,12,13,14,15,41] (jC 41 .skip (.exit 0))) [3,9,10,11,12,13,14,15] (jq (.block 1 (jq (jR [om 44 10,om 45 15,jx 46 1 44 45,ol 47 1 46,om 48 11,om 49 15,jx 50 1 48 49,ol 51 1 50,jb 52 .add 51 1,jx 53 1 47 52,ol 54 1 53,om 16 54]) [3,9,10,11,12,13,14,15,16] (jr [om 55 12,om 56 16,oo 57 (.buildSlice 1 3 [.s 56]),oo 58 (.append 1 3 8 (.s 55) (.s 57)),om 59 13,om 60 16,om 61 3,om 62 15,jc 63 26 [.s 61,.s 62],jc 64 10 [.s 63,jI 4],jB 65 .add 60 64,oo 66 (.buildSlice 1 3 [.s 65]),oo 67 (.append 1 3 8 (.s 59) (.s 66)),om 68 14,om 69 16,jB 70 .add 68 69,om 12 58,om 13 67,om 14 70]))) [3,9,10,11,12,13,14,15] (jr [om 42 15,jb 43 .add 42 1,om 15 43]))))) [9,10,11,12,13,14] (jq (jR [oL 71 1 9,om 72 10,om 73 12,jc 74 22 [.s 72,.s 73],om 75 11,jc 76 27 [.s 71,.s 74,.s 75],om 77 76,jL 78 77 1 9,jT 79 77 10,jT 80 77 13,oT 81 77 (.call 22 [.s 79,.s 80]),jT 82 77 11,oT 83 77 (.call 27 [.s 78,.s 81,.s 82]),jp 84 77 83,om 85 84,jT 86 85 14,jT 87 85 10,jT 88 85 11,oT 89 85 (.call 19 [.s 87,.s 88]),oT 90 85 (.bin .eql false (.s 86) (.s 89)),jp 91 85 90,om 92 91,jL 93 92 1 9,jT 94 92 11,oT 95 92 (.call 28 [.s 93,.s 94]),jp 96 92 95,om 97 96,jT 98 97 10,jT 99 97 13,oT 100 97 (.call 22 [.s 98,.s 99]),oT 101 97 (.len (.s 100)),jT 102 97 10,oT 103 97 (.len (.s 102)),oT 104 97 (.bin .eql false (.s 101) (.s 103)),jp 105 97 104,om 106 105,oT 107 106 (.call 6 []),jp 108 106 107,om 8 108]) [8] .ret))))))))⟩
def tf6 : TFn := ⟨59,[.tmp 0],jq (jr [jv 0 jf]) [] (jq (jr [jc 5 29 [],om 1 5]) [1] (jq (jR [oo 6 (.build [(.int .i64 0),(.int .i64 0),(.int .i64 0),(.str []),(.str []),(.int .i64 0),(.fsl []),(.fsl [])] [(5,1,(.c (.int .i64 (-1))))]),oo 7 (.buildSlice 8 62 [.s 6]),oo 8 (.build [(.str []),(.str []),(.fsl [])] [(2,1,(.s 7))]),om 9 1,oo 10 (.indexAddr 5 (.s 9) (jI 0)),oL 11 5 10,oo 12 (.build [(.int .i64 0),(.int .i64 0),(.int .i64 0),(.str []),(.str []),(.int .i64 0),(.fsl []),(.fsl [])] [(0,5,(.s 11))]),om 13 1,oo 14 (.indexAddr 5 (.s 13) (jI 1)),oL 15 5 14,oo 16 (.build [(.int .i64 0),(.int .i64 0),(.int .i64 0),(.str []),(.str []),(.int .i64 0),(.fsl []),(.fsl [])] [(0,5,(.s 15))]),om 17 1,oo 18 (.indexAddr 5 (.s 17) (jI 3)),oL 19 5 18,oo 20 (.build [(.int .i64 0),(.int .i64 0),(.int .i64 0),(.str []),(.str []),(.int .i64 0),(.fsl []),(.fsl [])] [(0,5,(.s 19))]),oo 21 (.buildSlice 8 62 [.s 12,.s 16,.s 20]),oo 22 (.build [(.str []),(.str []),(.fsl [])] [(0,1,(.c (.str [97,110,116]))),(2,1,(.s 21))]),oo 23 (.buildSlice 3 65 [.s 8,.s 22]),oo 24 (.build [(.fsl [])] [(0,1,(.s 23))]),oo 2 (.alloc 27 [(.fsl [])]),jS 1 2 24]) [1,2] (jq (jR [oL 25 1 2,om 26 1,oo 27 (.indexAddr 5 (.s 26) (jI 1)),oL 28 5 27,oo 29 (.build [(.str []),(.int .i64 0),(.int .i64 0),(.int .i64 0),(.str []),(.str []),(.str []),(.int .u64 0),(.fsl [])] [(0,1,(.c (.str [97,110,116]))),(1,5,(.s 28))]),oo 30 (.buildSlice 9 68 [.s 29]),oo 31 (.build [(.str []),(.str []),(.str []),(.fsl [])] [(3,1,(.s 30))]),jc 32 12 [.s 25,.s 31],om 3 32]) [2,3] (jq (jr [oL 33 1 2,oo 34 (.buildSlice 1 9 [(.c (.str [97,110,116]))]),jc 35 14 [.s 33,.s 34],om 4 35]) [2,3,4] (jq (jr [om 36 3,oo 37 (.buildSlice 1 3 [jI 0,jI 0]),oo 38 (.buildSlice 1 3 [jI 0,jI 4,jI 0,jI 2]),oo 39 (.buildSlice 1 22 [.s 37,.s 38]),jc 40 11 [.s 36,.s 39],om 41 40,jT 42 41 4,oT 43 41 (.buildSlice 1 3 [jI 0,jI 0]),oT 44 41 (.buildSlice 1 3 [jI 3,jI 2,jI 1,jI 0]),oT 45 41 (.buildSlice 1 22 [.s 43,.s 44]),oT 46 41 (.call 11 [.s 42,.s 45]),jp 47 41 46,om 48 47,jT 49 48 3,oT 50 48 (.buildSlice 1 3 [jI 0,jI 2]),oT 51 48 (.call 19 [.s 49,.s 50]),jY 52 48 .eql 51 2,jp 53 48 52,om 54 53,jL 55 54 1 2,jT 56 54 3,oT 57 54 (.call 30 [.s 55,.s 56]),jp 58 54 57,om 0 58]) [0] .ret)))))⟩
def tf7 : TFn := ⟨90,[.cell 4 true 1],jq (jr [oo 4 (.alloc 27 [(.fsl [])])]) [0,1,4] (jq (jr [om 10 0,oo 11 (.build [(.fsl []),(.int .i64 0)] [(0,1,(.s 10))]),jo 12 72 11,om 5 12]) [1,4,5] (jq (jr [om 13 5,om 14 1,jc 15 31 [.s 13,.s 14],om 6 15]) [4,5,6] (jq (jR [om 16 6,oo 17 (.indexAddr 3 (.s 16) (jI 0)),oA 18 2 17,ol 19 1 18,om 20 5,om 21 6,jc 22 32 [.s 20,.s 21,jI 3],oo 23 (.indexAddr 8 (.s 19) (jI 0)),oA 24 6 23,jS 1 24 22]) [4,5,6] (jq (jq (jr [jw 7 1]) [4,5,6,7] (jk 0 (jq (jq (jr [om 25 7,om 26 6,jn 27 26,jB 28 .lss 25 27]) [4,5,6,7,28] (jC 28 .skip (.exit 0))) [4,5,6,7] (jq (.block 1 (jq (jr [jw 8 0]) [4,5,6,7,8] (jk 2 (jq (jq (jr [om 31 8,om 32 6,om 33 7,jx 34 3 32 33,oA 35 2 34,ol 36 1 35,jn 37 36,jB 38 .lss 31 37]) [4,5,6,7,8,38] (jC 38 .skip (.exit 2))) [4,5,6,7,8] (jq (.block 3 (jq (jr [om 41 6,om 42 7,jx 43 3 41 42,oA 44 2 43,ol 45 1 44,om 46 8,jx 47 8 45 46,om 9 47]) [4,5,6,7,8,9] (jq (jq (jr [om 48 6,om 49 7,jx 50 3 48 49,oA 51 1 50,ol 52 1 51,oo 53 (.bin .neq false (.s 52) (.c (.str [])))]) [4,5,6,7,8,9,53] (jC 53 (jr [om 54 9,om 55 7,jb 56 .sub 55 1,om 57 9,jh 58 57,oA 59 0 58,oL 60 5 59,jc 61 33 [.s 60],oo 62 (.build [(.int .i64 0),(.fsl []),(.fsl [])] [(0,1,(.s 56)),(1,2,(.s 61))]),oo 63 (.buildSlice 3 81 [.s 62]),oo 64 (.buildSlice 1 60 [.s 63]),jh 65 54,oA 66 6 65,jS 1 66 64]) .skip)) [4,5,6,7,8,9] (jq (jR [om 67 9,om 68 9,jh 69 68,oA 70 6 69,ol 71 1 70,om 72 5,om 73 6,jc 74 32 [.s 72,.s 73,jI 2],oo 75 (.append 1 60 24 (.s 71) (.s 74)),jh 76 67,oA 77 6 76,jS 1 77 75]) [4,5,6,7,8,9] (jq (jr [om 78 5,jc 79 34 [.s 78,jI 4],jb 80 .eql 79 0]) [4,5,6,7,8,9,80] (jC 80 (jr [om 81 9,om 82 5,om 83 6,jc 84 35 [.s 82,.s 83],oo 85 (.buildSlice 3 81 [.s 84]),jh 86 81,oA 87 7 86,jS 1 87 85]) .skip)))))) [4,5,6,7,8] (jr [om 39 8,jb 40 .add 39 1,om 8 40])))))) [4,5,6,7] (jr [om 29 7,jb 30 .add 29 1,om 7 30]))))) [4,6] (jq (jr [om 88 6,oo 89 (.build [(.fsl [])] [(0,1,(.s 88))]),jS 1 4 89]) [4] .ret)))))⟩
def tf8 : TFn := ⟨72,[.cell 2 true 4],jq (jr [oo 2 (.alloc 34 [(.str []),(.str []),(.str []),(.fsl [])])]) [0,2] (jq (jr [om 7 0,oo 8 (.build [(.fsl []),(.int .i64 0)] [(0,1,(.s 7))]),jo 9 72 8,om 3 9]) [2,3] (jq (jr [om 10 3,jc 11 34 [.s 10,jI 3],jc 12 36 [.s 11],oo 13 (.build [(.str []),(.str []),(.str []),(.fsl [])] [(0,3,(.s 12))]),oo 4 (.alloc 34 [(.str []),(.str []),(.str []),(.fsl [])]),jS 4 4 13]) [2,3,4] (jq (jq (jr [jw 5 0]) [2,3,4,5] (jk 0 (jq (jq (jr [om 14 5,jb 15 .lss 14 4]) [2,3,4,5,15] (jC 15 .skip (.exit 0))) [2,3,4,5] (jq (.block 1 (jq (jq (jr [om 18 3,jc 19 34 [.s 18,jI 3],jb 20 .eql 19 0]) [2,3,4,5,20] (jC 20 (.exit 1) .skip)) [2,3,4,5] (jq (jR [jc 21 9 [],om 22 5,jx 23 1 21 22,ol 24 1 23,jc 25 29 [],om 26 3,jc 27 34 [.s 26,jI 4],jx 28 5 25 27,oL 29 5 28,oo 30 (.buildSlice 1 9 [(.c (.str [109,97,105,110])),(.c (.str [115,105,100,101])),(.c (.str []))]),om 31 3,jc 32 34 [.s 31,jI 3],jx 33 1 30 32,ol 34 1 33,om 35 3,jc 36 34 [.s 35,jI 1073741824],oo 37 (.conv .u64 (.s 36)),oo 38 (.build [(.str []),(.int .i64 0),(.int .i64 0),(.int .i64 0),(.str []),(.str []),(.str []),(.int .u64 0),(.fsl [])] [(0,1,(.s 24)),(1,5,(.s 29)),(6,1,(.s 34)),(7,1,(.s 37))]),oo 6 (.alloc 68 [(.str []),(.int .i64 0),(.int .i64 0),(.int .i64 0),(.str []),(.str []),(.str []),(.int .u64 0),(.fsl [])]),jS 9 6 38]) [2,3,4,5,6] (jq (jq (jr [oA 39 6 6,ol 40 1 39,oo 41 (.bin .eql false (.s 40) (.c (.str []))),om 42 41,jT 43 42 3,oT 44 42 (.call 34 [.s 43,jI 9]),jY 45 42 .gtr 44 0,jp 46 42 45]) [2,3,4,5,6,46] (jC 46 (jr [oA 47 7 6,⟨none,.store 1 (.s 47) (.c (.int .u64 0)),none⟩]) .skip)) [2,3,4,5,6] (jq (jq (jr [om 48 3,jc 49 34 [.s 48,jI 4]]) [2,3,4,5,6,49] (.block 2 (jq (jr [jb 51 .eql 49 0,om 50 51]) [2,3,4,5,6,49,50] (jC 50 (jr [oo 52 (.buildSlice 1 9 [(.c (.str [100,101,102,97,117,108,116]))]),oA 53 8 6,jS 1 53 52]) (jq (jr [jb 55 .eql 49 1,om 54 55]) [2,3,4,5,6,49,54] (jC 54 (jr [oo 56 (.buildSlice 1 9 [(.c (.str [100,101,102,97,117,108,116])),(.c (.str [102]))]),oA 57 8 6,jS 1 57 56]) (jq (jr [jb 59 .eql 49 2,om 58 59]) [2,3,4,5,6,58] (jC 58 (jr [oo 60 (.buildSlice 1 9 [(.c (.str [102])),(.c (.str [100,101,102,97,117,108,116]))]),om 61 3,jc 62 34 [.s 61,jI 2],oo 63 (.slice 1 (.s 60) (some (.s 62)) none none),oA 64 8 6,jS 1 64 63]) .skip)))))))) [2,3,4,5,6] (jr [oA 65 3 4,ol 66 1 65,oL 67 9 6,oo 68 (.buildSlice 9 68 [.s 67]),oo 69 (.append 9 68 120 (.s 66) (.s 68)),oA 70 3 4,jS 1 70 69])))))) [2,3,4,5] (jr [om 16 5,jb 17 .add 16 1,om 5 17]))))) [2,4] (jq (jr [oL 71 4 4,jS 4 2 71]) [2] .ret))))⟩
def tf9 : TFn := ⟨2,[.tmp 0],jq (jr [jv 0 je]) [] (jq (jr [oo 1 (.buildSlice 1 9 [(.c (.str [97,110,116])),(.c (.str [98,101,101])),(.c (.str [99,111,119])),(.c (.str [100,111,103]))]),om 0 1]) [0] .ret)⟩
def tf10 : TFn := ⟨17,[.tmp 4],jq (jr [jw 4 0]) [0,1] (jq (jq (jr [om 6 1,jb 7 .lss 6 1]) [0,1,7] (jC 7 (jq (jr [jw 4 0]) [4] .ret) .skip)) [0,1] (jq (jr [om 8 0,om 9 1,jB 10 .rem 8 9,om 5 10]) [1,5] (jq (jq (jr [om 11 5,jb 12 .lss 11 0]) [1,5,12] (jC 12 (jq (jr [om 13 5,om 14 1,jB 15 .add 13 14,om 4 15]) [4] .ret) .skip)) [5] (jq (jr [om 16 5,om 4 16]) [4] .ret))))⟩
def tf11 : TFn := ⟨27,[.tmp 4],jq (jr [jv 4 jf]) [0,1] (jq (jq (jr [om 6 0,jn 7 6,om 8 1,jn 9 8,jB 10 .neq 7 9]) [0,1,10] (jC 10 (jq (jr [jv 4 jf]) [4] .ret) .skip)) [0,1] (jq (jq (jr [jw 5 0]) [0,1,5] (jk 0 (jq (jq (jr [om 11 5,om 12 0,jn 13 12,jB 14 .lss 11 13]) [0,1,5,14] (jC 14 .skip (.exit 0))) [0,1,5] (jq (.block 1 (jq (jR [om 17 0,om 18 5,jx 19 1 17 18,ol 20 1 19,om 21 1,om 22 5,jx 23 1 21 22,ol 24 1 23,jc 25 21 [.s 20,.s 24],oo 26 (.un .not (.s 25))]) [0,1,5,26] (jC 26 (jq (jr [jv 4 jf]) [4] .ret) .skip))) [0,1,5] (jr [om 15 5,jb 16 .add 15 1,om 5 16]))))) [] (jq (jr [oo 4 (.mov (.c (.bool true)))]) [4] .ret)))⟩
def tf12 : TFn := ⟨12,[.tmp 4],jq (jr [jo 2 27 0,jo 3 34 1,jv 4 je]) [2,3] (jq (jr [oo 5 (.mov (.c (.clo 37 [])))]) [2,3,5] (jq (jr [oo 6 (.mov (.c (.clo 38 [])))]) [2,3,5,6] (jq (jr [oL 7 1 2,om 8 5,om 9 6,oo 10 (.mkfn 40 [.s 3]),jc 11 39 [.s 7,.s 8,.s 9,.s 10],om 4 11]) [4] .ret)))⟩
def tf13 : TFn := ⟨78,[.tmp 4],jq (jr [jo 2 27 0,jo 3 34 1,jv 4 je]) [2,3] (jq (jr [jv 5 je]) [2,3,5] (jq (jq (jr [jw 6 0]) [2,3,5,6] (jk 0 (jq (jq (jr [om 11 6,oA 12 0 2,ol 13 1 12,jn 14 13,jB 15 .lss 11 14]) [2,3,5,6,15] (jC 15 .skip (.exit 0))) [2,3,5,6] (jq (.block 1 (jq (jr [oA 18 0 2,ol 19 1 18,om 20 6,jx 21 3 19 20,oL 22 3 21,oo 7 (.alloc 65 [(.str []),(.str []),(.fsl [])]),jS 3 7 22]) [2,3,5,6,7] (jq (jr [oA 23 2 7,ol 24 1 23,jn 25 24,jb 26 .add 25 1,oo 27 (.makeSlice 1 3 8 [(.int .i64 0)] (.s 26) (.s 26)),om 8 27]) [2,3,5,6,7,8] (jq (jr [oL 28 4 3,oA 29 0 7,ol 30 1 29,jc 31 43 [.s 28,.s 30],om 9 31]) [2,3,5,6,7,8,9] (jq (jq (jr [jw 10 0]) [2,3,5,6,7,8,9,10] (jk 2 (jq (jq (jr [om 32 10,om 33 8,jn 34 33,jB 35 .lss 32 34,om 36 35,jT 37 36 6,jY 38 36 .gtr 37 0,jp 39 36 38,om 40 39,jA 41 40 1 7,jl 42 40 1 41,oT 43 40 (.bin .eql false (.s 42) (.c (.str []))),jp 44 40 43]) [2,3,5,6,7,8,9,10,44] (jC 44 .skip (.exit 2))) [2,3,5,6,7,8,9,10] (jq (.block 3 (.block 4 (jq (jr [om 65 10,jb 66 .eql 65 0,om 64 66]) [2,3,5,6,7,8,9,10,64] (jC 64 .skip (jq (jr [om 68 9,jb 69 .lss 68 0,om 67 69]) [2,3,5,6,7,8,9,10,67] (jC 67 (jr [om 70 8,om 71 10,jx 72 1 70 71,⟨none,.store 1 (.s 72) (jI 1),none⟩]) (jR [om 47 8,om 48 10,oA 49 2 7,ol 50 1 49,om 51 10,jb 52 .sub 51 1,jx 53 8 50 52,oA 54 0 53,oL 55 5 54,oA 56 3 3,ol 57 1 56,om 58 9,jx 59 9 57 58,oA 60 1 59,oL 61 5 60,jc 62 44 [.s 55,.s 61],jx 63 1 47 48,jS 1 63 62]))))))) [2,3,5,6,7,8,9,10] (jr [om 45 10,jb 46 .add 45 1,om 10 46]))))) [2,3,5,6,8] (jr [om 73 5,om 74 8,oo 75 (.buildSlice 1 22 [.s 74]),oo 76 (.append 1 22 24 (.s 73) (.s 75)),om 5 76])))))) [2,3,5,6] (jr [om 16 6,jb 17 .add 16 1,om 6 17]))))) [5] (jq (jr [om 77 5,om 4 77]) [4] .ret)))⟩
def tf14 : TFn := ⟨12,[.tmp 4],jq (jr [jo 2 27 0,jo 3 23 1,jv 4 je]) [2,3] (jq (jr [oo 7 (.mkfn 45 [.s 3]),om 5 7]) [2,5] (jq (jr [oo 6 (.mov (.c (.clo 47 [])))]) [2,5,6] (jq (jr [oL 8 1 2,om 9 5,om 10 6,jc 11 39 [.s 8,.s 9,.s 10,(.c (.clo 48 []))],om 4 11]) [4] .ret)))⟩
def tf19 : TFn := ⟨45,[.tmp 4],jq (jr [jw 4 0]) [0,1] (jq (jr [jw 5 0]) [0,1,5] (jq (jq (jr [om 8 1,jn 9 8,jw 10 0]) [0,5,8,9,10] (jk 0 (jq (jr [jB 11 .lss 10 9]) [0,5,8,9,10,11] (jq (jC 11 .skip (.exit 0)) [0,5,8,9,10] (jq (.block 1 (jq (jr [om 12 10,jx 13 1 8 10,ol 14 1 13,om 6 12,om 7 14]) [0,5,6,7,8,9,10] (jq (jr [om 15 6,om 16 0,jn 17 16,jB 18 .lss 15 17,om 19 18,jT 20 19 7,oT 21 19 (.bin .geq false (.s 20) (.c (.int .i64 (-1)))),jp 22 19 21,om 23 22,jT 24 23 7,jT 25 23 0,jT 26 23 6,oT 27 23 (.indexAddr 1 (.s 25) (.s 26)),jl 28 23 1 27,oT 29 23 (.len (.s 28)),jY 30 23 .sub 29 1,oT 31 23 (.bin .lss false (.s 24) (.s 30)),jp 32 23 31]) [0,5,6,7,8,9,10,32] (jC 32 (jr [om 33 5,om 34 0,om 35 6,jx 36 1 34 35,ol 37 1 36,om 38 7,jb 39 .add 38 1,jx 40 1 37 39,ol 41 1 40,jB 42 .add 33 41,om 5 42]) .skip)))) [0,5,8,9,10] (jr [jb 43 .add 10 1,om 10 43])))))) [5] (jq (jr [om 44 5,om 4 44]) [4] .ret)))⟩
def tf21 : TFn := ⟨26,[.tmp 4],jq (jr [jv 4 jf]) [0,1] (jq (jq (jr [om 6 0,jn 7 6,om 8 1,jn 9 8,jB 10 .neq 7 9]) [0,1,10] (jC 10 (jq (jr [jv 4 jf]) [4] .ret) .skip)) [0,1] (jq (jq (jr [jw 5 0]) [0,1,5] (jk 0 (jq (jq (jr [om 11 5,om 12 0,jn 13 12,jB 14 .lss 11 13]) [0,1,5,14] (jC 14 .skip (.exit 0))) [0,1,5] (jq (.block 1 (jq (jR [om 17 0,om 18 5,jx 19 1 17 18,ol 20 1 19,om 21 1,om 22 5,jx 23 1 21 22,ol 24 1 23,jB 25 .neq 20 24]) [0,1,5,25] (jC 25 (jq (jr [jv 4 jf]) [4] .ret) .skip))) [0,1,5] (jr [om 15 5,jb 16 .add 15 1,om 5 16]))))) [] (jq (jr [oo 4 (.mov (.c (.bool true)))]) [4] .ret)))⟩
def tf22 : TFn := ⟨52,[.tmp 4],jq (jr [jv 4 je]) [0,1] (jq (jr [jv 5 je]) [0,1,5] (jq (jq (jr [om 12 0,jn 13 12,jw 14 0]) [1,5,12,13,14] (jk 0 (jq (jr [jB 15 .lss 14 13]) [1,5,12,13,14,15] (jq (jC 15 .skip (.exit 0)) [1,5,12,13,14] (jq (.block 1 (jq (jr [om 16 14,jx 17 1 12 14,ol 18 1 17,om 6 16,om 7 18]) [1,5,6,7,12,13,14] (jq (jr [jw 8 0,jw 9 0]) [1,5,6,7,8,9,12,13,14] (jq (jq (jr [om 19 6,om 20 1,jn 21 20,jB 22 .lss 19 21]) [1,5,6,7,8,9,12,13,14,22] (jC 22 (jr [om 23 1,om 24 6,jx 25 1 23 24,ol 26 1 25,om 8 26]) .skip)) [1,5,7,8,9,12,13,14] (jq (jq (jr [om 27 7,om 28 7,jn 29 28,oo 30 (.min (.s 29) (jI 17)),oo 31 (.slice 1 (.s 27) none (some (.s 30)) none),jn 32 31,jw 33 0]) [1,5,8,9,12,13,14,31,32,33] (jk 2 (jq (jr [jB 34 .lss 33 32]) [1,5,8,9,12,13,14,31,32,33,34] (jq (jC 34 .skip (.exit 2)) [1,5,8,9,12,13,14,31,32,33] (jq (.block 3 (jq (jr [om 35 33,jx 36 1 31 33,ol 37 1 36,om 10 35,om 11 37]) [1,5,8,9,10,11,12,13,14,31,32,33] (jq (jr [om 38 11,om 39 8,jB 40 .leq 38 39]) [1,5,8,9,10,12,13,14,31,32,33,40] (jC 40 (jr [om 41 9,om 42 10,oo 43 (.bin .shl false (jI 1) (.s 42)),jB 44 .or 41 43,om 9 44]) .skip)))) [1,5,8,9,12,13,14,31,32,33] (jr [jb 45 .add 33 1,om 33 45])))))) [1,5,9,12,13,14] (jr [om 46 5,om 47 9,oo 48 (.buildSlice 1 3 [.s 47]),oo 49 (.append 1 3 8 (.s 46) (.s 48)),om 5 49])))))) [1,5,12,13,14] (jr [jb 50 .add 14 1,om 14 50])))))) [5] (jq (jr [om 51 5,om 4 51]) [4] .ret)))⟩
def tf24 : TFn := ⟨34,[.tmp 4],jq (jr [jo 2 27 0,jv 4 je]) [1,2] (jq (jr [jv 5 je]) [1,2,5] (jq (jq (jr [jw 6 0]) [1,2,5,6] (jk 0 (jq (jq (jr [om 8 6,oA 9 0 2,ol 10 1 9,jn 11 10,jB 12 .lss 8 11]) [1,2,5,6,12] (jC 12 .skip (.exit 0))) [1,2,5,6] (jq (.block 1 (jq (jr [oA 15 0 2,ol 16 1 15,om 17 6,jx 18 3 16 17,oA 19 2 18,ol 20 1 19,jn 21 20,jb 22 .add 21 1,om 7 22]) [1,2,5,6,7] (jq (jr [om 23 5,om 24 1,om 25 7,jB 26 .rem 24 25,jb 27 .sub 26 1,oo 28 (.buildSlice 1 3 [.s 27]),oo 29 (.append 1 3 8 (.s 23) (.s 28)),om 5 29]) [1,2,5,6,7] (jr [om 30 1,om 31 7,jB 32 .quo 30 31,om 1 32])))) [1,2,5,6] (jr [om 13 6,jb 14 .add 13 1,om 6 14]))))) [5] (jq (jr [om 33 5,om 4 33]) [4] .ret)))⟩
def tf25 : TFn := ⟨27,[.tmp 2],jq (jr [jo 1 27 0,jw 2 0]) [1] (jq (jr [jw 3 1]) [1,3] (jq (jq (jr [jw 4 0]) [1,3,4] (jk 0 (jq (jq (jr [om 5 4,oA 6 0 1,ol 7 1 6,jn 8 7,jB 9 .lss 5 8,om 10 9,jT 11 10 3,jY 12 10 .lss 11 1000000,jp 13 10 12]) [1,3,4,13] (jC 13 .skip (.exit 0))) [1,3,4] (jq (.block 1 (jr [om 16 3,oA 17 0 1,ol 18 1 17,om 19 4,jx 20 3 18 19,oA 21 2 20,ol 22 1 21,jn 23 22,jb 24 .add 23 1,jB 25 .mul 16 24,om 3 25])) [1,3,4] (jr [om 14 4,jb 15 .add 14 1,om 4 15]))))) [3] (jq (jr [om 26 3,om 2 26]) [2] .ret)))⟩
def tf26 : TFn := ⟨19,[.tmp 4],jq (jr [jw 4 0]) [0,1] (jq (jq (jr [om 5 1,jb 6 .lss 5 0,om 7 6,jF 8 7 1,jF 9 7 0,oF 10 7 (.len (.s 9)),oF 11 7 (.bin .geq false (.s 8) (.s 10)),oo 12 (.pick (.s 7) (.c (.bool true)) (.s 11))]) [0,1,12] (jC 12 (jq (jr [om 13 1,jb 14 .rem 13 3,om 4 14]) [4] .ret) .skip)) [0,1] (jq (jr [om 15 0,om 16 1,jx 17 1 15 16,ol 18 1 17,om 4 18]) [4] .ret))⟩
def tf27 : TFn := ⟨28,[.tmp 6],jq (jr [jo 3 27 0,jv 6 jf]) [1,2,3] (jq (jq (jr [jw 7 0]) [1,2,3,7] (jk 0 (jq (jq (jr [om 8 7,om 9 2,jn 10 9,jB 11 .lss 8 10,om 12 11,jT 13 12 1,oT 14 12 (.len (.s 13)),jY 15 12 .gtr 14 0,jp 16 12 15]) [1,2,3,7,16] (jC 16 .skip (.exit 0))) [1,2,3,7] (jq (.block 1 (jq (jr [oL 19 1 3,om 20 2,om 21 7,jc 22 54 [.s 19,.s 20,.s 21],om 23 1,om 24 7,jc 25 26 [.s 23,.s 24],jB 26 .and 22 25,jb 27 .eql 26 0]) [1,2,3,7,27] (jC 27 (jq (jr [jv 6 jf]) [6] .ret) .skip))) [1,2,3,7] (jr [om 17 7,jb 18 .add 17 1,om 7 18]))))) [] (jq (jr [oo 6 (.mov (.c (.bool true)))]) [6] .ret))⟩
def tf28 : TFn := ⟨42,[.tmp 4],jq (jr [jo 2 27 0,jv 4 jf]) [1,2] (jq (jq (jr [om 6 1,jn 7 6,oA 8 0 2,ol 9 1 8,jn 10 9,jB 11 .neq 7 10,om 12 11,jM 13 12 1 2,oF 14 12 (.call 55 [.s 13]),oF 15 12 (.un .not (.s 14)),oo 16 (.pick (.s 12) (.c (.bool true)) (.s 15))]) [1,2,16] (jC 16 (jq (jr [jv 4 jf]) [4] .ret) .skip)) [1,2] (jq (jq (jr [jw 5 0]) [1,2,5] (jk 0 (jq (jq (jr [om 17 5,om 18 1,jn 19 18,jB 20 .lss 17 19]) [1,2,5,20] (jC 20 .skip (.exit 0))) [1,2,5] (jq (.block 1 (jq (jR [om 23 1,om 24 5,jx 25 1 23 24,ol 26 1 25,oo 27 (.bin .lss false (.s 26) (.c (.int .i64 (-1)))),om 28 27,jF 29 28 1,jF 30 28 5,oF 31 28 (.indexAddr 1 (.s 29) (.s 30)),jm 32 28 1 31,ja 33 28 0 2,jm 34 28 1 33,jF 35 28 5,oF 36 28 (.indexAddr 3 (.s 34) (.s 35)),ja 37 28 2 36,jm 38 28 1 37,oF 39 28 (.len (.s 38)),oF 40 28 (.bin .geq false (.s 32) (.s 39)),oo 41 (.pick (.s 28) (.c (.bool true)) (.s 40))]) [1,2,5,41] (jC 41 (jq (jr [jv 4 jf]) [4] .ret) .skip))) [1,2,5] (jr [om 21 5,jb 22 .add 21 1,om 5 22]))))) [] (jq (jr [oo 4 (.mov (.c (.bool true)))]) [4] .ret)))⟩
def tf29 : TFn := ⟨6,[.tmp 0],jq (jr [jv 0 je]) [] (jq (jr [oo 1 (.build [(.int .i64 0),(.int .i64 0),(.int .i64 0),(.str []),(.str [])] [(0,1,(jI 1))]),oo 2 (.build [(.int .i64 0),(.int .i64 0),(.int .i64 0),(.str []),(.str [])] [(0,1,(jI 1)),(1,1,(jI 2))]),oo 3 (.build [(.int .i64 0),(.int .i64 0),(.int .i64 0),(.str []),(.str [])] [(0,1,(jI 2)),(3,1,(.c (.str [97,46,49])))]),oo 4 (.build [(.int .i64 0),(.int .i64 0),(.int .i64 0),(.str []),(.str [])] [(0,1,(jI 2))]),oo 5 (.buildSlice 5 58 [.s 1,.s 2,.s 3,.s 4]),om 0 5]) [0] .ret)⟩
def tf30 : TFn := ⟨9,[.tmp 4],jq (jr [jo 2 27 0,jv 4 jf]) [1,2] (jq (jr [om 5 1,oA 6 0 2,ol 7 1 6,jc 8 56 [.s 5,.s 7,(.c (.clo 57 []))],om 4 8]) [4] .ret)⟩
def tf31 : TFn := ⟨100,[.tmp 4],jq (jr [jv 4 je]) [0,1] (jq (jr [oo 14 (.buildSlice 1 9 [(.c (.str [97,110,116])),(.c (.str [98,101,101])),(.c (.str [99,111,119])),(.c (.str [100,111,103])),(.c (.str [101,108,107]))]),om 5 14]) [0,1,5] (jq (jr [oo 15 (.build [(.int .i64 0),(.int .i64 0),(.int .i64 0),(.str []),(.str []),(.int .i64 0),(.fsl []),(.fsl [])] [(5,1,(.c (.int .i64 (-1))))]),oo 16 (.buildSlice 8 62 [.s 15]),oo 17 (.build [(.str []),(.str []),(.fsl [])] [(2,1,(.s 16))]),oo 18 (.buildSlice 3 65 [.s 17]),om 6 18]) [0,1,5,6] (jq (jr [jc 19 29 [],om 7 19]) [0,1,5,6,7] (jq (jq (jr [jw 8 0]) [0,1,5,6,7,8] (jk 0 (jq (jq (jr [om 20 8,om 21 0,om 22 1,jc 23 34 [.s 21,.s 22],oo 24 (.bin .add false (jI 1) (.s 23)),jB 25 .lss 20 24,om 26 25,jT 27 26 8,jT 28 26 5,oT 29 26 (.len (.s 28)),oT 30 26 (.bin .lss false (.s 27) (.s 29)),jp 31 26 30]) [0,1,5,6,7,8,31] (jC 31 .skip (.exit 0))) [0,1,5,6,7,8] (jq (.block 1 (jq (jr [jv 9 je]) [0,1,5,6,7,8,9] (jq (jr [om 34 0,jc 35 34 [.s 34,jI 16],om 10 35]) [0,1,5,6,7,8,9,10] (jq (jq (jr [jw 11 0]) [0,1,5,6,7,8,9,10,11] (jk 2 (jq (jq (jr [om 36 11,om 37 7,jn 38 37,jB 39 .lss 36 38]) [0,1,5,6,7,8,9,10,11,39] (jC 39 .skip (.exit 2))) [0,1,5,6,7,8,9,10,11] (jq (.block 3 (jq (jr [om 42 10,om 43 11,oo 44 (.conv .u64 (.s 43)),jB 45 .shr 42 44,jb 46 .and 45 1,jb 47 .eql 46 1]) [0,1,5,6,7,8,9,10,11,47] (jC 47 (jr [om 48 9,om 49 7,om 50 11,jx 51 5 49 50,oL 52 5 51,oo 53 (.build [(.int .i64 0),(.int .i64 0),(.int .i64 0),(.str []),(.str []),(.int .i64 0),(.fsl []),(.fsl [])] [(0,5,(.s 52))]),oo 54 (.buildSlice 8 62 [.s 53]),oo 55 (.append 8 62 112 (.s 48) (.s 54)),om 9 55]) .skip))) [0,1,5,6,7,8,9,10,11] (jr [om 40 11,jb 41 .add 40 1,om 11 41]))))) [0,1,5,6,7,8,9] (jq (jr [om 56 6,om 57 5,om 58 8,jx 59 1 57 58,ol 60 1 59,om 61 9,oo 62 (.build [(.str []),(.str []),(.fsl [])] [(0,1,(.s 60)),(2,1,(.s 61))]),oo 63 (.buildSlice 3 65 [.s 62]),oo 64 (.append 3 65 56 (.s 56) (.s 63)),om 6 64]) [0,1,5,6,7,8,9] (jq (jr [om 65 8,jb 66 .lss 65 2,om 67 66,jT 68 67 0,oT 69 67 (.call 34 [.s 68,jI 3]),jY 70 67 .eql 69 0,jp 71 67 70]) [0,1,5,6,7,8,9,71] (jC 71 (jq (jr [jv 12 je]) [0,1,5,6,7,8,9,12] (jq (jq (jr [jw 13 0]) [0,1,5,6,7,8,9,12,13] (jk 4 (jq (jq (jr [om 72 13,om 73 9,jn 74 73,jB 75 .lss 72 74]) [0,1,5,6,7,8,9,12,13,75] (jC 75 .skip (.exit 4))) [0,1,5,6,7,8,9,12,13] (jq (.block 5 (jq (jr [om 78 0,jc 79 34 [.s 78,jI 3],jb 80 .gtr 79 0]) [0,1,5,6,7,8,9,12,13,80] (jC 80 (jr [om 81 12,om 82 9,om 83 13,jx 84 8 82 83,oA 85 0 84,oL 86 5 85,oo 87 (.build [(.int .i64 0),(.int .i64 0),(.int .i64 0),(.str []),(.str []),(.int .i64 0),(.fsl []),(.fsl [])] [(0,5,(.s 86))]),oo 88 (.buildSlice 8 62 [.s 87]),oo 89 (.append 8 62 112 (.s 81) (.s 88)),om 12 89]) .skip))) [0,1,5,6,7,8,9,12,13] (jr [om 76 13,jb 77 .add 76 1,om 13 77]))))) [0,1,5,6,7,8,12] (jr [om 90 6,om 91 5,om 92 8,jx 93 1 91 92,ol 94 1 93,om 95 12,oo 96 (.build [(.str []),(.str []),(.fsl [])] [(0,1,(.s 94)),(1,1,(.c (.str [102]))),(2,1,(.s 95))]),oo 97 (.buildSlice 3 65 [.s 96]),oo 98 (.append 3 65 56 (.s 90) (.s 97)),om 6 98]))) .skip))))))) [0,1,5,6,7,8] (jr [om 32 8,jb 33 .add 32 1,om 8 33]))))) [6] (jq (jr [om 99 6,om 4 99]) [4] .ret)))))⟩
def tf32 : TFn := ⟨36,[.tmp 6],jq (jr [jv 6 je]) [0,1,2] (jq (jr [jv 7 je]) [0,1,2,7] (jq (jq (jr [om 10 0,om 11 2,jb 12 .add 11 1,jc 13 34 [.s 10,.s 12],om 8 13]) [0,1,7,8] (jk 0 (jq (jq (jr [om 14 8,jb 15 .gtr 14 0]) [0,1,7,8,15] (jC 15 .skip (.exit 0))) [0,1,7,8] (jq (.block 1 (jq (jr [om 18 0,om 19 1,jc 20 35 [.s 18,.s 19],oo 21 (.buildSlice 3 81 [.s 20]),om 9 21]) [0,1,7,8,9] (jq (jq (jr [om 22 0,jc 23 34 [.s 22,jI 3],jb 24 .eql 23 0]) [0,1,7,8,9,24] (jC 24 (jr [om 25 9,om 26 0,om 27 1,jc 28 35 [.s 26,.s 27],oo 29 (.buildSlice 3 81 [.s 28]),oo 30 (.append 3 81 56 (.s 25) (.s 29)),om 9 30]) .skip)) [0,1,7,8,9] (jr [om 31 7,om 32 9,oo 33 (.buildSlice 1 60 [.s 32]),oo 34 (.append 1 60 24 (.s 31) (.s 33)),om 7 34])))) [0,1,7,8] (jr [om 16 8,jb 17 .sub 16 1,om 8 17]))))) [7] (jq (jr [om 35 7,om 6 35]) [6] .ret)))⟩
def tf33 : TFn := ⟨24,[.cell 2 true 2],jq (jr [jo 1 58 0,oo 2 (.alloc 78 [(.fsl []),(.fsl [])])]) [1,2] (jq (jq (jr [oL 3 5 1,jc 4 60 [.s 3],oo 5 (.un .not (.s 4))]) [1,2,5] (jC 5 (jq (jr [jc 6 61 [],jS 2 2 6]) [2] .ret) .skip)) [1,2] (jq (jq (jr [oA 7 3 1,ol 8 1 7,oo 9 (.bin .neq false (.s 8) (.c (.str [])))]) [1,2,9] (jC 9 (jq (jR [oL 10 5 1,jc 11 62 [.s 10],oL 12 5 1,jc 13 63 [.s 12],oo 14 (.build [(.int .i64 0),(.int .i64 0),(.int .i64 0),(.int .i64 0),(.str []),(.str []),(.bool false),(.int .i64 0),(.int .i64 0),(.int .i64 0),(.int .i64 0),(.str []),(.str []),(.bool false)] [(0,7,(.s 11)),(7,7,(.s 13))]),oo 15 (.buildSlice 14 105 [.s 14]),oo 16 (.build [(.fsl []),(.fsl [])] [(1,1,(.s 15))]),jS 2 2 16]) [2] .ret) .skip)) [1,2] (jq (jR [oL 17 5 1,jc 18 64 [.s 17],oL 19 5 1,jc 20 65 [.s 19],oo 21 (.build [(.int .i64 0),(.int .i64 0),(.int .i64 0),(.int .i64 0),(.str []),(.str []),(.bool false),(.int .i64 0),(.int .i64 0),(.int .i64 0),(.int .i64 0),(.str []),(.str []),(.bool false)] [(0,7,(.s 18)),(7,7,(.s 20))]),oo 22 (.buildSlice 14 105 [.s 21]),oo 23 (.build [(.fsl []),(.fsl [])] [(0,1,(.s 22))]),jS 2 2 23]) [2] .ret)))⟩
def tf34 : TFn := ⟨24,[.tmp 4],jq (jr [jw 4 0]) [0,1] (jq (jr [om 5 0,jh 6 5,oA 7 1 6,ol 8 1 7,jb 9 .add 8 1,jh 10 5,oA 11 1 10,jS 1 11 9]) [0,1] (jq (jR [om 12 0,jh 13 12,oA 14 0 13,ol 15 1 14,om 16 0,jh 17 16,oA 18 1 17,ol 19 1 18,jb 20 .sub 19 1,jc 21 26 [.s 15,.s 20],om 22 1,jc 23 10 [.s 21,.s 22],om 4 23]) [4] .ret))⟩
def tf35 : TFn := ⟨21,[.cell 4 true 3],jq (jr [oo 4 (.alloc 81 [(.int .i64 0),(.fsl []),(.fsl [])])]) [0,1,4] (jq (jr [om 6 0,om 7 1,jn 8 7,jb 9 .sub 8 1,jc 10 34 [.s 6,.s 9],oo 11 (.bin .add false (jI 1) (.s 10)),om 5 11]) [0,1,4,5] (jq (jr [om 12 5,om 13 0,om 14 1,om 15 5,jx 16 3 14 15,oA 17 2 16,ol 18 1 17,jc 19 66 [.s 13,.s 18],oo 20 (.build [(.int .i64 0),(.fsl []),(.fsl [])] [(0,1,(.s 12)),(1,2,(.s 19))]),jS 3 4 20]) [4] .ret))⟩
def tf36 : TFn := ⟨12,[.cell 2 true 3],jq (jr [oo 2 (.alloc 31 [(.str []),(.str []),(.str [])])]) [0,2] (jq (jr [oo 3 (.alloc 31 [(.str []),(.str []),(.str [])])]) [0,2,3] (jq (jr [oo 4 (.buildSlice 1 9 [(.c (.str [])),(.c (.str [108,105,110,117,120])),(.c (.str [112,108,97,110,57]))]),om 5 0,jc 6 10 [.s 5,jI 3],jx 7 1 4 6,ol 8 1 7,oA 9 0 3,oo 10 (.indexArr 3 1 (.s 9) (jI 0)),jS 1 10 8]) [2,3] (jq (jr [oL 11 3 3,jS 3 2 11]) [2] .ret)))⟩
def tf37 : TFn := ⟨3,[.tmp 2],jq (jr [jo 1 65 0,jv 2 jf]) [] (jq (jr [oo 2 (.mov (.c (.bool true)))]) [2] .ret)⟩
def tf38 : TFn := ⟨3,[.tmp 2],jq (jr [jo 1 65 0,jw 2 0]) [] (jq (jr [jw 2 0]) [2] .ret)⟩
def tf39 : TFn := ⟨12,[.tmp 8],jq (jr [jo 4 27 0,jo 5 85 1,jo 6 86 2,jo 7 90 3,jv 8 je]) [4,5,6,7] (jq (jr [oL 9 1 4,oo 10 (.mkfn 68 [.s 5,.s 6,.s 7]),jc 11 67 [.s 9,.s 10],om 8 11]) [8] .ret)⟩
def tf40 : TFn := ⟨30,[.tmp 5],jq (jr [jo 3 65 0,jw 5 0]) [1,2,3] (jq (jr [oL 7 4 2,oA 8 0 3,ol 9 1 8,jc 10 41 [.s 7,.s 9],om 6 10]) [1,2,3,6] (jq (jq (jr [om 11 6,jb 12 .lss 11 0]) [1,2,3,6,12] (jC 12 (jq (jr [jw 5 1]) [5] .ret) .skip)) [1,2,3,6] (jq (jq (jR [oA 13 2 3,ol 14 1 13,om 15 1,jx 16 8 14 15,oA 17 0 16,oL 18 5 17,oA 19 3 2,ol 20 1 19,om 21 6,jx 22 9 20 21,oA 23 1 22,oL 24 5 23,jc 25 42 [.s 18,.s 24]]) [25] (.block 0 (jq (jr [jb 27 .eql 25 0,om 26 27]) [25,26] (jC 26 (jq (jr [jw 5 0]) [5] .ret) (jq (jr [jb 29 .eql 25 1,om 28 29]) [28] (jC 28 (jq (jr [jw 5 2]) [5] .ret) .skip)))))) [] (jq (jr [jw 5 4]) [5] .ret))))⟩
def tf41 : TFn := ⟨9,[.tmp 4],jq (jr [jo 2 34 0,jo 3 9 1,jw 4 0]) [2,3] (jq (jr [oA 5 3 2,ol 6 1 5,oo 7 (.mkfn 70 [.s 3]),jc 8 69 [.s 6,.s 7],om 4 8]) [4] .ret)⟩
def tf42 : TFn := ⟨86,[.tmp 4],jq (jr [jo 2 58 0,jo 3 58 1,jw 4 0]) [2,3] (jq (jq (jR [oL 10 5 2,jc 11 71 [.s 10],oo 12 (.un .not (.s 11)),om 13 12,jM 14 13 5 3,oF 15 13 (.call 71 [.s 14]),oF 16 13 (.un .not (.s 15)),oo 17 (.pick (.s 13) (.c (.bool true)) (.s 16)),om 18 17,jM 19 18 5 2,oF 20 18 (.call 72 [.s 19]),jM 21 18 5 3,oF 22 18 (.call 72 [.s 21]),oF 23 18 (.eqs false [0,0,0,2,2] (.s 20) (.s 22)),oo 24 (.pick (.s 18) (.c (.bool true)) (.s 23))]) [2,3,24] (jC 24 (jq (jr [jw 4 0]) [4] .ret) .skip)) [2,3] (jq (jq (jR [oA 25 0 2,ol 26 1 25,oA 27 0 3,ol 28 1 27,jc 29 74 [.s 26,.s 28],oA 30 1 2,ol 31 1 30,oA 32 1 3,ol 33 1 32,jc 34 74 [.s 31,.s 33],oA 35 2 2,ol 36 1 35,oA 37 2 3,ol 38 1 37,jc 39 74 [.s 36,.s 38],oo 40 (.buildSlice 1 3 [.s 29,.s 34,.s 39]),jc 41 73 [.s 40],om 5 41]) [2,3,5] (jq (jr [om 42 5,jb 43 .neq 42 0]) [2,3,5,43] (jC 43 (jq (jr [om 44 5,om 4 44]) [4] .ret) .skip))) [2,3] (jq (jq (jr [oA 45 3 2,ol 46 1 45,oo 47 (.bin .eql false (.s 46) (.c (.str [])))]) [2,3,47] (jC 47 (jq (jr [jw 4 1]) [4] .ret) .skip)) [2,3] (jq (jq (jr [oA 48 3 3,ol 49 1 48,oo 50 (.bin .eql false (.s 49) (.c (.str [])))]) [2,3,50] (jC 50 (jq (jr [oo 4 (.mov (.c (.int .i64 (-1))))]) [4] .ret) .skip)) [2,3] (jq (jR [oA 51 3 2,ol 52 1 51,jc 53 75 [.s 52,(.c (.int .u8 46))],oA 54 3 3,ol 55 1 54,jc 56 75 [.s 55,(.c (.int .u8 46))],om 6 53,om 7 56]) [6,7] (jq (jq (jr [jw 8 0]) [6,7,8] (jk 0 (jq (jq (jr [om 57 8,om 58 6,jn 59 58,jB 60 .lss 57 59,om 61 60,jT 62 61 8,jT 63 61 7,oT 64 61 (.len (.s 63)),oT 65 61 (.bin .lss false (.s 62) (.s 64)),jp 66 61 65]) [6,7,8,66] (jC 66 .skip (.exit 0))) [6,7,8] (jq (.block 1 (jq (jR [om 69 6,om 70 8,jx 71 1 69 70,ol 72 1 71,om 73 7,om 74 8,jx 75 1 73 74,ol 76 1 75,jc 77 76 [.s 72,.s 76],om 9 77]) [6,7,8,9] (jq (jr [om 78 9,jb 79 .neq 78 0]) [6,7,8,9,79] (jC 79 (jq (jr [om 80 9,om 4 80]) [4] .ret) .skip)))) [6,7,8] (jr [om 67 8,jb 68 .add 67 1,om 8 68]))))) [6,7] (jq (jr [om 81 6,jn 82 81,om 83 7,jn 84 83,jc 85 74 [.s 82,.s 84],om 4 85]) [4] .ret)))))))⟩
def tf43 : TFn := ⟨22,[.tmp 4],jq (jr [jo 2 34 0,jw 4 0]) [1,2] (jq (jq (jr [jw 5 0]) [1,2,5] (jk 0 (jq (jq (jr [om 6 5,oA 7 3 2,ol 8 1 7,jn 9 8,jB 10 .lss 6 9]) [1,2,5,10] (jC 10 .skip (.exit 0))) [1,2,5] (jq (.block 1 (jq (jr [oA 13 3 2,ol 14 1 13,om 15 5,jx 16 9 14 15,oA 17 0 16,ol 18 1 17,om 19 1,jB 20 .eql 18 19]) [1,2,5,20] (jC 20 (jq (jr [om 21 5,om 4 21]) [4] .ret) .skip))) [1,2,5] (jr [om 11 5,jb 12 .add 11 1,om 5 12]))))) [] (jq (jr [oo 4 (.mov (.c (.int .i64 (-1))))]) [4] .ret))⟩
def tf44 : TFn := ⟨12,[.tmp 4],jq (jr [jo 2 58 0,jo 3 58 1,jw 4 0]) [2,3] (jq (jq (jr [oL 5 5 2,oL 6 5 3,jc 7 77 [.s 5,.s 6]]) [7] (.block 0 (jq (jr [jb 9 .eql 7 0,om 8 9]) [7,8] (jC 8 (jq (jr [jw 4 0]) [4] .ret) (jq (jr [jb 11 .eql 7 1,om 10 11]) [10] (jC 10 (jq (jr [jw 4 2]) [4] .ret) .skip)))))) [] (jq (jr [jw 4 4]) [4] .ret))⟩
def tf45 : TFn := ⟨8,[.tmp 3],jq (jr [jo 2 65 0,jv 3 jf]) [1,2] (jq (jr [ol 4 1 1,oA 5 0 2,ol 6 1 5,jc 7 46 [.s 4,.s 6],om 3 7]) [3] .ret)⟩
def tf46 : TFn := ⟨9,[.tmp 4],jq (jr [jv 4 jf]) [0,1] (jq (jr [om 5 0,om 6 1,jc 7 78 [.s 5,.s 6],jb 8 .geq 7 0,om 4 8]) [4] .ret)⟩
def tf47 : TFn := ⟨6,[.tmp 2],jq (jr [jo 1 65 0,jw 2 0]) [1] (jq (jr [oA 3 2 1,ol 4 1 3,jn 5 4,om 2 5]) [2] .ret)⟩
def tf48 : TFn := ⟨11,[.tmp 4],jq (jr [jo 2 65 0,jw 4 0]) [1,2] (jq (jr [oA 5 2 2,ol 6 1 5,jn 7 6,jb 8 .sub 7 1,om 9 1,jB 10 .sub 8 9,om 4 10]) [4] .ret)⟩
def tf54 : TFn := ⟨48,[.tmp 6],jq (jr [jo 3 27 0,jw 6 0]) [1,2,3] (jq (jq (jr [om 7 2,jb 8 .lss 7 0,om 9 8,jF 10 9 2,ja 11 9 0 3,jm 12 9 1 11,oF 13 9 (.len (.s 12)),oF 14 9 (.bin .geq false (.s 10) (.s 13)),oo 15 (.pick (.s 9) (.c (.bool true)) (.s 14)),om 16 15,jF 17 16 2,jF 18 16 1,oF 19 16 (.len (.s 18)),oF 20 16 (.bin .geq false (.s 17) (.s 19)),oo 21 (.pick (.s 16) (.c (.bool true)) (.s 20))]) [1,2,3,21] (jC 21 (jq (jr [jw 6 0]) [6] .ret) .skip)) [1,2,3] (jq (jq (jR [om 22 1,om 23 2,jx 24 1 22 23,ol 25 1 24,oo 26 (.bin .lss false (.s 25) (.c (.int .i64 (-1)))),om 27 26,jF 28 27 1,jF 29 27 2,oF 30 27 (.indexAddr 1 (.s 28) (.s 29)),jm 31 27 1 30,ja 32 27 0 3,jm 33 27 1 32,jF 34 27 2,oF 35 27 (.indexAddr 3 (.s 33) (.s 34)),ja 36 27 2 35,jm 37 27 1 36,oF 38 27 (.len (.s 37)),oF 39 27 (.min (.s 38) (jI 16)),oF 40 27 (.bin .geq false (.s 31) (.s 39)),oo 41 (.pick (.s 27) (.c (.bool true)) (.s 40))]) [1,2,41] (jC 41 (jq (jr [jw 6 0]) [6] .ret) .skip)) [1,2] (jq (jr [om 42 1,om 43 2,jx 44 1 42 43,ol 45 1 44,jb 46 .add 45 1,jc 47 79 [.s 46],om 6 47]) [6] .ret)))⟩
def tf55 : TFn := ⟨25,[.tmp 2],jq (jr [jo 1 27 0,jv 2 jf]) [1] (jq (jq (jr [oA 4 0 1,ol 5 1 4,jn 6 5,jb 7 .lss 6 1,om 8 7,ja 9 8 0 1,jm 10 8 1 9,oF 11 8 (.len (.s 10)),jy 12 8 .gtr 11 48,oo 13 (.pick (.s 8) (.c (.bool true)) (.s 12))]) [1,13] (jC 13 (jq (jr [jv 2 jf]) [2] .ret) .skip)) [1] (jq (jq (jr [jw 3 0]) [1,3] (jk 0 (jq (jq (jr [om 14 3,oA 15 0 1,ol 16 1 15,jn 17 16,jB 18 .lss 14 17]) [1,3,18] (jC 18 .skip (.exit 0))) [1,3] (jq (.block 1 (jq (jr [oL 21 1 1,om 22 3,jc 23 80 [.s 21,.s 22],oo 24 (.un .not (.s 23))]) [1,3,24] (jC 24 (jq (jr [jv 2 jf]) [2] .ret) .skip))) [1,3] (jr [om 19 3,jb 20 .add 19 1,om 3 20]))))) [] (jq (jr [oo 2 (.mov (.c (.bool true)))]) [2] .ret)))⟩
def tf56 : TFn := ⟨32,[.tmp 6],jq (jr [jv 6 jf]) [0,1,2] (jq (jq (jr [om 10 0,jn 11 10,om 12 1,jn 13 12,jB 14 .neq 11 13]) [0,1,2,14] (jC 14 (jq (jr [jv 6 jf]) [6] .ret) .skip)) [0,1,2] (jq (jq (jr [om 15 0,jn 16 15,jw 17 0]) [1,2,15,16,17] (jk 0 (jq (jr [jB 18 .lss 17 16]) [1,2,15,16,17,18] (jq (jC 18 .skip (.exit 0)) [1,2,15,16,17] (jq (.block 1 (jq (jr [om 19 17,jx 20 1 15 17,ol 21 1 20,om 7 19,om 8 21]) [1,2,7,8,15,16,17] (jq (jr [om 22 1,om 23 7,jx 24 3 22 23,oL 25 3 24,oo 9 (.alloc 65 [(.str []),(.str []),(.fsl [])]),jS 3 9 25]) [1,2,8,9,15,16,17] (jq (jr [om 26 2,om 27 8,oL 28 3 9,oo 29 (.callV (.s 26) [.s 27,.s 28]),oo 30 (.un .not (.s 29))]) [1,2,15,16,17,30] (jC 30 (jq (jr [jv 6 jf]) [6] .ret) .skip))))) [1,2,15,16,17] (jr [jb 31 .add 17 1,om 17 31])))))) [] (jq (jr [oo 6 (.mov (.c (.bool true)))]) [6] .ret)))⟩
def tf57 : TFn := ⟨17,[.tmp 4],jq (jr [jo 3 65 1,jv 4 jf]) [0,3] (jq (jr [om 5 0,jn 6 5,oA 7 2 3,ol 8 1 7,jn 9 8,jb 10 .add 9 1,jB 11 .eql 6 10,om 12 11,jT 13 12 0,oT 14 12 (.call 58 [.s 13,(.c (.clo 59 []))]),oT 15 12 (.un .not (.s 14)),jp 16 12 15,om 4 16]) [4] .ret)⟩
def tf58 : TFn := ⟨9,[.tmp 4],jq (jr [jv 4 jf]) [0,1] (jq (jr [om 5 0,om 6 1,jc 7 81 [.s 5,.s 6],jb 8 .geq 7 0,om 4 8]) [4] .ret)⟩
def tf59 : TFn := ⟨9,[.tmp 2],jq (jr [jv 2 jf]) [0] (jq (jr [om 3 0,jb 4 .lss 3 0,om 5 4,jF 6 5 0,jy 7 5 .gtr 6 1048576,oo 8 (.pick (.s 5) (.c (.bool true)) (.s 7)),om 2 8]) [2] .ret)⟩
def tf60 : TFn := ⟨26,[.tmp 2],jq (jr [jo 1 58 0,jv 2 jf]) [1] (jq (jr [oA 3 0 1,ol 4 1 3,jc 5 82 [.s 4],om 6 5,jA 7 6 1 1,jl 8 6 1 7,oT 9 6 (.call 82 [.s 8]),jp 10 6 9,om 11 10,jA 12 11 2 1,jl 13 11 1 12,oT 14 11 (.call 82 [.s 13]),jp 15 11 14,om 16 15,jA 17 16 3 1,jl 18 16 1 17,oT 19 16 (.call 83 [.s 18,(.c (.bool true))]),jp 20 16 19,om 21 20,jA 22 21 4 1,jl 23 21 1 22,oT 24 21 (.call 83 [.s 23,jf]),jp 25 21 24,om 2 25]) [2] .ret)⟩
def tf61 : TFn := ⟨2,[.cell 0 true 2],jq (jr [oo 0 (.alloc 78 [(.fsl []),(.fsl [])])]) [0] (jq (jr [oo 1 (.build [(.fsl []),(.fsl [])] []),jS 2 0 1]) [0] .ret)⟩
def tf62 : TFn := ⟨6,[.cell 2 true 7],jq (jr [jo 1 58 0,oo 2 (.alloc 102 [(.int .i64 0),(.int .i64 0),(.int .i64 0),(.int .i64 0),(.str []),(.str []),(.bool false)])]) [1,2] (jq (jr [oL 3 5 1,jc 4 84 [.s 3],oo 5 (.build [(.int .i64 0),(.int .i64 0),(.int .i64 0),(.int .i64 0),(.str []),(.str []),(.bool false)] [(1,5,(.s 4))]),jS 7 2 5]) [2] .ret)⟩
def tf63 : TFn := ⟨6,[.cell 2 true 7],jq (jr [jo 1 58 0,oo 2 (.alloc 102 [(.int .i64 0),(.int .i64 0),(.int .i64 0),(.int .i64 0),(.str []),(.str []),(.bool false)])]) [1,2] (jq (jr [oL 3 5 1,jc 4 84 [.s 3],oo 5 (.build [(.int .i64 0),(.int .i64 0),(.int .i64 0),(.int .i64 0),(.str []),(.str []),(.bool false)] [(1,5,(.s 4)),(6,1,(.c (.bool true)))]),jS 7 2 5]) [2] .ret)⟩
def tf64 : TFn := ⟨14,[.cell 2 true 7],jq (jr [jo 1 58 0,oo 2 (.alloc 102 [(.int .i64 0),(.int .i64 0),(.int .i64 0),(.int .i64 0),(.str []),(.str []),(.bool false)])]) [1,2] (jq (jq (jr [oL 3 5 1,jc 4 85 [.s 3]]) [1,2,4] (jC 4 (jq (jr [jc 5 86 [],jS 7 2 5]) [2] .ret) .skip)) [1,2] (jq (jr [oA 6 0 1,ol 7 1 6,oA 8 1 1,ol 9 1 8,oA 10 2 1,ol 11 1 10,oo 12 (.build [(.int .i64 0),(.int .i64 0),(.int .i64 0),(.str []),(.str [])] [(0,1,(.s 7)),(1,1,(.s 9)),(2,1,(.s 11))]),jc 13 62 [.s 12],jS 7 2 13]) [2] .ret))⟩
def tf65 : TFn := ⟨21,[.cell 2 true 7],jq (jr [jo 1 58 0,oo 2 (.alloc 102 [(.int .i64 0),(.int .i64 0),(.int .i64 0),(.int .i64 0),(.str []),(.str []),(.bool false)])]) [1,2] (jq (jr [oA 6 0 1,ol 7 1 6,oA 8 1 1,ol 9 1 8,oA 10 2 1,ol 11 1 10,oo 12 (.build [(.int .i64 0),(.int .i64 0),(.int .i64 0),(.str []),(.str [])] [(0,1,(.s 7)),(1,1,(.s 9)),(2,1,(.s 11))]),jc 13 87 [.s 12],om 5 13,oe 14 0 5,oe 15 1 5,oo 3 (.alloc 58 [(.int .i64 0),(.int .i64 0),(.int .i64 0),(.str []),(.str [])]),jS 5 3 14,om 4 15]) [2,3,4] (jq (jq (jr [om 16 4,oo 17 (.un .not (.s 16))]) [2,3,17] (jC 17 (jq (jr [jc 18 88 [],jS 7 2 18]) [2] .ret) .skip)) [2,3] (jq (jr [oL 19 5 3,jc 20 62 [.s 19],jS 7 2 20]) [2] .ret)))⟩
def tf66 : TFn := ⟨41,[.cell 4 true 2],jq (jr [oo 4 (.alloc 78 [(.fsl []),(.fsl [])])]) [0,1,4] (jq (jr [om 8 0,jc 9 34 [.s 8,jI 8],om 5 9]) [0,1,4,5] (jq (jr [jc 10 61 [],oo 6 (.alloc 78 [(.fsl []),(.fsl [])]),jS 2 6 10]) [0,1,4,5,6] (jq (jq (jr [jw 7 0]) [0,1,4,5,6,7] (jk 0 (jq (jq (jr [om 11 7,om 12 1,jn 13 12,jB 14 .lss 11 13]) [0,1,4,5,6,7,14] (jC 14 .skip (.exit 0))) [0,1,4,5,6,7] (jq (.block 1 (jq (jr [om 17 5,om 18 7,oo 19 (.conv .u64 (.s 18)),jB 20 .shr 17 19,jb 21 .and 20 1,jb 22 .eql 21 1]) [0,1,4,5,6,7,22] (jC 22 (jR [oL 23 2 6,om 24 1,om 25 7,jx 26 8 24 25,oA 27 0 26,oL 28 5 27,jc 29 33 [.s 28],jc 30 89 [.s 23,.s 29],jS 2 6 30]) .skip))) [0,1,4,5,6,7] (jr [om 15 7,jb 16 .add 15 1,om 7 16]))))) [0,4,6] (jq (jq (jr [om 31 0,jc 32 34 [.s 31,jI 6]]) [4,6,32] (.block 2 (jq (jr [jb 34 .eql 32 0,om 33 34]) [4,6,32,33] (jC 33 (jq (jr [jc 35 90 [],jS 2 4 35]) [4] .ret) (jq (jr [jb 37 .eql 32 1,om 36 37]) [4,6,36] (jC 36 (jq (jr [oL 38 2 6,jc 39 91 [.s 38],jS 2 4 39]) [4] .ret) .skip)))))) [4,6] (jq (jr [oL 40 2 6,jS 2 4 40]) [4] .ret)))))⟩
def tf67 : TFn := ⟨25,[.tmp 4],jq (jr [jo 2 27 0,jv 4 je]) [1,2] (jq (jr [jv 5 je]) [1,2,5] (jq (jq (jr [oA 8 0 2,ol 9 1 8,jn 10 9,jw 11 0]) [1,5,9,10,11] (jk 0 (jq (jr [jB 12 .lss 11 10]) [1,5,9,10,11,12] (jq (jC 12 .skip (.exit 0)) [1,5,9,10,11] (jq (.block 1 (jq (jr [om 13 11,jx 14 3 9 11,oL 15 3 14,oo 7 (.alloc 65 [(.str []),(.str []),(.fsl [])]),om 6 13,jS 3 7 15]) [1,5,6,7,9,10,11] (jr [om 16 5,om 17 1,om 18 6,oL 19 3 7,oo 20 (.callV (.s 17) [.s 18,.s 19]),oo 21 (.buildSlice 1 22 [.s 20]),oo 22 (.append 1 22 24 (.s 16) (.s 21)),om 5 22]))) [1,5,9,10,11] (jr [jb 23 .add 11 1,om 11 23])))))) [5] (jq (jr [om 24 5,om 4 24]) [4] .ret)))⟩
def tf68 : TFn := ⟨50,[.tmp 7],jq (jr [jo 6 65 1,jv 7 je]) [0,2,3,4,6] (jq (jr [oA 10 2 6,ol 11 1 10,jn 12 11,jb 13 .add 12 1,oo 14 (.makeSlice 1 3 8 [(.int .i64 0)] (.s 13) (.s 13)),om 8 14]) [0,2,3,4,6,8] (jq (jq (jr [om 15 0,jb 16 .eql 15 0,om 17 16,ja 18 17 1 6,jm 19 17 1 18,oF 20 17 (.bin .neq false (.s 19) (.c (.str []))),oo 21 (.pick (.s 17) (.c (.bool true)) (.s 20)),om 22 21,jm 23 22 1 2,jM 24 22 3 6,oF 25 22 (.callV (.s 23) [.s 24]),oF 26 22 (.un .not (.s 25)),oo 27 (.pick (.s 22) (.c (.bool true)) (.s 26))]) [3,4,6,8,27] (jC 27 (jq (jr [om 28 8,om 7 28]) [7] .ret) .skip)) [3,4,6,8] (jq (jr [om 29 8,ol 30 1 3,oL 31 3 6,oo 32 (.callV (.s 30) [.s 31]),oo 33 (.indexAddr 1 (.s 29) (jI 0)),jS 1 33 32]) [4,6,8] (jq (jq (jr [oA 34 2 6,ol 35 1 34,jn 36 35,jw 37 0]) [4,6,8,36,37] (jk 0 (jq (jr [jB 38 .lss 37 36]) [4,6,8,36,37,38] (jq (jC 38 .skip (.exit 0)) [4,6,8,36,37] (jq (.block 1 (jq (jr [om 39 37,om 9 39]) [4,6,8,9,36,37] (jr [om 40 8,om 41 9,jb 42 .add 41 1,ol 43 1 4,oL 44 3 6,om 45 9,oo 46 (.callV (.s 43) [.s 44,.s 45]),jx 47 1 40 42,jS 1 47 46]))) [4,6,8,36,37] (jr [jb 48 .add 37 1,om 37 48])))))) [8] (jq (jr [om 49 8,om 7 49]) [7] .ret)))))⟩
def tf69 : TFn := ⟨19,[.tmp 4],jq (jr [jw 4 0]) [0,1] (jq (jq (jr [om 6 0,jn 7 6,jw 8 0]) [0,1,7,8] (jk 0 (jq (jr [jB 9 .lss 8 7]) [0,1,7,8,9] (jq (jC 9 .skip (.exit 0)) [0,1,7,8] (jq (.block 1 (jq (jr [om 10 8,om 5 10]) [0,1,5,7,8] (jq (jr [om 11 1,om 12 0,om 13 5,jx 14 9 12 13,oL 15 9 14,oo 16 (.callV (.s 11) [.s 15])]) [0,1,5,7,8,16] (jC 16 (jq (jr [om 17 5,om 4 17]) [4] .ret) .skip)))) [0,1,7,8] (jr [jb 18 .add 8 1,om 8 18])))))) [] (jq (jr [oo 4 (.mov (.c (.int .i64 (-1))))]) [4] .ret))⟩
def tf70 : TFn := ⟨8,[.tmp 3],jq (jr [jo 2 68 0,jv 3 jf]) [1,2] (jq (jr [oA 4 0 2,ol 5 1 4,ol 6 1 1,jB 7 .eql 5 6,om 3 7]) [3] .ret)⟩
def tf71 : TFn := ⟨36,[.tmp 2],jq (jr [jo 1 58 0,jv 2 jf]) [1] (jq (jr [oA 3 0 1,ol 4 1 3,jc 5 92 [.s 4],om 6 5,jA 7 6 1 1,jl 8 6 1 7,oT 9 6 (.call 92 [.s 8]),jp 10 6 9,om 11 10,jA 12 11 2 1,jl 13 11 1 12,oT 14 11 (.call 92 [.s 13]),jp 15 11 14,om 16 15,jA 17 16 3 1,jl 18 16 1 17,oT 19 16 (.bin .eql false (.s 18) (.c (.str []))),jT 20 16 19,ja 21 20 3 1,jm 22 20 1 21,oF 23 20 (.call 93 [.s 22]),oT 24 16 (.pick (.s 20) (.c (.bool true)) (.s 23)),jp 25 16 24,om 26 25,jA 27 26 4 1,jl 28 26 1 27,oT 29 26 (.bin .eql false (.s 28) (.c (.str []))),jT 30 26 29,ja 31 30 4 1,jm 32 30 1 31,oF 33 30 (.call 94 [.s 32]),oT 34 26 (.pick (.s 30) (.c (.bool true)) (.s 33)),jp 35 26 34,om 2 35]) [2] .ret)⟩
def tf72 : TFn := ⟨5,[.cell 2 true 5],jq (jr [jo 1 58 0,oo 2 (.alloc 58 [(.int .i64 0),(.int .i64 0),(.int .i64 0),(.str []),(.str [])])]) [1,2] (jq (jr [oA 3 4 1,⟨none,.store 1 (.s 3) (.c (.str [])),none⟩]) [1,2] (jq (jr [oL 4 5 1,jS 5 2 4]) [2] .ret))⟩
def tf73 : TFn := ⟨18,[.tmp 2],jq (jr [jw 2 0]) [0] (jq (jr [jw 3 0]) [0,3] (jq (jq (jr [om 6 0,jn 7 6,jw 8 0]) [3,6,7,8] (jk 0 (jq (jr [jB 9 .lss 8 7]) [3,6,7,8,9] (jq (jC 9 .skip (.exit 0)) [3,6,7,8] (jq (.block 1 (jq (jr [jx 10 1 6 8,ol 11 1 10,om 5 11]) [3,5,6,7,8] (jq (jr [om 12 5,om 13 3,jB 14 .neq 12 13]) [3,5,6,7,8,14] (jC 14 (jq (jr [om 15 5,om 2 15]) [2] .ret) .skip)))) [3,6,7,8] (jr [jb 16 .add 8 1,om 8 16])))))) [3] (jq (jr [om 17 3,om 2 17]) [2] .ret)))⟩
def tf74 : TFn := ⟨20,[.tmp 4],jq (jr [jw 4 0]) [0,1] (jq (jr [om 7 0,jc 8 95 [.s 7],om 5 8]) [0,1,5] (jq (jr [om 9 1,jc 10 95 [.s 9],om 6 10]) [0,1,5,6] (jq (jq (jr [om 11 5]) [0,1,6,11] (jC 11 (jq (jq (jr [om 12 6]) [12] (jC 12 (jq (jr [jw 4 0]) [4] .ret) .skip)) [] (jq (jr [oo 4 (.mov (.c (.int .i64 (-1))))]) [4] .ret)) .skip)) [0,1,6] (jq (jq (jr [om 13 6]) [0,1,13] (jC 13 (jq (jr [jw 4 1]) [4] .ret) .skip)) [0,1] (jq (jq (jr [om 14 0,om 15 1,jB 16 .lss 14 15]) [0,1,16] (jC 16 (jq (jr [oo 4 (.mov (.c (.int .i64 (-1))))]) [4] .ret) .skip)) [0,1] (jq (jq (jr [om 17 0,om 18 1,jB 19 .gtr 17 18]) [19] (jC 19 (jq (jr [jw 4 1]) [4] .ret) .skip)) [] (jq (jr [jw 4 0]) [4] .ret)))))))⟩
def tf75 : TFn := ⟨34,[.tmp 4],jq (jr [jv 4 je]) [0,1] (jq (jr [jv 5 je]) [0,1,5] (jq (jr [jw 6 0]) [0,1,5,6] (jq (jq (jr [om 8 0,oo 9 (.lenStr (.s 8)),jw 10 0]) [0,1,5,6,9,10] (jk 0 (jq (jr [jB 11 .lss 10 9]) [0,1,5,6,9,10,11] (jq (jC 11 .skip (.exit 0)) [0,1,5,6,9,10] (jq (.block 1 (jq (jr [om 12 10,om 7 12]) [0,1,5,6,7,9,10] (jq (jr [om 13 0,om 14 7,oo 15 (.indexStr (.s 13) (.s 14)),om 16 1,jB 17 .eql 15 16]) [0,1,5,6,7,9,10,17] (jC 17 (jq (jr [om 18 5,om 19 0,om 20 6,om 21 7,oo 22 (.sliceStr (.s 19) (some (.s 20)) (some (.s 21))),oo 23 (.buildSlice 1 9 [.s 22]),oo 24 (.append 1 9 16 (.s 18) (.s 23)),om 5 24]) [0,1,5,7,9,10] (jr [om 25 7,jb 26 .add 25 1,om 6 26])) .skip)))) [0,1,5,6,9,10] (jr [jb 27 .add 10 1,om 10 27])))))) [0,5,6] (jq (jr [om 28 5,om 29 0,om 30 6,oo 31 (.sliceStr (.s 29) (some (.s 30)) none),oo 32 (.buildSlice 1 9 [.s 31]),oo 33 (.append 1 9 16 (.s 28) (.s 32)),om 4 33]) [4] .ret))))⟩
def tf76 : TFn := ⟨39,[.tmp 4],jq (jr [jw 4 0]) [0,1] (jq (jr [om 11 0,jc 12 96 [.s 11],om 13 1,jc 14 96 [.s 13],om 5 12,om 6 14]) [0,1,5,6] (jq (jq (jr [om 15 5,om 16 15,jT 17 16 6,jp 18 16 17]) [0,1,5,6,18] (jC 18 (jq (jr [om 20 0,jc 21 97 [.s 20],om 19 21,oe 22 0 19,oe 23 1 19,om 7 22,om 8 23]) [1,7] (jq (jr [om 25 1,jc 26 97 [.s 25],om 24 26,oe 27 0 24,oe 28 1 24,om 9 27,om 10 28]) [7,9] (jq (jr [om 29 7,om 30 9,jc 31 74 [.s 29,.s 30],om 4 31]) [4] .ret))) .skip)) [0,1,5,6] (jq (jq (jr [om 32 5,om 33 6,oo 34 (.bin .neq true (.s 32) (.s 33))]) [0,1,5,34] (jC 34 (jq (jq (jr [om 35 5]) [35] (jC 35 (jq (jr [oo 4 (.mov (.c (.int .i64 (-1))))]) [4] .ret) .skip)) [] (jq (jr [jw 4 1]) [4] .ret)) .skip)) [0,1] (jq (jr [om 36 0,om 37 1,jc 38 98 [.s 36,.s 37],om 4 38]) [4] .ret))))⟩
def tf77 : TFn := ⟨45,[.tmp 4],jq (jr [jo 2 58 0,jo 3 58 1,jw 4 0]) [2,3] (jq (jq (jr [oL 8 5 2,jc 9 60 [.s 8],oo 10 (.un .not (.s 9)),om 11 10,jM 12 11 5 3,oF 13 11 (.call 60 [.s 12]),oF 14 11 (.un .not (.s 13)),oo 15 (.pick (.s 11) (.c (.bool true)) (.s 14))]) [2,3,15] (jC 15 (jq (jr [jw 4 0]) [4] .ret) .skip)) [2,3] (jq (jq (jr [oA 16 0 2,ol 17 1 16,oA 18 0 3,ol 19 1 18,jc 20 99 [.s 17,.s 19],om 5 20]) [2,3,5] (jq (jr [om 21 5,jb 22 .neq 21 0]) [2,3,5,22] (jC 22 (jq (jr [om 23 5,om 4 23]) [4] .ret) .skip))) [2,3] (jq (jq (jr [oA 24 1 2,ol 25 1 24,oA 26 1 3,ol 27 1 26,jc 28 99 [.s 25,.s 27],om 6 28]) [2,3,6] (jq (jr [om 29 6,jb 30 .neq 29 0]) [2,3,6,30] (jC 30 (jq (jr [om 31 6,om 4 31]) [4] .ret) .skip))) [2,3] (jq (jq (jr [oA 32 2 2,ol 33 1 32,oA 34 2 3,ol 35 1 34,jc 36 99 [.s 33,.s 35],om 7 36]) [2,3,7] (jq (jr [om 37 7,jb 38 .neq 37 0]) [2,3,7,38] (jC 38 (jq (jr [om 39 7,om 4 39]) [4] .ret) .skip))) [2,3] (jq (jr [oA 40 3 2,ol 41 1 40,oA 42 3 3,ol 43 1 42,jc 44 100 [.s 41,.s 43],om 4 44]) [4] .ret)))))⟩
def tf78 : TFn := ⟨19,[.tmp 4],jq (jr [jw 4 0]) [0,1] (jq (jq (jr [om 6 0,jn 7 6,jw 8 0]) [0,1,7,8] (jk 0 (jq (jr [jB 9 .lss 8 7]) [0,1,7,8,9] (jq (jC 9 .skip (.exit 0)) [0,1,7,8] (jq (.block 1 (jq (jr [om 10 8,om 5 10]) [0,1,5,7,8] (jq (jr [om 11 1,om 12 0,om 13 5,jx 14 1 12 13,ol 15 1 14,jB 16 .eql 11 15]) [0,1,5,7,8,16] (jC 16 (jq (jr [om 17 5,om 4 17]) [4] .ret) .skip)))) [0,1,7,8] (jr [jb 18 .add 8 1,om 8 18])))))) [] (jq (jr [oo 4 (.mov (.c (.int .i64 (-1))))]) [4] .ret))⟩
def tf79 : TFn := ⟨13,[.tmp 2],jq (jr [jw 2 0]) [0] (jq (jr [jw 3 1]) [0,3] (jq (jq (jr [jw 4 0]) [0,3,4] (jk 0 (jq (jq (jr [om 5 4,om 6 0,jB 7 .lss 5 6]) [0,3,4,7] (jC 7 .skip (.exit 0))) [0,3,4] (jq (.block 1 (jr [om 10 3,jb 11 .mul 10 2,om 3 11])) [0,3,4] (jr [om 8 4,jb 9 .add 8 1,om 4 9]))))) [3] (jq (jr [om 12 3,om 2 12]) [2] .ret)))⟩
def tf80 : TFn := ⟨94,[.tmp 4],jq (jr [jo 2 27 0,jv 4 jf]) [1,2] (jq (jr [oA 7 0 2,ol 8 1 7,om 9 1,jx 10 3 8 9,oL 11 3 10,oo 5 (.alloc 65 [(.str []),(.str []),(.fsl [])]),jS 3 5 11]) [1,2,5] (jq (jq (jr [oA 12 2 5,ol 13 1 12,jn 14 13,jb 15 .gtr 14 16]) [1,2,5,15] (jC 15 (jq (jr [jv 4 jf]) [4] .ret) .skip)) [1,2,5] (jq (jq (jr [om 16 1,jb 17 .eql 16 0,om 18 17,jA 19 18 0 5,jl 20 18 1 19,oT 21 18 (.bin .neq false (.s 20) (.c (.str []))),jT 22 18 21,ja 23 22 1 5,jm 24 22 1 23,oF 25 22 (.bin .neq false (.s 24) (.c (.str []))),oT 26 18 (.pick (.s 22) (.c (.bool true)) (.s 25)),jT 27 18 26,ja 28 27 2 5,jm 29 27 1 28,oF 30 27 (.len (.s 29)),jy 31 27 .neq 30 1,oT 32 18 (.pick (.s 27) (.c (.bool true)) (.s 31)),jp 33 18 32]) [1,2,5,33] (jC 33 (jq (jr [jv 4 jf]) [4] .ret) .skip)) [1,2,5] (jq (jq (jR [om 34 1,jb 35 .gtr 34 0,om 36 35,jA 37 36 0 5,jl 38 36 1 37,oT 39 36 (.bin .eql false (.s 38) (.c (.str []))),jp 40 36 39,om 41 40,jF 42 41 1,jy 43 41 .gtr 42 1,jF 44 41 43,jA 45 44 0 2,jl 46 44 1 45,jT 47 44 1,jY 48 44 .sub 47 1,oT 49 44 (.indexAddr 3 (.s 46) (.s 48)),jL 50 44 3 49,jL 51 44 3 5,oT 52 44 (.call 101 [.s 50,.s 51]),oT 53 44 (.un .not (.s 52)),oF 54 41 (.pick (.s 44) (.s 53) jf),oo 55 (.pick (.s 41) (.c (.bool true)) (.s 54))]) [2,5,55] (jC 55 (jq (jr [jv 4 jf]) [4] .ret) .skip)) [2,5] (jq (jq (jr [jw 6 0]) [2,5,6] (jk 0 (jq (jq (jr [om 56 6,oA 57 2 5,ol 58 1 57,jn 59 58,jB 60 .lss 56 59]) [2,5,6,60] (jC 60 .skip (.exit 0))) [2,5,6] (jq (.block 1 (jq (jR [oA 63 2 5,ol 64 1 63,om 65 6,jx 66 8 64 65,oL 67 8 66,oA 68 0 2,ol 69 1 68,jn 70 69,jc 71 102 [.s 67,.s 70],oo 72 (.un .not (.s 71)),om 73 72,jF 74 73 6,jy 75 73 .gtr 74 0,jF 76 73 75,jA 77 76 2 5,jl 78 76 1 77,jT 79 76 6,jY 80 76 .sub 79 1,oT 81 76 (.indexAddr 8 (.s 78) (.s 80)),jA 82 76 0 81,jL 83 76 5 82,jA 84 76 2 5,jl 85 76 1 84,jT 86 76 6,oT 87 76 (.indexAddr 8 (.s 85) (.s 86)),jA 88 76 0 87,jL 89 76 5 88,oT 90 76 (.call 77 [.s 83,.s 89]),jY 91 76 .geq 90 0,oF 92 73 (.pick (.s 76) (.s 91) jf),oo 93 (.pick (.s 73) (.c (.bool true)) (.s 92))]) [2,5,6,93] (jC 93 (jq (jr [jv 4 jf]) [4] .ret) .skip))) [2,5,6] (jr [om 61 6,jb 62 .add 61 1,om 6 62]))))) [] (jq (jr [oo 4 (.mov (.c (.bool true)))]) [4] .ret))))))⟩
def tf81 : TFn := ⟨19,[.tmp 4],jq (jr [jw 4 0]) [0,1] (jq (jq (jr [om 6 0,jn 7 6,jw 8 0]) [0,1,7,8] (jk 0 (jq (jr [jB 9 .lss 8 7]) [0,1,7,8,9] (jq (jC 9 .skip (.exit 0)) [0,1,7,8] (jq (.block 1 (jq (jr [om 10 8,om 5 10]) [0,1,5,7,8] (jq (jr [om 11 1,om 12 0,om 13 5,jx 14 1 12 13,ol 15 1 14,oo 16 (.callV (.s 11) [.s 15])]) [0,1,5,7,8,16] (jC 16 (jq (jr [om 17 5,om 4 17]) [4] .ret) .skip)))) [0,1,7,8] (jr [jb 18 .add 8 1,om 8 18])))))) [] (jq (jr [oo 4 (.mov (.c (.int .i64 (-1))))]) [4] .ret))⟩
def tf82 : TFn := ⟨9,[.tmp 2],jq (jr [jv 2 jf]) [0] (jq (jr [om 3 0,jb 4 .geq 3 0,om 5 4,jT 6 5 0,jY 7 5 .leq 6 9999,jp 8 5 7,om 2 8]) [2] .ret)⟩
def tf83 : TFn := ⟨48,[.tmp 4],jq (jr [jv 4 jf]) [0,1] (jq (jq (jr [om 9 0,oo 10 (.bin .eql false (.s 9) (.c (.str [])))]) [0,1,10] (jC 10 (jq (jr [oo 4 (.mov (.c (.bool true)))]) [4] .ret) .skip)) [0,1] (jq (jr [om 11 0,jc 12 103 [.s 11,(.c (.int .u8 46))],om 5 12]) [1,5] (jq (jq (jr [om 13 5,jn 14 13,jb 15 .gtr 14 4]) [1,5,15] (jC 15 (jq (jr [jv 4 jf]) [4] .ret) .skip)) [1,5] (jq (jq (jr [jw 6 0]) [1,5,6] (jk 0 (jq (jq (jr [om 16 6,om 17 5,jn 18 17,jB 19 .lss 16 18]) [1,5,6,19] (jC 19 .skip (.exit 0))) [1,5,6] (jq (.block 1 (jq (jq (jr [om 22 5,om 23 6,jx 24 1 22 23,ol 25 1 24,jc 26 104 [.s 25],oo 27 (.un .not (.s 26))]) [1,5,6,27] (jC 27 (jq (jr [jv 4 jf]) [4] .ret) .skip)) [1,5,6] (jq (jr [om 29 5,om 30 6,jx 31 1 29 30,ol 32 1 31,jc 33 105 [.s 32],om 28 33,oe 34 0 28,oe 35 1 28,om 7 34,om 8 35]) [1,5,6,8] (jq (jr [om 36 1,om 37 36,jT 38 37 5,jT 39 37 6,oT 40 37 (.indexAddr 1 (.s 38) (.s 39)),jl 41 37 1 40,oT 42 37 (.call 106 [.s 41]),jp 43 37 42,om 44 43,jT 45 44 8,oT 46 44 (.un .not (.s 45)),jp 47 44 46]) [1,5,6,47] (jC 47 (jq (jr [jv 4 jf]) [4] .ret) .skip))))) [1,5,6] (jr [om 20 6,jb 21 .add 20 1,om 6 21]))))) [] (jq (jr [oo 4 (.mov (.c (.bool true)))]) [4] .ret)))))⟩
def tf84 : TFn := ⟨5,[.cell 2 true 5],jq (jr [jo 1 58 0,oo 2 (.alloc 58 [(.int .i64 0),(.int .i64 0),(.int .i64 0),(.str []),(.str [])])]) [1,2] (jq (jr [oA 3 4 1,⟨none,.store 1 (.s 3) (.c (.str [])),none⟩]) [1,2] (jq (jr [oL 4 5 1,jS 5 2 4]) [2] .ret))⟩
def tf85 : TFn := ⟨16,[.tmp 2],jq (jr [jo 1 58 0,jv 2 jf]) [1] (jq (jr [oA 3 0 1,ol 4 1 3,jb 5 .eql 4 0,om 6 5,jA 7 6 1 1,jl 8 6 1 7,jY 9 6 .eql 8 0,jp 10 6 9,om 11 10,jA 12 11 2 1,jl 13 11 1 12,jY 14 11 .eql 13 0,jp 15 11 14,om 2 15]) [2] .ret)⟩
def tf86 : TFn := ⟨2,[.cell 0 true 7],jq (jr [oo 0 (.alloc 102 [(.int .i64 0),(.int .i64 0),(.int .i64 0),(.int .i64 0),(.str []),(.str []),(.bool false)])]) [0] (jq (jr [oo 1 (.build [(.int .i64 0),(.int .i64 0),(.int .i64 0),(.int .i64 0),(.str []),(.str []),(.bool false)] [(0,1,(.c (.int .i64 (-1))))]),jS 7 0 1]) [0] .ret)⟩
def tf87 : TFn := ⟨34,[.cell 2 true 5,.tmp 3],jq (jr [jo 1 58 0,oo 2 (.alloc 58 [(.int .i64 0),(.int .i64 0),(.int .i64 0),(.str []),(.str [])]),jv 3 jf]) [1,2] (jq (jq (jr [oL 7 5 1,jc 8 60 [.s 7],oo 9 (.un .not (.s 8))]) [1,2,9] (jC 9 (jq (jr [oo 10 (.build [(.int .i64 0),(.int .i64 0),(.int .i64 0),(.str []),(.str [])] []),jS 5 2 10,jv 3 jf]) [2,3] .ret) .skip)) [1,2] (jq (jq (jr [oA 11 3 1,ol 12 1 11,oo 13 (.bin .neq false (.s 12) (.c (.str [])))]) [1,2,13] (jC 13 (jq (jr [oA 14 0 1,ol 15 1 14,oA 16 1 1,ol 17 1 16,oA 18 2 1,ol 19 1 18,oo 20 (.build [(.int .i64 0),(.int .i64 0),(.int .i64 0),(.str []),(.str [])] [(0,1,(.s 15)),(1,1,(.s 17)),(2,1,(.s 19))]),jS 5 2 20,oo 3 (.mov (.c (.bool true)))]) [2,3] .ret) .skip)) [1,2] (jq (jq (jr [jw 4 2]) [1,2,4] (jk 0 (jq (jq (jr [om 21 4,jb 22 .geq 21 0]) [1,2,4,22] (jC 22 .skip (.exit 0))) [1,2,4] (jq (.block 1 (jq (jr [oL 26 5 1,om 27 4,jc 28 107 [.s 26,.s 27],om 25 28,oe 29 0 25,oe 30 1 25,oo 5 (.alloc 58 [(.int .i64 0),(.int .i64 0),(.int .i64 0),(.str []),(.str [])]),jS 5 5 29,om 6 30]) [1,2,4,5,6] (jq (jr [om 31 6]) [1,2,4,5,31] (jC 31 (jq (jr [oL 32 5 5,jS 5 2 32,oo 3 (.mov (.c (.bool true)))]) [2,3] .ret) .skip)))) [1,2,4] (jr [om 23 4,jb 24 .sub 23 1,om 4 24]))))) [2] (jq (jr [oo 33 (.build [(.int .i64 0),(.int .i64 0),(.int .i64 0),(.str []),(.str [])] []),jS 5 2 33,jv 3 jf]) [2,3] .ret))))⟩
def tf88 : TFn := ⟨2,[.cell 0 true 7],jq (jr [oo 0 (.alloc 102 [(.int .i64 0),(.int .i64 0),(.int .i64 0),(.int .i64 0),(.str []),(.str []),(.bool false)])]) [0] (jq (jr [oo 1 (.build [(.int .i64 0),(.int .i64 0),(.int .i64 0),(.int .i64 0),(.str []),(.str []),(.bool false)] [(0,1,(jI 1))]),jS 7 0 1]) [0] .ret)⟩
def tf89 : TFn := ⟨25,[.cell 4 true 2],jq (jr [jo 2 78 0,jo 3 78 1,oo 4 (.alloc 78 [(.fsl []),(.fsl [])])]) [2,3,4] (jq (jq (jr [oL 5 2 2,jc 6 108 [.s 5],oo 7 (.un .not (.s 6)),om 8 7,jM 9 8 2 3,oF 10 8 (.call 108 [.s 9]),oF 11 8 (.un .not (.s 10)),oo 12 (.pick (.s 8) (.c (.bool true)) (.s 11))]) [2,3,4,12] (jC 12 (jq (jr [jc 13 61 [],jS 2 4 13]) [4] .ret) .skip)) [2,3,4] (jq (jR [oA 14 0 2,ol 15 1 14,oA 16 0 3,ol 17 1 16,jc 18 109 [.s 15,.s 17],oA 19 1 2,ol 20 1 19,oA 21 1 3,ol 22 1 21,jc 23 109 [.s 20,.s 22],oo 24 (.build [(.fsl []),(.fsl [])] [(0,1,(.s 18)),(1,1,(.s 23))]),jS 2 4 24]) [4] .ret))⟩
def tf90 : TFn := ⟨4,[.cell 0 true 2],jq (jr [oo 0 (.alloc 78 [(.fsl []),(.fsl [])])]) [0] (jq (jr [jc 1 110 [],jc 2 110 [],oo 3 (.build [(.fsl []),(.fsl [])] [(0,1,(.s 1)),(1,1,(.s 2))]),jS 2 0 3]) [0] .ret)⟩
def tf91 : TFn := ⟨14,[.cell 2 true 2],jq (jr [jo 1 78 0,oo 2 (.alloc 78 [(.fsl []),(.fsl [])])]) [1,2] (jq (jq (jr [oL 3 2 1,jc 4 108 [.s 3],oo 5 (.un .not (.s 4))]) [1,2,5] (jC 5 (jq (jr [jc 6 61 [],jS 2 2 6]) [2] .ret) .skip)) [1,2] (jq (jR [oA 7 0 1,ol 8 1 7,jc 9 111 [.s 8],oA 10 1 1,ol 11 1 10,jc 12 111 [.s 11],oo 13 (.build [(.fsl []),(.fsl [])] [(0,1,(.s 9)),(1,1,(.s 12))]),jS 2 2 13]) [2] .ret))⟩
def tf92 : TFn := ⟨9,[.tmp 2],jq (jr [jv 2 jf]) [0] (jq (jr [om 3 0,jb 4 .geq 3 0,om 5 4,jT 6 5 0,jY 7 5 .leq 6 9999,jp 8 5 7,om 2 8]) [2] .ret)⟩
def tf93 : TFn := ⟨29,[.tmp 2],jq (jr [jv 2 jf]) [0] (jq (jq (jr [om 7 0,jc 8 94 [.s 7],oo 9 (.un .not (.s 8))]) [0,9] (jC 9 (jq (jr [jv 2 jf]) [2] .ret) .skip)) [0] (jq (jq (jr [om 10 0,jc 11 75 [.s 10,(.c (.int .u8 46))],jn 12 11,jw 13 0]) [11,12,13] (jk 0 (jq (jr [jB 14 .lss 13 12]) [11,12,13,14] (jq (jC 14 .skip (.exit 0)) [11,12,13] (jq (.block 1 (jq (jr [jx 15 1 11 13,ol 16 1 15,om 4 16]) [4,11,12,13] (jq (jr [om 18 4,jc 19 97 [.s 18],om 17 19,oe 20 0 17,oe 21 1 17,om 5 20,om 6 21]) [4,6,11,12,13] (jq (jr [om 22 4,jc 23 96 [.s 22],om 24 23,jT 25 24 6,oT 26 24 (.un .not (.s 25)),jp 27 24 26]) [11,12,13,27] (jC 27 (jq (jr [jv 2 jf]) [2] .ret) .skip))))) [11,12,13] (jr [jb 28 .add 13 1,om 13 28])))))) [] (jq (jr [oo 2 (.mov (.c (.bool true)))]) [2] .ret)))⟩
def tf94 : TFn := ⟨52,[.tmp 2],jq (jr [jv 2 jf]) [0] (.scope (jq (jr [om 9 0,jc 10 75 [.s 9,(.c (.int .u8 46))],om 3 10]) [3] (jq (jr [om 11 3,jn 12 11,jb 13 .leq 12 4,om 4 13]) [3,4] (.seq .skip [3,4] (jq (jq (jr [om 14 3,jn 15 14,jw 16 0]) [4,14,15,16] (jk 0 (jq (jr [jB 17 .lss 16 15]) [4,14,15,16,17] (jq (jC 17 .skip (.exit 0)) [4,14,15,16] (jq (.block 1 (jq (jr [jx 18 1 14 16,ol 19 1 18,om 6 19]) [4,6,14,15,16] (jq (jq (jr [om 20 6,oo 21 (.bin .eql false (.s 20) (.c (.str []))),om 22 21,jF 23 22 6,oF 24 22 (.lenStr (.s 23)),jy 25 22 .gtr 24 8,oo 26 (.pick (.s 22) (.c (.bool true)) (.s 25))]) [4,6,14,15,16,26] (jC 26 (jq (jr [jv 4 jf]) [4] (.exit 0)) .skip)) [4,6,14,15,16] (jq (jr [om 27 6,oo 28 (.range (.s 27))]) [4,14,15,16,28] (jk 2 (jq (jr [oo 29 (.next (.s 28)),oe 30 0 29]) [4,14,15,16,28,29,30] (jq (jC 30 .skip (.exit 2)) [4,14,15,16,28,29] (.block 3 (jq (jr [oe 31 2 29,om 8 31]) [4,8,14,15,16,28] (jq (jr [om 32 8,oo 33 (.bin .lss false (.s 32) (.c (.int .i32 97))),om 34 33,jF 35 34 8,oF 36 34 (.bin .gtr false (.s 35) (.c (.int .i32 122))),oo 37 (.pick (.s 34) (.c (.bool true)) (.s 36)),om 38 37,jT 39 38 8,oT 40 38 (.bin .lss false (.s 39) (.c (.int .i32 48))),jT 41 38 40,jF 42 41 8,oF 43 41 (.bin .gtr false (.s 42) (.c (.int .i32 57))),oT 44 38 (.pick (.s 41) (.c (.bool true)) (.s 43)),jp 45 38 44,om 46 45,jT 47 46 8,oT 48 46 (.bin .neq false (.s 47) (.c (.int .i32 45))),jp 49 46 48]) [4,14,15,16,28,49] (jC 49 (jq (jr [jv 4 jf]) [4] (.exit 0)) .skip))))))))))) [4,14,15,16] (jr [jb 50 .add 16 1,om 16 50])))))) [4] (jq (jr [om 51 4,om 2 51]) [2] .ret))))))⟩
def tf95 : TFn := ⟨6,[.tmp 2],jq (jr [jv 2 jf]) [0] (jq (jr [om 3 0,om 4 0,jB 5 .neq 3 4,om 2 5]) [2] .ret)⟩
def tf96 : TFn := ⟨22,[.tmp 2],jq (jr [jv 2 jf]) [0] (jq (jq (jr [om 4 0,oo 5 (.lenStr (.s 4)),jw 6 0]) [0,5,6] (jk 0 (jq (jr [jB 7 .lss 6 5]) [0,5,6,7] (jq (jC 7 .skip (.exit 0)) [0,5,6] (jq (.block 1 (jq (jr [om 8 6,om 3 8]) [0,3,5,6] (jq (jr [om 9 0,om 10 3,oo 11 (.indexStr (.s 9) (.s 10)),oo 12 (.bin .lss false (.s 11) (.c (.int .u8 48))),om 13 12,jF 14 13 0,jF 15 13 3,oF 16 13 (.indexStr (.s 14) (.s 15)),oF 17 13 (.bin .gtr false (.s 16) (.c (.int .u8 57))),oo 18 (.pick (.s 13) (.c (.bool true)) (.s 17))]) [0,5,6,18] (jC 18 (jq (jr [jv 2 jf]) [2] .ret) .skip)))) [0,5,6] (jr [jb 19 .add 6 1,om 6 19])))))) [0] (jq (jr [om 20 0,oo 21 (.bin .neq false (.s 20) (.c (.str []))),om 2 21]) [2] .ret))⟩
def tf97 : TFn := ⟨45,[.tmp 2,.tmp 3],jq (jr [jw 2 0,jv 3 jf]) [0] (jq (jq (jr [om 7 0,oo 8 (.bin .eql false (.s 7) (.c (.str []))),om 9 8,jF 10 9 0,oF 11 9 (.lenStr (.s 10)),jy 12 9 .gtr 11 4,oo 13 (.pick (.s 9) (.c (.bool true)) (.s 12)),om 14 13,jF 15 14 0,oF 16 14 (.indexStr (.s 15) (jI 0)),oF 17 14 (.bin .eql false (.s 16) (.c (.int .u8 48))),jF 18 14 17,jT 19 18 0,oT 20 18 (.lenStr (.s 19)),jY 21 18 .gtr 20 1,oF 22 14 (.pick (.s 18) (.s 21) jf),oo 23 (.pick (.s 14) (.c (.bool true)) (.s 22))]) [0,23] (jC 23 (jq (jr [jw 2 0,jv 3 jf]) [2,3] .ret) .skip)) [0] (jq (jr [jw 4 0]) [0,4] (jq (jq (jr [om 24 0,oo 25 (.range (.s 24))]) [4,25] (jk 0 (jq (jr [oo 26 (.next (.s 25)),oe 27 0 26]) [4,25,26,27] (jq (jC 27 .skip (.exit 0)) [4,25,26] (.block 1 (jq (jr [oe 28 2 26,om 6 28]) [4,6,25] (.block 2 (jq (jr [om 30 6,oo 31 (.bin .geq false (.s 30) (.c (.int .i32 48))),om 32 31,jT 33 32 6,oT 34 32 (.bin .leq false (.s 33) (.c (.int .i32 57))),jp 35 32 34,om 29 35]) [4,6,25,29] (jC 29 (jr [om 36 4,oo 37 (.bin .mul false (jI 10) (.s 36)),om 38 6,oo 39 (.bin .sub false (.s 38) (.c (.int .i32 48))),oo 40 (.conv .i64 (.s 39)),jB 41 .add 37 40,om 4 41]) (jq (jr [jw 2 0,jv 3 jf]) [2,3] .ret)))))))))) [4] (jq (jr [om 42 4,om 43 4,jb 44 .leq 43 9999,om 2 42,om 3 44]) [2,3] .ret))))⟩
def tf98 : TFn := ⟨20,[.tmp 4],jq (jr [jw 4 0]) [0,1] (jq (jr [om 7 0,jc 8 112 [.s 7],om 5 8]) [0,1,5] (jq (jr [om 9 1,jc 10 112 [.s 9],om 6 10]) [0,1,5,6] (jq (jq (jr [om 11 5]) [0,1,6,11] (jC 11 (jq (jq (jr [om 12 6]) [12] (jC 12 (jq (jr [jw 4 0]) [4] .ret) .skip)) [] (jq (jr [oo 4 (.mov (.c (.int .i64 (-1))))]) [4] .ret)) .skip)) [0,1,6] (jq (jq (jr [om 13 6]) [0,1,13] (jC 13 (jq (jr [jw 4 1]) [4] .ret) .skip)) [0,1] (jq (jq (jr [om 14 0,om 15 1,jB 16 .lss 14 15]) [0,1,16] (jC 16 (jq (jr [oo 4 (.mov (.c (.int .i64 (-1))))]) [4] .ret) .skip)) [0,1] (jq (jq (jr [om 17 0,om 18 1,jB 19 .gtr 17 18]) [19] (jC 19 (jq (jr [jw 4 1]) [4] .ret) .skip)) [] (jq (jr [jw 4 0]) [4] .ret)))))))⟩
def tf99 : TFn := ⟨13,[.tmp 4],jq (jr [jw 4 0]) [0,1] (jq (.block 0 (jq (jr [om 6 0,om 7 1,jB 8 .lss 6 7,om 5 8]) [0,1,5] (jC 5 (jq (jr [oo 4 (.mov (.c (.int .i64 (-1))))]) [4] .ret) (jq (jr [om 10 0,om 11 1,jB 12 .gtr 10 11,om 9 12]) [9] (jC 9 (jq (jr [jw 4 1]) [4] .ret) .skip))))) [] (jq (jr [jw 4 0]) [4] .ret))⟩
def tf100 : TFn := ⟨52,[.tmp 4],jq (jr [jw 4 0]) [0,1] (jq (.block 0 (jq (jr [om 10 0,om 11 1,jB 12 .eql 10 11,om 9 12]) [0,1,9] (jC 9 (jq (jr [jw 4 0]) [4] .ret) (jq (jr [om 14 0,oo 15 (.bin .eql false (.s 14) (.c (.str []))),om 13 15]) [0,1,13] (jC 13 (jq (jr [jw 4 1]) [4] .ret) (jq (jr [om 17 1,oo 18 (.bin .eql false (.s 17) (.c (.str []))),om 16 18]) [0,1,16] (jC 16 (jq (jr [oo 4 (.mov (.c (.int .i64 (-1))))]) [4] .ret) .skip))))))) [0,1] (jq (jr [om 19 0,jc 20 103 [.s 19,(.c (.int .u8 46))],om 21 1,jc 22 103 [.s 21,(.c (.int .u8 46))],om 5 20,om 6 22]) [5,6] (jq (jq (jr [jw 7 0]) [5,6,7] (jk 1 (jq (jq (jr [om 23 7,om 24 5,jn 25 24,jB 26 .lss 23 25,om 27 26,jT 28 27 7,jT 29 27 6,oT 30 27 (.len (.s 29)),oT 31 27 (.bin .lss false (.s 28) (.s 30)),jp 32 27 31]) [5,6,7,32] (jC 32 .skip (.exit 1))) [5,6,7] (jq (.block 2 (jq (jR [om 35 5,om 36 7,jx 37 1 35 36,ol 38 1 37,om 39 6,om 40 7,jx 41 1 39 40,ol 42 1 41,jc 43 113 [.s 38,.s 42],om 8 43]) [5,6,7,8] (jq (jr [om 44 8,jb 45 .neq 44 0]) [5,6,7,8,45] (jC 45 (jq (jr [om 46 8,om 4 46]) [4] .ret) .skip)))) [5,6,7] (jr [om 33 7,jb 34 .add 33 1,om 7 34]))))) [5,6] (jq (jr [om 47 5,jn 48 47,om 49 6,jn 50 49,jc 51 99 [.s 48,.s 50],om 4 51]) [4] .ret))))⟩
def tf101 : TFn := ⟨24,[.tmp 4],jq (jr [jo 2 65 0,jo 3 65 1,jv 4 jf]) [2,3] (jq (jr [oA 5 0 2,ol 6 1 5,oA 7 0 3,ol 8 1 7,jB 9 .lss 6 8,om 10 9,ja 11 10 0 2,jm 12 10 1 11,ja 13 10 0 3,jm 14 10 1 13,oF 15 10 (.bin .eql false (.s 12) (.s 14)),jF 16 10 15,jA 17 16 1 2,jl 18 16 1 17,jA 19 16 1 3,jl 20 16 1 19,oT 21 16 (.bin .lss false (.s 18) (.s 20)),oF 22 10 (.pick (.s 16) (.s 21) jf),oo 23 (.pick (.s 10) (.c (.bool true)) (.s 22)),om 4 23]) [4] .ret)⟩
def tf102 : TFn := ⟨53,[.tmp 4],jq (jr [jo 2 62 0,jv 4 jf]) [1,2] (jq (jq (jr [oA 7 0 2,oL 8 5 7,jc 9 60 [.s 8],oo 10 (.un .not (.s 9)),om 11 10,ja 12 11 6 2,jm 13 11 1 12,oF 14 11 (.len (.s 13)),jy 15 11 .gtr 14 24,oo 16 (.pick (.s 11) (.c (.bool true)) (.s 15)),om 17 16,ja 18 17 7 2,jm 19 17 1 18,oF 20 17 (.len (.s 19)),jy 21 17 .gtr 20 24,oo 22 (.pick (.s 17) (.c (.bool true)) (.s 21))]) [1,2,22] (jC 22 (jq (jr [jv 4 jf]) [4] .ret) .skip)) [1,2] (jq (jq (jr [jw 5 0]) [1,2,5] (jk 0 (jq (jq (jr [om 23 5,oA 24 6 2,ol 25 1 24,jn 26 25,jB 27 .lss 23 26]) [1,2,5,27] (jC 27 .skip (.exit 0))) [1,2,5] (jq (.block 1 (jq (jr [oA 30 6 2,ol 31 1 30,om 32 5,jx 33 1 31 32,ol 34 1 33,om 35 1,jc 36 114 [.s 34,.s 35],oo 37 (.un .not (.s 36))]) [1,2,5,37] (jC 37 (jq (jr [jv 4 jf]) [4] .ret) .skip))) [1,2,5] (jr [om 28 5,jb 29 .add 28 1,om 5 29]))))) [1,2] (jq (jq (jr [jw 6 0]) [1,2,6] (jk 2 (jq (jq (jr [om 38 6,oA 39 7 2,ol 40 1 39,jn 41 40,jB 42 .lss 38 41]) [1,2,6,42] (jC 42 .skip (.exit 2))) [1,2,6] (jq (.block 3 (jq (jr [oA 45 7 2,ol 46 1 45,om 47 6,jx 48 3 46 47,oL 49 3 48,om 50 1,jc 51 115 [.s 49,.s 50],oo 52 (.un .not (.s 51))]) [1,2,6,52] (jC 52 (jq (jr [jv 4 jf]) [4] .ret) .skip))) [1,2,6] (jr [om 43 6,jb 44 .add 43 1,om 6 44]))))) [] (jq (jr [oo 4 (.mov (.c (.bool true)))]) [4] .ret))))⟩
def tf103 : TFn := ⟨34,[.tmp 4],jq (jr [jv 4 je]) [0,1] (jq (jr [jv 5 je]) [0,1,5] (jq (jr [jw 6 0]) [0,1,5,6] (jq (jq (jr [jw 7 0]) [0,1,5,6,7] (jk 0 (jq (jq (jr [om 8 7,om 9 0,oo 10 (.lenStr (.s 9)),jB 11 .lss 8 10]) [0,1,5,6,7,11] (jC 11 .skip (.exit 0))) [0,1,5,6,7] (jq (.block 1 (jq (jr [om 14 0,om 15 7,oo 16 (.indexStr (.s 14) (.s 15)),om 17 1,jB 18 .eql 16 17]) [0,1,5,6,7,18] (jC 18 (jq (jr [om 19 5,om 20 0,om 21 6,om 22 7,oo 23 (.sliceStr (.s 20) (some (.s 21)) (some (.s 22))),oo 24 (.buildSlice 1 9 [.s 23]),oo 25 (.append 1 9 16 (.s 19) (.s 24)),om 5 25]) [0,1,5,7] (jr [om 26 7,jb 27 .add 26 1,om 6 27])) .skip))) [0,1,5,6,7] (jr [om 12 7,jb 13 .add 12 1,om 7 13]))))) [0,5,6] (jq (jr [om 28 5,om 29 0,om 30 6,oo 31 (.sliceStr (.s 29) (some (.s 30)) none),oo 32 (.buildSlice 1 9 [.s 31]),oo 33 (.append 1 9 16 (.s 28) (.s 32)),om 4 33]) [4] .ret))))⟩
def tf104 : TFn := ⟨40,[.tmp 2],jq (jr [jv 2 jf]) [0] (jq (jq (jr [om 5 0,oo 6 (.lenStr (.s 5)),jb 7 .lss 6 1,om 8 7,jF 9 8 0,oF 10 8 (.lenStr (.s 9)),jy 11 8 .gtr 10 8,oo 12 (.pick (.s 8) (.c (.bool true)) (.s 11))]) [0,12] (jC 12 (jq (jr [jv 2 jf]) [2] .ret) .skip)) [0] (jq (jq (jr [jw 3 0]) [0,3] (jk 0 (jq (jq (jr [om 13 3,om 14 0,oo 15 (.lenStr (.s 14)),jB 16 .lss 13 15]) [0,3,16] (jC 16 .skip (.exit 0))) [0,3] (jq (.block 1 (jq (jr [om 19 0,om 20 3,oo 21 (.indexStr (.s 19) (.s 20)),om 4 21]) [0,3,4] (jq (jr [om 22 4,oo 23 (.bin .lss false (.s 22) (.c (.int .u8 97))),om 24 23,jF 25 24 4,oF 26 24 (.bin .gtr false (.s 25) (.c (.int .u8 122))),oo 27 (.pick (.s 24) (.c (.bool true)) (.s 26)),om 28 27,jT 29 28 4,oT 30 28 (.bin .lss false (.s 29) (.c (.int .u8 48))),jT 31 28 30,jF 32 31 4,oF 33 31 (.bin .gtr false (.s 32) (.c (.int .u8 57))),oT 34 28 (.pick (.s 31) (.c (.bool true)) (.s 33)),jp 35 28 34,om 36 35,jT 37 36 4,oT 38 36 (.bin .neq false (.s 37) (.c (.int .u8 45))),jp 39 36 38]) [0,3,39] (jC 39 (jq (jr [jv 2 jf]) [2] .ret) .skip)))) [0,3] (jr [om 17 3,jb 18 .add 17 1,om 3 18]))))) [] (jq (jr [oo 2 (.mov (.c (.bool true)))]) [2] .ret)))⟩
def tf105 : TFn := ⟨46,[.tmp 2,.tmp 3],jq (jr [jw 2 0,jv 3 jf]) [0] (jq (jq (jr [om 6 0,oo 7 (.lenStr (.s 6)),jb 8 .lss 7 1,om 9 8,jF 10 9 0,oF 11 9 (.lenStr (.s 10)),jy 12 9 .gtr 11 9,oo 13 (.pick (.s 9) (.c (.bool true)) (.s 12)),om 14 13,jF 15 14 0,oF 16 14 (.lenStr (.s 15)),jy 17 14 .gtr 16 1,jF 18 14 17,jT 19 18 0,oT 20 18 (.indexStr (.s 19) (jI 0)),oT 21 18 (.bin .eql false (.s 20) (.c (.int .u8 48))),oF 22 14 (.pick (.s 18) (.s 21) jf),oo 23 (.pick (.s 14) (.c (.bool true)) (.s 22))]) [0,23] (jC 23 (jq (jr [jw 2 0,jv 3 jf]) [2,3] .ret) .skip)) [0] (jq (jr [jw 4 0]) [0,4] (jq (jq (jr [jw 5 0]) [0,4,5] (jk 0 (jq (jq (jr [om 24 5,om 25 0,oo 26 (.lenStr (.s 25)),jB 27 .lss 24 26]) [0,4,5,27] (jC 27 .skip (.exit 0))) [0,4,5] (jq (.block 1 (jq (jq (jr [om 30 0,om 31 5,oo 32 (.indexStr (.s 30) (.s 31)),jc 33 116 [.s 32],oo 34 (.un .not (.s 33))]) [0,4,5,34] (jC 34 (jq (jr [jw 2 0,jv 3 jf]) [2,3] .ret) .skip)) [0,4,5] (jr [om 35 4,jb 36 .mul 35 10,om 37 0,om 38 5,oo 39 (.indexStr (.s 37) (.s 38)),oo 40 (.bin .sub false (.s 39) (.c (.int .u8 48))),oo 41 (.conv .i64 (.s 40)),jB 42 .add 36 41,om 4 42]))) [0,4,5] (jr [om 28 5,jb 29 .add 28 1,om 5 29]))))) [4] (jq (jq (jr [om 43 4,jb 44 .gtr 43 9999]) [4,44] (jC 44 (jq (jr [jw 2 0,jv 3 jf]) [2,3] .ret) .skip)) [4] (jq (jr [om 45 4,om 2 45,oo 3 (.mov (.c (.bool true)))]) [2,3] .ret)))))⟩
def tf106 : TFn := ⟨23,[.tmp 2],jq (jr [jv 2 jf]) [0] (jq (jq (jr [jw 3 0]) [0,3] (jk 0 (jq (jq (jr [om 4 3,om 5 0,oo 6 (.lenStr (.s 5)),jB 7 .lss 4 6]) [0,3,7] (jC 7 .skip (.exit 0))) [0,3] (jq (.block 1 (jq (jr [om 10 0,om 11 3,oo 12 (.indexStr (.s 10) (.s 11)),oo 13 (.bin .lss false (.s 12) (.c (.int .u8 48))),om 14 13,jF 15 14 0,jF 16 14 3,oF 17 14 (.indexStr (.s 15) (.s 16)),oF 18 14 (.bin .gtr false (.s 17) (.c (.int .u8 57))),oo 19 (.pick (.s 14) (.c (.bool true)) (.s 18))]) [0,3,19] (jC 19 (jq (jr [jv 2 jf]) [2] .ret) .skip))) [0,3] (jr [om 8 3,jb 9 .add 8 1,om 3 9]))))) [0] (jq (jr [om 20 0,oo 21 (.lenStr (.s 20)),jb 22 .gtr 21 0,om 2 22]) [2] .ret))⟩
def tf107 : TFn := ⟨47,[.cell 4 true 5,.tmp 5],jq (jr [jo 2 58 0,oo 4 (.alloc 58 [(.int .i64 0),(.int .i64 0),(.int .i64 0),(.str []),(.str [])]),jv 5 jf]) [1,2,4] (jq (jq (jr [oL 7 5 2,jc 8 60 [.s 7],oo 9 (.un .not (.s 8)),om 10 9,jF 11 10 1,jy 12 10 .lss 11 0,oo 13 (.pick (.s 10) (.c (.bool true)) (.s 12)),om 14 13,jF 15 14 1,jy 16 14 .gtr 15 2,oo 17 (.pick (.s 14) (.c (.bool true)) (.s 16))]) [1,2,4,17] (jC 17 (jq (jr [oo 18 (.build [(.int .i64 0),(.int .i64 0),(.int .i64 0),(.str []),(.str [])] []),jS 5 4 18,jv 5 jf]) [4,5] .ret) .skip)) [1,2,4] (jq (jr [oo 6 (.alloc 58 [(.int .i64 0),(.int .i64 0),(.int .i64 0),(.str []),(.str [])])]) [1,2,4,6] (jq (jq (jr [om 19 1]) [2,4,6,19] (.block 0 (jq (jr [jb 29 .eql 19 0,om 28 29]) [2,4,6,19,28] (jC 28 (jr [oA 30 0 2,ol 31 1 30,jb 32 .add 31 1,oo 33 (.build [(.int .i64 0),(.int .i64 0),(.int .i64 0),(.str []),(.str [])] [(0,1,(.s 32))]),jS 5 6 33]) (jq (jr [jb 35 .eql 19 1,om 34 35]) [2,4,6,34] (jC 34 (jr [oA 36 0 2,ol 37 1 36,oA 38 1 2,ol 39 1 38,jb 40 .add 39 1,oo 41 (.build [(.int .i64 0),(.int .i64 0),(.int .i64 0),(.str []),(.str [])] [(0,1,(.s 37)),(1,1,(.s 40))]),jS 5 6 41]) (jr [oA 20 0 2,ol 21 1 20,oA 22 1 2,ol 23 1 22,oA 24 2 2,ol 25 1 24,jb 26 .add 25 1,oo 27 (.build [(.int .i64 0),(.int .i64 0),(.int .i64 0),(.str []),(.str [])] [(0,1,(.s 21)),(1,1,(.s 23)),(2,1,(.s 26))]),jS 5 6 27]))))))) [4,6] (jq (jq (jr [oL 42 5 6,jc 43 60 [.s 42],oo 44 (.un .not (.s 43))]) [4,6,44] (jC 44 (jq (jr [oo 45 (.build [(.int .i64 0),(.int .i64 0),(.int .i64 0),(.str []),(.str [])] []),jS 5 4 45,jv 5 jf]) [4,5] .ret) .skip)) [4,6] (jq (jr [oL 46 5 6,jS 5 4 46,oo 5 (.mov (.c (.bool true)))]) [4,5] .ret)))))⟩
def tf108 : TFn := ⟨39,[.tmp 2],jq (jr [jo 1 78 0,jv 2 jf]) [1] (jq (jq (jr [oA 4 0 1,ol 5 1 4,jc 6 117 [.s 5],oo 7 (.un .not (.s 6)),om 8 7,ja 9 8 1 1,jm 10 8 1 9,oF 11 8 (.call 117 [.s 10]),oF 12 8 (.un .not (.s 11)),oo 13 (.pick (.s 8) (.c (.bool true)) (.s 12))]) [1,13] (jC 13 (jq (jr [jv 2 jf]) [2] .ret) .skip)) [1] (jq (jq (jr [jw 3 0]) [1,3] (jk 0 (jq (jq (jr [om 14 3,oA 15 0 1,ol 16 1 15,jn 17 16,jB 18 .lss 14 17]) [1,3,18] (jC 18 .skip (.exit 0))) [1,3] (jq (.block 1 (jq (jr [oA 21 0 1,ol 22 1 21,om 23 3,jx 24 14 22 23,oA 25 0 24,oL 26 7 25,jc 27 118 [.s 26],oo 28 (.un .not (.s 27)),om 29 28,ja 30 29 0 1,jm 31 29 1 30,jF 32 29 3,oF 33 29 (.indexAddr 14 (.s 31) (.s 32)),ja 34 29 7 33,jM 35 29 7 34,oF 36 29 (.call 118 [.s 35]),oF 37 29 (.un .not (.s 36)),oo 38 (.pick (.s 29) (.c (.bool true)) (.s 37))]) [1,3,38] (jC 38 (jq (jr [jv 2 jf]) [2] .ret) .skip))) [1,3] (jr [om 19 3,jb 20 .add 19 1,om 3 20]))))) [] (jq (jr [oo 2 (.mov (.c (.bool true)))]) [2] .ret)))⟩
def tf109 : TFn := ⟨24,[.tmp 4],jq (jr [jv 4 je]) [0,1] (jq (jq (jr [om 7 0,jc 8 117 [.s 7],oo 9 (.un .not (.s 8)),om 10 9,jF 11 10 1,oF 12 10 (.call 117 [.s 11]),oF 13 10 (.un .not (.s 12)),oo 14 (.pick (.s 10) (.c (.bool true)) (.s 13))]) [0,1,14] (jC 14 (jq (jr [jv 4 je]) [4] .ret) .skip)) [0,1] (jq (jr [om 16 0,oo 17 (.append 14 105 144 je (.s 16)),om 18 1,oo 19 (.append 14 105 144 (.s 17) (.s 18)),jc 20 119 [.s 19],om 15 20,oe 21 0 15,oe 22 1 15,om 5 21,om 6 22]) [5] (jq (jr [om 23 5,om 4 23]) [4] .ret)))⟩
def tf110 : TFn := ⟨5,[.tmp 0],jq (jr [jv 0 je]) [] (jq (jr [jc 1 86 [],jc 2 88 [],oo 3 (.build [(.int .i64 0),(.int .i64 0),(.int .i64 0),(.int .i64 0),(.str []),(.str []),(.bool false),(.int .i64 0),(.int .i64 0),(.int .i64 0),(.int .i64 0),(.str []),(.str []),(.bool false)] [(0,7,(.s 1)),(7,7,(.s 2))]),oo 4 (.buildSlice 14 105 [.s 3]),om 0 4]) [0] .ret)⟩
def tf111 : TFn := ⟨42,[.tmp 2],jq (jr [jv 2 je]) [0] (jq (jq (jr [om 6 0,jc 7 117 [.s 6],oo 8 (.un .not (.s 7))]) [0,8] (jC 8 (jq (jr [jv 2 je]) [2] .ret) .skip)) [0] (jq (jr [jv 3 je]) [0,3] (jq (jr [om 9 0,jc 10 120 [.s 9],om 4 10]) [0,3,4] (jq (jq (jr [jw 5 0]) [0,3,4,5] (jk 0 (jq (jq (jr [om 11 5,jb 12 .add 11 1,om 13 4,jn 14 13,jB 15 .lss 12 14]) [0,3,4,5,15] (jC 15 .skip (.exit 0))) [0,3,4,5] (jq (.block 1 (jq (jR [om 18 0,om 19 4,om 20 5,jx 21 7 19 20,oL 22 7 21,om 23 4,om 24 5,jb 25 .add 24 1,jx 26 7 23 25,oL 27 7 26,jc 28 121 [.s 18,.s 22,.s 27],oo 29 (.un .not (.s 28))]) [0,3,4,5,29] (jC 29 (jR [om 30 3,om 31 4,om 32 5,jx 33 7 31 32,oL 34 7 33,om 35 4,om 36 5,jb 37 .add 36 1,jx 38 7 35 37,oL 39 7 38,jc 40 122 [.s 30,.s 34,.s 39],om 3 40]) .skip))) [0,3,4,5] (jr [om 16 5,jb 17 .add 16 1,om 5 17]))))) [3] (jq (jr [om 41 3,om 2 41]) [2] .ret)))))⟩
def tf112 : TFn := ⟨6,[.tmp 2],jq (jr [jv 2 jf]) [0] (jq (jr [om 3 0,om 4 0,jB 5 .neq 3 4,om 2 5]) [2] .ret)⟩
def tf113 : TFn := ⟨40,[.tmp 4],jq (jr [jw 4 0]) [0,1] (jq (jr [om 11 0,jc 12 106 [.s 11],om 13 1,jc 14 106 [.s 13],om 5 12,om 6 14]) [0,1,5,6] (jq (.block 0 (jq (jr [om 16 5,om 17 16,jT 18 17 6,jp 19 17 18,om 15 19]) [0,1,5,6,15] (jC 15 (jq (jr [om 21 0,jc 22 105 [.s 21],om 20 22,oe 23 0 20,oe 24 1 20,om 7 23,om 8 24]) [1,7] (jq (jr [om 26 1,jc 27 105 [.s 26],om 25 27,oe 28 0 25,oe 29 1 25,om 9 28,om 10 29]) [7,9] (jq (jr [om 30 7,om 31 9,jc 32 99 [.s 30,.s 31],om 4 32]) [4] .ret))) (jq (jr [om 34 5,om 33 34]) [0,1,6,33] (jC 33 (jq (jr [oo 4 (.mov (.c (.int .i64 (-1))))]) [4] .ret) (jq (jr [om 36 6,om 35 36]) [0,1,35] (jC 35 (jq (jr [jw 4 1]) [4] .ret) .skip))))))) [0,1] (jq (jr [om 37 0,om 38 1,jc 39 123 [.s 37,.s 38],om 4 39]) [4] .ret)))⟩
def tf114 : TFn := ⟨27,[.tmp 4],jq (jr [jv 4 jf]) [0,1] (jq (jq (jr [jw 5 0]) [0,1,5] (jk 0 (jq (jq (jr [om 6 5,om 7 0,jn 8 7,jB 9 .lss 6 8]) [0,1,5,9] (jC 9 .skip (.exit 0))) [0,1,5] (jq (.block 1 (jq (jr [om 12 0,om 13 5,jx 14 3 12 13,oL 15 3 14,om 16 1,jc 17 115 [.s 15,.s 16],oo 18 (.un .not (.s 17))]) [0,1,5,18] (jC 18 (jq (jr [jv 4 jf]) [4] .ret) .skip))) [0,1,5] (jr [om 10 5,jb 11 .add 10 1,om 5 11]))))) [0] (jq (jr [om 19 0,jn 20 19,jb 21 .gtr 20 0,om 22 21,jT 23 22 0,oT 24 22 (.len (.s 23)),jY 25 22 .leq 24 24,jp 26 22 25,om 4 26]) [4] .ret))⟩
def tf115 : TFn := ⟨19,[.tmp 4],jq (jr [jo 2 81 0,jv 4 jf]) [1,2] (jq (jr [oA 5 0 2,ol 6 1 5,jb 7 .gtr 6 0,om 8 7,jA 9 8 0 2,jl 10 8 1 9,jT 11 8 1,oT 12 8 (.bin .lss false (.s 10) (.s 11)),jp 13 8 12,om 14 13,jA 15 14 1 2,jL 16 14 2 15,oT 17 14 (.call 108 [.s 16]),jp 18 14 17,om 4 18]) [4] .ret)⟩
def tf116 : TFn := ⟨9,[.tmp 2],jq (jr [jv 2 jf]) [0] (jq (jr [om 3 0,oo 4 (.bin .geq false (.s 3) (.c (.int .u8 48))),om 5 4,jT 6 5 0,oT 7 5 (.bin .leq false (.s 6) (.c (.int .u8 57))),jp 8 5 7,om 2 8]) [2] .ret)⟩
def tf117 : TFn := ⟨35,[.tmp 2],jq (jr [jv 2 jf]) [0] (jq (jq (jr [jw 3 0]) [0,3] (jk 0 (jq (jq (jr [om 4 3,om 5 0,jn 6 5,jB 7 .lss 4 6]) [0,3,7] (jC 7 .skip (.exit 0))) [0,3] (jq (.block 1 (jq (jR [om 10 0,om 11 3,jx 12 14 10 11,oL 13 14 12,jc 14 124 [.s 13],oo 15 (.un .not (.s 14)),om 16 15,jF 17 16 3,jy 18 16 .gtr 17 0,jF 19 16 18,jT 20 19 0,jT 21 19 3,jY 22 19 .sub 21 1,oT 23 19 (.indexAddr 14 (.s 20) (.s 22)),jA 24 19 7 23,jL 25 19 7 24,jT 26 19 0,jT 27 19 3,oT 28 19 (.indexAddr 14 (.s 26) (.s 27)),jA 29 19 0 28,jL 30 19 7 29,oT 31 19 (.call 125 [.s 25,.s 30]),jY 32 19 .geq 31 0,oF 33 16 (.pick (.s 19) (.s 32) jf),oo 34 (.pick (.s 16) (.c (.bool true)) (.s 33))]) [0,3,34] (jC 34 (jq (jr [jv 2 jf]) [2] .ret) .skip))) [0,3] (jr [om 8 3,jb 9 .add 8 1,om 3 9]))))) [] (jq (jr [oo 2 (.mov (.c (.bool true)))]) [2] .ret))⟩
def tf118 : TFn := ⟨23,[.tmp 2],jq (jr [jo 1 102 0,jv 2 jf]) [1] (jq (jr [oA 3 0 1,ol 4 1 3,jb 5 .neq 4 0,om 6 5,ja 7 6 6 1,jm 8 6 1 7,oF 9 6 (.un .not (.s 8)),jF 10 6 9,jA 11 10 1 1,jA 12 10 3 11,jl 13 10 1 12,oT 14 10 (.bin .eql false (.s 13) (.c (.str []))),oF 15 6 (.pick (.s 10) (.s 14) jf),jF 16 6 15,jA 17 16 1 1,jL 18 16 5 17,oT 19 16 (.call 85 [.s 18]),oT 20 16 (.un .not (.s 19)),oF 21 6 (.pick (.s 16) (.s 20) jf),oo 22 (.pick (.s 6) (.c (.bool true)) (.s 21)),om 2 22]) [2] .ret)⟩
def tf119 : TFn := ⟨52,[.tmp 2,.tmp 3],jq (jr [jv 2 je,jv 3 jf]) [0] (jq (jq (jr [jw 4 0]) [0,4] (jk 0 (jq (jq (jr [om 8 4,om 9 0,jn 10 9,jB 11 .lss 8 10]) [0,4,11] (jC 11 .skip (.exit 0))) [0,4] (jq (.block 1 (jq (jr [om 14 0,om 15 4,jx 16 14 14 15,oL 17 14 16,jc 18 124 [.s 17],oo 19 (.un .not (.s 18))]) [0,4,19] (jC 19 (jq (jr [jv 2 je,jv 3 jf]) [2,3] .ret) .skip))) [0,4] (jr [om 12 4,jb 13 .add 12 1,om 4 13]))))) [0] (jq (jr [jv 5 je]) [0,5] (jq (jr [om 20 0,jc 21 120 [.s 20],om 6 21]) [0,5,6] (jq (jq (jr [jw 7 0]) [0,5,6,7] (jk 2 (jq (jq (jr [om 22 7,jb 23 .add 22 1,om 24 6,jn 25 24,jB 26 .lss 23 25]) [0,5,6,7,26] (jC 26 .skip (.exit 2))) [0,5,6,7] (jq (.block 3 (jq (jR [om 29 0,om 30 6,om 31 7,jx 32 7 30 31,oL 33 7 32,om 34 6,om 35 7,jb 36 .add 35 1,jx 37 7 34 36,oL 38 7 37,jc 39 121 [.s 29,.s 33,.s 38]]) [0,5,6,7,39] (jC 39 (jR [om 40 5,om 41 6,om 42 7,jx 43 7 41 42,oL 44 7 43,om 45 6,om 46 7,jb 47 .add 46 1,jx 48 7 45 47,oL 49 7 48,jc 50 122 [.s 40,.s 44,.s 49],om 5 50]) .skip))) [0,5,6,7] (jr [om 27 7,jb 28 .add 27 1,om 7 28]))))) [5] (jq (jr [om 51 5,om 2 51,oo 3 (.mov (.c (.bool true)))]) [2,3] .ret)))))⟩
def tf120 : TFn := ⟨28,[.tmp 2],jq (jr [jv 2 je]) [0] (jq (jr [jc 5 86 [],jc 6 88 [],oo 7 (.buildSlice 7 102 [.s 5,.s 6]),om 3 7]) [0,3] (jq (jq (jr [jw 4 0]) [0,3,4] (jk 0 (jq (jq (jr [om 8 4,om 9 0,jn 10 9,jB 11 .lss 8 10]) [0,3,4,11] (jC 11 .skip (.exit 0))) [0,3,4] (jq (.block 1 (jR [om 14 3,om 15 0,om 16 4,jx 17 14 15 16,oA 18 0 17,oL 19 7 18,jc 20 126 [.s 14,.s 19],om 21 0,om 22 4,jx 23 14 21 22,oA 24 7 23,oL 25 7 24,jc 26 126 [.s 20,.s 25],om 3 26])) [0,3,4] (jr [om 12 4,jb 13 .add 12 1,om 4 13]))))) [3] (jq (jr [om 27 3,om 2 27]) [2] .ret)))⟩
def tf121 : TFn := ⟨32,[.tmp 6],jq (jr [jo 4 102 1,jo 5 102 2,jv 6 jf]) [0,4,5] (jq (jq (jr [jw 7 0]) [0,4,5,7] (jk 0 (jq (jq (jr [om 8 7,om 9 0,jn 10 9,jB 11 .lss 8 10]) [0,4,5,7,11] (jC 11 .skip (.exit 0))) [0,4,5,7] (jq (.block 1 (jq (jR [om 14 0,om 15 7,jx 16 14 14 15,oA 17 0 16,oL 18 7 17,oL 19 7 4,jc 20 125 [.s 18,.s 19],jb 21 .leq 20 0,om 22 21,jL 23 22 7 5,jT 24 22 0,jT 25 22 7,oT 26 22 (.indexAddr 14 (.s 24) (.s 25)),jA 27 22 7 26,jL 28 22 7 27,oT 29 22 (.call 125 [.s 23,.s 28]),jY 30 22 .leq 29 0,jp 31 22 30]) [0,4,5,7,31] (jC 31 (jq (jr [oo 6 (.mov (.c (.bool true)))]) [6] .ret) .skip))) [0,4,5,7] (jr [om 12 7,jb 13 .add 12 1,om 7 13]))))) [] (jq (jr [jv 6 jf]) [6] .ret))⟩
def tf122 : TFn := ⟨35,[.tmp 6],jq (jr [jo 4 102 1,jo 5 102 2,jv 6 je]) [0,4,5] (jq (jq (jr [om 8 0,jn 9 8,jb 10 .sub 9 1,om 7 10]) [0,4,5,7] (jq (jR [om 11 7,jb 12 .geq 11 0,om 13 12,jT 14 13 0,jT 15 13 7,oT 16 13 (.indexAddr 14 (.s 14) (.s 15)),jA 17 13 7 16,jL 18 13 7 17,jL 19 13 7 4,oT 20 13 (.call 125 [.s 18,.s 19]),jY 21 13 .eql 20 0,jp 22 13 21]) [0,4,5,7,22] (jC 22 (jq (jr [om 23 0,om 24 7,oL 25 7 5,jx 26 14 23 24,oA 27 7 26,jS 7 27 25]) [0] (jq (jr [om 28 0,om 6 28]) [6] .ret)) .skip))) [0,4,5] (jq (jr [om 29 0,oL 30 7 4,oL 31 7 5,oo 32 (.build [(.int .i64 0),(.int .i64 0),(.int .i64 0),(.int .i64 0),(.str []),(.str []),(.bool false),(.int .i64 0),(.int .i64 0),(.int .i64 0),(.int .i64 0),(.str []),(.str []),(.bool false)] [(0,7,(.s 30)),(7,7,(.s 31))]),oo 33 (.buildSlice 14 105 [.s 32]),oo 34 (.append 14 105 144 (.s 29) (.s 33)),om 6 34]) [6] .ret))⟩
def tf123 : TFn := ⟨13,[.tmp 4],jq (jr [jw 4 0]) [0,1] (jq (.block 0 (jq (jr [om 6 0,om 7 1,jB 8 .lss 6 7,om 5 8]) [0,1,5] (jC 5 (jq (jr [oo 4 (.mov (.c (.int .i64 (-1))))]) [4] .ret) (jq (jr [om 10 0,om 11 1,jB 12 .gtr 10 11,om 9 12]) [9] (jC 9 (jq (jr [jw 4 1]) [4] .ret) .skip))))) [] (jq (jr [jw 4 0]) [4] .ret))⟩
def tf124 : TFn := ⟨19,[.tmp 2],jq (jr [jo 1 105 0,jv 2 jf]) [1] (jq (jr [oA 3 0 1,oL 4 7 3,jc 5 127 [.s 4],om 6 5,jA 7 6 7 1,jL 8 6 7 7,oT 9 6 (.call 127 [.s 8]),jp 10 6 9,om 11 10,jA 12 11 0 1,jL 13 11 7 12,jA 14 11 7 1,jL 15 11 7 14,oT 16 11 (.call 125 [.s 13,.s 15]),jY 17 11 .lss 16 0,jp 18 11 17,om 2 18]) [2] .ret)⟩
def tf125 : TFn := ⟨46,[.tmp 4],jq (jr [jo 2 102 0,jo 3 102 1,jw 4 0]) [2,3] (jq (jq (jr [oL 6 7 2,jc 7 127 [.s 6],oo 8 (.un .not (.s 7)),om 9 8,jM 10 9 7 3,oF 11 9 (.call 127 [.s 10]),oF 12 9 (.un .not (.s 11)),oo 13 (.pick (.s 9) (.c (.bool true)) (.s 12))]) [2,3,13] (jC 13 (jq (jr [jw 4 0]) [4] .ret) .skip)) [2,3] (jq (jq (jr [oA 14 0 2,ol 15 1 14,oA 16 0 3,ol 17 1 16,jB 18 .neq 15 17,om 19 18,ja 20 19 0 2,jm 21 19 1 20,jy 22 19 .neq 21 0,oo 23 (.pick (.s 19) (.c (.bool true)) (.s 22))]) [2,3,23] (jC 23 (jq (jr [oA 24 0 2,ol 25 1 24,oA 26 0 3,ol 27 1 26,jc 28 99 [.s 25,.s 27],om 4 28]) [4] .ret) .skip)) [2,3] (jq (jq (jr [oA 29 1 2,oL 30 5 29,oA 31 1 3,oL 32 5 31,jc 33 77 [.s 30,.s 32],om 5 33]) [2,3,5] (jq (jr [om 34 5,jb 35 .neq 34 0]) [2,3,5,35] (jC 35 (jq (jr [om 36 5,om 4 36]) [4] .ret) .skip))) [2,3] (jq (.block 0 (jq (jr [oA 38 6 2,ol 39 1 38,oA 40 6 3,ol 41 1 40,oo 42 (.bin .eql true (.s 39) (.s 41)),om 37 42]) [3,37] (jC 37 (jq (jr [jw 4 0]) [4] .ret) (jq (jr [oA 44 6 3,ol 45 1 44,om 43 45]) [43] (jC 43 (jq (jr [oo 4 (.mov (.c (.int .i64 (-1))))]) [4] .ret) .skip))))) [] (jq (jr [jw 4 1]) [4] .ret)))))⟩
def tf126 : TFn := ⟨46,[.tmp 4],jq (jr [jo 3 102 1,jv 4 je]) [0,3] (jq (jr [jw 5 0]) [0,3,5] (jq (jk 0 (jq (jq (jR [om 6 5,om 7 0,jn 8 7,jB 9 .lss 6 8,om 10 9,jT 11 10 0,jT 12 10 5,oT 13 10 (.indexAddr 7 (.s 11) (.s 12)),jL 14 10 7 13,jL 15 10 7 3,oT 16 10 (.call 125 [.s 14,.s 15]),jY 17 10 .lss 16 0,jp 18 10 17]) [0,3,5,18] (jC 18 .skip (.exit 0))) [0,3,5] (.block 1 (jr [om 19 5,jb 20 .add 19 1,om 5 20])))) [0,3,5] (jq (jq (jR [om 21 5,om 22 0,jn 23 22,jB 24 .lss 21 23,om 25 24,jT 26 25 0,jT 27 25 5,oT 28 25 (.indexAddr 7 (.s 26) (.s 27)),jL 29 25 7 28,jL 30 25 7 3,oT 31 25 (.call 125 [.s 29,.s 30]),jY 32 25 .eql 31 0,jp 33 25 32]) [0,3,5,33] (jC 33 (jq (jr [om 34 0,om 4 34]) [4] .ret) .skip)) [0,3,5] (jq (jR [om 35 0,om 36 5,oo 37 (.slice 7 (.s 35) none (some (.s 36)) none),oo 38 (.append 7 102 72 je (.s 37)),oL 39 7 3,oo 40 (.buildSlice 7 102 [.s 39]),oo 41 (.append 7 102 72 (.s 38) (.s 40)),om 42 0,om 43 5,oo 44 (.slice 7 (.s 42) (some (.s 43)) none none),oo 45 (.append 7 102 72 (.s 41) (.s 44)),om 4 45]) [4] .ret))))⟩
def tf127 : TFn := ⟨34,[.tmp 2],jq (jr [jo 1 102 0,jv 2 jf]) [1] (jq (jq (jr [oA 3 0 1,ol 4 1 3,jb 5 .eql 4 0]) [1,5] (jC 5 (jq (jr [oA 6 1 1,oL 7 5 6,jc 8 60 [.s 7],om 9 8,jA 10 9 1 1,jA 11 9 4 10,jl 12 9 1 11,oT 13 9 (.bin .eql false (.s 12) (.c (.str []))),jp 14 9 13,om 2 14]) [2] .ret) .skip)) [1] (jq (jr [oA 15 0 1,ol 16 1 15,oo 17 (.bin .eql false (.s 16) (.c (.int .i64 (-1)))),om 18 17,ja 19 18 0 1,jm 20 18 1 19,jy 21 18 .eql 20 1,oo 22 (.pick (.s 18) (.c (.bool true)) (.s 21)),om 23 22,jA 24 23 1 1,jL 25 23 5 24,oT 26 23 (.build [(.int .i64 0),(.int .i64 0),(.int .i64 0),(.str []),(.str [])] []),oT 27 23 (.eqs false [0,0,0,2,2] (.s 25) (.s 26)),jp 28 23 27,om 29 28,jA 30 29 6 1,jl 31 29 1 30,oT 32 29 (.un .not (.s 31)),jp 33 29 32,om 2 33]) [2] .ret))⟩
theorem tp5 : QF Tryz.prog Tryz.f5 = some tf5.erase := by kernel_rfl
theorem tp6 : QF Tryz.prog Tryz.f6 = some tf6.erase := by kernel_rfl
theorem tp7 : QF Tryz.prog Tryz.f7 = some tf7.erase := by kernel_rfl
theorem tp8 : QF Tryz.prog Tryz.f8 = some tf8.erase := by kernel_rfl
theorem tp9 : QF Tryz.prog Tryz.f9 = some tf9.erase := by kernel_rfl
theorem Qdb : QF Tryz.prog Tryz.f10 = some tf10.erase := by kernel_rfl
theorem Qdc : QF Tryz.prog Tryz.f11 = some tf11.erase := by kernel_rfl
theorem Qdd : QF Tryz.prog Tryz.f12 = some tf12.erase := by kernel_rfl
theorem Qde : QF Tryz.prog Tryz.f13 = some tf13.erase := by kernel_rfl
theorem Qdf : QF Tryz.prog Tryz.f14 = some tf14.erase := by kernel_rfl
theorem Qdg : QF Tryz.prog Tryz.f19 = some tf19.erase := by kernel_rfl
theorem Qdh : QF Tryz.prog Tryz.f21 = some tf21.erase := by kernel_rfl
theorem Qdi : QF Tryz.prog Tryz.f22 = some tf22.erase := by kernel_rfl
theorem Qdj : QF Tryz.prog Tryz.f24 = some tf24.erase := by kernel_rfl
theorem Qdk : QF Tryz.prog Tryz.f25 = some tf25.erase := by kernel_rfl
theorem Qdl : QF Tryz.prog Tryz.f26 = some tf26.erase := by kernel_rfl
theorem Qdm : QF Tryz.prog Tryz.f27 = some tf27.erase := by kernel_rfl
theorem Qdn : QF Tryz.prog Tryz.f28 = some tf28.erase := by kernel_rfl
theorem Qdo : QF Tryz.prog Tryz.f29 = some tf29.erase := by kernel_rfl
theorem Qdp : QF Tryz.prog Tryz.f30 = some tf30.erase := by kernel_rfl
theorem Qdq : QF Tryz.prog Tryz.f31 = some tf31.erase := by kernel_rfl
theorem Qdr : QF Tryz.prog Tryz.f32 = some tf32.erase := by kernel_rfl
theorem Qds : QF Tryz.prog Tryz.f33 = some tf33.erase := by kernel_rfl
theorem Qdt : QF Tryz.prog Tryz.f34 = some tf34.erase := by kernel_rfl
theorem Qdu : QF Tryz.prog Tryz.f35 = some tf35.erase := by kernel_rfl
theorem Qdv : QF Tryz.prog Tryz.f36 = some tf36.erase := by kernel_rfl
theorem Qdw : QF Tryz.prog Tryz.f37 = some tf37.erase := by kernel_rfl
theorem Qdx : QF Tryz.prog Tryz.f38 = some tf38.erase := by kernel_rfl
theorem Qdy : QF Tryz.prog Tryz.f39 = some tf39.erase := by kernel_rfl
theorem Qdz : QF Tryz.prog Tryz.f40 = some tf40.erase := by kernel_rfl
theorem QdA : QF Tryz.prog Tryz.f41 = some tf41.erase := by kernel_rfl
theorem QdB : QF Tryz.prog Tryz.f42 = some tf42.erase := by kernel_rfl
theorem QdC : QF Tryz.prog Tryz.f43 = some tf43.erase := by kernel_rfl
theorem QdD : QF Tryz.prog Tryz.f44 = some tf44.erase := by kernel_rfl
theorem QdE : QF Tryz.prog Tryz.f45 = some tf45.erase := by kernel_rfl
theorem QdF : QF Tryz.prog Tryz.f46 = some tf46.erase := by kernel_rfl
theorem QdG : QF Tryz.prog Tryz.f47 = some tf47.erase := by kernel_rfl
theorem QdH : QF Tryz.prog Tryz.f48 = some tf48.erase := by kernel_rfl
theorem QdI : QF Tryz.prog Tryz.f54 = some tf54.erase := by kernel_rfl
theorem QdJ : QF Tryz.prog Tryz.f55 = some tf55.erase := by kernel_rfl
theorem QdK : QF Tryz.prog Tryz.f56 = some tf56.erase := by kernel_rfl
theorem QdL : QF Tryz.prog Tryz.f57 = some tf57.erase := by kernel_rfl
theorem QdM : QF Tryz.prog Tryz.f58 = some tf58.erase := by kernel_rfl
theorem QdN : QF Tryz.prog Tryz.f59 = some tf59.erase := by kernel_rfl
theorem QdO : QF Tryz.prog Tryz.f60 = some tf60.erase := by kernel_rfl
theorem QdP : QF Tryz.prog Tryz.f61 = some tf61.erase := by kernel_rfl
theorem QdQ : QF Tryz.prog Tryz.f62 = some tf62.erase := by kernel_rfl
theorem QdR : QF Tryz.prog Tryz.f63 = some tf63.erase := by kernel_rfl
theorem QdS : QF Tryz.prog Tryz.f64 = some tf64.erase := by kernel_rfl
theorem QdT : QF Tryz.prog Tryz.f65 = some tf65.erase := by kernel_rfl
theorem QdU : QF Tryz.prog Tryz.f66 = some tf66.erase := by kernel_rfl
theorem QdV : QF Tryz.prog Tryz.f67 = some tf67.erase := by kernel_rfl
theorem QdW : QF Tryz.prog Tryz.f68 = some tf68.erase := by kernel_rfl
theorem QdX : QF Tryz.prog Tryz.f69 = some tf69.erase := by kernel_rfl
theorem QdY : QF Tryz.prog Tryz.f70 = some tf70.erase := by kernel_rfl
theorem QdZ : QF Tryz.prog Tryz.f71 = some tf71.erase := by kernel_rfl
theorem Qd0 : QF Tryz.prog Tryz.f72 = some tf72.erase := by kernel_rfl
theorem Qd1 : QF Tryz.prog Tryz.f73 = some tf73.erase := by kernel_rfl
theorem Qd2 : QF Tryz.prog Tryz.f74 = some tf74.erase := by kernel_rfl
theorem Qd3 : QF Tryz.prog Tryz.f75 = some tf75.erase := by kernel_rfl
theorem Qd4 : QF Tryz.prog Tryz.f76 = some tf76.erase := by kernel_rfl
theorem Qd5 : QF Tryz.prog Tryz.f77 = some tf77.erase := by kernel_rfl
theorem Qd6 : QF Tryz.prog Tryz.f78 = some tf78.erase := by kernel_rfl
theorem Qd7 : QF Tryz.prog Tryz.f79 = some tf79.erase := by kernel_rfl
theorem Qd8 : QF Tryz.prog Tryz.f80 = some tf80.erase := by kernel_rfl
theorem Qd9 : QF Tryz.prog Tryz.f81 = some tf81.erase := by kernel_rfl
theorem Qea : QF Tryz.prog Tryz.f82 = some tf82.erase := by kernel_rfl
theorem Qeb : QF Tryz.prog Tryz.f83 = some tf83.erase := by kernel_rfl
theorem Qec : QF Tryz.prog Tryz.f84 = some tf84.erase := by kernel_rfl
theorem Qed : QF Tryz.prog Tryz.f85 = some tf85.erase := by kernel_rfl
theorem Qee : QF Tryz.prog Tryz.f86 = some tf86.erase := by kernel_rfl
theorem Qef : QF Tryz.prog Tryz.f87 = some tf87.erase := by kernel_rfl
theorem Qeg : QF Tryz.prog Tryz.f88 = some tf88.erase := by kernel_rfl
theorem Qeh : QF Tryz.prog Tryz.f89 = some tf89.erase := by kernel_rfl
theorem Qei : QF Tryz.prog Tryz.f90 = some tf90.erase := by kernel_rfl
theorem Qej : QF Tryz.prog Tryz.f91 = some tf91.erase := by kernel_rfl
theorem Qek : QF Tryz.prog Tryz.f92 = some tf92.erase := by kernel_rfl
theorem Qel : QF Tryz.prog Tryz.f93 = some tf93.erase := by kernel_rfl
theorem Qem : QF Tryz.prog Tryz.f94 = some tf94.erase := by kernel_rfl
theorem Qen : QF Tryz.prog Tryz.f95 = some tf95.erase := by kernel_rfl
theorem Qeo : QF Tryz.prog Tryz.f96 = some tf96.erase := by kernel_rfl
theorem Qep : QF Tryz.prog Tryz.f97 = some tf97.erase := by kernel_rfl
theorem Qeq : QF Tryz.prog Tryz.f98 = some tf98.erase := by kernel_rfl
theorem Qer : QF Tryz.prog Tryz.f99 = some tf99.erase := by kernel_rfl
theorem Qcm : QF Tryz.prog Tryz.f100 = some tf100.erase := by kernel_rfl
theorem Qcn : QF Tryz.prog Tryz.f101 = some tf101.erase := by kernel_rfl
theorem Qco : QF Tryz.prog Tryz.f102 = some tf102.erase := by kernel_rfl
theorem Qcp : QF Tryz.prog Tryz.f103 = some tf103.erase := by kernel_rfl
theorem Qcq : QF Tryz.prog Tryz.f104 = some tf104.erase := by kernel_rfl
theorem Qcr : QF Tryz.prog Tryz.f105 = some tf105.erase := by kernel_rfl
theorem Qcs : QF Tryz.prog Tryz.f106 = some tf106.erase := by kernel_rfl
theorem Qct : QF Tryz.prog Tryz.f107 = some tf107.erase := by kernel_rfl
theorem Qcu : QF Tryz.prog Tryz.f108 = some tf108.erase := by kernel_rfl
theorem Qcv : QF Tryz.prog Tryz.f109 = some tf109.erase := by kernel_rfl
theorem Qcw : QF Tryz.prog Tryz.f110 = some tf110.erase := by kernel_rfl
theorem Qcx : QF Tryz.prog Tryz.f111 = some tf111.erase := by kernel_rfl
theorem Qcy : QF Tryz.prog Tryz.f112 = some tf112.erase := by kernel_rfl
theorem Qcz : QF Tryz.prog Tryz.f113 = some tf113.erase := by kernel_rfl
theorem QcA : QF Tryz.prog Tryz.f114 = some tf114.erase := by kernel_rfl
theorem QcB : QF Tryz.prog Tryz.f115 = some tf115.erase := by kernel_rfl
theorem QcC : QF Tryz.prog Tryz.f116 = some tf116.erase := by kernel_rfl
theorem QcD : QF Tryz.prog Tryz.f117 = some tf117.erase := by kernel_rfl
theorem QcE : QF Tryz.prog Tryz.f118 = some tf118.erase := by kernel_rfl
theorem QcF : QF Tryz.prog Tryz.f119 = some tf119.erase := by kernel_rfl
theorem QcG : QF Tryz.prog Tryz.f120 = some tf120.erase := by kernel_rfl
theorem QcH : QF Tryz.prog Tryz.f121 = some tf121.erase := by kernel_rfl
theorem QcI : QF Tryz.prog Tryz.f122 = some tf122.erase := by kernel_rfl
theorem QcJ : QF Tryz.prog Tryz.f123 = some tf123.erase := by kernel_rfl
theorem QcK : QF Tryz.prog Tryz.f124 = some tf124.erase := by kernel_rfl
theorem QcL : QF Tryz.prog Tryz.f125 = some tf125.erase := by kernel_rfl
theorem QcM : QF Tryz.prog Tryz.f126 = some tf126.erase := by kernel_rfl
theorem QcN : QF Tryz.prog Tryz.f127 = some tf127.erase := by kernel_rfl
theorem ZR : Tryz.prog.follows .mixedOrders = true := by kernel_rfl
end Go.Proofs
namespace M3
open Go Go.Abs
def Mk (n : Int) : Bool := decide (0 <= n) && decide (n <= 9999)
def ZW (m n : Int) : Int := if m < n then -1 else if n < m then 1 else 0
def Yq (c : UInt8) : Bool := decide (48 <= c.toNat) && decide (c.toNat <= 57)
def Y8 (s : List UInt8) : Bool := s.all Yq && !decide (s = [])
theorem Hw {s : List UInt8} {i : Nat} (h : i < s.length) (hd : Yq s[i] = false) : Y8 s = false := by
 have : s.all Yq = false := by
  rw [Bool.eq_false_iff]
  intro ha
  rw [QeF] at ha
  rw [ha _ (QeA h)] at hd
  cases hd
 rw [Y8, this]; rfl
theorem NV {s : List UInt8} {i : Nat} (hi : s.length <= i) (h : (s.take i).all Yq = true) : Y8 s = !decide (s = []) := by
 rw [QeL hi] at h
 rw [Y8, h]; rfl
def NQ (v n : Int) : Int := if v.tmod n < 0 then v.tmod n + n else v.tmod n
def Zg (l : List Int) : D := .sl (l.map fun x => [.int .i64 x])
theorem CN {v n : Int} (h : 0 < n) : 0 <= NQ v n := by
 unfold NQ
 have h1 := Int.tmod_lt_of_pos v h
 have h2 := Int.lt_tmod_of_pos v h
 split <;> omega
theorem CM {v n : Int} (h : 0 < n) : NQ v n < n := by
 unfold NQ
 have h1 := Int.tmod_lt_of_pos v h
 split <;> omega
end M3
namespace M3
open Go Go.Abs
def JR (c : Int) : List UInt8 -> List UInt8 -> List (List UInt8)
 | [], cur => [cur]
 | x :: xs, cur => if (x.toNat : Int) = c then cur :: JR c xs [] else JR c xs (cur ++ [x])
def Q9 (s : List UInt8) (c : Int) : List (List UInt8) := JR c s []
def Yg (l : List (List UInt8)) : List (List D) := l.map fun x => [.str x]
def SplitI (s : List UInt8) (c : Int) (i k : Nat) (acc : List (List UInt8)) : Prop :=
 i <= s.length /\ k <= i /\ acc.length <= i /\ Q9 s c = acc ++ JR c (s.drop i) ((s.take i).drop k)
theorem SplitI.zero {s : List UInt8} {c : Int} : SplitI s c 0 0 [] := ⟨QeH _, Nat.le_refl _, Nat.le_refl _, by simp [Q9]⟩
theorem SplitI.hit {s : List UInt8} {c : Int} {i k : Nat} {acc : List (List UInt8)} (h : SplitI s c i k acc) (hi : i < s.length) (he : ((s[i]).toNat : Int) = c) : SplitI s c (i + 1) (i + 1) (acc ++ [(s.take i).drop k]) := by
 obtain ⟨h1, h2, h3, h4⟩ := h
 refine ⟨hi, Nat.le_refl _, by simp; omega, ?_⟩
 rw [QeM hi] at h4
 simp only [JR, he, if_true] at h4
 rw [h4, List.append_assoc]
 simp
theorem SplitI.miss {s : List UInt8} {c : Int} {i k : Nat} {acc : List (List UInt8)} (h : SplitI s c i k acc) (hi : i < s.length) (he : ¬ ((s[i]).toNat : Int) = c) : SplitI s c (i + 1) k acc := by
 obtain ⟨h1, h2, h3, h4⟩ := h
 refine ⟨hi, Wa, Wa, ?_⟩
 rw [QeM hi] at h4
 simp only [JR, he, if_false] at h4
 rw [h4, List.take_succ_eq_append_getElem hi, List.drop_append_of_le_length Wi]
theorem SplitI.done {s : List UInt8} {c : Int} {i k : Nat} {acc : List (List UInt8)} (h : SplitI s c i k acc) (hi : s.length <= i) : Q9 s c = acc ++ [s.drop k] := by
 obtain ⟨h1, h2, h3, h4⟩ := h
 rw [h4, QeQ hi, QeL hi]
 rfl
end M3
namespace M3
open Go Go.Abs
def Ky (a b : List UInt8) : Int := if Op.bytesLess a b = true then -1 else if a = b then 0 else 1
def XH (c : Int) : Bool := decide (48 <= c) && decide (c <= 57)
def ZM (c : UInt8) : Bool := (decide (97 <= c.toNat) && decide (c.toNat <= 122)) || (decide (48 <= c.toNat) && decide (c.toNat <= 57)) || decide (c.toNat = 45)
def KG (s : List UInt8) : Bool := decide (1 <= s.length) && decide (s.length <= 8) && s.all ZM
def val (s : List UInt8) : Nat := s.foldl (fun n c => 10 * n + (c.toNat - 48)) 0
def Yf (s : List UInt8) : Int × Bool :=
 if s.length < 1 \/ 9 < s.length \/ (1 < s.length /\ s.head? = some 48) \/ s.all Yq = false \/ 9999 < val s then (0, false) else ((val s : Int), true)
def Mm (a b : List UInt8) : Int :=
 if Y8 a = true /\ Y8 b = true then ZW (Yf a).1 (Yf b).1
 else if Y8 a = true then -1 else if Y8 b = true then 1 else Ky a b
def Ts : List (List UInt8) -> List (List UInt8) -> Int
 | [], [] => 0
 | [], _ :: _ => -1
 | _ :: _, [] => 1
 | a :: l, b :: m => if Mm a b ≠ 0 then Mm a b else Ts l m
def Gb (a b : List UInt8) : Int := if a = b then 0 else if a = [] then 1 else if b = [] then -1 else Ts (Q9 a 46) (Q9 b 46)
def HL (pre : Bool) (t : List UInt8) : Bool := KG t && !(pre && Y8 t && !(Yf t).2)
def JO (s : List UInt8) (pre : Bool) : Bool := decide (s = []) || (decide ((Q9 s 46).length <= 4) && (Q9 s 46).all (HL pre))
def JT (a b c : Int) (p q : List UInt8) : Bool := Mk a && Mk b && Mk c && JO p true && JO q false
def Ht (a b c : Int) (p q : List UInt8) (a' b' c' : Int) (p' q' : List UInt8) : Int :=
 if JT a b c p q = false \/ JT a' b' c' p' q' = false then 0
 else if ZW a a' ≠ 0 then ZW a a' else if ZW b b' ≠ 0 then ZW b b' else if ZW c c' ≠ 0 then ZW c c' else Gb p p'
theorem Yj {α : Type} {s : List α} {p : α -> Bool} {i : Nat} (h : i < s.length) (hd : p s[i] = false) : s.all p = false := by
 rw [Bool.eq_false_iff]
 intro ha
 rw [QeF] at ha
 rw [ha _ (QeA h)] at hd
 cases hd
theorem Xb {α : Type} {s : List α} {p : α -> Bool} {i : Nat} (hi : s.length <= i) (h : (s.take i).all p = true) : s.all p = true := by rwa [QeL hi] at h
theorem F2 {s : List UInt8} {i : Nat} (h : i < s.length) : val (s.take (i + 1)) = 10 * val (s.take i) + (s[i].toNat - 48) := by
 rw [List.take_succ_eq_append_getElem h]; simp only [val, List.foldl_append, List.foldl_cons, List.foldl_nil]
theorem DS : ∀ {s : List UInt8}, s.all Yq = true -> val s < 10 ^ s.length := by
 intro s
 rw [<- List.reverse_reverse s]
 generalize s.reverse = r
 induction r with
 | nil => intro _; decide
 | cons c r ih =>
  intro h
  rw [List.reverse_cons, List.all_append, Qez] at h
  have h1 := ih h.1
  have h2 : Yq c = true := by simpa using h.2
  simp only [Yq, Qez, decide_eq_true_eq] at h2
  rw [List.reverse_cons]
  simp only [val, List.foldl_append, List.foldl_cons, List.foldl_nil, List.length_append, List.length_cons, List.length_nil] at h1 ⊢
  rw [Nat.pow_succ]
  omega
theorem RC {l m : List (List UInt8)} {i : Nat} (h1 : i < l.length) (h2 : i < m.length) (h : Mm l[i] m[i] = 0) : Ts (l.drop i) (m.drop i) = Ts (l.drop (i + 1)) (m.drop (i + 1)) := by
 rw [QeM h1, QeM h2]
 simp [Ts, h]
theorem Yw {l m : List (List UInt8)} {i : Nat} (h1 : i < l.length) (h2 : i < m.length) (h : Mm l[i] m[i] ≠ 0) : Ts (l.drop i) (m.drop i) = Mm l[i] m[i] := by
 rw [QeM h1, QeM h2]
 simp [Ts, h]
theorem Yv {l m : List (List UInt8)} {i : Nat} (hl : i <= l.length) (hm : i <= m.length) (h : l.length <= i \/ m.length <= i) : Ts (l.drop i) (m.drop i) = ZW l.length m.length := by
 rcases QeT i l.length with h1 | h1 <;> rcases QeT i m.length with h2 | h2
 ·omega
 ·rw [QeM h1, QeQ h2]
  simp only [Ts, ZW]
  rw [if_neg Wa, if_pos Wa]
 ·rw [QeM h2, QeQ h1]
  simp only [Ts, ZW]
  rw [if_pos Wa]
 ·rw [QeQ h1, QeQ h2]
  simp only [Ts, ZW]
  rw [if_neg Wa, if_neg Wa]
end M3
namespace M3
end M3
namespace M3
theorem Qbd {s : List UInt8} (h : 0 < s.length) (e : ((s[0]).toNat : Int) = 48) : s.head? = some 48 := by
 cases s with
 | nil => simp at h
 | cons x r =>
  simp only [List.getElem_cons_zero] at e
  have : x = 48 := UInt8.toNat_inj.1 (by simpa using (by omega : x.toNat = 48))
  simp [this]
theorem Ph {s : List UInt8} (h : 0 < s.length) (e : ¬ ((s[0]).toNat : Int) = 48) : s.head? ≠ some 48 := by
 cases s with
 | nil => simp at h
 | cons x r =>
  simp only [List.getElem_cons_zero] at e
  intro hh
  simp at hh
  subst hh
  exact e rfl
theorem NU {s : List UInt8} {i : Nat} (h : ¬ (s.length < 1 \/ 9 < s.length \/ (1 < s.length /\ s.head? = some 48))) (hi : s.length <= i) (ha : (s.take i).all Yq = true) (hv : val (s.take i) <= 9999) : Yf s = ((val (s.take i) : Int), true) := by
 have h1 := Xb hi ha
 rw [QeL hi] at hv ⊢
 rw [Yf, if_neg]
 rintro (q | q | q | q | q)
 ·exact h (.inl q)
 ·exact h (.inr (.inl q))
 ·exact h (.inr (.inr q))
 ·rw [h1] at q; cases q
 ·omega
theorem Fp {s : List UInt8} {i : Nat} (hi : s.length <= i) (hv : 9999 < val (s.take i)) : Yf s = (0, false) := by
 rw [QeL hi] at hv
 rw [Yf, if_pos (.inr (.inr (.inr (.inr hv))))]
theorem Xn {s : List UInt8} {i : Nat} (h : i < s.length) (hd : Yq s[i] = false) : Yf s = (0, false) := by
 rw [Yf, if_pos (.inr (.inr (.inr (.inl (Yj h hd)))))]
theorem Fq {s : List UInt8} (h : s.length < 1 \/ 9 < s.length) : Yf s = (0, false) := by
 rw [Yf, if_pos (by rcases h with h | h; exact .inl h; exact .inr (.inl h))]
theorem YJ {s : List UInt8} (h : 1 < s.length) (e : ((s[0]).toNat : Int) = 48) : Yf s = (0, false) := by
 rw [Yf, if_pos (.inr (.inr (.inl ⟨h, Qbd Wa e⟩)))]
end M3
namespace M3
open Go Go.Abs
theorem Qm (l : List (List UInt8)) : (Yg l).length = l.length := by simp [Yg]
theorem Y7 {l : List (List UInt8)} {i : Nat} (h : i < l.length) : (Yg l)[((i : Nat) : Int).toNat]? = some [.str l[i]] := by simp [Yg, h]
theorem Kt {c : Int} : ∀ (s cur : List UInt8), (JR c s cur).length <= s.length + 1 /\ ∀ x ∈ JR c s cur, x.length <= s.length + cur.length
 | [], cur => by simp [JR]
 | x :: xs, cur => by
  simp only [JR]
  split
  ·obtain ⟨h1, h2⟩ := Kt (c := c) xs []
   refine ⟨by simp; omega, fun y hy => ?_⟩
   rcases Qex.1 hy with rfl | hy
   ·simp <;> omega
   ·have := h2 y hy; simp at this ⊢; omega
  ·obtain ⟨h1, h2⟩ := Kt (c := c) xs (cur ++ [x])
   refine ⟨by simp; omega, fun y hy => ?_⟩
   have := h2 y hy; simp at this ⊢; omega
theorem G0 {s : List UInt8} {c : Int} : (Q9 s c).length <= s.length + 1 := (Kt s []).1
theorem X6 {s : List UInt8} {c : Int} {i : Nat} (h : i < (Q9 s c).length) (hl : s.length <= 1000000) : ((Q9 s c)[i]).length <= 1000000 := by
 have := (Kt (c := c) s []).2 _ (QeA h)
 simp only [List.length_nil, Nat.add_zero] at this
 exact QeO this hl
end M3
namespace M3
open Go Go.Abs
theorem GN {s : List UInt8} {pre : Bool} {i : Nat} (hs : s ≠ []) (h : i < (Q9 s 46).length) (hd : HL pre (Q9 s 46)[i] = false) : JO s pre = false := by
 rw [JO, Yj h hd]; simp [hs]
theorem Hb {s : List UInt8} {pre : Bool} {i : Nat} (h4 : (Q9 s 46).length <= 4) (hi : (Q9 s 46).length <= i) (h : ((Q9 s 46).take i).all (HL pre) = true) : JO s pre = true := by
 rw [JO, Xb hi h]; simp [h4]
def Yt : List Int -> Int
 | [] => 0
 | x :: r => if x ≠ 0 then x else Yt r
theorem Ny {l : List Int} {i : Nat} (h : i < l.length) (e : ¬ l[i] = 0) : Yt (l.drop i) = l[i] := by
 rw [QeM h]; simp [Yt, e]
theorem Rk {l : List Int} {i : Nat} (h : i < l.length) (e : l[i] = 0) : Yt (l.drop i) = Yt (l.drop (i + 1)) := by
 rw [QeM h]; simp [Yt, e]
end M3
namespace M3
open Go Go.Abs
structure Cu where
 e : Int
 a : Int
 b : Int
 c : Int
 p : List UInt8
 q : List UInt8
 f : Bool
def Fm (e a b c : Int) (p q : List UInt8) (f : Bool) : Bool :=
 if e = 0 then JT a b c p q && decide (q = [])
 else (decide (e = -1) || decide (e = 1)) && (decide (a = 0) && (decide (b = 0) && (decide (c = 0) && (decide (p = []) && (decide (q = []) && true))))) && !f
def Kp (e a b c : Int) (p q : List UInt8) (f : Bool) (e' a' b' c' : Int) (p' q' : List UInt8) (f' : Bool) : Int :=
 if Fm e a b c p q f = false \/ Fm e' a' b' c' p' q' f' = false then 0
 else if e ≠ e' \/ e ≠ 0 then ZW e e'
 else if Ht a b c p q a' b' c' p' q' ≠ 0 then Ht a b c p q a' b' c' p' q'
 else if f = f' then 0 else if f' = true then -1 else 1
def Bj (e a b c : Int) (p q : List UInt8) (f : Bool) (a' b' c' : Int) (p' q' : List UInt8) : Bool :=
 if Fm e a b c p q f = false \/ JT a' b' c' p' q' = false then false
 else if e ≠ 0 then decide (e < 0)
 else decide (Ht a b c p q a' b' c' p' q' < 0) || (decide (Ht a b c p q a' b' c' p' q' = 0) && !f)
end M3
namespace M3
def Pq (e a b c : Int) (p q : List UInt8) (f : Bool) (e' a' b' c' : Int) (p' q' : List UInt8) (f' : Bool) : Bool :=
 Fm e a b c p q f && Fm e' a' b' c' p' q' f' && decide (Kp e a b c p q f e' a' b' c' p' q' f' < 0)
def Qbn (e a b c : Int) (p q : List UInt8) (f : Bool) (e' a' b' c' : Int) (p' q' : List UInt8) (f' : Bool) (x y z : Int) (r s : List UInt8) : Bool :=
 Pq e a b c p q f e' a' b' c' p' q' f' && JT x y z r s && Bj e a b c p q f x y z r s && !Bj e' a' b' c' p' q' f' x y z r s
end M3
namespace M3
open Go Go.Abs
theorem JC {s : List UInt8} (h : s = [] \/ 4 < s.length) : Yf s = (0, false) := by
 rcases h with rfl | h
 ·rfl
 ·unfold Yf
  split
  ·rfl
  ·rename_i hn
   exfalso
   apply hn
   by_cases h1 : s.head? = some 48
   ·exact .inr (.inr (.inl ⟨Wa, h1⟩))
   ·cases hd : s.all Yq with
    | false => exact .inr (.inr (.inr (.inl rfl)))
    | true =>
     refine .inr (.inr (.inr (.inr ?_)))
     cases s with
     | nil => simp at h
     | cons x r =>
      simp only [List.all_cons, Qez, Yq, decide_eq_true_eq] at hd
      simp only [List.head?_cons, Qey] at h1
      have hx : 1 <= x.toNat - 48 := by
       have : x.toNat ≠ 48 := fun e => h1 (UInt8.toNat_inj.1 (by simpa using e))
       omega
      have key : ∀ (r : List UInt8) (n : Nat), n * 10 ^ r.length <= r.foldl (fun n c => 10 * n + (c.toNat - 48)) n := by
       intro r
       induction r with
       | nil => intro n; simp
       | cons c r ih =>
        intro n
        simp only [List.foldl_cons, List.length_cons]
        refine QeO ?_ (ih _)
        rw [Nat.pow_succ, <- Nat.mul_assoc, Nat.mul_right_comm]
        exact Nat.mul_le_mul_right _ Wa
      have h2 := key r (10 * 0 + (x.toNat - 48))
      have h3 : 10 ^ 4 <= 10 ^ r.length := Nat.pow_le_pow_right Wa (by simp at h; omega)
      have h4 : 10 ^ r.length <= (10 * 0 + (x.toNat - 48)) * 10 ^ r.length := Nat.le_mul_of_pos_left _ Wa
      show 9999 < (x :: r).foldl (fun n c => 10 * n + (c.toNat - 48)) 0
      simp only [List.foldl_cons]
      omega
theorem Hd {s : List UInt8} {i : Nat} (h : ¬ (s = [] \/ 4 < s.length \/ (1 < s.length /\ s.head? = some 48))) (hi : s.length <= i) (ha : (s.take i).all Yq = true) : Yf s = ((val (s.take i) : Int), true) := by
 have h1 := Xb hi ha
 have hv := DS h1
 have h4 : s.length <= 4 := Nat.le_of_not_lt fun q => h (.inr (.inl q))
 have hp : 10 ^ s.length <= 10 ^ 4 := Nat.pow_le_pow_right Wa h4
 refine NU ?_ hi ha ?_
 ·rintro (q | q | q)
  ·exact h (.inl (List.eq_nil_of_length_eq_zero Wa))
  ·omega
  ·exact h (.inr (.inr q))
 ·rw [QeL hi]; omega
end M3
namespace M3
open Go Go.Abs
def HT (s : List UInt8) : Bool := decide ((Q9 s 46).length <= 4) && (Q9 s 46).all KG
theorem Qaf {t : List UInt8} (h0 : ¬ t = []) (h8 : t.length <= 8) (h : t.all ZM = true) : KG t = true := by
 have : 1 <= t.length := List.length_pos_iff.2 h0
 simp [KG, h, h8, this]
theorem Xl {t : List UInt8} (h : t = [] \/ 8 < t.length) : KG t = false := by
 rcases h with rfl | h
 ·rfl
 ·simp [KG]; omega
theorem Xk {t : List UInt8} (h : t.all ZM = false) : KG t = false := by simp [KG, h]
theorem ZO {s : List UInt8} {i : Nat} (h : i < (Q9 s 46).length) (hd : KG (Q9 s 46)[i] = false) : HT s = false := by
 rw [HT, Yj h hd, Bool.and_false]
theorem YS {s : List UInt8} {i : Nat} (hi : (Q9 s 46).length <= i) (h : ((Q9 s 46).take i).all KG = true) : HT s = decide ((Q9 s 46).length <= 4) := by
 rw [HT, Xb hi h, Bool.and_true]
theorem YP (s : List UInt8) : JO s false = (decide (s = []) || HT s) := by
 have : HL false = KG := by funext t; simp [HL]
 rw [JO, HT, this]
end M3
namespace M3
open Go Go.Abs
def FL (t : List UInt8) : Bool := !(Y8 t && !(Yf t).2)
def Mn (s : List UInt8) : Bool := HT s && (Q9 s 46).all FL
theorem Sy {s : List UInt8} {i : Nat} (h : i < (Q9 s 46).length) (hd : FL (Q9 s 46)[i] = false) : Mn s = false := by
 rw [Mn, Yj h hd, Bool.and_false]
theorem Pw {s : List UInt8} {i : Nat} (h1 : HT s = true) (hi : (Q9 s 46).length <= i) (h : ((Q9 s 46).take i).all FL = true) : Mn s = true := by
 rw [Mn, Xb hi h, h1]; rfl
theorem Xe (s : List UInt8) : JO s true = (decide (s = []) || Mn s) := by
 have : HL true = fun t => KG t && FL t := by funext t; simp [HL, FL]
 rw [JO, Mn, HT, this, Bool.and_assoc]
 congr 2
 induction (Q9 s 46) with
 | nil => rfl
 | cons x xs ih => simp only [List.all_cons, ih]; cases KG x <;> cases FL x <;> simp
theorem MI {a b : Int} : ZW a b = 0 ↔ a = b := by unfold ZW; (repeat' split) <;> omega
theorem Gy {a b c : Int} {p q : List UInt8} {a' b' c' : Int} {p' q' : List UInt8} (h1 : JT a b c p q = true) (h2 : JT a' b' c' p' q' = true)
  (h : (decide (a = a') && (decide (b = b') && (decide (c = c') && (decide (p = p') && (decide (([] : List UInt8) = []) && true))))) = true) : Ht a b c p q a' b' c' p' q' = 0 := by
 simp only [Qez, decide_eq_true_eq, and_true] at h
 obtain ⟨rfl, rfl, rfl, rfl⟩ := h
 have e : ∀ x, ZW x x = 0 := fun x => MI.2 rfl
 simp [Ht, h1, h2, e, Gb]
theorem Kd {a b c : Int} {p q : List UInt8} {a' b' c' : Int} {p' q' : List UInt8} (h1 : JT a b c p q = true) (h2 : JT a' b' c' p' q' = true)
  (h : ¬ Yt [ZW a a', ZW b b', ZW c c'] = 0) : Yt [ZW a a', ZW b b', ZW c c'] = Ht a b c p q a' b' c' p' q' := by
 simp only [Yt, Ht, h1, h2] at h ⊢
 simp only [Bool.true_eq_false, or_self, if_false]
 repeat' split
 all_goals first | rfl | (exfalso; simp_all)
theorem Ns {a b c : Int} {p q : List UInt8} {a' b' c' : Int} {p' q' : List UInt8} (h1 : JT a b c p q = true) (h2 : JT a' b' c' p' q' = true) (h : Yt [ZW a a', ZW b b', ZW c c'] = 0) :
  Ht a b c p q a' b' c' p' q' = Gb p p' := by
 simp only [Yt] at h
 simp only [Ht, h1, h2, Bool.true_eq_false, or_self, if_false]
 repeat' split
 all_goals first | rfl | (exfalso; simp_all)
theorem Bc {a b c : Int} {p : List UInt8} {a' b' c' : Int} {p' : List UInt8} (h : (decide (a = a') && (decide (b = b') && (decide (c = c') && (decide (p = p') && (decide (([] : List UInt8) = []) && true))))) = false)
  (h0 : Yt [ZW a a', ZW b b', ZW c c'] = 0) : p ≠ p' := by
 rintro rfl
 have e : ZW a a' = 0 /\ ZW b b' = 0 /\ ZW c c' = 0 := by
  simp only [Yt] at h0
  revert h0
  repeat' split
  all_goals simp_all
 simp only [MI] at e
 simp [e] at h
theorem X2 {a b c : Int} {p q : List UInt8} {a' b' c' : Int} {p' q' : List UInt8} (h1 : JT a b c p q = true) (h2 : JT a' b' c' p' q' = true)
  (h : (decide (a = a') && (decide (b = b') && (decide (c = c') && (decide (p = p') && (decide (([] : List UInt8) = []) && true))))) = false)
  (h0 : Yt [ZW a a', ZW b b', ZW c c'] = 0) (hp : p = []) : Ht a b c p q a' b' c' p' q' = 1 := by
 rw [Ns h1 h2 h0, Gb, if_neg (Bc h h0), if_pos hp]
theorem X3 {a b c : Int} {p q : List UInt8} {a' b' c' : Int} {p' q' : List UInt8} (h1 : JT a b c p q = true) (h2 : JT a' b' c' p' q' = true)
  (h0 : Yt [ZW a a', ZW b b', ZW c c'] = 0) (hp : ¬ p = []) (hp' : p' = []) : Ht a b c p q a' b' c' p' q' = -1 := by
 have : p ≠ p' := fun e => hp (e.trans hp')
 rw [Ns h1 h2 h0, Gb, if_neg this, if_neg hp, if_pos hp']
theorem BZ {a b c : Int} {p q : List UInt8} {a' b' c' : Int} {p' q' : List UInt8} (h1 : JT a b c p q = true) (h2 : JT a' b' c' p' q' = true)
  (h : (decide (a = a') && (decide (b = b') && (decide (c = c') && (decide (p = p') && (decide (([] : List UInt8) = []) && true))))) = false)
  (h0 : Yt [ZW a a', ZW b b', ZW c c'] = 0) (hp : ¬ p = []) (hp' : ¬ p' = []) : Ht a b c p q a' b' c' p' q' = Ts ((Q9 p 46).drop 0) ((Q9 p' 46).drop 0) := by
 rw [Ns h1 h2 h0, Gb, if_neg (Bc h h0), if_neg hp, if_neg hp']; rfl
end M3
namespace M3
open Go Go.Abs
end M3
namespace Go.Proofs
open Go Go.Abs M3
theorem JK {n : Int} : Ok Tryz.prog 92 [.int .i64 n] (.bool (Mk n)) := by
 refine Ok.ofT ZR Tryz.func92 Qek (Qev Z) ?_
 show TW _ _ tf92.body _ _
 refine Qb fun K hK => Qa Z (kc1 hK Z ?_)
 refine Qb fun K hK => Qa Z (PX Z Z (Qa Z ?_))
 refine Qv (g := 5) Z (fun h1 => ?_) (fun h1 => ?_)
 ·try rw [h1]
  try simp only [qB] at h1
  refine Qe Z (Qa Z (Qe Z (Le Z Z (Qh Z Z (Qa Z (kc1 hK Z ?_))))))
  refine Qr (Qo Z ?_)
  (repeat clear hK K); simp_all [Mk] <;> omega
 ·try rw [h1]
  try simp only [qB] at h1
  refine gn2 Z Z (Qh Z Z (Qa Z (kc1 hK Z ?_)))
  refine Qr (Qo Z ?_)
  (repeat clear hK K); simp_all [Mk] <;> omega
theorem Xi {n : Int} : Ok Tryz.prog 82 [.int .i64 n] (.bool (Mk n)) := by
 refine Ok.ofT ZR Tryz.func82 Qea (Qev Z) ?_
 show TW _ _ tf82.body _ _
 refine Qb fun K hK => Qa Z (kc1 hK Z ?_)
 refine Qb fun K hK => Qa Z (PX Z Z (Qa Z ?_))
 refine Qv (g := 5) Z (fun h1 => ?_) (fun h1 => ?_)
 ·try rw [h1]
  try simp only [qB] at h1
  refine Qe Z (Qa Z (Qe Z (Le Z Z (Qh Z Z (Qa Z (kc1 hK Z ?_))))))
  refine Qr (Qo Z ?_)
  (repeat clear hK K); simp_all [Mk] <;> omega
 ·try rw [h1]
  try simp only [qB] at h1
  refine gn2 Z Z (Qh Z Z (Qa Z (kc1 hK Z ?_)))
  refine Qr (Qo Z ?_)
  (repeat clear hK K); simp_all [Mk] <;> omega
theorem KM {n : Int} : Ok Tryz.prog 95 [.int .i64 n] (.bool false) := by
 refine Ok.ofT ZR Tryz.func95 Qen (Qev Z) ?_
 show TW _ _ tf95.body _ _
 refine Qb fun K hK => Qa Z (kc1 hK Z ?_)
 refine Qb fun K hK => mv2 Z Z (Xf Z Z (Qa Z (kc1 hK Z ?_)))
 refine Qr (Qo Z ?_)
 (repeat clear hK K); simp_all
theorem Zz {m n : Int} : Ok Tryz.prog 99 [.int .i64 m, .int .i64 n] (.int .i64 (ZW m n)) := by
 refine Ok.ofT ZR Tryz.func99 Qer (Qev Z) ?_
 show TW _ _ tf99.body _ _
 refine Qb fun K hK => Qa Z (kc2 hK Z Z ?_)
 refine QA ?_ -- 0
 refine Qy (Qb fun K hK => mv2 Z Z (Ya Z Z (Qa Z (kc3 hK Z Z Z ?_))))
 refine Qt Z (fun h1 => ?_) (fun h1 => ?_)
 ·try rw [h1]
  try simp only [qB] at h1
  refine Qb fun K hK => Qa Z (kc1 hK Z ?_)
  refine Qr (Qu (Qi (Qs Z ?_)))
  (repeat clear hK K); simp_all [ZW] <;> omega
 ·try rw [h1]
  try simp only [qB] at h1
  refine Qb fun K hK => mv2 Z Z (JS Z Z (Qa Z (kc1 hK Z ?_)))
  refine Qt Z (fun h2 => ?_) (fun h2 => ?_)
  ·try rw [h2]
   try simp only [qB] at h2
   refine Qb fun K hK => Qa Z (kc1 hK Z ?_)
   refine Qr (Qu (Qi (Qs Z ?_)))
   (repeat clear hK K); simp_all [ZW] <;> omega
  ·try rw [h2]
   try simp only [qB] at h2
   refine Qp (Qd (QY (Zj) (Qb fun K hK => Qa Z (kc1 hK Z ?_))))
   refine Qr (Qs Z ?_)
   (repeat clear hK K); simp_all [ZW] <;> omega
theorem Z3 {m n : Int} : Ok Tryz.prog 74 [.int .i64 m, .int .i64 n] (.int .i64 (ZW m n)) := by
 refine Ok.ofT ZR Tryz.func74 Qd2 (Qev Z) ?_
 show TW _ _ tf74.body _ _
 refine Qb fun K hK => Qa Z (kc2 hK Z Z ?_)
 refine Qb fun K hK => Qa Z (QC (KM) Z Z (.inr Z) (Qa Z (kc3 hK Z Z Z ?_)))
 refine Qb fun K hK => Qa Z (QC (KM) Z Z (.inr Z) (Qa Z (kc4 hK Z Z Z Z ?_)))
 refine QA ?_ -- 0
 refine Qb fun K hK => Qa Z (kc4 hK Z Z Z Z ?_)
 refine Qt Z (fun h1 => ?_) (fun h1 => ?_)
 ·try rw [h1]
  try simp only [qB] at h1
  refine QA ?_ -- 1
  refine Qb fun K hK => Qa Z (kc1 hK Z ?_)
  refine Qt Z (fun h2 => ?_) (fun h2 => ?_)
  ·try rw [h2]
   try simp only [qB] at h2
   refine Qb fun K hK => Qa Z (kc1 hK Z ?_)
   refine Qr (Qi (Qi (Qs Z ?_)))
   (repeat clear hK K); simp_all [ZW] <;> omega
  ·try rw [h2]
   try simp only [qB] at h2
   refine Qp (QY (Zj) (Qb fun K hK => Qa Z (kc1 hK Z ?_)))
   refine Qr (Qi (Qs Z ?_))
   (repeat clear hK K); simp_all [ZW] <;> omega
 ·try rw [h1]
  try simp only [qB] at h1
  refine Qp (ks3 Z Z Z ?_)
  refine QA ?_ -- 2
  refine Qb fun K hK => Qa Z (kc3 hK Z Z Z ?_)
  refine Qt Z (fun h3 => ?_) (fun h3 => ?_)
  ·try rw [h3]
   try simp only [qB] at h3
   refine Qb fun K hK => Qa Z (kc1 hK Z ?_)
   refine Qr (Qi (Qs Z ?_))
   (repeat clear hK K); simp_all [ZW] <;> omega
  ·try rw [h3]
   try simp only [qB] at h3
   refine Qp (ks2 Z Z ?_)
   refine QA ?_ -- 3
   refine Qb fun K hK => mv2 Z Z (Ya Z Z (kc3 hK Z Z Z ?_))
   refine Qt Z (fun h4 => ?_) (fun h4 => ?_)
   ·try rw [h4]
    try simp only [qB] at h4
    refine Qb fun K hK => Qa Z (kc1 hK Z ?_)
    refine Qr (Qi (Qs Z ?_))
    (repeat clear hK K); simp_all [ZW] <;> omega
   ·try rw [h4]
    try simp only [qB] at h4
    refine Qp (ks2 Z Z ?_)
    refine QA ?_ -- 4
    refine Qb fun K hK => mv2 Z Z (JS Z Z (kc1 hK Z ?_))
    refine Qt Z (fun h5 => ?_) (fun h5 => ?_)
    ·try rw [h5]
     try simp only [qB] at h5
     refine Qb fun K hK => Qa Z (kc1 hK Z ?_)
     refine Qr (Qi (Qs Z ?_))
     (repeat clear hK K); simp_all [ZW] <;> omega
    ·try rw [h5]
     try simp only [qB] at h5
     refine Qp (QY (Zj) (Qb fun K hK => Qa Z (kc1 hK Z ?_)))
     refine Qr (Qs Z ?_)
     (repeat clear hK K); simp_all [ZW] <;> omega
theorem _root_.Wo {p : Prop} (h : p := by simp [Yq]; omega) : p := h
theorem _root_.Wb {p : Prop} (h : p := by first | exact Qn (by omega) (by omega) | exact QE (by omega) (by omega) | exact QN (by omega) (by omega) | rfl) : p := h
theorem Xw {s : List UInt8} (hl : s.length <= 1000000) : Ok Tryz.prog 96 [.str s] (.bool (Y8 s)) := by
 refine Ok.ofT ZR Tryz.func96 Qeo (Qev Z) ?_
 show TW _ _ tf96.body _ _
 refine Qb fun K hK => Qa Z (kc1 hK Z ?_)
 refine QA ?_ -- 0
 refine Qb fun K hK => Qa Z (Yr Z (Qa Z (kc3 hK Z Z Z ?_)))
 refine Qy ?_
 refine Zy (ι := Nat) (fun i => ⟨[(0, .str s), (5, .int .i64 s.length), (6, .int .i64 i)], []⟩) (fun i => i <= s.length /\ (s.take i).all Yq = true) (fun i => s.length - i) 0 ?_ ?_ ?_
 ·exact QU (kp3 rfl rfl rfl)
 ·exact ⟨QeH _, rfl⟩
 intro i hI
 try dsimp only
 refine Qb fun K hK => Ya Z Z (kc4 hK Z Z Z Z ?_)
 refine QA ?_ -- 1
 refine Qt Z (fun h1 => ?_) (fun h1 => ?_)
 ·try rw [h1]
  try simp only [qB] at h1
  refine Qp (ks3 Z Z Z ?_)
  refine QA ?_ -- 2
  refine Qy (Qb fun K hK => mv2 Z Z (kc4 hK Z Z Z Z ?_))
  refine Qb fun K hK => mv2 Z Z (Yi Z Z Wa (XX Wa) (Ya Z Z (Qa Z ?_)))
  refine Qv (g := 13) Z (fun h2 => ?_) (fun h2 => ?_)
  ·try rw [h2]
   try simp only [qB] at h2
   refine gn4 Z Z Z Z (Qh Z Z (kc4 hK Z Z Z Z ?_))
   refine ZD Z (Qb fun K hK => Qa Z (kc1 hK Z ?_))
   refine Qr (Qu (Qi (Zb (Qu (Qi (Qo Z ?_))))))
   exact (Hw (i := i) Wa Wo).symm
  ·try rw [h2]
   try simp only [qB] at h2
   refine Qe Z (Qa Z (Qe Z (Qa Z (Qe Z (Yi Z Z Wa (XX Wa) (Qe Z (JS Z Z (Qh Z Z (kc4 hK Z Z Z Z ?_)))))))))
   refine Qt Z (fun h3 => ?_) (fun h3 => ?_)
   ·try rw [h3]
    try simp only [qB] at h3
    refine Qb fun K hK => Qa Z (kc1 hK Z ?_)
    refine Qr (Qu (Qi (Zb (Qu (Qi (Qo Z ?_))))))
    exact (Hw (i := i) Wa Wo).symm
   ·try rw [h3]
    try simp only [qB] at h3
    refine Qp (Qd (ks3 Z Z Z (QQ fun K hK => Q2 Z Z Wb (Qa Z (hK _ ?_)))))
    refine Qg (i + 1) ?_ ?_ ?_
    ·exact QU (kp3 rfl rfl rfl)
    ·exact ⟨Wa, Zk Wa hI.2 Wo⟩
    ·first | omega | (simp only; omega) | (dsimp only; omega)
 ·try rw [h1]
  try simp only [qB] at h1
  refine Zd (QD (Qq (Qz (ks1 Z (Qb fun K hK => Qa Z (Mb Z Z (Qa Z (kc1 hK Z ?_))))))))
  refine Qr (Qo Z ?_)
  exact (NV (i := i) Wa hI.2).symm
theorem Y0 {s : List UInt8} {c : Int} (hl : s.length <= 1000000) : Ok Tryz.prog 103 [.str s, .int .u8 c] (.sl (Yg (Q9 s c))) := by
 refine Ok.ofT ZR Tryz.func103 Qcp (Qev Z) ?_
 show TW _ _ tf103.body _ _
 refine Qb fun K hK => Qa Z (kc2 hK Z Z ?_)
 refine Qb fun K hK => Qa Z (kc3 hK Z Z Z ?_)
 refine Qb fun K hK => Qa Z (kc4 hK Z Z Z Z ?_)
 refine QA ?_ -- 0
 refine Qb fun K hK => Qa Z (kc5 hK Z Z Z Z Z ?_)
 refine Qy ?_
 refine Zy (ι := Nat × Nat × List (List UInt8)) (fun ⟨i, k, acc⟩ => ⟨[(0, .str s), (1, .int .u8 c), (5, .osl 25 acc.length), (6, .int .i64 k), (7, .int .i64 i)], [(25, ⟨Yg acc, 1, 9, true⟩)]⟩) (fun ⟨i, k, acc⟩ => SplitI s c i k acc) (fun ⟨i, k, acc⟩ => s.length - i) (0, 0, []) ?_ ?_ ?_
 ·exact le_trans (Yl 5 25 1 9 rfl rfl) (QZ (l := [0, 1, 5, 6, 7]) (lH := [25]) (kp5 rfl rfl rfl rfl rfl) (Qc rfl Ql) rfl rfl rfl)
 ·exact SplitI.zero
 intro ⟨i, k, acc⟩ hI
 have hI1 := hI.1
 have hI2 := hI.2.1
 have hI3 := hI.2.2.1
 try dsimp only
 refine QA ?_ -- 1
 refine Qb fun K hK => mv2 Z Z (Yr Z (Ya Z Z (kc6 hK Z Z Z Z Z Z ?_)))
 refine Qt Z (fun h1 => ?_) (fun h1 => ?_)
 ·try rw [h1]
  try simp only [qB] at h1
  refine Qp (ks5 Z Z Z Z Z ?_)
  refine QA ?_ -- 2
  refine Qy (Qb fun K hK => mv2 Z Z (Yi Z Z Wa (XX Wa) (Qa Z (Yz Z Z (kc6 hK Z Z Z Z Z Z ?_)))))
  refine Qt Z (fun h2 => ?_) (fun h2 => ?_)
  ·try rw [h2]
   try simp only [qB] at h2
   refine Qb fun K hK => mv2 Z Z (mv2 Z Z (Hl Z Z Z Wa Wa Wa Z (QJ Z Z (XD Z Z (fun _ h => XK Z Z Z h) Z (by simp [Yg]) Z Z Z Wi Wi (Qa Z (kc4 hK Z Z Z Z ?_))))))
   refine QQ fun K hK => Qa Z (Q2 Z Z Wb (Qa Z (hK _ ?_)))
   refine Qd (ks5 Z Z Z Z Z (QQ fun K hK => Qa Z (Q2 Z Z Wb (Qa Z (hK _ ?_)))))
   refine Qg (i + 1, i + 1, acc ++ [(s.take i).drop k]) ?_ ?_ ?_
   ·exact QZ (l := [0, 1, 5, 6, 7]) (lH := [25]) (kp5 rfl rfl rfl rfl rfl) (Qc rfl Ql) (by simp [Yg, D.scrub]) (by simp [Yg, Box.scrub]) rfl
   ·exact hI.hit Wa Wd
   ·show s.length - (i + 1) < s.length - i; omega
  ·try rw [h2]
   try simp only [qB] at h2
   refine Qp (Qd (ks5 Z Z Z Z Z (QQ fun K hK => Qa Z (Q2 Z Z Wb (Qa Z (hK _ ?_))))))
   refine Qg (i + 1, k, acc) ?_ ?_ ?_
   ·exact QZ (l := [0, 1, 5, 6, 7]) (lH := [25]) (kp5 rfl rfl rfl rfl rfl) (Qc rfl Ql) (by simp [Yg, D.scrub]) (by simp [Yg, Box.scrub]) rfl
   ·exact hI.miss Wa Wd
   ·show s.length - (i + 1) < s.length - i; omega
 ·try rw [h1]
  try simp only [qB] at h1
  refine Zd (QD (Qq (Qz (ks3 Z Z Z (Qb fun K hK => mv2 Z Z (Qa Z (Hl Z Z Z Wa Wa Wa Z (QJ Z Z (XD Z Z (fun _ h => XK Z Z Z h) Z (by simp [Yg]) Z Z Z Wi Wi ?_)))))))))
  refine Qa Z (kc1 hK Z ?_)
  refine Qr (ZP Z ?_)
  rw [hI.done Wa]; simp [XP, D.fz, D.fzS, G4, lk, D.can, D.canS, Yg]
theorem X0 {s : List UInt8} {c : Int} (hl : s.length <= 1000000) : Ok Tryz.prog 75 [.str s, .int .u8 c] (.sl (Yg (Q9 s c))) := by
 refine Ok.ofT ZR Tryz.func75 Qd3 (Qev Z) ?_
 show TW _ _ tf75.body _ _
 refine Qb fun K hK => Qa Z (kc2 hK Z Z ?_)
 refine Qb fun K hK => Qa Z (kc3 hK Z Z Z ?_)
 refine Qb fun K hK => Qa Z (kc4 hK Z Z Z Z ?_)
 refine QA ?_ -- 0
 refine Qb fun K hK => Qa Z (Yr Z (Qa Z (kc6 hK Z Z Z Z Z Z ?_)))
 refine Qy ?_
 refine Zy (ι := Nat × Nat × List (List UInt8)) (fun ⟨i, k, acc⟩ => ⟨[(0, .str s), (1, .int .u8 c), (5, .osl 24 acc.length), (6, .int .i64 k), (9, .int .i64 s.length), (10, .int .i64 i)], [(24, ⟨Yg acc, 1, 9, true⟩)]⟩) (fun ⟨i, k, acc⟩ => SplitI s c i k acc) (fun ⟨i, k, acc⟩ => s.length - i) (0, 0, []) ?_ ?_ ?_
 ·exact le_trans (Yl 5 24 1 9 rfl rfl) (QZ (l := [0, 1, 5, 6, 9, 10]) (lH := [24]) (kp6 rfl rfl rfl rfl rfl rfl) (Qc rfl Ql) rfl rfl rfl)
 ·exact SplitI.zero
 intro ⟨i, k, acc⟩ hI
 have hI1 := hI.1
 have hI2 := hI.2.1
 have hI3 := hI.2.2.1
 try dsimp only
 refine Qb fun K hK => Ya Z Z (kc7 hK Z Z Z Z Z Z Z ?_)
 refine QA ?_ -- 1
 refine Qt Z (fun h1 => ?_) (fun h1 => ?_)
 ·try rw [h1]
  try simp only [qB] at h1
  refine Qp (ks6 Z Z Z Z Z Z ?_)
  refine QA ?_ -- 2
  refine Qy (Qb fun K hK => mv2 Z Z (kc7 hK Z Z Z Z Z Z Z ?_))
  refine Qb fun K hK => mv2 Z Z (Yi Z Z Wa (XX Wa) (Qa Z (Yz Z Z (kc8 hK Z Z Z Z Z Z Z Z ?_))))
  refine Qt Z (fun h2 => ?_) (fun h2 => ?_)
  ·try rw [h2]
   try simp only [qB] at h2
   refine Qb fun K hK => mv2 Z Z (mv2 Z Z (Hl Z Z Z Wa Wa Wa Z (QJ Z Z (XD Z Z (fun _ h => XK Z Z Z h) Z (by simp [Yg]) Z Z Z Wi Wi (Qa Z (kc6 hK Z Z Z Z Z Z ?_))))))
   refine QQ fun K hK => Qa Z (Q2 Z Z Wb (Qa Z (hK _ ?_)))
   refine Qd (ks6 Z Z Z Z Z Z (QQ fun K hK => Q2 Z Z Wb (Qa Z (hK _ ?_))))
   refine Qg (i + 1, i + 1, acc ++ [(s.take i).drop k]) ?_ ?_ ?_
   ·exact QZ (l := [0, 1, 5, 6, 9, 10]) (lH := [24]) (kp6 rfl rfl rfl rfl rfl rfl) (Qc rfl Ql) (by simp [Yg, D.scrub]) (by simp [Yg, Box.scrub]) rfl
   ·exact hI.hit Wa Wd
   ·show s.length - (i + 1) < s.length - i; omega
  ·try rw [h2]
   try simp only [qB] at h2
   refine Qp (Qd (ks6 Z Z Z Z Z Z (QQ fun K hK => Q2 Z Z Wb (Qa Z (hK _ ?_)))))
   refine Qg (i + 1, k, acc) ?_ ?_ ?_
   ·exact QZ (l := [0, 1, 5, 6, 9, 10]) (lH := [24]) (kp6 rfl rfl rfl rfl rfl rfl) (Qc rfl Ql) (by simp [Yg, D.scrub]) (by simp [Yg, Box.scrub]) rfl
   ·exact hI.miss Wa Wd
   ·show s.length - (i + 1) < s.length - i; omega
 ·try rw [h1]
  try simp only [qB] at h1
  refine Zd (QD (Qq (Qz (ks3 Z Z Z (Qb fun K hK => mv2 Z Z (Qa Z (Hl Z Z Z Wa Wa Wa Z (QJ Z Z (XD Z Z (fun _ h => XK Z Z Z h) Z (by simp [Yg]) Z Z Z Wi Wi ?_)))))))))
  refine Qa Z (kc1 hK Z ?_)
  refine Qr (ZP Z ?_)
  rw [hI.done Wa]; simp [XP, D.fz, D.fzS, G4, lk, D.can, D.canS, Yg]
open Go Go.Abs M3
theorem Jv {s : List UInt8} : Ok Tryz.prog 112 [.str s] (.bool false) := by
 refine Ok.ofT ZR Tryz.func112 Qcy (Qev Z) ?_
 show TW _ _ tf112.body _ _
 refine Qb fun K hK => Qa Z (kc1 hK Z ?_)
 refine Qb fun K hK => mv2 Z Z (Mb Z Z (Qa Z (kc1 hK Z ?_)))
 refine Qr (Qo Z ?_)
 simp
theorem XQ {a b : List UInt8} : Ok Tryz.prog 98 [.str a, .str b] (.int .i64 (Ky a b)) := by
 refine Ok.ofT ZR Tryz.func98 Qeq (Qev Z) ?_
 show TW _ _ tf98.body _ _
 refine Qb fun K hK => Qa Z (kc2 hK Z Z ?_)
 refine Qb fun K hK => Qa Z (QC (Jv) Z Z (.inr Z) (Qa Z (kc3 hK Z Z Z ?_)))
 refine Qb fun K hK => Qa Z (QC (Jv) Z Z (.inr Z) (Qa Z (kc4 hK Z Z Z Z ?_)))
 refine QA ?_ -- 0
 refine Qb fun K hK => Qa Z (kc4 hK Z Z Z Z ?_)
 refine Qt Z (fun h1 => ?_) (fun h1 => ?_)
 ·try rw [h1]
  try simp only [qB] at h1
  refine QA ?_ -- 1
  refine Qb fun K hK => Qa Z (kc1 hK Z ?_)
  refine Qt Z (fun h2 => ?_) (fun h2 => ?_)
  ·try rw [h2]
   try simp only [qB] at h2
   refine Qb fun K hK => Qa Z (kc1 hK Z ?_)
   refine Qr (Qi (Qi (Qs Z ?_)))
   (repeat clear hK K); simp_all [Ky]
  ·try rw [h2]
   try simp only [qB] at h2
   refine Qp (QY (Zj) (Qb fun K hK => Qa Z (kc1 hK Z ?_)))
   refine Qr (Qi (Qs Z ?_))
   (repeat clear hK K); simp_all [Ky]
 ·try rw [h1]
  try simp only [qB] at h1
  refine Qp (ks3 Z Z Z ?_)
  refine QA ?_ -- 2
  refine Qb fun K hK => Qa Z (kc3 hK Z Z Z ?_)
  refine Qt Z (fun h3 => ?_) (fun h3 => ?_)
  ·try rw [h3]
   try simp only [qB] at h3
   refine Qb fun K hK => Qa Z (kc1 hK Z ?_)
   refine Qr (Qi (Qs Z ?_))
   (repeat clear hK K); simp_all [Ky]
  ·try rw [h3]
   try simp only [qB] at h3
   refine Qp (ks2 Z Z ?_)
   refine QA ?_ -- 3
   refine Qb fun K hK => mv2 Z Z (D7 Z Z (kc3 hK Z Z Z ?_))
   refine Qt Z (fun h4 => ?_) (fun h4 => ?_)
   ·try rw [h4]
    try simp only [qB] at h4
    refine Qb fun K hK => Qa Z (kc1 hK Z ?_)
    refine Qr (Qi (Qs Z ?_))
    (repeat clear hK K); simp_all [Ky]
   ·try rw [h4]
    try simp only [qB] at h4
    refine Qp (ks2 Z Z ?_)
    refine QA ?_ -- 4
    refine Qb fun K hK => mv2 Z Z (QaU Z Z (kc1 hK Z ?_))
    refine Qt Z (fun h5 => ?_) (fun h5 => ?_)
    ·try rw [h5]
     try simp only [qB] at h5
     refine Qb fun K hK => Qa Z (kc1 hK Z ?_)
     refine Qr (Qi (Qs Z ?_))
     (repeat clear hK K); simp_all [Ky]
    ·try rw [h5]
     try simp only [qB] at h5
     refine Qp (QY (Zj) (Qb fun K hK => Qa Z (kc1 hK Z ?_)))
     refine Qr (Qs Z ?_)
     (repeat clear hK K); simp_all [Ky]
theorem HI {a b : List UInt8} : Ok Tryz.prog 123 [.str a, .str b] (.int .i64 (Ky a b)) := by
 refine Ok.ofT ZR Tryz.func123 QcJ (Qev Z) ?_
 show TW _ _ tf123.body _ _
 refine Qb fun K hK => Qa Z (kc2 hK Z Z ?_)
 refine QA ?_ -- 0
 refine Qy (Qb fun K hK => mv2 Z Z (D7 Z Z (Qa Z (kc3 hK Z Z Z ?_))))
 refine Qt Z (fun h1 => ?_) (fun h1 => ?_)
 ·try rw [h1]
  try simp only [qB] at h1
  refine Qb fun K hK => Qa Z (kc1 hK Z ?_)
  refine Qr (Qu (Qi (Qs Z ?_)))
  (repeat clear hK K); simp_all [Ky]
 ·try rw [h1]
  try simp only [qB] at h1
  refine Qb fun K hK => mv2 Z Z (QaU Z Z (Qa Z (kc1 hK Z ?_)))
  refine Qt Z (fun h2 => ?_) (fun h2 => ?_)
  ·try rw [h2]
   try simp only [qB] at h2
   refine Qb fun K hK => Qa Z (kc1 hK Z ?_)
   refine Qr (Qu (Qi (Qs Z ?_)))
   (repeat clear hK K); simp_all [Ky]
  ·try rw [h2]
   try simp only [qB] at h2
   refine Qp (Qd (QY (Zj) (Qb fun K hK => Qa Z (kc1 hK Z ?_))))
   refine Qr (Qs Z ?_)
   (repeat clear hK K); simp_all [Ky]
theorem HH {c : Int} : Ok Tryz.prog 116 [.int .u8 c] (.bool (XH c)) := by
 refine Ok.ofT ZR Tryz.func116 QcC (Qev Z) ?_
 show TW _ _ tf116.body _ _
 refine Qb fun K hK => Qa Z (kc1 hK Z ?_)
 refine Qb fun K hK => Qa Z (PX Z Z (Qa Z ?_))
 refine Qv (g := 5) Z (fun h1 => ?_) (fun h1 => ?_)
 ·try rw [h1]
  try simp only [qB] at h1
  refine Qe Z (Qa Z (Qe Z (Le Z Z (Qh Z Z (Qa Z (kc1 hK Z ?_))))))
  refine Qr (Qo Z ?_)
  (repeat clear hK K); simp_all [XH] <;> omega
 ·try rw [h1]
  try simp only [qB] at h1
  refine gn2 Z Z (Qh Z Z (Qa Z (kc1 hK Z ?_)))
  refine Qr (Qo Z ?_)
  (repeat clear hK K); simp_all [XH] <;> omega
theorem YF {s : List UInt8} (hl : s.length <= 1000000) : Ok Tryz.prog 106 [.str s] (.bool (Y8 s)) := by
 refine Ok.ofT ZR Tryz.func106 Qcs (Qev Z) ?_
 show TW _ _ tf106.body _ _
 refine Qb fun K hK => Qa Z (kc1 hK Z ?_)
 refine QA ?_ -- 0
 refine Qb fun K hK => Qa Z (kc2 hK Z Z ?_)
 refine Qy ?_
 refine Zy (ι := Nat) (fun i => ⟨[(0, .str s), (3, .int .i64 i)], []⟩) (fun i => i <= s.length /\ (s.take i).all Yq = true) (fun i => s.length - i) 0 ?_ ?_ ?_
 ·exact QU (kp2 rfl rfl)
 ·exact ⟨QeH _, rfl⟩
 intro i hI
 try dsimp only
 refine QA ?_ -- 1
 refine Qb fun K hK => mv2 Z Z (Yr Z (Ya Z Z (kc3 hK Z Z Z ?_)))
 refine Qt Z (fun h1 => ?_) (fun h1 => ?_)
 ·try rw [h1]
  try simp only [qB] at h1
  refine Qp (ks2 Z Z ?_)
  refine QA ?_ -- 2
  refine Qy (Qb fun K hK => mv2 Z Z (Yi Z Z Wa (XX Wa) (Ya Z Z (Qa Z ?_))))
  refine Qv (g := 14) Z (fun h2 => ?_) (fun h2 => ?_)
  ·try rw [h2]
   try simp only [qB] at h2
   refine gn4 Z Z Z Z (Qh Z Z (kc3 hK Z Z Z ?_))
   refine ZD Z (Qb fun K hK => Qa Z (kc1 hK Z ?_))
   refine Qr (Qu (Qi (Zb (Qu (Qi (Qo Z ?_))))))
   exact (Hw (i := i) Wa Wo).symm
  ·try rw [h2]
   try simp only [qB] at h2
   refine Qe Z (Qa Z (Qe Z (Qa Z (Qe Z (Yi Z Z Wa (XX Wa) (Qe Z (JS Z Z (Qh Z Z (kc3 hK Z Z Z ?_)))))))))
   refine Qt Z (fun h3 => ?_) (fun h3 => ?_)
   ·try rw [h3]
    try simp only [qB] at h3
    refine Qb fun K hK => Qa Z (kc1 hK Z ?_)
    refine Qr (Qu (Qi (Zb (Qu (Qi (Qo Z ?_))))))
    exact (Hw (i := i) Wa Wo).symm
   ·try rw [h3]
    try simp only [qB] at h3
    refine Qp (Qd (ks2 Z Z (QQ fun K hK => Qa Z (Q2 Z Z Wb (Qa Z (hK _ ?_))))))
    refine Qg (i + 1) ?_ ?_ ?_
    ·exact QU (kp2 rfl rfl)
    ·exact ⟨Wa, Zk Wa hI.2 Wo⟩
    ·first | omega | (simp only; omega) | (dsimp only; omega)
 ·try rw [h1]
  try simp only [qB] at h1
  refine Zd (QD (Qq (Qz (ks1 Z (Qb fun K hK => Qa Z (Yr Z (JS Z Z (Qa Z (kc1 hK Z ?_)))))))))
  refine Qr (Qo Z ?_)
  rw [NV (i := i) Wa hI.2]; cases s <;> simp
theorem _root_.Wn {p : Prop} (h : p := by simp [ZM]; omega) : p := h
theorem Gr {s : List UInt8} (hl : s.length <= 1000000) : Ok Tryz.prog 104 [.str s] (.bool (KG s)) := by
 refine Ok.ofT ZR Tryz.func104 Qcq (Qev Z) ?_
 show TW _ _ tf104.body _ _
 refine Qb fun K hK => Qa Z (kc1 hK Z ?_)
 refine QA ?_ -- 0
 refine Qb fun K hK => Qa Z (Yr Z (Ya Z Z (Qa Z ?_)))
 refine Qv (g := 8) Z (fun h1 => ?_) (fun h1 => ?_)
 ·try rw [h1]
  try simp only [qB] at h1
  refine gn3 Z Z Z (Qh Z Z (kc2 hK Z Z ?_))
  refine ZD Z (Qb fun K hK => Qa Z (kc1 hK Z ?_))
  refine Qr (Qi (Qo Z ?_))
  first | (have hz := Xb (p := ZM) (s := s) (i := i) Wa hI.2; simp [KG, hz]; omega) | (have hz := Yj (p := ZM) (s := s) (i := i) Wa Wn; simp [KG, hz]; done) | (simp [KG]; omega)
 ·try rw [h1]
  try simp only [qB] at h1
  refine Qe Z (Qa Z (Qe Z (Yr Z (Qe Z (JS Z Z (Qh Z Z (kc2 hK Z Z ?_)))))))
  refine Qt Z (fun h2 => ?_) (fun h2 => ?_)
  ·try rw [h2]
   try simp only [qB] at h2
   refine Qb fun K hK => Qa Z (kc1 hK Z ?_)
   refine Qr (Qi (Qo Z ?_))
   first | (have hz := Xb (p := ZM) (s := s) (i := i) Wa hI.2; simp [KG, hz]; omega) | (have hz := Yj (p := ZM) (s := s) (i := i) Wa Wn; simp [KG, hz]; done) | (simp [KG]; omega)
  ·try rw [h2]
   try simp only [qB] at h2
   refine Qp (ks1 Z ?_)
   refine QA ?_ -- 1
   refine Qb fun K hK => Qa Z (kc2 hK Z Z ?_)
   refine Qy ?_
   refine Zy (ι := Nat) (fun i => ⟨[(0, .str s), (3, .int .i64 i)], []⟩) (fun i => i <= s.length /\ (s.take i).all ZM = true) (fun i => s.length - i) 0 ?_ ?_ ?_
   ·exact QU (kp2 rfl rfl)
   ·exact ⟨QeH _, rfl⟩
   intro i hI
   try dsimp only
   refine QA ?_ -- 2
   refine Qb fun K hK => mv2 Z Z (Yr Z (Ya Z Z (kc3 hK Z Z Z ?_)))
   refine Qt Z (fun h3 => ?_) (fun h3 => ?_)
   ·try rw [h3]
    try simp only [qB] at h3
    refine Qp (ks2 Z Z ?_)
    refine QA ?_ -- 3
    refine Qy (Qb fun K hK => mv2 Z Z (Yi Z Z Wa (XX Wa) (Qa Z (kc3 hK Z Z Z ?_))))
    refine Qb fun K hK => Qa Z (Ya Z Z (Qa Z ?_))
    refine Qv (g := 24) Z (fun h4 => ?_) (fun h4 => ?_)
    ·try rw [h4]
     try simp only [qB] at h4
     refine gn2 Z Z (Qh Z Z (Qa Z (Qe Z (Qa Z (Qe Z (Ya Z Z (Qe Z (Qa Z ?_))))))))
     refine Qv (g := 31) Z (fun h5 => ?_) (fun h5 => ?_)
     ·try rw [h5]
      try simp only [qB] at h5
      refine gn2 Z Z (Qe Z (Qh Z Z (Qh Z Z (Qa Z (Qe Z (Qa Z (Qe Z (Xf Z Z (Qh Z Z (kc3 hK Z Z Z ?_))))))))))
      refine Qt Z (fun h6 => ?_) (fun h6 => ?_)
      ·try rw [h6]
       try simp only [qB] at h6
       refine Qb fun K hK => Qa Z (kc1 hK Z ?_)
       refine Qr (Qu (Qi (Zb (Qu (Qi (Qo Z ?_))))))
       first | (have hz := Xb (p := ZM) (s := s) (i := i) Wa hI.2; simp [KG, hz]; omega) | (have hz := Yj (p := ZM) (s := s) (i := i) Wa Wn; simp [KG, hz]; done) | (simp [KG]; omega)
      ·try rw [h6]
       try simp only [qB] at h6
       refine Qp (Qd (ks2 Z Z (QQ fun K hK => Qa Z (Q2 Z Z Wb (Qa Z (hK _ ?_))))))
       refine Qg (i + 1) ?_ ?_ ?_
       ·exact QU (kp2 rfl rfl)
       ·exact ⟨Wa, Zk Wa hI.2 Wn⟩
       ·first | omega | (simp only; omega) | (dsimp only; omega)
     ·try rw [h5]
      try simp only [qB] at h5
      refine Qe Z (Qa Z (Qe Z (JS Z Z (Qe Z (Qh Z Z (Qh Z Z (Qa Z ?_)))))))
      refine Qv (g := 36) Z (fun h7 => ?_) (fun h7 => ?_)
      ·try rw [h7]
       try simp only [qB] at h7
       refine Qe Z (Qa Z (Qe Z (Xf Z Z (Qh Z Z (kc3 hK Z Z Z ?_)))))
       refine Qt Z (fun h8 => ?_) (fun h8 => ?_)
       ·try rw [h8]
        try simp only [qB] at h8
        refine Qb fun K hK => Qa Z (kc1 hK Z ?_)
        refine Qr (Qu (Qi (Zb (Qu (Qi (Qo Z ?_))))))
        first | (have hz := Xb (p := ZM) (s := s) (i := i) Wa hI.2; simp [KG, hz]; omega) | (have hz := Yj (p := ZM) (s := s) (i := i) Wa Wn; simp [KG, hz]; done) | (simp [KG]; omega)
       ·try rw [h8]
        try simp only [qB] at h8
        refine Qp (Qd (ks2 Z Z (QQ fun K hK => Qa Z (Q2 Z Z Wb (Qa Z (hK _ ?_))))))
        refine Qg (i + 1) ?_ ?_ ?_
        ·exact QU (kp2 rfl rfl)
        ·exact ⟨Wa, Zk Wa hI.2 Wn⟩
        ·first | omega | (simp only; omega) | (dsimp only; omega)
      ·try rw [h7]
       try simp only [qB] at h7
       refine gn2 Z Z (Qh Z Z (kc3 hK Z Z Z ?_))
       refine Zp Z (Qp (Qd (ks2 Z Z (QQ fun K hK => Qa Z (Q2 Z Z Wb (Qa Z (hK _ ?_)))))))
       refine Qg (i + 1) ?_ ?_ ?_
       ·exact QU (kp2 rfl rfl)
       ·exact ⟨Wa, Zk Wa hI.2 Wn⟩
       ·first | omega | (simp only; omega) | (dsimp only; omega)
    ·try rw [h4]
     try simp only [qB] at h4
     refine Qe Z (Qa Z (Qe Z (JS Z Z (Qh Z Z (Qa Z ?_)))))
     refine Qv (g := 28) Z (fun h9 => ?_) (fun h9 => ?_)
     ·try rw [h9]
      try simp only [qB] at h9
      refine Qe Z (Qa Z (Qe Z (Ya Z Z (Qe Z (Qa Z ?_)))))
      refine Qv (g := 31) Z (fun h10 => ?_) (fun h10 => ?_)
      ·try rw [h10]
       try simp only [qB] at h10
       refine gn2 Z Z (Qe Z (Qh Z Z (Qh Z Z (Qa Z (Qe Z (Qa Z (Qe Z (Xf Z Z (Qh Z Z (kc3 hK Z Z Z ?_))))))))))
       refine Qt Z (fun h11 => ?_) (fun h11 => ?_)
       ·try rw [h11]
        try simp only [qB] at h11
        refine Qb fun K hK => Qa Z (kc1 hK Z ?_)
        refine Qr (Qu (Qi (Zb (Qu (Qi (Qo Z ?_))))))
        first | (have hz := Xb (p := ZM) (s := s) (i := i) Wa hI.2; simp [KG, hz]; omega) | (have hz := Yj (p := ZM) (s := s) (i := i) Wa Wn; simp [KG, hz]; done) | (simp [KG]; omega)
       ·try rw [h11]
        try simp only [qB] at h11
        refine Qp (Qd (ks2 Z Z (QQ fun K hK => Qa Z (Q2 Z Z Wb (Qa Z (hK _ ?_))))))
        refine Qg (i + 1) ?_ ?_ ?_
        ·exact QU (kp2 rfl rfl)
        ·exact ⟨Wa, Zk Wa hI.2 Wn⟩
        ·first | omega | (simp only; omega) | (dsimp only; omega)
      ·try rw [h10]
       try simp only [qB] at h10
       refine Qe Z (Qa Z (Qe Z (JS Z Z (Qe Z (Qh Z Z (Qh Z Z (Qa Z ?_)))))))
       refine Qv (g := 36) Z (fun h12 => ?_) (fun h12 => ?_)
       ·try rw [h12]
        try simp only [qB] at h12
        refine Qe Z (Qa Z (Qe Z (Xf Z Z (Qh Z Z (kc3 hK Z Z Z ?_)))))
        refine Qt Z (fun h13 => ?_) (fun h13 => ?_)
        ·try rw [h13]
         try simp only [qB] at h13
         refine Qb fun K hK => Qa Z (kc1 hK Z ?_)
         refine Qr (Qu (Qi (Zb (Qu (Qi (Qo Z ?_))))))
         first | (have hz := Xb (p := ZM) (s := s) (i := i) Wa hI.2; simp [KG, hz]; omega) | (have hz := Yj (p := ZM) (s := s) (i := i) Wa Wn; simp [KG, hz]; done) | (simp [KG]; omega)
        ·try rw [h13]
         try simp only [qB] at h13
         refine Qp (Qd (ks2 Z Z (QQ fun K hK => Qa Z (Q2 Z Z Wb (Qa Z (hK _ ?_))))))
         refine Qg (i + 1) ?_ ?_ ?_
         ·exact QU (kp2 rfl rfl)
         ·exact ⟨Wa, Zk Wa hI.2 Wn⟩
         ·first | omega | (simp only; omega) | (dsimp only; omega)
       ·try rw [h12]
        try simp only [qB] at h12
        refine gn2 Z Z (Qh Z Z (kc3 hK Z Z Z ?_))
        refine Zp Z (Qp (Qd (ks2 Z Z (QQ fun K hK => Qa Z (Q2 Z Z Wb (Qa Z (hK _ ?_)))))))
        refine Qg (i + 1) ?_ ?_ ?_
        ·exact QU (kp2 rfl rfl)
        ·exact ⟨Wa, Zk Wa hI.2 Wn⟩
        ·first | omega | (simp only; omega) | (dsimp only; omega)
     ·try rw [h9]
      try simp only [qB] at h9
      refine gn3 Z Z Z (QO Z (QO Z (J9 Z (Qh Z Z (Qa Z (gn2 Z Z (Qh Z Z (kc3 hK Z Z Z ?_))))))))
      refine Zp Z (Qp (Qd (ks2 Z Z (QQ fun K hK => Qa Z (Q2 Z Z Wb (Qa Z (hK _ ?_)))))))
      refine Qg (i + 1) ?_ ?_ ?_
      ·exact QU (kp2 rfl rfl)
      ·exact ⟨Wa, Zk Wa hI.2 Wn⟩
      ·first | omega | (simp only; omega) | (dsimp only; omega)
   ·try rw [h3]
    try simp only [qB] at h3
    refine Zd (QD (Qq (Qz (QY (Zj) (Qb fun K hK => Qa Z (kc1 hK Z ?_))))))
    refine Qr (Qo Z ?_)
    first | (have hz := Xb (p := ZM) (s := s) (i := i) Wa hI.2; simp [KG, hz]; omega) | (have hz := Yj (p := ZM) (s := s) (i := i) Wa Wn; simp [KG, hz]; done) | (simp [KG]; omega)
theorem HP {a b c : Int} {p q : List UInt8} : Ok Tryz.prog 72 [.agg [.int .i64 a, .int .i64 b, .int .i64 c, .str p, .str q]] (.agg [.int .i64 a, .int .i64 b, .int .i64 c, .str p, .str []]) := by
 refine Ok.ofT ZR Tryz.func72 Qd0 (Qev Z) ?_
 show TW _ _ tf72.body _ _
 refine Qb fun K hK => ZC Z Z Z (ZE Z (kc2 hK Z Z ?_))
 refine Qb fun K hK => Qf Z Z (QT Z Z Z Z Z Z Z Z (kc2 hK Z Z ?_))
 refine Qb fun K hK => QL (cs := [_, _, _, _, _]) Z Z Z Z (QT Z Z Z Z Z Z Z Z (kc1 hK Z ?_))
 refine Qr (ZB (cs := [_, _, _, _, _]) Z Z Z Z ?_)
 exact rfl
theorem _root_.Wv {p : Prop} (h : p := by rw [F2 (by omega)]; simp; omega) : p := h
theorem YL {s : List UInt8} (hl : s.length <= 1000000) : Ok Tryz.prog 105 [.str s] (.tup [.int .i64 (Yf s).1, .bool (Yf s).2]) := by
 refine Ok.ofT ZR Tryz.func105 Qcr (Qev Z) ?_
 show TW _ _ tf105.body _ _
 refine Qb fun K hK => mv2 Z Z (kc1 hK Z ?_)
 refine F9 (ι := Unit) (fun _u => ⟨[(0, .str s)], []⟩) (fun _u => ¬ (s.length < 1 \/ 9 < s.length \/ (1 < s.length /\ s.head? = some 48))) ?_ ?_
 ·skip
  refine Qb fun K hK => Qa Z (Yr Z (Ya Z Z (Qa Z ?_)))
  refine Qv (g := 9) Z (fun h1 => ?_) (fun h1 => ?_)
  ·try rw [h1]
   try simp only [qB, XH, Qez, QeI] at h1
   refine gn3 Z Z Z (Qh Z Z (Qa Z (gn4 Z Z Z Z (QO Z (QO Z (QO Z ?_))))))
   refine J9 Z (Qh Z Z (kc2 hK Z Z ?_))
   refine ZD Z (Qb fun K hK => mv2 Z Z (kc2 hK Z Z ?_))
   refine Qr (Hr (ZQ Z Z ?_))
   first | (rw [Fq (s := s) Wa]; exact ⟨rfl, rfl⟩) | (rw [YJ (s := s) Wa Wd]; exact ⟨rfl, rfl⟩) | (rw [Xn (s := s) (i := i) Wa Wo]; exact ⟨rfl, rfl⟩) | (rw [Fp (s := s) (i := i) Wa Wa]; exact ⟨rfl, rfl⟩) | (rw [NU (s := s) (i := i) hJ Wa hI.2.1 Wa]; exact ⟨rfl, rfl⟩)
  ·try rw [h1]
   try simp only [qB, XH, Qez, QeI] at h1
   refine Qe Z (Qa Z (Qe Z (Yr Z (Qe Z (JS Z Z (Qh Z Z (Qa Z ?_)))))))
   refine Qv (g := 14) Z (fun h2 => ?_) (fun h2 => ?_)
   ·try rw [h2]
    try simp only [qB, XH, Qez, QeI] at h2
    refine gn4 Z Z Z Z (QO Z (QO Z (QO Z (J9 Z (Qh Z Z (kc2 hK Z Z ?_))))))
    refine ZD Z (Qb fun K hK => mv2 Z Z (kc2 hK Z Z ?_))
    refine Qr (Hr (ZQ Z Z ?_))
    first | (rw [Fq (s := s) Wa]; exact ⟨rfl, rfl⟩) | (rw [YJ (s := s) Wa Wd]; exact ⟨rfl, rfl⟩) | (rw [Xn (s := s) (i := i) Wa Wo]; exact ⟨rfl, rfl⟩) | (rw [Fp (s := s) (i := i) Wa Wa]; exact ⟨rfl, rfl⟩) | (rw [NU (s := s) (i := i) hJ Wa hI.2.1 Wa]; exact ⟨rfl, rfl⟩)
   ·try rw [h2]
    try simp only [qB, XH, Qez, QeI] at h2
    refine Qe Z (Qa Z (Qe Z (Yr Z (Qe Z (JS Z Z (Qe Z (Qa Z ?_)))))))
    refine Qv (g := 18) Z (fun h3 => ?_) (fun h3 => ?_)
    ·try rw [h3]
     try simp only [qB, XH, Qez, QeI] at h3
     refine Qe Z (Qa Z (Qe Z (Yi Z Z Wa (XX (i := 0) Wa) (Qe Z (Yz Z Z (Qe Z (Qh Z Z (Qh Z Z (kc2 hK Z Z ?_)))))))))
     refine Qt Z (fun h4 => ?_) (fun h4 => ?_)
     ·try rw [h4]
      try simp only [qB, XH, Qez, QeI] at h4
      refine Qb fun K hK => mv2 Z Z (kc2 hK Z Z ?_)
      refine Qr (Hr (ZQ Z Z ?_))
      first | (rw [Fq (s := s) Wa]; exact ⟨rfl, rfl⟩) | (rw [YJ (s := s) Wa Wd]; exact ⟨rfl, rfl⟩) | (rw [Xn (s := s) (i := i) Wa Wo]; exact ⟨rfl, rfl⟩) | (rw [Fp (s := s) (i := i) Wa Wa]; exact ⟨rfl, rfl⟩) | (rw [NU (s := s) (i := i) hJ Wa hI.2.1 Wa]; exact ⟨rfl, rfl⟩)
     ·try rw [h4]
      try simp only [qB, XH, Qez, QeI] at h4
      refine Qp ?_
      refine Zh () ?_ ?_
      ·exact QU (kp1 rfl)
      ·rintro (q | q | q) <;> first | omega | exact Ph (s := s) Wa Wd q.2
    ·try rw [h3]
     try simp only [qB, XH, Qez, QeI] at h3
     refine gn3 Z Z Z (Qe Z (Qh Z Z (Qh Z Z (kc2 hK Z Z ?_))))
     refine Zp Z (Qp ?_)
     refine Zh () ?_ ?_
     ·exact QU (kp1 rfl)
     ·rintro (q | q | q) <;> first | omega | exact Ph (s := s) Wa Wd q.2
 intro _u hJ
 try dsimp only
 refine Qb fun K hK => Qa Z (kc2 hK Z Z ?_)
 refine QA ?_ -- 1
 refine Qb fun K hK => Qa Z (kc3 hK Z Z Z ?_)
 refine Qy ?_
 refine Zy (ι := Nat) (fun i => ⟨[(0, .str s), (4, .int .i64 (val (s.take i))), (5, .int .i64 i)], []⟩) (fun i => i <= s.length /\ (s.take i).all Yq = true /\ s.length <= 9) (fun i => s.length - i) 0 ?_ ?_ ?_
 ·first | exact QU (kp3 rfl rfl rfl) | exact QZ (l := [0, 4, 5]) (kp3 rfl rfl rfl) Ql Wv rfl rfl
 ·exact ⟨QeH _, rfl, Wa⟩
 intro i hI
 have hv := DS (s := s.take i) hI.2.1
 have hp : 10 ^ (s.take i).length <= 10 ^ 9 := Nat.pow_le_pow_right Wa Wi
 try dsimp only
 refine QA ?_ -- 2
 refine Qb fun K hK => mv2 Z Z (Yr Z (Ya Z Z (kc4 hK Z Z Z Z ?_)))
 refine Qt Z (fun h5 => ?_) (fun h5 => ?_)
 ·try rw [h5]
  try simp only [qB, XH, Qez, QeI] at h5
  refine Qp (ks3 Z Z Z ?_)
  refine QA ?_ -- 3
  refine Qy ?_
  refine QA ?_ -- 4
  refine Qb fun K hK => mv2 Z Z (Yi Z Z Wa (XX Wa) (QC (HH) Z Z (.inr Z) (Z4 Z (kc4 hK Z Z Z Z ?_))))
  refine Qt Z (fun h6 => ?_) (fun h6 => ?_)
  ·try rw [h6]
   try simp only [qB, XH, Qez, QeI] at h6
   refine Qb fun K hK => mv2 Z Z (kc2 hK Z Z ?_)
   refine Qr (Qi (Qu (Qi (Zb (Qu (Qi (ZQ Z Z ?_)))))))
   first | (rw [Fq (s := s) Wa]; exact ⟨rfl, rfl⟩) | (rw [YJ (s := s) Wa Wd]; exact ⟨rfl, rfl⟩) | (rw [Xn (s := s) (i := i) Wa Wo]; exact ⟨rfl, rfl⟩) | (rw [Fp (s := s) (i := i) Wa Wa]; exact ⟨rfl, rfl⟩) | (rw [NU (s := s) (i := i) hJ Wa hI.2.1 Wa]; exact ⟨rfl, rfl⟩)
  ·try rw [h6]
   try simp only [qB, XH, Qez, QeI] at h6
   refine Qp (ks3 Z Z Z (QQ fun K hK => Qa Z (Lf Z Z Wb (mv2 Z Z (Yi Z Z Wa (XX Wa) (KI Z Z Wb (Ms Z Wb (Q2 Z Z Wb (Qa Z ?_)))))))))
   refine hK _ ?_
   refine Qd (ks3 Z Z Z (QQ fun K hK => Qa Z (Q2 Z Z Wb (Qa Z (hK _ ?_)))))
   refine Qg (i + 1) ?_ ?_ ?_
   ·first | exact QU (kp3 rfl rfl rfl) | exact QZ (l := [0, 4, 5]) (kp3 rfl rfl rfl) Ql Wv rfl rfl
   ·exact ⟨Wa, Zk Wa hI.2.1 Wo, hI.2.2⟩
   ·first | omega | (simp only; omega) | (dsimp only; omega)
 ·try rw [h5]
  try simp only [qB, XH, Qez, QeI] at h5
  refine Zd (QD (Qq (Qz (ks1 Z ?_))))
  refine QA ?_ -- 5
  refine Qb fun K hK => Qa Z (JS Z Z (kc2 hK Z Z ?_))
  refine Qt Z (fun h7 => ?_) (fun h7 => ?_)
  ·try rw [h7]
   try simp only [qB, XH, Qez, QeI] at h7
   refine Qb fun K hK => mv2 Z Z (kc2 hK Z Z ?_)
   refine Qr (Qi (ZQ Z Z ?_))
   first | (rw [Fq (s := s) Wa]; exact ⟨rfl, rfl⟩) | (rw [YJ (s := s) Wa Wd]; exact ⟨rfl, rfl⟩) | (rw [Xn (s := s) (i := i) Wa Wo]; exact ⟨rfl, rfl⟩) | (rw [Fp (s := s) (i := i) Wa Wa]; exact ⟨rfl, rfl⟩) | (rw [NU (s := s) (i := i) hJ Wa hI.2.1 Wa]; exact ⟨rfl, rfl⟩)
  ·try rw [h7]
   try simp only [qB, XH, Qez, QeI] at h7
   refine Qp (ks1 Z (Qb fun K hK => mv2 Z Z (Qa Z (kc2 hK Z Z ?_))))
   refine Qr (ZQ Z Z ?_)
   first | (rw [Fq (s := s) Wa]; exact ⟨rfl, rfl⟩) | (rw [YJ (s := s) Wa Wd]; exact ⟨rfl, rfl⟩) | (rw [Xn (s := s) (i := i) Wa Wo]; exact ⟨rfl, rfl⟩) | (rw [Fp (s := s) (i := i) Wa Wa]; exact ⟨rfl, rfl⟩) | (rw [NU (s := s) (i := i) hJ Wa hI.2.1 Wa]; exact ⟨rfl, rfl⟩)
open Go Go.Abs M3
theorem Gq {a b : List UInt8} (ha : a.length <= 1000000) (hb : b.length <= 1000000) : Ok Tryz.prog 113 [.str a, .str b] (.int .i64 (Mm a b)) := by
 refine Ok.ofT ZR Tryz.func113 Qcz (Qev Z) ?_
 show TW _ _ tf113.body _ _
 refine Qb fun K hK => Qa Z (kc2 hK Z Z ?_)
 refine Qb fun K hK => Qa Z (QC (YF Wa) Z Z (.inr Z) (Qa Z (QC (YF Wa) Z Z (.inr Z) (mv2 Z Z (kc4 hK Z Z Z Z ?_)))))
 refine QA ?_ -- 0
 refine Qy (Qb fun K hK => mv2 Z Z ?_)
 refine Qv (g := 17) Z (fun h1 => ?_) (fun h1 => ?_)
 ·try rw [h1]
  try simp only [qB] at h1
  refine Qe Z (Qa Z (Qh Z Z (Qa Z (kc5 hK Z Z Z Z Z ?_))))
  refine Qt Z (fun h2 => ?_) (fun h2 => ?_)
  ·try rw [h2]
   try simp only [qB] at h2
   refine Qb fun K hK => Qa Z (QC (YL Wa) Z Z (.inr Z) (Qa Z (Zl Z Z (Zl Z Z (mv2 Z Z (kc2 hK Z Z ?_))))))
   refine Qb fun K hK => Qa Z (QC (YL Wa) Z Z (.inr Z) (Qa Z (Zl Z Z (Zl Z Z (mv2 Z Z (kc2 hK Z Z ?_))))))
   refine Qb fun K hK => mv2 Z Z (QC (Zz) Z Z (.inr Z) (Qa Z (kc1 hK Z ?_)))
   refine Qr (Qu (Qi (Qs Z ?_)))
   simp [Mm, h1, h2]
  ·try rw [h2]
   try simp only [qB] at h2
   refine Qb fun K hK => mv2 Z Z (kc4 hK Z Z Z Z ?_)
   refine ZD Z (Qb fun K hK => Qa Z (kc1 hK Z ?_))
   refine Qr (Qu (Qi (Qs Z ?_)))
   simp [Mm, h1, h2]
 ·try rw [h1]
  try simp only [qB] at h1
  refine J9 Z (Qh Z Z (Qa Z (kc5 hK Z Z Z Z Z ?_)))
  refine Zp Z (Qb fun K hK => mv2 Z Z (kc4 hK Z Z Z Z ?_))
  refine Zp Z (Qb fun K hK => mv2 Z Z (kc3 hK Z Z Z ?_))
  refine Qt Z (fun h3 => ?_) (fun h3 => ?_)
  ·try rw [h3]
   try simp only [qB] at h3
   refine Qb fun K hK => Qa Z (kc1 hK Z ?_)
   refine Qr (Qu (Qi (Qs Z ?_)))
   simp [Mm, h1, h3]
  ·try rw [h3]
   try simp only [qB] at h3
   refine Qp (Qd (ks2 Z Z (Qb fun K hK => mv2 Z Z (QC (HI) Z Z (.inr Z) (Qa Z (kc1 hK Z ?_))))))
   refine Qr (Qs Z ?_)
   simp [Mm, h1, h3]
theorem H7 {a b : List UInt8} (ha : a.length <= 1000000) (hb : b.length <= 1000000) : Ok Tryz.prog 100 [.str a, .str b] (.int .i64 (Gb a b)) := by
 refine Ok.ofT ZR Tryz.func100 Qcm (Qev Z) ?_
 show TW _ _ tf100.body _ _
 refine Qb fun K hK => Qa Z (kc2 hK Z Z ?_)
 refine QA ?_ -- 0
 refine Qy (Qb fun K hK => mv2 Z Z (JU Z Z (Qa Z (kc3 hK Z Z Z ?_))))
 refine Qt Z (fun h1 => ?_) (fun h1 => ?_)
 ·try rw [h1]
  try simp only [qB, Qm] at h1
  refine Qb fun K hK => Qa Z (kc1 hK Z ?_)
  refine Qr (Qu (Qi (Qs Z ?_)))
  (repeat clear hK K); first | (simp_all [Gb]; done) | (rw [hI.2.2, Yw Wa Wa Wd]) | (rw [hI.2.2, Yv Wa Wa Wa]; simp [Qm])
 ·try rw [h1]
  try simp only [qB, Qm] at h1
  refine Qb fun K hK => Qa Z (JU Z Z (Qa Z (kc3 hK Z Z Z ?_)))
  refine Qt Z (fun h2 => ?_) (fun h2 => ?_)
  ·try rw [h2]
   try simp only [qB, Qm] at h2
   refine Qb fun K hK => Qa Z (kc1 hK Z ?_)
   refine Qr (Qu (Qi (Qs Z ?_)))
   (repeat clear hK K); first | (simp_all [Gb]; done) | (rw [hI.2.2, Yw Wa Wa Wd]) | (rw [hI.2.2, Yv Wa Wa Wa]; simp [Qm])
  ·try rw [h2]
   try simp only [qB, Qm] at h2
   refine Qb fun K hK => Qa Z (JU Z Z (Qa Z (kc3 hK Z Z Z ?_)))
   refine Qt Z (fun h3 => ?_) (fun h3 => ?_)
   ·try rw [h3]
    try simp only [qB, Qm] at h3
    refine Qb fun K hK => Qa Z (kc1 hK Z ?_)
    refine Qr (Qu (Qi (Qs Z ?_)))
    (repeat clear hK K); first | (simp_all [Gb]; done) | (rw [hI.2.2, Yw Wa Wa Wd]) | (rw [hI.2.2, Yv Wa Wa Wa]; simp [Qm])
   ·try rw [h3]
    try simp only [qB, Qm] at h3
    refine Qp (Qd (ks2 Z Z (Qb fun K hK => Qa Z (QC (Y0 Wa) Z Z (.inl Z) (Qa Z (QC (Y0 Wa) Z Z (.inl Z) (mv2 Z Z (kc2 hK Z Z ?_))))))))
    refine QA ?_ -- 1
    refine Qb fun K hK => Qa Z (kc3 hK Z Z Z ?_)
    refine Qy ?_
    refine Zy (ι := Nat) (fun i => ⟨[(5, .sl (Yg (Q9 a 46))), (6, .sl (Yg (Q9 b 46))), (7, .int .i64 i)], []⟩) (fun i => i <= (Q9 a 46).length /\ i <= (Q9 b 46).length /\ Gb a b = Ts ((Q9 a 46).drop i) ((Q9 b 46).drop i)) (fun i => (Q9 a 46).length - i) 0 ?_ ?_ ?_
    ·exact QU (kp3 rfl rfl rfl)
    ·exact ⟨QeH _, QeH _, by simp_all [Gb]⟩
    intro i hI
    have sl := G0 (s := a) (c := 46)
    try dsimp only
    refine QA ?_ -- 2
    refine Qb fun K hK => mv2 Z Z (QI Z Z (Ya Z Z (Qa Z ?_)))
    refine Qv (g := 27) Z (fun h4 => ?_) (fun h4 => ?_)
    ·try rw [h4]
     try simp only [qB, Qm] at h4
     refine Qe Z (Qa Z (Qe Z (Qa Z (Qe Z (QI Z Z (Qe Z (Ya Z Z (Qh Z Z (kc4 hK Z Z Z Z ?_)))))))))
     refine Qt Z (fun h5 => ?_) (fun h5 => ?_)
     ·try rw [h5]
      try simp only [qB, Qm] at h5
      refine Qp (ks3 Z Z Z ?_)
      refine QA ?_ -- 3
      refine Qy (Qb fun K hK => mv2 Z Z (QG Z Z Z Wa (Y7 Wa) Z (Zc (ds0 := [1, 0]) Z Z Z Z Z (mv2 Z Z (QG Z Z Z Wa (Y7 Wa) Z (Zc (ds0 := [1, 0]) Z Z Z Z Z (Q1 (ds0 := [0]) (Gq (X6 Wa ha) (X6 Wa hb)) Z Z (.inr Z) Z Z (Qa Z ?_))))))))
      refine kc4 hK Z Z Z Z ?_
      refine Qb fun K hK => Qa Z (Xf Z Z (kc5 hK Z Z Z Z Z ?_))
      refine Qt Z (fun h6 => ?_) (fun h6 => ?_)
      ·try rw [h6]
       try simp only [qB, Qm] at h6
       refine Qb fun K hK => mv2 Z Z (kc1 hK Z ?_)
       refine Qr (Qu (Qi (Zb (Qu (Qi (Qs Z ?_))))))
       (repeat clear hK K); first | (simp_all [Gb]; done) | (rw [hI.2.2, Yw Wa Wa Wd]) | (rw [hI.2.2, Yv Wa Wa Wa]; simp [Qm])
      ·try rw [h6]
       try simp only [qB, Qm] at h6
       refine Qp (Qd (ks3 Z Z Z (QQ fun K hK => Qa Z (Q2 Z Z Wb (Qa Z (hK _ ?_))))))
       refine Qg (i + 1) ?_ ?_ ?_
       ·exact QU (kp3 rfl rfl rfl)
       ·exact ⟨Wa, Wa, by rw [hI.2.2, RC Wa Wa Wd]⟩
       ·first | omega | (simp only; omega) | (dsimp only; omega)
     ·try rw [h5]
      try simp only [qB, Qm] at h5
      refine Zd (QD (Qq (Qz (ks2 Z Z (Qb fun K hK => Qa Z (QI Z Z (Qa Z (QI Z Z (QC (Zz) Z Z (.inr Z) (Qa Z ?_))))))))))
      refine kc1 hK Z ?_
      refine Qr (Qs Z ?_)
      (repeat clear hK K); first | (simp_all [Gb]; done) | (rw [hI.2.2, Yw Wa Wa Wd]) | (rw [hI.2.2, Yv Wa Wa Wa]; simp [Qm])
    ·try rw [h4]
     try simp only [qB, Qm] at h4
     refine gn4 Z Z Z Z (Qh Z Z (kc4 hK Z Z Z Z ?_))
     refine Zp Z (Zd (QD (Qq (Qz (ks2 Z Z (Qb fun K hK => Qa Z (QI Z Z (Qa Z (QI Z Z (QC (Zz) Z Z (.inr Z) ?_))))))))))
     refine Qa Z (kc1 hK Z ?_)
     refine Qr (Qs Z ?_)
     (repeat clear hK K); first | (simp_all [Gb]; done) | (rw [hI.2.2, Yw Wa Wa Wd]) | (rw [hI.2.2, Yv Wa Wa Wa]; simp [Qm])
theorem Jc {s : List UInt8} {pre : Bool} (hl : s.length <= 1000000) : Ok Tryz.prog 83 [.str s, .bool pre] (.bool (JO s pre)) := by
 refine Ok.ofT ZR Tryz.func83 Qeb (Qev Z) ?_
 show TW _ _ tf83.body _ _
 refine Qb fun K hK => Qa Z (kc2 hK Z Z ?_)
 refine QA ?_ -- 0
 refine Qb fun K hK => Qa Z (JU Z Z (kc3 hK Z Z Z ?_))
 refine Qt Z (fun h1 => ?_) (fun h1 => ?_)
 ·try rw [h1]
  try simp only [qB, Qm] at h1
  refine Qb fun K hK => Qa Z (kc1 hK Z ?_)
  refine Qr (Qi (Qo Z ?_))
  (repeat clear hK K); first | (simp_all [JO]; done) | (simp [JO, h1]; omega) | exact (GN (i := i) Wd Wa (by simp [HL, h1])).symm | exact (Hb (i := i) Wa Wa hI.2).symm
 ·try rw [h1]
  try simp only [qB, Qm] at h1
  refine Qp (ks2 Z Z (Qb fun K hK => Qa Z (QC (Y0 Wa) Z Z (.inl Z) (Qa Z (kc2 hK Z Z ?_)))))
  refine QA ?_ -- 1
  refine Qb fun K hK => Qa Z (QI Z Z (JS Z Z (kc3 hK Z Z Z ?_)))
  refine Qt Z (fun h2 => ?_) (fun h2 => ?_)
  ·try rw [h2]
   try simp only [qB, Qm] at h2
   refine Qb fun K hK => Qa Z (kc1 hK Z ?_)
   refine Qr (Qi (Qo Z ?_))
   (repeat clear hK K); first | (simp_all [JO]; done) | (simp [JO, h1, h2]; omega) | exact (GN (i := i) Wd Wa (by simp [HL, h1, h2])).symm | exact (Hb (i := i) Wa Wa hI.2).symm
  ·try rw [h2]
   try simp only [qB, Qm] at h2
   refine Qp (ks2 Z Z ?_)
   refine QA ?_ -- 2
   refine Qb fun K hK => Qa Z (kc3 hK Z Z Z ?_)
   refine Qy ?_
   refine Zy (ι := Nat) (fun i => ⟨[(1, .bool pre), (5, .sl (Yg (Q9 s 46))), (6, .int .i64 i)], []⟩) (fun i => i <= (Q9 s 46).length /\ ((Q9 s 46).take i).all (HL pre) = true) (fun i => (Q9 s 46).length - i) 0 ?_ ?_ ?_
   ·first | exact QU (kp3 rfl rfl rfl) | exact QZ (l := [1, 5, 6]) (kp3 rfl rfl rfl) Ql (by simp [h1, h2]) rfl rfl
   ·exact ⟨QeH _, rfl⟩
   intro i hI
   try dsimp only
   refine QA ?_ -- 3
   refine Qb fun K hK => mv2 Z Z (QI Z Z (Ya Z Z (kc4 hK Z Z Z Z ?_)))
   refine Qt Z (fun h3 => ?_) (fun h3 => ?_)
   ·try rw [h3]
    try simp only [qB, Qm] at h3
    refine Qp (ks3 Z Z Z ?_)
    refine QA ?_ -- 4
    refine Qy ?_
    refine QA ?_ -- 5
    refine Qb fun K hK => mv2 Z Z (QG Z Z Z Wa (Y7 Wa) Z (Qx Z Z Z (QC (Gr (X6 Wa hl)) Z Z (.inr Z) (Z4 Z (kc4 hK Z Z Z Z ?_)))))
    refine Qt Z (fun h4 => ?_) (fun h4 => ?_)
    ·try rw [h4]
     try simp only [qB, Qm] at h4
     refine Qb fun K hK => Qa Z (kc1 hK Z ?_)
     refine Qr (Qi (Qu (Qi (Zb (Qu (Qi (Qo Z ?_)))))))
     (repeat clear hK K); first | (simp_all [JO]; done) | (simp [JO, h1, h2, h3, h4]; omega) | exact (GN (i := i) Wd Wa (by simp [HL, h1, h2, h3, h4])).symm | exact (Hb (i := i) Wa Wa hI.2).symm
    ·try rw [h4]
     try simp only [qB, Qm] at h4
     refine Qp (ks3 Z Z Z (Qb fun K hK => mv2 Z Z (QG Z Z Z Wa (Y7 Wa) Z (Qx Z Z Z (QC (YL (X6 Wa hl)) Z Z (.inr Z) (Qa Z (Zl Z Z (Zl Z Z (Qa Z ?_)))))))))
     refine Qa Z (kc4 hK Z Z Z Z ?_)
     refine Qb fun K hK => mv2 Z Z ?_
     refine Qv (g := 37) Z (fun h5 => ?_) (fun h5 => ?_)
     ·try rw [h5]
      try simp only [qB, Qm] at h5
      refine Qe Z (Qa Z (Qe Z (Qa Z (Qe Z (QG Z Z Z Wa (Y7 Wa) Z (Qe Z (Qx Z Z Z (Qe Z (QC (YF (X6 Wa hl)) Z Z (.inr Z) (Qh Z Z (Qa Z ?_)))))))))))
      refine Qv (g := 44) Z (fun h6 => ?_) (fun h6 => ?_)
      ·try rw [h6]
       try simp only [qB, Qm] at h6
       refine Qe Z (Qa Z (Qe Z (Z4 Z (Qh Z Z (kc4 hK Z Z Z Z ?_)))))
       refine Qt Z (fun h7 => ?_) (fun h7 => ?_)
       ·try rw [h7]
        try simp only [qB, Qm] at h7
        refine Qb fun K hK => Qa Z (kc1 hK Z ?_)
        refine Qr (Qu (Qi (Zb (Qu (Qi (Qo Z ?_))))))
        (repeat clear hK K); first | (simp_all [JO]; done) | (simp [JO, h1, h2, h3, h4, h5, h6, h7]; omega) | exact (GN (i := i) Wd Wa (by simp [HL, h1, h2, h3, h4, h5, h6, h7])).symm | exact (Hb (i := i) Wa Wa hI.2).symm
       ·try rw [h7]
        try simp only [qB, Qm] at h7
        refine Qp (Qd (ks3 Z Z Z (QQ fun K hK => Qa Z (Q2 Z Z Wb (Qa Z (hK _ ?_))))))
        refine Qg (i + 1) ?_ ?_ ?_
        ·first | exact QU (kp3 rfl rfl rfl) | exact QZ (l := [1, 5, 6]) (kp3 rfl rfl rfl) Ql (by simp [h1, h2, h3, h4, h5, h6, h7]) rfl rfl
        ·exact ⟨Wa, Zk Wa hI.2 (by simp [HL, h1, h2, h3, h4, h5, h6, h7])⟩
        ·first | omega | (simp only; omega) | (dsimp only; omega)
      ·try rw [h6]
       try simp only [qB, Qm] at h6
       refine gn2 Z Z (Qh Z Z (kc4 hK Z Z Z Z ?_))
       refine Zp Z (Qp (Qd (ks3 Z Z Z (QQ fun K hK => Qa Z (Q2 Z Z Wb (Qa Z (hK _ ?_)))))))
       refine Qg (i + 1) ?_ ?_ ?_
       ·first | exact QU (kp3 rfl rfl rfl) | exact QZ (l := [1, 5, 6]) (kp3 rfl rfl rfl) Ql (by simp [h1, h2, h3, h4, h5, h6]) rfl rfl
       ·exact ⟨Wa, Zk Wa hI.2 (by simp [HL, h1, h2, h3, h4, h5, h6])⟩
       ·first | omega | (simp only; omega) | (dsimp only; omega)
     ·try rw [h5]
      try simp only [qB, Qm] at h5
      refine gn4 Z Z Z Z (J9 Z (Qh Z Z (Qa Z (gn2 Z Z (Qh Z Z (kc4 hK Z Z Z Z ?_))))))
      refine Zp Z (Qp (Qd (ks3 Z Z Z (QQ fun K hK => Qa Z (Q2 Z Z Wb (Qa Z (hK _ ?_)))))))
      refine Qg (i + 1) ?_ ?_ ?_
      ·first | exact QU (kp3 rfl rfl rfl) | exact QZ (l := [1, 5, 6]) (kp3 rfl rfl rfl) Ql (by simp [h1, h2, h3, h4, h5]) rfl rfl
      ·exact ⟨Wa, Zk Wa hI.2 (by simp [HL, h1, h2, h3, h4, h5])⟩
      ·first | omega | (simp only; omega) | (dsimp only; omega)
   ·try rw [h3]
    try simp only [qB, Qm] at h3
    refine Zd (QD (Qq (Qz (QY (Zj) (Qb fun K hK => Qa Z (kc1 hK Z ?_))))))
    refine Qr (Qo Z ?_)
    (repeat clear hK K); first | (simp_all [JO]; done) | (simp [JO, h1, h2, h3]; omega) | exact (GN (i := i) Wd Wa (by simp [HL, h1, h2, h3])).symm | exact (Hb (i := i) Wa Wa hI.2).symm
theorem Zo {a b c : Int} {p q : List UInt8} (hp : p.length <= 1000000) (hq : q.length <= 1000000) : Ok Tryz.prog 60 [.agg [.int .i64 a, .int .i64 b, .int .i64 c, .str p, .str q]] (.bool (JT a b c p q)) := by
 refine Ok.ofT ZR Tryz.func60 QdO (Qev Z) ?_
 show TW _ _ tf60.body _ _
 refine Qb fun K hK => ZC Z Z Z (Qa Z (kc1 hK Z ?_))
 refine Qb fun K hK => Qf Z Z (Qx Z Z Z (QC (Xi) Z Z (.inr Z) (Qa Z ?_)))
 refine Qv (g := 6) Z (fun h1 => ?_) (fun h1 => ?_)
 ·try rw [h1]
  try simp only [qB] at h1
  refine Qe Z (Qf Z Z (Qe Z (Qx Z Z Z (Qe Z (QC (Xi) Z Z (.inr Z) (Qh Z Z (Qa Z ?_)))))))
  refine Qv (g := 11) Z (fun h2 => ?_) (fun h2 => ?_)
  ·try rw [h2]
   try simp only [qB] at h2
   refine Qe Z (Qf Z Z (Qe Z (Qx Z Z Z (Qe Z (QC (Xi) Z Z (.inr Z) (Qh Z Z (Qa Z ?_)))))))
   refine Qv (g := 16) Z (fun h3 => ?_) (fun h3 => ?_)
   ·try rw [h3]
    try simp only [qB] at h3
    refine Qe Z (Qf Z Z (Qe Z (Qx Z Z Z (Qe Z (QC (Jc Wa) Z Z (.inr Z) (Qh Z Z (Qa Z ?_)))))))
    refine Qv (g := 21) Z (fun h4 => ?_) (fun h4 => ?_)
    ·try rw [h4]
     try simp only [qB] at h4
     refine Qe Z (Qf Z Z (Qe Z (Qx Z Z Z (Qe Z (QC (Jc Wa) Z Z (.inr Z) (Qh Z Z (Qa Z (kc1 hK Z ?_))))))))
     refine Qr (Qo Z ?_)
     simp [JT, h1, h2, h3, h4]
    ·try rw [h4]
     try simp only [qB] at h4
     refine gn3 Z Z Z (Qh Z Z (Qa Z (kc1 hK Z ?_)))
     refine Qr (Qo Z ?_)
     simp [JT, h1, h2, h3, h4]
   ·try rw [h3]
    try simp only [qB] at h3
    refine gn3 Z Z Z (Qh Z Z (Qa Z (gn3 Z Z Z (Qh Z Z (Qa Z (kc1 hK Z ?_))))))
    refine Qr (Qo Z ?_)
    simp [JT, h1, h2, h3]
  ·try rw [h2]
   try simp only [qB] at h2
   refine gn3 Z Z Z (Qh Z Z (Qa Z (gn3 Z Z Z (Qh Z Z (Qa Z (gn2 Z Z ?_))))))
   refine J9 Z (Qh Z Z (Qa Z (kc1 hK Z ?_)))
   refine Qr (Qo Z ?_)
   simp [JT, h1, h2]
 ·try rw [h1]
  try simp only [qB] at h1
  refine gn3 Z Z Z (Qh Z Z (Qa Z (gn3 Z Z Z (Qh Z Z (Qa Z (gn2 Z Z ?_))))))
  refine J9 Z (Qh Z Z (Qa Z (gn3 Z Z Z (Qh Z Z (Qa Z (kc1 hK Z ?_))))))
  refine Qr (Qo Z ?_)
  simp [JT, h1]
theorem P6 {l : List Int} (hl : l.length <= 1000000) : Ok Tryz.prog 73 [Zg l] (.int .i64 (Yt l)) := by
 refine Ok.ofT ZR Tryz.func73 Qd1 (Qev Z) ?_
 show TW _ _ tf73.body _ _
 refine Qb fun K hK => Qa Z (kc1 hK Z ?_)
 refine Qb fun K hK => Qa Z (kc2 hK Z Z ?_)
 refine QA ?_ -- 0
 refine Qb fun K hK => Qa Z (QI Z Z (Qa Z (kc4 hK Z Z Z Z ?_)))
 refine Qy ?_
 refine Zy (ι := Nat) (fun i => ⟨[(3, .int .i64 0), (6, Zg l), (7, .int .i64 l.length), (8, .int .i64 i)], []⟩) (fun i => i <= l.length /\ Yt l = Yt (l.drop i)) (fun i => l.length - i) 0 ?_ ?_ ?_
 ·exact QZ (l := [3, 6, 7, 8]) (kp4 rfl rfl rfl rfl) Ql (by simp [Zg]) rfl rfl
 ·exact ⟨QeH _, rfl⟩
 intro i hI
 try dsimp only
 refine Qb fun K hK => Ya Z Z (kc5 hK Z Z Z Z Z ?_)
 refine QA ?_ -- 1
 refine Qt Z (fun h1 => ?_) (fun h1 => ?_)
 ·try rw [h1]
  try simp only [qB] at h1
  refine Qp (ks4 Z Z Z Z ?_)
  refine QA ?_ -- 2
  refine Qy (Qb fun K hK => QG Z Z Z Wa (Q7 Wa) Z (Qx Z Z Z (Qa Z (kc5 hK Z Z Z Z Z ?_))))
  refine Qb fun K hK => mv2 Z Z (Xf Z Z (kc6 hK Z Z Z Z Z Z ?_))
  refine Qt Z (fun h2 => ?_) (fun h2 => ?_)
  ·try rw [h2]
   try simp only [qB] at h2
   refine Qb fun K hK => mv2 Z Z (kc1 hK Z ?_)
   refine Qr (Qu (Qi (Zb (Qu (Qi (Qs Z ?_))))))
   first | (rw [hI.2, Ny Wa Wd]) | (rw [hI.2, QeQ Wa]; rfl)
  ·try rw [h2]
   try simp only [qB] at h2
   refine Qp (Qd (ks4 Z Z Z Z (QQ fun K hK => Q2 Z Z Wb (Qa Z (hK _ ?_)))))
   refine Qg (i + 1) ?_ ?_ ?_
   ·exact QU (kp4 rfl rfl rfl rfl)
   ·exact ⟨Wa, by rw [hI.2, Rk Wa Wd]⟩
   ·first | omega | (simp only; omega) | (dsimp only; omega)
 ·try rw [h1]
  try simp only [qB] at h1
  refine Zd (QD (Qq (Qz (ks1 Z (Qb fun K hK => mv2 Z Z (kc1 hK Z ?_))))))
  refine Qr (Qs Z ?_)
  first | (rw [hI.2, Ny Wa Wd]) | (rw [hI.2, QeQ Wa]; rfl)
open Go Go.Abs M3
theorem YE {a b c : Int} {p q : List UInt8} (hp : p.length <= 1000000) (hq : q.length <= 1000000) {a' b' c' : Int} {p' q' : List UInt8} (hp' : p'.length <= 1000000) (hq' : q'.length <= 1000000) : Ok Tryz.prog 77 [.agg [.int .i64 a, .int .i64 b, .int .i64 c, .str p, .str q], .agg [.int .i64 a', .int .i64 b', .int .i64 c', .str p', .str q']] (.int .i64 (Ht a b c p q a' b' c' p' q')) := by
 refine Ok.ofT ZR Tryz.func77 Qd5 (Qev Z) ?_
 show TW _ _ tf77.body _ _
 refine Qb fun K hK => ZC Z Z Z (ZC Z Z Z (Qa Z (kc2 hK Z Z ?_)))
 refine QA ?_ -- 0
 refine Qb fun K hK => QL (cs := [_, _, _, _, _]) Z Z Z Z (QC (Zo Wa Wa) Z Z (.inr Z) (Z4 Z (Qa Z ?_)))
 refine Qv (g := 11) Z (fun h1 => ?_) (fun h1 => ?_)
 ·try rw [h1]
  try simp only [qB] at h1
  refine gn3 Z Z Z (Qh Z Z (kc3 hK Z Z Z ?_))
  refine ZD Z (Qb fun K hK => Qa Z (kc1 hK Z ?_))
  refine Qr (Qi (Qs Z ?_))
  simp [Ht, h1]
 ·try rw [h1]
  try simp only [qB] at h1
  refine Qe Z (QL (cs := [_, _, _, _, _]) Z Z Z Z (Qe Z (QC (Zo Wa Wa) Z Z (.inr Z) (Qe Z (Z4 Z (Qh Z Z (kc3 hK Z Z Z ?_)))))))
  refine Qt Z (fun h2 => ?_) (fun h2 => ?_)
  ·try rw [h2]
   try simp only [qB] at h2
   refine Qb fun K hK => Qa Z (kc1 hK Z ?_)
   refine Qr (Qi (Qs Z ?_))
   simp [Ht, h1, h2]
  ·try rw [h2]
   try simp only [qB] at h2
   refine Qp (ks2 Z Z ?_)
   refine QA ?_ -- 1
   refine Qb fun K hK => Qf Z Z (Qx Z Z Z (Qf Z Z (Qx Z Z Z (QC (Zz) Z Z (.inr Z) (Qa Z (kc3 hK Z Z Z ?_))))))
   refine Qb fun K hK => Qa Z (Xf Z Z (kc4 hK Z Z Z Z ?_))
   refine Qt Z (fun h3 => ?_) (fun h3 => ?_)
   ·try rw [h3]
    try simp only [qB] at h3
    refine Qb fun K hK => mv2 Z Z (kc1 hK Z ?_)
    refine Qr (Qi (Qs Z ?_))
    simp [Ht, h1, h2, h3]
   ·try rw [h3]
    try simp only [qB] at h3
    refine Qp (ks2 Z Z ?_)
    refine QA ?_ -- 2
    refine Qb fun K hK => Qf Z Z (Qx Z Z Z (Qf Z Z (Qx Z Z Z (QC (Zz) Z Z (.inr Z) (Qa Z (kc3 hK Z Z Z ?_))))))
    refine Qb fun K hK => Qa Z (Xf Z Z (kc4 hK Z Z Z Z ?_))
    refine Qt Z (fun h4 => ?_) (fun h4 => ?_)
    ·try rw [h4]
     try simp only [qB] at h4
     refine Qb fun K hK => mv2 Z Z (kc1 hK Z ?_)
     refine Qr (Qi (Qs Z ?_))
     simp [Ht, h1, h2, h3, h4]
    ·try rw [h4]
     try simp only [qB] at h4
     refine Qp (ks2 Z Z ?_)
     refine QA ?_ -- 3
     refine Qb fun K hK => Qf Z Z (Qx Z Z Z (Qf Z Z (Qx Z Z Z (QC (Zz) Z Z (.inr Z) (Qa Z (kc3 hK Z Z Z ?_))))))
     refine Qb fun K hK => Qa Z (Xf Z Z (kc4 hK Z Z Z Z ?_))
     refine Qt Z (fun h5 => ?_) (fun h5 => ?_)
     ·try rw [h5]
      try simp only [qB] at h5
      refine Qb fun K hK => mv2 Z Z (kc1 hK Z ?_)
      refine Qr (Qi (Qs Z ?_))
      simp [Ht, h1, h2, h3, h4, h5]
     ·try rw [h5]
      try simp only [qB] at h5
      refine Qp (ks2 Z Z (Qb fun K hK => Qf Z Z (Qx Z Z Z (Qf Z Z (Qx Z Z Z (QC (H7 Wa Wa) Z Z (.inr Z) (Qa Z (kc1 hK Z ?_))))))))
      refine Qr (Qs Z ?_)
      simp [Ht, h1, h2, h3, h4, h5]
theorem YH {e a b c : Int} {p q : List UInt8} {f : Bool} (hp : p.length <= 1000000) (hq : q.length <= 1000000) : Ok Tryz.prog 127 [.agg [.int .i64 e, .int .i64 a, .int .i64 b, .int .i64 c, .str p, .str q, .bool f]] (.bool (Fm e a b c p q f)) := by
 refine Ok.ofT ZR Tryz.func127 QcN (Qev Z) ?_
 show TW _ _ tf127.body _ _
 refine Qb fun K hK => ZC Z Z Z (Qa Z (kc1 hK Z ?_))
 refine QA ?_ -- 0
 refine Qb fun K hK => Qf Z Z (Qx Z Z Z (Yz Z Z (kc2 hK Z Z ?_)))
 refine Qt Z (fun h1 => ?_) (fun h1 => ?_)
 ·try rw [h1]
  try simp only [qB] at h1
  refine Qb fun K hK => Qf Z Z (QL (cs := [_, _, _, _, _]) Z Z Z Z (QC (Zo Wa Wa) Z Z (.inr Z) (Qa Z ?_)))
  refine Qv (g := 9) Z (fun h2 => ?_) (fun h2 => ?_)
  ·try rw [h2]
   try simp only [qB] at h2
   refine Qe Z (Qf Z Z (Qe Z (Qf Z Z (Qe Z (Qx Z Z Z (Qe Z (JU Z Z (Qh Z Z (Qa Z (kc1 hK Z ?_))))))))))
   refine Qr (Qi (Qo Z ?_))
   (repeat clear hK K); simp_all [Fm]
  ·try rw [h2]
   try simp only [qB] at h2
   refine gn4 Z Z Z Z (Qh Z Z (Qa Z (kc1 hK Z ?_)))
   refine Qr (Qi (Qo Z ?_))
   (repeat clear hK K); simp_all [Fm]
 ·try rw [h1]
  try simp only [qB] at h1
  refine Qp (ks1 Z (Qb fun K hK => Qf Z Z (Qx Z Z Z (Yz Z Z (Qa Z ?_)))))
  refine Qv (g := 18) Z (fun h3 => ?_) (fun h3 => ?_)
  ·try rw [h3]
   try simp only [qB] at h3
   refine gn3 Z Z Z (Qh Z Z (Qa Z (Qe Z (Qf Z Z (Qe Z (QL (cs := [_, _, _, _, _]) Z Z Z Z (Qe Z (Q0 Z Z (Qe Z ?_)))))))))
   refine Ld Z Z Z (Qh Z Z (Qa Z ?_))
   refine Qv (g := 29) Z (fun h4 => ?_) (fun h4 => ?_)
   ·try rw [h4]
    try simp only [qB] at h4
    refine Qe Z (Qf Z Z (Qe Z (Qx Z Z Z (Qe Z (Z4 Z (Qh Z Z (Qa Z (kc1 hK Z ?_))))))))
    refine Qr (Qo Z ?_)
    (repeat clear hK K); simp_all [Fm]
   ·try rw [h4]
    try simp only [qB] at h4
    refine gn3 Z Z Z (Qh Z Z (Qa Z (kc1 hK Z ?_)))
    refine Qr (Qo Z ?_)
    (repeat clear hK K); simp_all [Fm]
  ·try rw [h3]
   try simp only [qB] at h3
   refine Qe Z (Qf Z Z (Qe Z (Qx Z Z Z (Qe Z (Yz Z Z (Qh Z Z (Qa Z ?_)))))))
   refine Qv (g := 23) Z (fun h5 => ?_) (fun h5 => ?_)
   ·try rw [h5]
    try simp only [qB] at h5
    refine Qe Z (Qf Z Z (Qe Z (QL (cs := [_, _, _, _, _]) Z Z Z Z (Qe Z (Q0 Z Z (Qe Z (Ld Z Z Z (Qh Z Z (Qa Z ?_)))))))))
    refine Qv (g := 29) Z (fun h6 => ?_) (fun h6 => ?_)
    ·try rw [h6]
     try simp only [qB] at h6
     refine Qe Z (Qf Z Z (Qe Z (Qx Z Z Z (Qe Z (Z4 Z (Qh Z Z (Qa Z (kc1 hK Z ?_))))))))
     refine Qr (Qo Z ?_)
     (repeat clear hK K); simp_all [Fm]
    ·try rw [h6]
     try simp only [qB] at h6
     refine gn3 Z Z Z (Qh Z Z (Qa Z (kc1 hK Z ?_)))
     refine Qr (Qo Z ?_)
     (repeat clear hK K); simp_all [Fm]
   ·try rw [h5]
    try simp only [qB] at h5
    refine gn4 Z Z Z Z (Qh Z Z (Qa Z (gn3 Z Z Z (Qh Z Z (Qa Z (kc1 hK Z ?_))))))
    refine Qr (Qo Z ?_)
    (repeat clear hK K); simp_all [Fm]
theorem Zx {e a b c : Int} {p q : List UInt8} {f : Bool} (hp : p.length <= 1000000) (hq : q.length <= 1000000) {e' a' b' c' : Int} {p' q' : List UInt8} {f' : Bool} (hp' : p'.length <= 1000000) (hq' : q'.length <= 1000000) : Ok Tryz.prog 125 [.agg [.int .i64 e, .int .i64 a, .int .i64 b, .int .i64 c, .str p, .str q, .bool f], .agg [.int .i64 e', .int .i64 a', .int .i64 b', .int .i64 c', .str p', .str q', .bool f']] (.int .i64 (Kp e a b c p q f e' a' b' c' p' q' f')) := by
 refine Ok.ofT ZR Tryz.func125 QcL (Qev Z) ?_
 show TW _ _ tf125.body _ _
 refine Qb fun K hK => ZC Z Z Z (ZC Z Z Z (Qa Z (kc2 hK Z Z ?_)))
 refine QA ?_ -- 0
 refine Qb fun K hK => QL (cs := [_, _, _, _, _, _, _]) Z Z Z Z (QC (YH Wa Wa) Z Z (.inr Z) (Z4 Z (Qa Z ?_)))
 refine Qv (g := 9) Z (fun h1 => ?_) (fun h1 => ?_)
 ·try rw [h1]
  try simp only [qB] at h1
  refine gn3 Z Z Z (Qh Z Z (kc3 hK Z Z Z ?_))
  refine ZD Z (Qb fun K hK => Qa Z (kc1 hK Z ?_))
  refine Qr (Qi (Qs Z ?_))
  (repeat clear hK K); first | (simp [Kp, h1]; done) | (simp_all [Kp]; done)
 ·try rw [h1]
  try simp only [qB] at h1
  refine Qe Z (QL (cs := [_, _, _, _, _, _, _]) Z Z Z Z (Qe Z (QC (YH Wa Wa) Z Z (.inr Z) (Qe Z (Z4 Z (Qh Z Z (kc3 hK Z Z Z ?_)))))))
  refine Qt Z (fun h2 => ?_) (fun h2 => ?_)
  ·try rw [h2]
   try simp only [qB] at h2
   refine Qb fun K hK => Qa Z (kc1 hK Z ?_)
   refine Qr (Qi (Qs Z ?_))
   (repeat clear hK K); first | (simp [Kp, h1, h2]; done) | (simp_all [Kp]; done)
  ·try rw [h2]
   try simp only [qB] at h2
   refine Qp (ks2 Z Z ?_)
   refine QA ?_ -- 1
   refine Qb fun K hK => Qf Z Z (Qx Z Z Z (Qf Z Z (Qx Z Z Z ?_)))
   first | refine Xf rfl rfl ?_ | refine Mb rfl rfl ?_
   refine Qa Z ?_
   refine Qv (g := 19) Z (fun h3 => ?_) (fun h3 => ?_)
   ·try rw [h3]
    try simp only [qB] at h3
    refine gn3 Z Z Z (Qh Z Z (kc3 hK Z Z Z ?_))
    refine ZD Z (Qb fun K hK => Qf Z Z (Qx Z Z Z (Qf Z Z (Qx Z Z Z (QC (Zz) Z Z (.inr Z) (Qa Z (kc1 hK Z ?_)))))))
    refine Qr (Qi (Qs Z ?_))
    (repeat clear hK K); first | (simp [Kp, h1, h2, h3]; done) | (simp_all [Kp]; done)
   ·try rw [h3]
    try simp only [qB] at h3
    refine Qe Z (Qf Z Z (Qe Z (Qx Z Z Z (Qe Z (Xf Z Z (Qh Z Z (kc3 hK Z Z Z ?_)))))))
    refine Qt Z (fun h4 => ?_) (fun h4 => ?_)
    ·try rw [h4]
     try simp only [qB] at h4
     refine Qb fun K hK => Qf Z Z (Qx Z Z Z (Qf Z Z (Qx Z Z Z (QC (Zz) Z Z (.inr Z) (Qa Z (kc1 hK Z ?_))))))
     refine Qr (Qi (Qs Z ?_))
     (repeat clear hK K); first | (simp [Kp, h1, h2, h3, h4]; done) | (simp_all [Kp]; done)
    ·try rw [h4]
     try simp only [qB] at h4
     refine Qp (ks2 Z Z ?_)
     refine QA ?_ -- 2
     refine Qb fun K hK => Qf Z Z (QL (cs := [_, _, _, _, _]) Z Z Z Z (Qf Z Z (QL (cs := [_, _, _, _, _]) Z Z Z Z (QC (YE Wa Wa Wa Wa) Z Z (.inr Z) (Qa Z (kc3 hK Z Z Z ?_))))))
     refine Qb fun K hK => Qa Z (Xf Z Z (kc4 hK Z Z Z Z ?_))
     refine Qt Z (fun h5 => ?_) (fun h5 => ?_)
     ·try rw [h5]
      try simp only [qB] at h5
      refine Qb fun K hK => mv2 Z Z (kc1 hK Z ?_)
      refine Qr (Qi (Qs Z ?_))
      (repeat clear hK K); first | (simp [Kp, h1, h2, h3, h4, h5]; done) | (simp_all [Kp]; done)
     ·try rw [h5]
      try simp only [qB] at h5
      refine Qp (ks2 Z Z ?_)
      refine QA ?_ -- 3
      refine Qy (Qb fun K hK => Qf Z Z (Qx Z Z Z (Qf Z Z (Qx Z Z Z (QbT Z Z (Qa Z (kc2 hK Z Z ?_)))))))
      refine Qt Z (fun h6 => ?_) (fun h6 => ?_)
      ·try rw [h6]
       try simp only [qB] at h6
       refine Qb fun K hK => Qa Z (kc1 hK Z ?_)
       refine Qr (Qu (Qi (Qs Z ?_)))
       (repeat clear hK K); first | (simp [Kp, h1, h2, h3, h4, h5, h6]; done) | (simp_all [Kp]; done)
      ·try rw [h6]
       try simp only [qB] at h6
       refine Qb fun K hK => Qf Z Z (Qx Z Z Z (Qa Z (kc1 hK Z ?_)))
       refine Qt Z (fun h7 => ?_) (fun h7 => ?_)
       ·try rw [h7]
        try simp only [qB] at h7
        refine Qb fun K hK => Qa Z (kc1 hK Z ?_)
        refine Qr (Qu (Qi (Qs Z ?_)))
        (repeat clear hK K); first | (simp [Kp, h1, h2, h3, h4, h5, h6, h7]; done) | (simp_all [Kp]; done)
       ·try rw [h7]
        try simp only [qB] at h7
        refine Qp (Qd (QY (Zj) (Qb fun K hK => Qa Z (kc1 hK Z ?_))))
        refine Qr (Qs Z ?_)
        (repeat clear hK K); first | (simp [Kp, h1, h2, h3, h4, h5, h6, h7]; done) | (simp_all [Kp]; done)
theorem Xt {e a b c : Int} {p q : List UInt8} {f : Bool} (hp : p.length <= 1000000) (hq : q.length <= 1000000) {e' a' b' c' : Int} {p' q' : List UInt8} {f' : Bool} (hp' : p'.length <= 1000000) (hq' : q'.length <= 1000000) : Ok Tryz.prog 124 [.agg [.int .i64 e, .int .i64 a, .int .i64 b, .int .i64 c, .str p, .str q, .bool f, .int .i64 e', .int .i64 a', .int .i64 b', .int .i64 c', .str p', .str q', .bool f']] (.bool (Pq e a b c p q f e' a' b' c' p' q' f')) := by
 refine Ok.ofT ZR Tryz.func124 QcK (Qev Z) ?_
 show TW _ _ tf124.body _ _
 refine Qb fun K hK => ZC Z Z Z (Qa Z (kc1 hK Z ?_))
 refine Qb fun K hK => Qf Z Z (QL (cs := [_, _, _, _, _, _, _]) Z Z Z Z (QC (YH Wa Wa) Z Z (.inr Z) (Qa Z ?_)))
 refine Qv (g := 6) Z (fun h1 => ?_) (fun h1 => ?_)
 ·try rw [h1]
  try simp only [qB] at h1
  refine Qe Z (Qf Z Z (Qe Z (QL (cs := [_, _, _, _, _, _, _]) Z Z Z Z (Qe Z (QC (YH Wa Wa) Z Z (.inr Z) (Qh Z Z (Qa Z ?_)))))))
  refine Qv (g := 11) Z (fun h2 => ?_) (fun h2 => ?_)
  ·try rw [h2]
   try simp only [qB] at h2
   refine Qe Z (Qf Z Z (Qe Z (QL (cs := [_, _, _, _, _, _, _]) Z Z Z Z (Qe Z (Qf Z Z (Qe Z (QL (cs := [_, _, _, _, _, _, _]) Z Z Z Z (Qe Z (QC (Zx Wa Wa Wa Wa) Z Z (.inr Z) (Qe Z (Ya Z Z ?_)))))))))))
   refine Qh Z Z (Qa Z (kc1 hK Z ?_))
   refine Qr (Qo Z ?_)
   (repeat clear hK K); first | (simp [Pq, h1, h2]; done) | (simp_all [Pq]; done)
  ·try rw [h2]
   try simp only [qB] at h2
   refine gn4 Z Z Z Z (gn2 Z Z (Qh Z Z (Qa Z (kc1 hK Z ?_))))
   refine Qr (Qo Z ?_)
   (repeat clear hK K); first | (simp [Pq, h1, h2]; done) | (simp_all [Pq]; done)
 ·try rw [h1]
  try simp only [qB] at h1
  refine gn3 Z Z Z (Qh Z Z (Qa Z (gn4 Z Z Z Z (gn2 Z Z (Qh Z Z ?_)))))
  refine Qa Z (kc1 hK Z ?_)
  refine Qr (Qo Z ?_)
  (repeat clear hK K); first | (simp [Pq, h1]; done) | (simp_all [Pq]; done)
open Go Go.Abs M3
theorem _root_.Wk {p : Prop} (h : p := by first | (left; assumption) | (right; omega)) : p := h
theorem JJ {s : List UInt8} (hl : s.length <= 1000000) : Ok Tryz.prog 97 [.str s] (.tup [.int .i64 (Yf s).1, .bool (Yf s).2]) := by
 refine Ok.ofT ZR Tryz.func97 Qep (Qev Z) ?_
 show TW _ _ tf97.body _ _
 refine Qb fun K hK => mv2 Z Z (kc1 hK Z ?_)
 refine F9 (ι := Unit) (fun _u => ⟨[(0, .str s)], []⟩) (fun _u => ¬ (s = [] \/ 4 < s.length \/ (1 < s.length /\ s.head? = some 48))) ?_ ?_
 ·skip
  refine Qb fun K hK => Qa Z (JU Z Z (Qa Z ?_))
  refine Qv (g := 9) Z (fun h1 => ?_) (fun h1 => ?_)
  ·try rw [h1]
   try simp only [qB, Qez, QeI, decide_eq_true_eq] at h1
   refine gn3 Z Z Z (Qh Z Z (Qa Z (gn4 Z Z Z Z (QO Z (QO Z (QO Z ?_))))))
   refine J9 Z (Qh Z Z (kc2 hK Z Z ?_))
   refine ZD Z (Qb fun K hK => mv2 Z Z (kc2 hK Z Z ?_))
   refine Qr (Hr (ZQ Z Z ?_))
   first | (rw [JC (s := s) Wk]; exact ⟨rfl, rfl⟩) | (rw [YJ (s := s) Wa Wd]; exact ⟨rfl, rfl⟩) | (rw [Xn (s := s) (i := i) Wa Wo]; exact ⟨rfl, rfl⟩) | (rw [Hd (s := s) (i := i) hJ Wa hI.2.1]; exact ⟨rfl, by simp [XP, D.fz, D.fzS, D.can, D.canS]; omega⟩)
  ·try rw [h1]
   try simp only [qB, Qez, QeI, decide_eq_true_eq] at h1
   refine Qe Z (Qa Z (Qe Z (Yr Z (Qe Z (JS Z Z (Qh Z Z (Qa Z ?_)))))))
   refine Qv (g := 14) Z (fun h2 => ?_) (fun h2 => ?_)
   ·try rw [h2]
    try simp only [qB, Qez, QeI, decide_eq_true_eq] at h2
    refine gn4 Z Z Z Z (QO Z (QO Z (QO Z (J9 Z (Qh Z Z (kc2 hK Z Z ?_))))))
    refine ZD Z (Qb fun K hK => mv2 Z Z (kc2 hK Z Z ?_))
    refine Qr (Hr (ZQ Z Z ?_))
    first | (rw [JC (s := s) Wk]; exact ⟨rfl, rfl⟩) | (rw [YJ (s := s) Wa Wd]; exact ⟨rfl, rfl⟩) | (rw [Xn (s := s) (i := i) Wa Wo]; exact ⟨rfl, rfl⟩) | (rw [Hd (s := s) (i := i) hJ Wa hI.2.1]; exact ⟨rfl, by simp [XP, D.fz, D.fzS, D.can, D.canS]; omega⟩)
   ·try rw [h2]
    try simp only [qB, Qez, QeI, decide_eq_true_eq] at h2
    refine Qe Z (Qa Z (Qe Z (Yi Z Z Wa (XX (i := 0) (List.length_pos_iff.2 Wd)) (Qe Z (Yz Z Z (Qe Z (Qa Z ?_)))))))
    refine Qv (g := 18) Z (fun h3 => ?_) (fun h3 => ?_)
    ·try rw [h3]
     try simp only [qB, Qez, QeI, decide_eq_true_eq] at h3
     refine Qe Z (Qa Z (Qe Z (Yr Z (Qe Z (JS Z Z (Qe Z (Qh Z Z (Qh Z Z (kc2 hK Z Z ?_)))))))))
     refine Qt Z (fun h4 => ?_) (fun h4 => ?_)
     ·try rw [h4]
      try simp only [qB, Qez, QeI, decide_eq_true_eq] at h4
      refine Qb fun K hK => mv2 Z Z (kc2 hK Z Z ?_)
      refine Qr (Hr (ZQ Z Z ?_))
      first | (rw [JC (s := s) Wk]; exact ⟨rfl, rfl⟩) | (rw [YJ (s := s) Wa Wd]; exact ⟨rfl, rfl⟩) | (rw [Xn (s := s) (i := i) Wa Wo]; exact ⟨rfl, rfl⟩) | (rw [Hd (s := s) (i := i) hJ Wa hI.2.1]; exact ⟨rfl, by simp [XP, D.fz, D.fzS, D.can, D.canS]; omega⟩)
     ·try rw [h4]
      try simp only [qB, Qez, QeI, decide_eq_true_eq] at h4
      refine Qp ?_
      refine Zh () ?_ ?_
      ·exact QU (kp1 rfl)
      ·rintro (q | q | q) <;> first | (simp_all; done) | omega | exact Ph (s := s) Wa Wd q.2
    ·try rw [h3]
     try simp only [qB, Qez, QeI, decide_eq_true_eq] at h3
     refine gn3 Z Z Z (Qe Z (Qh Z Z (Qh Z Z (kc2 hK Z Z ?_))))
     refine Zp Z (Qp ?_)
     refine Zh () ?_ ?_
     ·exact QU (kp1 rfl)
     ·rintro (q | q | q) <;> first | (simp_all; done) | omega | exact Ph (s := s) Wa Wd q.2
 intro _u hJ
 try dsimp only
 refine Qb fun K hK => Qa Z (kc2 hK Z Z ?_)
 refine QA ?_ -- 1
 refine Qb fun K hK => Qa Z (Lg Z Z (kc2 hK Z Z ?_))
 refine Qy ?_
 refine Zy (ι := Nat) (fun i => ⟨[(4, .int .i64 (val (s.take i))), (25, .ref 25 0 0)], [(25, ⟨[], 0, Zv s i, false⟩)]⟩) (fun i => i <= s.length /\ (s.take i).all Yq = true /\ s.length <= 4 /\ 0 < s.length) (fun i => s.length - i) 0 ?_ ?_ ?_
 ·exact QZ (l := [4, 25]) (lH := [25]) (kp2 rfl rfl) (Qc rfl Ql) (by simp [val]) rfl rfl
 ·exact ⟨QeH _, rfl, Nat.le_of_not_lt fun h => hJ (.inr (.inl h)), List.length_pos_iff.2 fun h => hJ (.inl h)⟩
 intro i hI
 have hv := DS (s := s.take i) hI.2.1
 have hp : 10 ^ (s.take i).length <= 10 ^ 4 := Nat.pow_le_pow_right Wa Wi
 have hI1 := hI.1
 have hI3 := hI.2.2.1
 try dsimp only
 refine Qb fun K hK => ?_
 rcases QeT (i) (s).length with h5 | h5
 ·rcases QeT (((s)[i]).toNat) 128 with h6 | h6
  ·refine SV Z Z h5 (Rg h5 h6) (Zl Z Z (kc4 hK Z Z Z Z ?_))
   refine QA ?_ -- 2
   refine ZD Z (Qp (ks3 Z Z Z (Qy (Qb fun K hK => Zl Z Z (Qa Z (kc3 hK Z Z Z ?_))))))
   refine Qy (Qb fun K hK => Qa Z (PX Z Z (Qa Z ?_)))
   refine Qv (g := 32) Z (fun h7 => ?_) (fun h7 => ?_)
   ·try rw [h7]
    try simp only [qB, Qez, QeI, decide_eq_true_eq] at h7
    refine Qe Z (Qa Z (Qe Z (Le Z Z (Qh Z Z (Qa Z (kc4 hK Z Z Z Z ?_))))))
    refine Qt Z (fun h8 => ?_) (fun h8 => ?_)
    ·try rw [h8]
     try simp only [qB, Qez, QeI, decide_eq_true_eq] at h8
     refine QQ fun K hK => Qa Z (Lf Z Z Wb (Qa Z (KI Z Z Wb (Ms Z Wb (Q2 Z Z Wb (Qa Z (hK _ ?_)))))))
     refine Qd (Qd ?_)
     refine Qg (i + 1) ?_ ?_ ?_
     ·first | exact QZ (l := [4, 25]) (lH := [25]) (kp2 rfl rfl) (Qc rfl Ql) rfl rfl rfl | exact QZ (l := [4, 25]) (lH := [25]) (kp2 rfl rfl) (Qc rfl Ql) Wv rfl rfl | (exfalso; omega)
     ·first | exact ⟨Wa, Zk Wa hI.2.1 Wo, hI.2.2⟩ | (exfalso; omega)
     ·first | omega | (simp only; omega) | (dsimp only; omega)
    ·try rw [h8]
     try simp only [qB, Qez, QeI, decide_eq_true_eq] at h8
     refine Qb fun K hK => mv2 Z Z (kc2 hK Z Z ?_)
     refine Qr (Qu (Qu (Zb (Qu (Qi (ZQ Z Z ?_))))))
     first | (rw [JC (s := s) Wk]; exact ⟨rfl, rfl⟩) | (rw [YJ (s := s) Wa Wd]; exact ⟨rfl, rfl⟩) | (rw [Xn (s := s) (i := i) Wa Wo]; exact ⟨rfl, rfl⟩) | (rw [Hd (s := s) (i := i) hJ Wa hI.2.1]; exact ⟨rfl, by simp [XP, D.fz, D.fzS, D.can, D.canS]; omega⟩)
   ·try rw [h7]
    try simp only [qB, Qez, QeI, decide_eq_true_eq] at h7
    refine gn2 Z Z (Qh Z Z (Qa Z (kc4 hK Z Z Z Z ?_)))
    refine Zp Z (Qb fun K hK => mv2 Z Z (kc2 hK Z Z ?_))
    refine Qr (Qu (Qu (Zb (Qu (Qi (ZQ Z Z ?_))))))
    first | (rw [JC (s := s) Wk]; exact ⟨rfl, rfl⟩) | (rw [YJ (s := s) Wa Wd]; exact ⟨rfl, rfl⟩) | (rw [Xn (s := s) (i := i) Wa Wo]; exact ⟨rfl, rfl⟩) | (rw [Hd (s := s) (i := i) hJ Wa hI.2.1]; exact ⟨rfl, by simp [XP, D.fz, D.fzS, D.can, D.canS]; omega⟩)
  ·obtain ⟨cwh6, nwh6, hch6, hdh6⟩ := S4 h5 h6
   refine SV Z Z h5 hdh6 (Zl Z Z (kc4 hK Z Z Z Z ?_))
   refine QA ?_ -- 2
   refine ZD Z (Qp (ks3 Z Z Z (Qy (Qb fun K hK => Zl Z Z (Qa Z (kc3 hK Z Z Z ?_))))))
   refine Qy (Qb fun K hK => Qa Z (PX Z Z (Qa Z ?_)))
   refine Qv (g := 32) Z (fun h9 => ?_) (fun h9 => ?_)
   ·try rw [h9]
    try simp only [qB, Qez, QeI, decide_eq_true_eq] at h9
    refine Qe Z (Qa Z (Qe Z (Le Z Z (Qh Z Z (Qa Z (kc4 hK Z Z Z Z ?_))))))
    refine Qt Z (fun h10 => ?_) (fun h10 => ?_)
    ·try rw [h10]
     try simp only [qB, Qez, QeI, decide_eq_true_eq] at h10
     refine QQ fun K hK => Qa Z (Lf Z Z Wb (Qa Z (KI Z Z Wb (Ms Z Wb (Q2 Z Z Wb (Qa Z (hK _ ?_)))))))
     refine Qd (Qd ?_)
     refine Qg (i + 1) ?_ ?_ ?_
     ·first | exact QZ (l := [4, 25]) (lH := [25]) (kp2 rfl rfl) (Qc rfl Ql) rfl rfl rfl | exact QZ (l := [4, 25]) (lH := [25]) (kp2 rfl rfl) (Qc rfl Ql) Wv rfl rfl | (exfalso; omega)
     ·first | exact ⟨Wa, Zk Wa hI.2.1 Wo, hI.2.2⟩ | (exfalso; omega)
     ·first | omega | (simp only; omega) | (dsimp only; omega)
    ·try rw [h10]
     try simp only [qB, Qez, QeI, decide_eq_true_eq] at h10
     refine Qb fun K hK => mv2 Z Z (kc2 hK Z Z ?_)
     refine Qr (Qu (Qu (Zb (Qu (Qi (ZQ Z Z ?_))))))
     first | (rw [JC (s := s) Wk]; exact ⟨rfl, rfl⟩) | (rw [YJ (s := s) Wa Wd]; exact ⟨rfl, rfl⟩) | (rw [Xn (s := s) (i := i) Wa Wo]; exact ⟨rfl, rfl⟩) | (rw [Hd (s := s) (i := i) hJ Wa hI.2.1]; exact ⟨rfl, by simp [XP, D.fz, D.fzS, D.can, D.canS]; omega⟩)
   ·try rw [h9]
    try simp only [qB, Qez, QeI, decide_eq_true_eq] at h9
    refine gn2 Z Z (Qh Z Z (Qa Z (kc4 hK Z Z Z Z ?_)))
    refine Zp Z (Qb fun K hK => mv2 Z Z (kc2 hK Z Z ?_))
    refine Qr (Qu (Qu (Zb (Qu (Qi (ZQ Z Z ?_))))))
    first | (rw [JC (s := s) Wk]; exact ⟨rfl, rfl⟩) | (rw [YJ (s := s) Wa Wd]; exact ⟨rfl, rfl⟩) | (rw [Xn (s := s) (i := i) Wa Wo]; exact ⟨rfl, rfl⟩) | (rw [Hd (s := s) (i := i) hJ Wa hI.2.1]; exact ⟨rfl, by simp [XP, D.fz, D.fzS, D.can, D.canS]; omega⟩)
 ·refine PY Z Z Wa (Zl Z Z (kc4 hK Z Z Z Z ?_))
  refine QA ?_ -- 2
  refine Zp Z (Zd (QD (Qq (Qz (ks1 Z (Qb fun K hK => mv2 Z Z (Le Z Z (mv2 Z Z ?_))))))))
  refine kc2 hK Z Z ?_
  refine Qr (ZQ Z Z ?_)
  first | (rw [JC (s := s) Wk]; exact ⟨rfl, rfl⟩) | (rw [YJ (s := s) Wa Wd]; exact ⟨rfl, rfl⟩) | (rw [Xn (s := s) (i := i) Wa Wo]; exact ⟨rfl, rfl⟩) | (rw [Hd (s := s) (i := i) hJ Wa hI.2.1]; exact ⟨rfl, by simp [XP, D.fz, D.fzS, D.can, D.canS]; omega⟩)
theorem _root_.Wl {p : Prop} (h : p := by decide) : p := h
theorem JL {s : List UInt8} (hl : s.length <= 1000000) : Ok Tryz.prog 94 [.str s] (.bool (HT s)) := by
 refine Ok.ofT ZR Tryz.func94 Qem (Qev Z) ?_
 show TW _ _ tf94.body _ _
 refine Qb fun K hK => Qa Z (kc1 hK Z ?_)
 refine BI (Qb fun K hK => Qa Z (QC (X0 Wa) Z Z (.inl Z) (Qa Z (kc1 hK Z ?_))))
 refine Qb fun K hK => Qa Z (QI Z Z (Le Z Z (Qa Z (kc2 hK Z Z ?_))))
 refine QA ?_ -- 0
 refine Qp (ks2 Z Z ?_)
 refine QA ?_ -- 1
 refine Qb fun K hK => Qa Z (QI Z Z (Qa Z (kc4 hK Z Z Z Z ?_)))
 refine Qy ?_
 refine Zy (ι := Nat) (fun i => ⟨[(4, .bool (decide ((Q9 s 46).length <= 4))), (14, .sl (Yg (Q9 s 46))), (15, .int .i64 (Q9 s 46).length), (16, .int .i64 i)], []⟩) (fun i => i <= (Q9 s 46).length /\ ((Q9 s 46).take i).all KG = true) (fun i => (Q9 s 46).length - i) 0 ?_ ?_ ?_
 ·exact QZ (l := [4, 14, 15, 16]) (kp4 rfl rfl rfl rfl) Ql (by simp [Qm]; omega) rfl rfl
 ·exact ⟨QeH _, rfl⟩
 intro i hI
 have sl := G0 (s := s) (c := 46)
 try dsimp only
 refine Qb fun K hK => Ya Z Z (kc5 hK Z Z Z Z Z ?_)
 refine QA ?_ -- 2
 refine Qt Z (fun h1 => ?_) (fun h1 => ?_)
 ·try rw [h1]
  try simp only [qB, Qm] at h1
  refine Qp (ks4 Z Z Z Z ?_)
  refine QA ?_ -- 3
  refine Qy (Qb fun K hK => QG Z Z Z Wa (Y7 Wa) Z (Qx Z Z Z (Qa Z (kc5 hK Z Z Z Z Z ?_))))
  refine QA ?_ -- 4
  refine Qb fun K hK => Qa Z (JU Z Z (Qa Z ?_))
  refine Qv (g := 22) Z (fun h2 => ?_) (fun h2 => ?_)
  ·try rw [h2]
   try simp only [qB, Qm] at h2
   refine gn3 Z Z Z (Qh Z Z (kc6 hK Z Z Z Z Z Z ?_))
   refine ZD Z (Qb fun K hK => Qa Z (kc1 hK Z ?_))
   refine Zd (QD (Zi Wl (QD (Qq (Qz (ks1 Z (Qb fun K hK => mv2 Z Z (kc1 hK Z ?_))))))))
   refine Qr (Qo Z ?_)
   first | exact (ZO (i := i) Wa (Xl Wk)).symm | exact (ZO (i := i) Wa (Xk (Yj (i := j) Wa Wn))).symm | exact (YS Wa hI.2).symm
  ·try rw [h2]
   try simp only [qB, Qm] at h2
   refine Qe Z (Qa Z (Qe Z (Yr Z (Qe Z (JS Z Z (Qh Z Z (kc6 hK Z Z Z Z Z Z ?_)))))))
   refine Qt Z (fun h3 => ?_) (fun h3 => ?_)
   ·try rw [h3]
    try simp only [qB, Qm] at h3
    refine Qb fun K hK => Qa Z (kc1 hK Z ?_)
    refine Zd (QD (Zi Wl (QD (Qq (Qz (ks1 Z (Qb fun K hK => mv2 Z Z (kc1 hK Z ?_))))))))
    refine Qr (Qo Z ?_)
    first | exact (ZO (i := i) Wa (Xl Wk)).symm | exact (ZO (i := i) Wa (Xk (Yj (i := j) Wa Wn))).symm | exact (YS Wa hI.2).symm
   ·try rw [h3]
    try simp only [qB, Qm] at h3
    refine Qp (ks5 Z Z Z Z Z (Qb fun K hK => Qa Z (Lg Z Z (kc5 hK Z Z Z Z Z ?_))))
    refine Qy ?_
    have hlt : i < (Q9 s 46).length := Wa
    refine Zy (ι := Nat) (fun j => ⟨[(4, .bool (decide ((Q9 s 46).length <= 4))), (14, .sl (Yg (Q9 s 46))), (15, .int .i64 (Q9 s 46).length), (16, .int .i64 i), (28, .ref 28 0 0)], [(28, ⟨[], 0, Zv ((Q9 s 46)[i]'hlt) j, false⟩)]⟩) (fun j => j <= ((Q9 s 46)[i]'hlt).length /\ (((Q9 s 46)[i]'hlt).take j).all ZM = true) (fun j => ((Q9 s 46)[i]'hlt).length - j) 0 ?_ ?_ ?_
    ·first | exact QZ (l := [4, 14, 15, 16, 28]) (lH := [28]) (kp5 rfl rfl rfl rfl rfl) (Qc rfl Ql) rfl rfl rfl | (exfalso; omega)
    ·exact ⟨QeH _, rfl⟩
    intro j hJ
    have hJ1 := hJ.1
    try dsimp only
    refine Qb fun K hK => ?_
    rcases QeT (j) (((Q9 s 46)[i]'hlt)).length with h4 | h4
    ·rcases QeT (((((Q9 s 46)[i]'hlt))[j]).toNat) 128 with h5 | h5
     ·refine SV Z Z h4 (Rg h4 h5) (Zl Z Z (kc7 hK Z Z Z Z Z Z Z ?_))
      refine QA ?_ -- 5
      refine ZD Z (Qp (ks6 Z Z Z Z Z Z (Qy (Qb fun K hK => Zl Z Z (Qa Z (kc6 hK Z Z Z Z Z Z ?_))))))
      refine Qb fun K hK => Qa Z (Ya Z Z (Qa Z ?_))
      refine Qv (g := 34) Z (fun h6 => ?_) (fun h6 => ?_)
      ·try rw [h6]
       try simp only [qB, Qm] at h6
       refine gn2 Z Z (Qh Z Z (Qa Z (Qe Z (Qa Z (Qe Z (Ya Z Z (Qe Z (Qa Z ?_))))))))
       refine Qv (g := 41) Z (fun h7 => ?_) (fun h7 => ?_)
       ·try rw [h7]
        try simp only [qB, Qm] at h7
        refine gn2 Z Z (Qe Z (Qh Z Z (Qh Z Z (Qa Z (Qe Z (Qa Z (Qe Z (Xf Z Z (Qh Z Z (kc6 hK Z Z Z Z Z Z ?_))))))))))
        refine Qt Z (fun h8 => ?_) (fun h8 => ?_)
        ·try rw [h8]
         try simp only [qB, Qm] at h8
         refine Qb fun K hK => Qa Z (kc1 hK Z ?_)
         refine Zd (Zi Wl (Qq (Zi Wl (Zi Wl (QD (Qq (Qz (ks1 Z (Qb fun K hK => mv2 Z Z ?_)))))))))
         refine kc1 hK Z ?_
         refine Qr (Qo Z ?_)
         first | exact (ZO (i := i) Wa (Xl Wk)).symm | exact (ZO (i := i) Wa (Xk (Yj (i := j) Wa Wn))).symm | exact (YS Wa hI.2).symm
        ·try rw [h8]
         try simp only [qB, Qm] at h8
         refine Qp (Qd ?_)
         refine Qg (j + 1) ?_ ?_ ?_
         ·first | exact QZ (l := [4, 14, 15, 16, 28]) (lH := [28]) (kp5 rfl rfl rfl rfl rfl) (Qc rfl Ql) rfl rfl rfl | (exfalso; omega)
         ·first | exact ⟨Wa, Zk Wa hJ.2 Wn⟩ | (exfalso; omega)
         ·first | omega | (simp only; omega) | (dsimp only; omega)
       ·try rw [h7]
        try simp only [qB, Qm] at h7
        refine Qe Z (Qa Z (Qe Z (JS Z Z (Qe Z (Qh Z Z (Qh Z Z (Qa Z ?_)))))))
        refine Qv (g := 46) Z (fun h9 => ?_) (fun h9 => ?_)
        ·try rw [h9]
         try simp only [qB, Qm] at h9
         refine Qe Z (Qa Z (Qe Z (Xf Z Z (Qh Z Z (kc6 hK Z Z Z Z Z Z ?_)))))
         refine Qt Z (fun h10 => ?_) (fun h10 => ?_)
         ·try rw [h10]
          try simp only [qB, Qm] at h10
          refine Qb fun K hK => Qa Z (kc1 hK Z ?_)
          refine Zd (Zi Wl (Qq (Zi Wl (Zi Wl (QD (Qq (Qz (ks1 Z (Qb fun K hK => mv2 Z Z ?_)))))))))
          refine kc1 hK Z ?_
          refine Qr (Qo Z ?_)
          first | exact (ZO (i := i) Wa (Xl Wk)).symm | exact (ZO (i := i) Wa (Xk (Yj (i := j) Wa Wn))).symm | exact (YS Wa hI.2).symm
         ·try rw [h10]
          try simp only [qB, Qm] at h10
          refine Qp (Qd ?_)
          refine Qg (j + 1) ?_ ?_ ?_
          ·first | exact QZ (l := [4, 14, 15, 16, 28]) (lH := [28]) (kp5 rfl rfl rfl rfl rfl) (Qc rfl Ql) rfl rfl rfl | (exfalso; omega)
          ·first | exact ⟨Wa, Zk Wa hJ.2 Wn⟩ | (exfalso; omega)
          ·first | omega | (simp only; omega) | (dsimp only; omega)
        ·try rw [h9]
         try simp only [qB, Qm] at h9
         refine gn2 Z Z (Qh Z Z (kc6 hK Z Z Z Z Z Z ?_))
         refine Zp Z (Qp (Qd ?_))
         refine Qg (j + 1) ?_ ?_ ?_
         ·first | exact QZ (l := [4, 14, 15, 16, 28]) (lH := [28]) (kp5 rfl rfl rfl rfl rfl) (Qc rfl Ql) rfl rfl rfl | (exfalso; omega)
         ·first | exact ⟨Wa, Zk Wa hJ.2 Wn⟩ | (exfalso; omega)
         ·first | omega | (simp only; omega) | (dsimp only; omega)
      ·try rw [h6]
       try simp only [qB, Qm] at h6
       refine Qe Z (Qa Z (Qe Z (JS Z Z (Qh Z Z (Qa Z ?_)))))
       refine Qv (g := 38) Z (fun h11 => ?_) (fun h11 => ?_)
       ·try rw [h11]
        try simp only [qB, Qm] at h11
        refine Qe Z (Qa Z (Qe Z (Ya Z Z (Qe Z (Qa Z ?_)))))
        refine Qv (g := 41) Z (fun h12 => ?_) (fun h12 => ?_)
        ·try rw [h12]
         try simp only [qB, Qm] at h12
         refine gn2 Z Z (Qe Z (Qh Z Z (Qh Z Z (Qa Z (Qe Z (Qa Z (Qe Z (Xf Z Z (Qh Z Z (kc6 hK Z Z Z Z Z Z ?_))))))))))
         refine Qt Z (fun h13 => ?_) (fun h13 => ?_)
         ·try rw [h13]
          try simp only [qB, Qm] at h13
          refine Qb fun K hK => Qa Z (kc1 hK Z ?_)
          refine Zd (Zi Wl (Qq (Zi Wl (Zi Wl (QD (Qq (Qz (ks1 Z (Qb fun K hK => mv2 Z Z ?_)))))))))
          refine kc1 hK Z ?_
          refine Qr (Qo Z ?_)
          first | exact (ZO (i := i) Wa (Xl Wk)).symm | exact (ZO (i := i) Wa (Xk (Yj (i := j) Wa Wn))).symm | exact (YS Wa hI.2).symm
         ·try rw [h13]
          try simp only [qB, Qm] at h13
          refine Qp (Qd ?_)
          refine Qg (j + 1) ?_ ?_ ?_
          ·first | exact QZ (l := [4, 14, 15, 16, 28]) (lH := [28]) (kp5 rfl rfl rfl rfl rfl) (Qc rfl Ql) rfl rfl rfl | (exfalso; omega)
          ·first | exact ⟨Wa, Zk Wa hJ.2 Wn⟩ | (exfalso; omega)
          ·first | omega | (simp only; omega) | (dsimp only; omega)
        ·try rw [h12]
         try simp only [qB, Qm] at h12
         refine Qe Z (Qa Z (Qe Z (JS Z Z (Qe Z (Qh Z Z (Qh Z Z (Qa Z ?_)))))))
         refine Qv (g := 46) Z (fun h14 => ?_) (fun h14 => ?_)
         ·try rw [h14]
          try simp only [qB, Qm] at h14
          refine Qe Z (Qa Z (Qe Z (Xf Z Z (Qh Z Z (kc6 hK Z Z Z Z Z Z ?_)))))
          refine Qt Z (fun h15 => ?_) (fun h15 => ?_)
          ·try rw [h15]
           try simp only [qB, Qm] at h15
           refine Qb fun K hK => Qa Z (kc1 hK Z ?_)
           refine Zd (Zi Wl (Qq (Zi Wl (Zi Wl (QD (Qq (Qz (ks1 Z (Qb fun K hK => mv2 Z Z ?_)))))))))
           refine kc1 hK Z ?_
           refine Qr (Qo Z ?_)
           first | exact (ZO (i := i) Wa (Xl Wk)).symm | exact (ZO (i := i) Wa (Xk (Yj (i := j) Wa Wn))).symm | exact (YS Wa hI.2).symm
          ·try rw [h15]
           try simp only [qB, Qm] at h15
           refine Qp (Qd ?_)
           refine Qg (j + 1) ?_ ?_ ?_
           ·first | exact QZ (l := [4, 14, 15, 16, 28]) (lH := [28]) (kp5 rfl rfl rfl rfl rfl) (Qc rfl Ql) rfl rfl rfl | (exfalso; omega)
           ·first | exact ⟨Wa, Zk Wa hJ.2 Wn⟩ | (exfalso; omega)
           ·first | omega | (simp only; omega) | (dsimp only; omega)
         ·try rw [h14]
          try simp only [qB, Qm] at h14
          refine gn2 Z Z (Qh Z Z (kc6 hK Z Z Z Z Z Z ?_))
          refine Zp Z (Qp (Qd ?_))
          refine Qg (j + 1) ?_ ?_ ?_
          ·first | exact QZ (l := [4, 14, 15, 16, 28]) (lH := [28]) (kp5 rfl rfl rfl rfl rfl) (Qc rfl Ql) rfl rfl rfl | (exfalso; omega)
          ·first | exact ⟨Wa, Zk Wa hJ.2 Wn⟩ | (exfalso; omega)
          ·first | omega | (simp only; omega) | (dsimp only; omega)
       ·try rw [h11]
        try simp only [qB, Qm] at h11
        refine gn3 Z Z Z (QO Z (QO Z (J9 Z (Qh Z Z (Qa Z (gn2 Z Z (Qh Z Z (kc6 hK Z Z Z Z Z Z ?_))))))))
        refine Zp Z (Qp (Qd ?_))
        refine Qg (j + 1) ?_ ?_ ?_
        ·first | exact QZ (l := [4, 14, 15, 16, 28]) (lH := [28]) (kp5 rfl rfl rfl rfl rfl) (Qc rfl Ql) rfl rfl rfl | (exfalso; omega)
        ·first | exact ⟨Wa, Zk Wa hJ.2 Wn⟩ | (exfalso; omega)
        ·first | omega | (simp only; omega) | (dsimp only; omega)
     ·obtain ⟨cwh5, nwh5, hch5, hdh5⟩ := S4 h4 h5
      refine SV Z Z h4 hdh5 (Zl Z Z (kc7 hK Z Z Z Z Z Z Z ?_))
      refine QA ?_ -- 5
      refine ZD Z (Qp (ks6 Z Z Z Z Z Z (Qy (Qb fun K hK => Zl Z Z (Qa Z (kc6 hK Z Z Z Z Z Z ?_))))))
      refine Qb fun K hK => Qa Z (Ya Z Z (Qa Z ?_))
      refine Qv (g := 34) Z (fun h16 => ?_) (fun h16 => ?_)
      ·try rw [h16]
       try simp only [qB, Qm] at h16
       refine gn2 Z Z (Qh Z Z (Qa Z (Qe Z (Qa Z (Qe Z (Ya Z Z (Qe Z (Qa Z ?_))))))))
       refine Qv (g := 41) Z (fun h17 => ?_) (fun h17 => ?_)
       ·try rw [h17]
        try simp only [qB, Qm] at h17
        refine gn2 Z Z (Qe Z (Qh Z Z (Qh Z Z (Qa Z (Qe Z (Qa Z (Qe Z (Xf Z Z (Qh Z Z (kc6 hK Z Z Z Z Z Z ?_))))))))))
        refine Qt Z (fun h18 => ?_) (fun h18 => ?_)
        ·try rw [h18]
         try simp only [qB, Qm] at h18
         refine Qb fun K hK => Qa Z (kc1 hK Z ?_)
         refine Zd (Zi Wl (Qq (Zi Wl (Zi Wl (QD (Qq (Qz (ks1 Z (Qb fun K hK => mv2 Z Z ?_)))))))))
         refine kc1 hK Z ?_
         refine Qr (Qo Z ?_)
         first | exact (ZO (i := i) Wa (Xl Wk)).symm | exact (ZO (i := i) Wa (Xk (Yj (i := j) Wa Wn))).symm | exact (YS Wa hI.2).symm
        ·try rw [h18]
         try simp only [qB, Qm] at h18
         refine Qp (Qd ?_)
         refine Qg (j + 1) ?_ ?_ ?_
         ·first | exact QZ (l := [4, 14, 15, 16, 28]) (lH := [28]) (kp5 rfl rfl rfl rfl rfl) (Qc rfl Ql) rfl rfl rfl | (exfalso; omega)
         ·first | exact ⟨Wa, Zk Wa hJ.2 Wn⟩ | (exfalso; omega)
         ·first | omega | (simp only; omega) | (dsimp only; omega)
       ·try rw [h17]
        try simp only [qB, Qm] at h17
        refine Qe Z (Qa Z (Qe Z (JS Z Z (Qe Z (Qh Z Z (Qh Z Z (Qa Z ?_)))))))
        refine Qv (g := 46) Z (fun h19 => ?_) (fun h19 => ?_)
        ·try rw [h19]
         try simp only [qB, Qm] at h19
         refine Qe Z (Qa Z (Qe Z (Xf Z Z (Qh Z Z (kc6 hK Z Z Z Z Z Z ?_)))))
         refine Qt Z (fun h20 => ?_) (fun h20 => ?_)
         ·try rw [h20]
          try simp only [qB, Qm] at h20
          refine Qb fun K hK => Qa Z (kc1 hK Z ?_)
          refine Zd (Zi Wl (Qq (Zi Wl (Zi Wl (QD (Qq (Qz (ks1 Z (Qb fun K hK => mv2 Z Z ?_)))))))))
          refine kc1 hK Z ?_
          refine Qr (Qo Z ?_)
          first | exact (ZO (i := i) Wa (Xl Wk)).symm | exact (ZO (i := i) Wa (Xk (Yj (i := j) Wa Wn))).symm | exact (YS Wa hI.2).symm
         ·try rw [h20]
          try simp only [qB, Qm] at h20
          refine Qp (Qd ?_)
          refine Qg (j + 1) ?_ ?_ ?_
          ·first | exact QZ (l := [4, 14, 15, 16, 28]) (lH := [28]) (kp5 rfl rfl rfl rfl rfl) (Qc rfl Ql) rfl rfl rfl | (exfalso; omega)
          ·first | exact ⟨Wa, Zk Wa hJ.2 Wn⟩ | (exfalso; omega)
          ·first | omega | (simp only; omega) | (dsimp only; omega)
        ·try rw [h19]
         try simp only [qB, Qm] at h19
         refine gn2 Z Z (Qh Z Z (kc6 hK Z Z Z Z Z Z ?_))
         refine Zp Z (Qp (Qd ?_))
         refine Qg (j + 1) ?_ ?_ ?_
         ·first | exact QZ (l := [4, 14, 15, 16, 28]) (lH := [28]) (kp5 rfl rfl rfl rfl rfl) (Qc rfl Ql) rfl rfl rfl | (exfalso; omega)
         ·first | exact ⟨Wa, Zk Wa hJ.2 Wn⟩ | (exfalso; omega)
         ·first | omega | (simp only; omega) | (dsimp only; omega)
      ·try rw [h16]
       try simp only [qB, Qm] at h16
       refine Qe Z (Qa Z (Qe Z (JS Z Z (Qh Z Z (Qa Z ?_)))))
       refine Qv (g := 38) Z (fun h21 => ?_) (fun h21 => ?_)
       ·try rw [h21]
        try simp only [qB, Qm] at h21
        refine Qe Z (Qa Z (Qe Z (Ya Z Z (Qe Z (Qa Z ?_)))))
        refine Qv (g := 41) Z (fun h22 => ?_) (fun h22 => ?_)
        ·try rw [h22]
         try simp only [qB, Qm] at h22
         refine gn2 Z Z (Qe Z (Qh Z Z (Qh Z Z (Qa Z (Qe Z (Qa Z (Qe Z (Xf Z Z (Qh Z Z (kc6 hK Z Z Z Z Z Z ?_))))))))))
         refine Qt Z (fun h23 => ?_) (fun h23 => ?_)
         ·try rw [h23]
          try simp only [qB, Qm] at h23
          refine Qb fun K hK => Qa Z (kc1 hK Z ?_)
          refine Zd (Zi Wl (Qq (Zi Wl (Zi Wl (QD (Qq (Qz (ks1 Z (Qb fun K hK => mv2 Z Z ?_)))))))))
          refine kc1 hK Z ?_
          refine Qr (Qo Z ?_)
          first | exact (ZO (i := i) Wa (Xl Wk)).symm | exact (ZO (i := i) Wa (Xk (Yj (i := j) Wa Wn))).symm | exact (YS Wa hI.2).symm
         ·try rw [h23]
          try simp only [qB, Qm] at h23
          refine Qp (Qd ?_)
          refine Qg (j + 1) ?_ ?_ ?_
          ·first | exact QZ (l := [4, 14, 15, 16, 28]) (lH := [28]) (kp5 rfl rfl rfl rfl rfl) (Qc rfl Ql) rfl rfl rfl | (exfalso; omega)
          ·first | exact ⟨Wa, Zk Wa hJ.2 Wn⟩ | (exfalso; omega)
          ·first | omega | (simp only; omega) | (dsimp only; omega)
        ·try rw [h22]
         try simp only [qB, Qm] at h22
         refine Qe Z (Qa Z (Qe Z (JS Z Z (Qe Z (Qh Z Z (Qh Z Z (Qa Z ?_)))))))
         refine Qv (g := 46) Z (fun h24 => ?_) (fun h24 => ?_)
         ·try rw [h24]
          try simp only [qB, Qm] at h24
          refine Qe Z (Qa Z (Qe Z (Xf Z Z (Qh Z Z (kc6 hK Z Z Z Z Z Z ?_)))))
          refine Qt Z (fun h25 => ?_) (fun h25 => ?_)
          ·try rw [h25]
           try simp only [qB, Qm] at h25
           refine Qb fun K hK => Qa Z (kc1 hK Z ?_)
           refine Zd (Zi Wl (Qq (Zi Wl (Zi Wl (QD (Qq (Qz (ks1 Z (Qb fun K hK => mv2 Z Z ?_)))))))))
           refine kc1 hK Z ?_
           refine Qr (Qo Z ?_)
           first | exact (ZO (i := i) Wa (Xl Wk)).symm | exact (ZO (i := i) Wa (Xk (Yj (i := j) Wa Wn))).symm | exact (YS Wa hI.2).symm
          ·try rw [h25]
           try simp only [qB, Qm] at h25
           refine Qp (Qd ?_)
           refine Qg (j + 1) ?_ ?_ ?_
           ·first | exact QZ (l := [4, 14, 15, 16, 28]) (lH := [28]) (kp5 rfl rfl rfl rfl rfl) (Qc rfl Ql) rfl rfl rfl | (exfalso; omega)
           ·first | exact ⟨Wa, Zk Wa hJ.2 Wn⟩ | (exfalso; omega)
           ·first | omega | (simp only; omega) | (dsimp only; omega)
         ·try rw [h24]
          try simp only [qB, Qm] at h24
          refine gn2 Z Z (Qh Z Z (kc6 hK Z Z Z Z Z Z ?_))
          refine Zp Z (Qp (Qd ?_))
          refine Qg (j + 1) ?_ ?_ ?_
          ·first | exact QZ (l := [4, 14, 15, 16, 28]) (lH := [28]) (kp5 rfl rfl rfl rfl rfl) (Qc rfl Ql) rfl rfl rfl | (exfalso; omega)
          ·first | exact ⟨Wa, Zk Wa hJ.2 Wn⟩ | (exfalso; omega)
          ·first | omega | (simp only; omega) | (dsimp only; omega)
       ·try rw [h21]
        try simp only [qB, Qm] at h21
        refine gn3 Z Z Z (QO Z (QO Z (J9 Z (Qh Z Z (Qa Z (gn2 Z Z (Qh Z Z (kc6 hK Z Z Z Z Z Z ?_))))))))
        refine Zp Z (Qp (Qd ?_))
        refine Qg (j + 1) ?_ ?_ ?_
        ·first | exact QZ (l := [4, 14, 15, 16, 28]) (lH := [28]) (kp5 rfl rfl rfl rfl rfl) (Qc rfl Ql) rfl rfl rfl | (exfalso; omega)
        ·first | exact ⟨Wa, Zk Wa hJ.2 Wn⟩ | (exfalso; omega)
        ·first | omega | (simp only; omega) | (dsimp only; omega)
    ·refine PY Z Z Wa (Zl Z Z (kc7 hK Z Z Z Z Z Z Z ?_))
     refine QA ?_ -- 5
     refine Zp Z (Zd (QD (Qq (Qz (Qd (ks4 Z Z Z Z (QQ fun K hK => Q2 Z Z Wb (Qa Z (hK _ ?_)))))))))
     refine Qg (i + 1) ?_ ?_ ?_
     ·exact QZ (l := [4, 14, 15, 16]) (kp4 rfl rfl rfl rfl) Ql rfl rfl rfl
     ·exact ⟨Wa, Zk Wa hI.2 (Qaf Wd Wa (Xb Wa hJ.2))⟩
     ·first | omega | (simp only; omega) | (dsimp only; omega)
 ·try rw [h1]
  try simp only [qB, Qm] at h1
  refine Zd (QD (Qq (Qz (ks1 Z (Qb fun K hK => mv2 Z Z (kc1 hK Z ?_))))))
  refine Qr (Qo Z ?_)
  first | exact (ZO (i := i) Wa (Xl Wk)).symm | exact (ZO (i := i) Wa (Xk (Yj (i := j) Wa Wn))).symm | exact (YS Wa hI.2).symm
open Go Go.Abs M3
theorem M4 {a b : List UInt8} (ha : a.length <= 1000000) (hb : b.length <= 1000000) : Ok Tryz.prog 76 [.str a, .str b] (.int .i64 (Mm a b)) := by
 refine Ok.ofT ZR Tryz.func76 Qd4 (Qev Z) ?_
 show TW _ _ tf76.body _ _
 refine Qb fun K hK => Qa Z (kc2 hK Z Z ?_)
 refine Qb fun K hK => Qa Z (QC (Xw Wa) Z Z (.inr Z) (Qa Z (QC (Xw Wa) Z Z (.inr Z) (mv2 Z Z (kc4 hK Z Z Z Z ?_)))))
 refine QA ?_ -- 0
 refine Qb fun K hK => mv2 Z Z ?_
 refine Qv (g := 16) Z (fun h1 => ?_) (fun h1 => ?_)
 ·try rw [h1]
  try simp only [qB] at h1
  refine Qe Z (Qa Z (Qh Z Z (kc5 hK Z Z Z Z Z ?_)))
  refine Qt Z (fun h2 => ?_) (fun h2 => ?_)
  ·try rw [h2]
   try simp only [qB] at h2
   refine Qb fun K hK => Qa Z (QC (JJ Wa) Z Z (.inr Z) (Qa Z (Zl Z Z (Zl Z Z (mv2 Z Z (kc2 hK Z Z ?_))))))
   refine Qb fun K hK => Qa Z (QC (JJ Wa) Z Z (.inr Z) (Qa Z (Zl Z Z (Zl Z Z (mv2 Z Z (kc2 hK Z Z ?_))))))
   refine Qb fun K hK => mv2 Z Z (QC (Z3) Z Z (.inr Z) (Qa Z (kc1 hK Z ?_)))
   refine Qr (Qi (Qs Z ?_))
   (repeat clear hK K); first | (simp [Mm, h1, h2]; done) | (simp_all [Mm]; done)
  ·try rw [h2]
   try simp only [qB] at h2
   refine Qp (ks4 Z Z Z Z ?_)
   refine QA ?_ -- 1
   refine Qb fun K hK => mv2 Z Z (QaW Z Z (kc4 hK Z Z Z Z ?_))
   refine Qt Z (fun h3 => ?_) (fun h3 => ?_)
   ·try rw [h3]
    try simp only [qB] at h3
    refine QA ?_ -- 2
    refine Qb fun K hK => Qa Z (kc1 hK Z ?_)
    refine ZD Z (Qb fun K hK => Qa Z (kc1 hK Z ?_))
    refine Qr (Qi (Qi (Qs Z ?_)))
    (repeat clear hK K); first | (simp [Mm, h1, h2, h3]; done) | (simp_all [Mm]; done)
   ·try rw [h3]
    try simp only [qB] at h3
    refine Qp (ks2 Z Z (Qb fun K hK => mv2 Z Z (QC (XQ) Z Z (.inr Z) (Qa Z (kc1 hK Z ?_)))))
    refine Qr (Qs Z ?_)
    (repeat clear hK K); first | (simp [Mm, h1, h2, h3]; done) | (simp_all [Mm]; done)
 ·try rw [h1]
  try simp only [qB] at h1
  refine J9 Z (Qh Z Z (kc5 hK Z Z Z Z Z ?_))
  refine Zp Z (Qp (ks4 Z Z Z Z ?_))
  refine QA ?_ -- 1
  refine Qb fun K hK => mv2 Z Z (QaW Z Z (kc4 hK Z Z Z Z ?_))
  refine Qt Z (fun h4 => ?_) (fun h4 => ?_)
  ·try rw [h4]
   try simp only [qB] at h4
   refine QA ?_ -- 2
   refine Qb fun K hK => Qa Z (kc1 hK Z ?_)
   refine Zp Z (Qp (QY (Zj) (Qb fun K hK => Qa Z (kc1 hK Z ?_))))
   refine Qr (Qi (Qs Z ?_))
   (repeat clear hK K); first | (simp [Mm, h1, h4]; done) | (simp_all [Mm]; done)
  ·try rw [h4]
   try simp only [qB] at h4
   refine Qp (ks2 Z Z (Qb fun K hK => mv2 Z Z (QC (XQ) Z Z (.inr Z) (Qa Z (kc1 hK Z ?_)))))
   refine Qr (Qs Z ?_)
   (repeat clear hK K); first | (simp [Mm, h1, h4]; done) | (simp_all [Mm]; done)
theorem M2 {s : List UInt8} (hl : s.length <= 1000000) : Ok Tryz.prog 93 [.str s] (.bool (Mn s)) := by
 refine Ok.ofT ZR Tryz.func93 Qel (Qev Z) ?_
 show TW _ _ tf93.body _ _
 refine Qb fun K hK => Qa Z (kc1 hK Z ?_)
 refine QA ?_ -- 0
 refine Qb fun K hK => Qa Z (QC (JL Wa) Z Z (.inr Z) (Z4 Z (kc2 hK Z Z ?_)))
 refine Qt Z (fun h1 => ?_) (fun h1 => ?_)
 ·try rw [h1]
  try simp only [qB, Qm] at h1
  refine Qb fun K hK => Qa Z (kc1 hK Z ?_)
  refine Qr (Qi (Qo Z ?_))
  first | (simp [Mn, h1]; done) | exact (Sy (i := i) Wa (by simp [FL, h1])).symm | exact (Pw (i := i) Wd Wa hI.2).symm
 ·try rw [h1]
  try simp only [qB, Qm] at h1
  refine Qp (ks1 Z ?_)
  refine QA ?_ -- 1
  refine Qb fun K hK => Qa Z (QC (X0 Wa) Z Z (.inl Z) (QI Z Z (Qa Z (kc3 hK Z Z Z ?_))))
  refine Qy ?_
  refine Zy (ι := Nat) (fun i => ⟨[(11, .sl (Yg (Q9 s 46))), (12, .int .i64 (Q9 s 46).length), (13, .int .i64 i)], []⟩) (fun i => i <= (Q9 s 46).length /\ ((Q9 s 46).take i).all FL = true) (fun i => (Q9 s 46).length - i) 0 ?_ ?_ ?_
  ·exact QZ (l := [11, 12, 13]) (kp3 rfl rfl rfl) Ql (by simp [Qm]) rfl rfl
  ·exact ⟨QeH _, rfl⟩
  intro i hI
  have sl := G0 (s := s) (c := 46)
  try dsimp only
  refine Qb fun K hK => Ya Z Z (kc4 hK Z Z Z Z ?_)
  refine QA ?_ -- 2
  refine Qt Z (fun h2 => ?_) (fun h2 => ?_)
  ·try rw [h2]
   try simp only [qB, Qm] at h2
   refine Qp (ks3 Z Z Z ?_)
   refine QA ?_ -- 3
   refine Qy (Qb fun K hK => QG Z Z Z Wa (Y7 Wa) Z (Qx Z Z Z (Qa Z (kc4 hK Z Z Z Z ?_))))
   refine Qb fun K hK => Qa Z (QC (JJ (X6 Wa hl)) Z Z (.inr Z) (Qa Z (Zl Z Z (Zl Z Z (mv2 Z Z (kc5 hK Z Z Z Z Z ?_))))))
   refine Qb fun K hK => Qa Z (QC (Xw (X6 Wa hl)) Z Z (.inr Z) (Qa Z ?_))
   refine Qv (g := 24) Z (fun h3 => ?_) (fun h3 => ?_)
   ·try rw [h3]
    try simp only [qB, Qm] at h3
    refine Qe Z (Qa Z (Qe Z (Z4 Z (Qh Z Z (kc4 hK Z Z Z Z ?_)))))
    refine Qt Z (fun h4 => ?_) (fun h4 => ?_)
    ·try rw [h4]
     try simp only [qB, Qm] at h4
     refine Qb fun K hK => Qa Z (kc1 hK Z ?_)
     refine Qr (Qu (Qi (Zb (Qu (Qi (Qo Z ?_))))))
     first | (simp [Mn, h1, h2, h3, h4]; done) | exact (Sy (i := i) Wa (by simp [FL, h1, h2, h3, h4])).symm | exact (Pw (i := i) Wd Wa hI.2).symm
    ·try rw [h4]
     try simp only [qB, Qm] at h4
     refine Qp (Qd (ks3 Z Z Z (QQ fun K hK => Q2 Z Z Wb (Qa Z (hK _ ?_)))))
     refine Qg (i + 1) ?_ ?_ ?_
     ·exact QU (kp3 rfl rfl rfl)
     ·exact ⟨Wa, Zk Wa hI.2 (by simp [FL, h1, h2, h3, h4])⟩
     ·first | omega | (simp only; omega) | (dsimp only; omega)
   ·try rw [h3]
    try simp only [qB, Qm] at h3
    refine gn2 Z Z (Qh Z Z (kc4 hK Z Z Z Z ?_))
    refine Zp Z (Qp (Qd (ks3 Z Z Z (QQ fun K hK => Q2 Z Z Wb (Qa Z (hK _ ?_))))))
    refine Qg (i + 1) ?_ ?_ ?_
    ·exact QU (kp3 rfl rfl rfl)
    ·exact ⟨Wa, Zk Wa hI.2 (by simp [FL, h1, h2, h3])⟩
    ·first | omega | (simp only; omega) | (dsimp only; omega)
  ·try rw [h2]
   try simp only [qB, Qm] at h2
   refine Zd (QD (Qq (Qz (QY (Zj) (Qb fun K hK => Qa Z (kc1 hK Z ?_))))))
   refine Qr (Qo Z ?_)
   first | (simp [Mn, h1, h2]; done) | exact (Sy (i := i) Wa (by simp [FL, h1, h2])).symm | exact (Pw (i := i) Wd Wa hI.2).symm
theorem Gu {a b c : Int} {p q : List UInt8} (hp : p.length <= 1000000) (hq : q.length <= 1000000) : Ok Tryz.prog 71 [.agg [.int .i64 a, .int .i64 b, .int .i64 c, .str p, .str q]] (.bool (JT a b c p q)) := by
 refine Ok.ofT ZR Tryz.func71 QdZ (Qev Z) ?_
 show TW _ _ tf71.body _ _
 refine Qb fun K hK => ZC Z Z Z (Qa Z (kc1 hK Z ?_))
 refine Qb fun K hK => Qf Z Z (Qx Z Z Z (QC (JK) Z Z (.inr Z) (Qa Z ?_)))
 refine Qv (g := 6) Z (fun h1 => ?_) (fun h1 => ?_)
 ·try rw [h1]
  try simp only [qB] at h1
  refine Qe Z (Qf Z Z (Qe Z (Qx Z Z Z (Qe Z (QC (JK) Z Z (.inr Z) (Qh Z Z (Qa Z ?_)))))))
  refine Qv (g := 11) Z (fun h2 => ?_) (fun h2 => ?_)
  ·try rw [h2]
   try simp only [qB] at h2
   refine Qe Z (Qf Z Z (Qe Z (Qx Z Z Z (Qe Z (QC (JK) Z Z (.inr Z) (Qh Z Z (Qa Z ?_)))))))
   refine Qv (g := 16) Z (fun h3 => ?_) (fun h3 => ?_)
   ·try rw [h3]
    try simp only [qB] at h3
    refine Qe Z (Qf Z Z (Qe Z (Qx Z Z Z (Qe Z (JU Z Z (Qe Z (Qa Z ?_)))))))
    refine Qv (g := 20) Z (fun h4 => ?_) (fun h4 => ?_)
    ·try rw [h4]
     try simp only [qB] at h4
     refine gn3 Z Z Z (Qe Z (Qh Z Z (Qh Z Z (Qa Z (Qe Z (Qf Z Z (Qe Z (Qx Z Z Z (Qe Z ?_)))))))))
     refine JU Z Z (Qe Z (Qa Z ?_))
     refine Qv (g := 30) Z (fun h5 => ?_) (fun h5 => ?_)
     ·try rw [h5]
      try simp only [qB] at h5
      refine gn3 Z Z Z (Qe Z (Qh Z Z (Qh Z Z (Qa Z (kc1 hK Z ?_)))))
      refine Qr (Qo Z ?_)
      simp [JT, YP, Xe, h1, h2, h3, h4, h5]
     ·try rw [h5]
      try simp only [qB] at h5
      refine Qe Z (Qf Z Z (Qe Z (Qx Z Z Z (Qe Z (QC (JL Wa) Z Z (.inr Z) (Qe Z (Qh Z Z (Qh Z Z (Qa Z (kc1 hK Z ?_))))))))))
      refine Qr (Qo Z ?_)
      simp [JT, YP, Xe, h1, h2, h3, h4, h5]
    ·try rw [h4]
     try simp only [qB] at h4
     refine Qe Z (Qf Z Z (Qe Z (Qx Z Z Z (Qe Z (QC (M2 Wa) Z Z (.inr Z) (Qe Z (Qh Z Z (Qh Z Z (Qa Z ?_)))))))))
     refine Qv (g := 26) Z (fun h6 => ?_) (fun h6 => ?_)
     ·try rw [h6]
      try simp only [qB] at h6
      refine Qe Z (Qf Z Z (Qe Z (Qx Z Z Z (Qe Z (JU Z Z (Qe Z (Qa Z ?_)))))))
      refine Qv (g := 30) Z (fun h7 => ?_) (fun h7 => ?_)
      ·try rw [h7]
       try simp only [qB] at h7
       refine gn3 Z Z Z (Qe Z (Qh Z Z (Qh Z Z (Qa Z (kc1 hK Z ?_)))))
       refine Qr (Qo Z ?_)
       simp [JT, YP, Xe, h1, h2, h3, h4, h6, h7]
      ·try rw [h7]
       try simp only [qB] at h7
       refine Qe Z (Qf Z Z (Qe Z (Qx Z Z Z (Qe Z (QC (JL Wa) Z Z (.inr Z) (Qe Z (Qh Z Z (Qh Z Z (Qa Z (kc1 hK Z ?_))))))))))
       refine Qr (Qo Z ?_)
       simp [JT, YP, Xe, h1, h2, h3, h4, h6, h7]
     ·try rw [h6]
      try simp only [qB] at h6
      refine gn4 Z Z Z Z (QO Z (QO Z (QO Z (J9 Z (Qh Z Z (Qa Z (kc1 hK Z ?_)))))))
      refine Qr (Qo Z ?_)
      simp [JT, YP, Xe, h1, h2, h3, h4, h6]
   ·try rw [h3]
    try simp only [qB] at h3
    refine gn4 Z Z Z Z (QO Z (QO Z (QO Z (J9 Z (Qh Z Z (Qa Z (gn2 Z Z ?_)))))))
    refine gn2 Z Z (QO Z (QO Z (QO Z (J9 Z (Qh Z Z (Qa Z (kc1 hK Z ?_)))))))
    refine Qr (Qo Z ?_)
    simp [JT, YP, Xe, h1, h2, h3]
  ·try rw [h2]
   try simp only [qB] at h2
   refine gn3 Z Z Z (Qh Z Z (Qa Z (gn4 Z Z Z Z (QO Z (QO Z (QO Z ?_))))))
   refine J9 Z (Qh Z Z (Qa Z (gn4 Z Z Z Z (QO Z (QO Z (QO Z (J9 Z (Qh Z Z ?_))))))))
   refine Qa Z (kc1 hK Z ?_)
   refine Qr (Qo Z ?_)
   simp [JT, YP, Xe, h1, h2]
 ·try rw [h1]
  try simp only [qB] at h1
  refine gn3 Z Z Z (Qh Z Z (Qa Z (gn3 Z Z Z (Qh Z Z (Qa Z (gn2 Z Z ?_))))))
  refine gn2 Z Z (QO Z (QO Z (QO Z (J9 Z (Qh Z Z (Qa Z (gn4 Z Z Z Z ?_)))))))
  refine QO Z (QO Z (QO Z (J9 Z (Qh Z Z (Qa Z (kc1 hK Z ?_))))))
  refine Qr (Qo Z ?_)
  simp [JT, YP, Xe, h1]
theorem G9 {a b c : Int} {p q : List UInt8} (hp : p.length <= 1000000) (hq : q.length <= 1000000) {a' b' c' : Int} {p' q' : List UInt8} (hp' : p'.length <= 1000000) (hq' : q'.length <= 1000000) : Ok Tryz.prog 42 [.agg [.int .i64 a, .int .i64 b, .int .i64 c, .str p, .str q], .agg [.int .i64 a', .int .i64 b', .int .i64 c', .str p', .str q']] (.int .i64 (Ht a b c p q a' b' c' p' q')) := by
 refine Ok.ofT ZR Tryz.func42 QdB (Qev Z) ?_
 show TW _ _ tf42.body _ _
 refine Qb fun K hK => ZC Z Z Z (ZC Z Z Z (Qa Z (kc2 hK Z Z ?_)))
 refine QA ?_ -- 0
 refine Qb fun K hK => QP (ds0 := [13, 12, 11, 10, 9, 8, 7, 6, 5, 4, 3, 2, 1, 0]) (cs := [_, _, _, _, _]) Z Z Z Z Z Z (Q1 (ds0 := [12, 11, 10, 9, 8, 7, 6, 5, 4, 3, 2, 1, 0]) (Gu Wa Wa) Z Z (.inr Z) Z Z (Z4 Z (Qa Z ?_)))
 refine Qv (g := 13) Z (fun h1 => ?_) (fun h1 => ?_)
 ·try rw [h1]
  try simp only [qB, Qm] at h1
  refine gn3 Z Z Z (Qh Z Z (Qa Z (gn4 Z Z Z Z (J9 Z (Qh Z Z (kc3 hK Z Z Z ?_))))))
  refine ZD Z (Qb fun K hK => Qa Z (kc1 hK Z ?_))
  refine Qr (Qi (Qs Z ?_))
  first | (simp [Ht, h1]; done) | (exact (Gy Wd Wd Wd).symm) | (exact Kd Wd Wd Wd) | (exact (X2 Wd Wd Wd Wd Wd).symm) | (exact (X3 Wd Wd Wd Wd Wd).symm) | (rw [hI.2.2, Yw Wa Wa Wd]) | (rw [hI.2.2, Yv Wa Wa Wa]; simp [Qm])
 ·try rw [h1]
  try simp only [qB, Qm] at h1
  refine Qe Z (QP (ds0 := [9, 8, 7, 6, 5, 4, 3, 2, 1, 0]) (cs := [_, _, _, _, _]) Z Z Z Z Z Z (Qe Z (Q1 (ds0 := [8, 7, 6, 5, 4, 3, 2, 1, 0]) (Gu Wa Wa) Z Z (.inr Z) Z Z (Qe Z (Z4 Z (Qh Z Z (Qa Z ?_)))))))
  refine Qv (g := 18) Z (fun h2 => ?_) (fun h2 => ?_)
  ·try rw [h2]
   try simp only [qB, Qm] at h2
   refine gn4 Z Z Z Z (J9 Z (Qh Z Z (kc3 hK Z Z Z ?_)))
   refine ZD Z (Qb fun K hK => Qa Z (kc1 hK Z ?_))
   refine Qr (Qi (Qs Z ?_))
   first | (simp [Ht, h1, h2]; done) | (exact (Gy Wd Wd Wd).symm) | (exact Kd Wd Wd Wd) | (exact (X2 Wd Wd Wd Wd Wd).symm) | (exact (X3 Wd Wd Wd Wd Wd).symm) | (rw [hI.2.2, Yw Wa Wa Wd]) | (rw [hI.2.2, Yv Wa Wa Wa]; simp [Qm])
  ·try rw [h2]
   try simp only [qB, Qm] at h2
   refine Qe Z (QP (ds0 := [4, 1, 0]) (cs := [_, _, _, _, _]) Z Z Z Z Z Z (Qe Z (Q1 (ds0 := [1, 0]) (HP) Z Z (.inl Z) Z Z (Qe Z (QP (ds0 := [2, 1, 0]) (cs := [_, _, _, _, _]) Z Z Z Z Z Z (Qe Z (Q1 (ds0 := [1, 0]) (HP) Z Z (.inl Z) Z Z (Qe Z (Ld Z Z Z (Qh Z Z (kc3 hK Z Z Z ?_)))))))))))
   refine Qt Z (fun h3 => ?_) (fun h3 => ?_)
   ·try rw [h3]
    try simp only [qB, Qm] at h3
    refine Qb fun K hK => Qa Z (kc1 hK Z ?_)
    refine Qr (Qi (Qs Z ?_))
    first | (simp [Ht, h1, h2, h3]; done) | (exact (Gy Wd Wd Wd).symm) | (exact Kd Wd Wd Wd) | (exact (X2 Wd Wd Wd Wd Wd).symm) | (exact (X3 Wd Wd Wd Wd Wd).symm) | (rw [hI.2.2, Yw Wa Wa Wd]) | (rw [hI.2.2, Yv Wa Wa Wa]; simp [Qm])
   ·try rw [h3]
    try simp only [qB, Qm] at h3
    refine Qp (ks2 Z Z ?_)
    refine QA ?_ -- 1
    refine Qb fun K hK => Qf Z Z (Zc (ds0 := [13, 2, 1, 0]) Z Z Z Z Z (Qf Z Z (Zc (ds0 := [13, 2, 1, 0]) Z Z Z Z Z (Q1 (ds0 := [2, 1, 0]) (Z3) Z Z (.inr Z) Z Z (Qf Z Z (Zc (ds0 := [8, 2, 1, 0]) Z Z Z Z Z (Qf Z Z (Zc (ds0 := [8, 2, 1, 0]) Z Z Z Z Z (Q1 (ds0 := [2, 1, 0]) (Z3) Z Z (.inr Z) Z Z (Qf Z Z ?_))))))))))
    refine Zc (ds0 := [3, 2, 1, 0]) Z Z Z Z Z (Qf Z Z (Zc (ds0 := [3, 2, 1, 0]) Z Z Z Z Z (Q1 (ds0 := [2, 1, 0]) (Z3) Z Z (.inr Z) Z Z (QJ Z Z (Q1 (ds0 := [0]) (P6 (l := [ZW a a', ZW b b', ZW c c']) Wg) Z Z (.inr Z) Z Z (Qa Z (kc3 hK Z Z Z ?_)))))))
    refine Qb fun K hK => Qa Z (Xf Z Z (kc4 hK Z Z Z Z ?_))
    refine Qt Z (fun h4 => ?_) (fun h4 => ?_)
    ·try rw [h4]
     try simp only [qB, Qm] at h4
     refine Qb fun K hK => mv2 Z Z (kc1 hK Z ?_)
     refine Qr (Qi (Qs Z ?_))
     first | (simp [Ht, h1, h2, h3, h4]; done) | (exact (Gy Wd Wd Wd).symm) | (exact Kd Wd Wd Wd) | (exact (X2 Wd Wd Wd Wd Wd).symm) | (exact (X3 Wd Wd Wd Wd Wd).symm) | (rw [hI.2.2, Yw Wa Wa Wd]) | (rw [hI.2.2, Yv Wa Wa Wa]; simp [Qm])
    ·try rw [h4]
     try simp only [qB, Qm] at h4
     refine Qp (ks2 Z Z ?_)
     refine QA ?_ -- 2
     refine Qb fun K hK => Qf Z Z (Qx Z Z Z (JU Z Z (kc3 hK Z Z Z ?_)))
     refine Qt Z (fun h5 => ?_) (fun h5 => ?_)
     ·try rw [h5]
      try simp only [qB, Qm] at h5
      refine Qb fun K hK => Qa Z (kc1 hK Z ?_)
      refine Qr (Qi (Qs Z ?_))
      first | (simp [Ht, h1, h2, h3, h4, h5]; done) | (exact (Gy Wd Wd Wd).symm) | (exact Kd Wd Wd Wd) | (exact (X2 Wd Wd Wd Wd Wd).symm) | (exact (X3 Wd Wd Wd Wd Wd).symm) | (rw [hI.2.2, Yw Wa Wa Wd]) | (rw [hI.2.2, Yv Wa Wa Wa]; simp [Qm])
     ·try rw [h5]
      try simp only [qB, Qm] at h5
      refine Qp (ks2 Z Z ?_)
      refine QA ?_ -- 3
      refine Qb fun K hK => Qf Z Z (Qx Z Z Z (JU Z Z (kc3 hK Z Z Z ?_)))
      refine Qt Z (fun h6 => ?_) (fun h6 => ?_)
      ·try rw [h6]
       try simp only [qB, Qm] at h6
       refine Qb fun K hK => Qa Z (kc1 hK Z ?_)
       refine Qr (Qi (Qs Z ?_))
       first | (simp [Ht, h1, h2, h3, h4, h5, h6]; done) | (exact (Gy Wd Wd Wd).symm) | (exact Kd Wd Wd Wd) | (exact (X2 Wd Wd Wd Wd Wd).symm) | (exact (X3 Wd Wd Wd Wd Wd).symm) | (rw [hI.2.2, Yw Wa Wa Wd]) | (rw [hI.2.2, Yv Wa Wa Wa]; simp [Qm])
      ·try rw [h6]
       try simp only [qB, Qm] at h6
       refine Qp (ks2 Z Z (Qb fun K hK => Qf Z Z (Zc (ds0 := [5, 1]) Z Z Z Z Z (Q1 (ds0 := [1]) (X0 Wa) Z Z (.inl Z) Z Z (Qf Z Z (Zc (ds0 := [2, 0]) Z Z Z Z Z (Q1 (ds0 := [0]) (X0 Wa) Z Z (.inl Z) Z Z (mv2 Z Z (kc2 hK Z Z ?_)))))))))
       refine QA ?_ -- 4
       refine Qb fun K hK => Qa Z (kc3 hK Z Z Z ?_)
       refine Qy ?_
       refine Zy (ι := Nat) (fun i => ⟨[(6, .sl (Yg (Q9 p 46))), (7, .sl (Yg (Q9 p' 46))), (8, .int .i64 i)], []⟩) (fun i => i <= (Q9 p 46).length /\ i <= (Q9 p' 46).length /\ Ht a b c p q a' b' c' p' q' = Ts ((Q9 p 46).drop i) ((Q9 p' 46).drop i)) (fun i => (Q9 p 46).length - i) 0 ?_ ?_ ?_
       ·exact QZ (l := [6, 7, 8]) (kp3 rfl rfl rfl) Ql rfl rfl rfl
       ·exact ⟨QeH _, QeH _, BZ Wd Wd Wd Wd Wd Wd⟩
       intro i hI
       have sl := G0 (s := p) (c := 46)
       try dsimp only
       refine QA ?_ -- 5
       refine Qb fun K hK => mv2 Z Z (QI Z Z (Ya Z Z (Qa Z ?_)))
       refine Qv (g := 61) Z (fun h7 => ?_) (fun h7 => ?_)
       ·try rw [h7]
        try simp only [qB, Qm] at h7
        refine Qe Z (Qa Z (Qe Z (Qa Z (Qe Z (QI Z Z (Qe Z (Ya Z Z (Qh Z Z (kc4 hK Z Z Z Z ?_)))))))))
        refine Qt Z (fun h8 => ?_) (fun h8 => ?_)
        ·try rw [h8]
         try simp only [qB, Qm] at h8
         refine Qp (ks3 Z Z Z ?_)
         refine QA ?_ -- 6
         refine Qy (Qb fun K hK => mv2 Z Z (QG Z Z Z Wa (Y7 Wa) Z (Zc (ds0 := [1, 0]) Z Z Z Z Z (mv2 Z Z (QG Z Z Z Wa (Y7 Wa) Z (Zc (ds0 := [1, 0]) Z Z Z Z Z (Q1 (ds0 := [0]) (M4 (X6 Wa hp) (X6 Wa hp')) Z Z (.inr Z) Z Z (Qa Z ?_))))))))
         refine kc4 hK Z Z Z Z ?_
         refine Qb fun K hK => Qa Z (Xf Z Z (kc5 hK Z Z Z Z Z ?_))
         refine Qt Z (fun h9 => ?_) (fun h9 => ?_)
         ·try rw [h9]
          try simp only [qB, Qm] at h9
          refine Qb fun K hK => mv2 Z Z (kc1 hK Z ?_)
          refine Qr (Qu (Qi (Zb (Qu (Qi (Qs Z ?_))))))
          first | (simp [Ht, h1, h2, h3, h4, h5, h6, h7, h8, h9]; done) | (exact (Gy Wd Wd Wd).symm) | (exact Kd Wd Wd Wd) | (exact (X2 Wd Wd Wd Wd Wd).symm) | (exact (X3 Wd Wd Wd Wd Wd).symm) | (rw [hI.2.2, Yw Wa Wa Wd]) | (rw [hI.2.2, Yv Wa Wa Wa]; simp [Qm])
         ·try rw [h9]
          try simp only [qB, Qm] at h9
          refine Qp (Qd (ks3 Z Z Z (QQ fun K hK => Qa Z (Q2 Z Z Wb (Qa Z (hK _ ?_))))))
          refine Qg (i + 1) ?_ ?_ ?_
          ·exact QU (kp3 rfl rfl rfl)
          ·exact ⟨Wa, Wa, by rw [hI.2.2, RC Wa Wa Wd]⟩
          ·first | omega | (simp only; omega) | (dsimp only; omega)
        ·try rw [h8]
         try simp only [qB, Qm] at h8
         refine Zd (QD (Qq (Qz (ks2 Z Z (Qb fun K hK => Qa Z (QI Z Z (Qa Z (QI Z Z (QC (Z3) Z Z (.inr Z) (Qa Z ?_))))))))))
         refine kc1 hK Z ?_
         refine Qr (Qs Z ?_)
         first | (simp [Ht, h1, h2, h3, h4, h5, h6, h7, h8]; done) | (exact (Gy Wd Wd Wd).symm) | (exact Kd Wd Wd Wd) | (exact (X2 Wd Wd Wd Wd Wd).symm) | (exact (X3 Wd Wd Wd Wd Wd).symm) | (rw [hI.2.2, Yw Wa Wa Wd]) | (rw [hI.2.2, Yv Wa Wa Wa]; simp [Qm])
       ·try rw [h7]
        try simp only [qB, Qm] at h7
        refine gn4 Z Z Z Z (Qh Z Z (kc4 hK Z Z Z Z ?_))
        refine Zp Z (Zd (QD (Qq (Qz (ks2 Z Z (Qb fun K hK => Qa Z (QI Z Z (Qa Z (QI Z Z (QC (Z3) Z Z (.inr Z) ?_))))))))))
        refine Qa Z (kc1 hK Z ?_)
        refine Qr (Qs Z ?_)
        first | (simp [Ht, h1, h2, h3, h4, h5, h6, h7]; done) | (exact (Gy Wd Wd Wd).symm) | (exact Kd Wd Wd Wd) | (exact (X2 Wd Wd Wd Wd Wd).symm) | (exact (X3 Wd Wd Wd Wd Wd).symm) | (rw [hI.2.2, Yw Wa Wa Wd]) | (rw [hI.2.2, Yv Wa Wa Wa]; simp [Qm])
end Go.Proofs
namespace M3
open Go Go.Abs
open Go Go.Abs
end M3
namespace M3
open Go Go.Abs
end M3
