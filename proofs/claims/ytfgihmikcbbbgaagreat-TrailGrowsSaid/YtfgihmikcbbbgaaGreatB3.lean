/- Part 3 of the means of the proof: a verified abstract evaluator, the prepared functions, and contracts of functions. It states nothing of the claim by itself. -/
import Derived.Test.YtfgihmikcbbbgaaGreatB2
import Derived.KernelRfl
import Derived.Test.YtfgihmikcbbbgaaGreatProg
set_option maxRecDepth 4000
set_option linter.unusedSimpArgs false
set_option linter.unusedVariables false
namespace Go.Abs
open Go
/-! ### Walks that end in some state of a kind: the state is picked on the way -/
def TX (P : Program) (nt : Nat) (c : TCode) (Q : Yz -> St -> Prop) (s : St) : Prop := ∃ e s', Q e s' /\ TW P nt c (fun e2 s2 => e2 = e /\ s2 = s') s
section
variable {P : Program} {nt : Nat} {Q Q' : Yz -> St -> Prop} {s : St}
theorem Xv {c : TCode} (h : ∀ e s, Q e s -> Q' e s) (k : TW P nt c Q s) : TW P nt c Q' s := fun code E g a w hm hp hn hfl r =>
 wpIn_mono (k code E g a w hm hp hn hfl r) fun e a' w' hq => by
  cases e <;> simp only [AQ] at hq ⊢ <;> try exact hq
  all_goals
   obtain ⟨s', g', hq, r'⟩ := hq
   exact ⟨s', g', h _ _ hq, r'⟩
/-! #### A region's walk picks its state -/
theorem Qcm {op : BinOp} {bt : Bool} {p q : D} {kk : D -> Prop} (h : Qc3 op bt p q kk) : ∃ d, kk d /\ ∀ k2 : D -> Prop, k2 d -> Qc3 op bt p q k2 := by
 cases p <;> cases q <;> simp only [Qc3] at h ⊢ <;> try exact h.elim
 ·obtain ⟨h1, h2⟩ := h
  cases op <;> simp only [Qau] at h2 ⊢
  case quo => exact ⟨_, h2.2, fun k2 hk => ⟨h1, h2.1, hk⟩⟩
  case rem => exact ⟨_, h2.2, fun k2 hk => ⟨h1, h2.1, hk⟩⟩
  case shl => exact ⟨_, h2.2, fun k2 hk => ⟨h1, h2.1, hk⟩⟩
  case shr => exact ⟨_, h2.2, fun k2 hk => ⟨h1, h2.1, hk⟩⟩
  all_goals exact ⟨_, h2, fun k2 hk => ⟨h1, hk⟩⟩
 ·obtain ⟨h1, h2⟩ := h
  cases op <;> simp only [Qck] at h2 ⊢ <;> try exact h2.elim
  all_goals exact ⟨_, h2, fun k2 hk => ⟨h1, hk⟩⟩
 ·cases op <;> simp only [Qcn] at h ⊢ <;> try exact h.elim
  case add => exact ⟨_, h.2, fun k2 hk => ⟨h.1, hk⟩⟩
  all_goals exact ⟨_, h, fun k2 hk => hk⟩
 ·obtain ⟨h1, h2, h3, h4⟩ := h
  exact ⟨_, h4, fun k2 hk => ⟨h1, h2, h3, hk⟩⟩
theorem B7 {dr : Bool} {op : AOp} {dst : Option Nat} {k : St -> Prop} (h : TF P dr op dst s k) : ∃ s', k s' /\ ∀ k2 : St -> Prop, k2 s' -> TF P dr op dst s k2 := by
 cases op <;> simp only [TF] at h ⊢
 case mov x => obtain ⟨d, h1, h2⟩ := h; exact ⟨_, h2, fun k2 hk => ⟨d, h1, hk⟩⟩
 case pick c x y => obtain ⟨cd, h1, t, h2, d, h3, h4⟩ := h; exact ⟨_, h4, fun k2 hk => ⟨cd, h1, t, h2, d, h3, hk⟩⟩
 case alloc et cells => obtain ⟨t, h1, h2, h3⟩ := h; exact ⟨_, h3, fun k2 hk => ⟨t, h1, h2, hk⟩⟩
 case box et x => obtain ⟨t, h1, v, h2, cells, h3, h4, h5⟩ := h; exact ⟨_, h5, fun k2 hk => ⟨t, h1, v, h2, cells, h3, h4, hk⟩⟩
 case build zero parts => obtain ⟨qs, h1, ds, h2, h3⟩ := h; exact ⟨_, h3, fun k2 hk => ⟨qs, h1, ds, h2, hk⟩⟩
 case buildSlice esz et parts =>
  rcases h with ⟨t, h1, rows, h2, h3, h4⟩ | ⟨rows, h2, h3, h4⟩
  ·exact ⟨_, h4, fun k2 hk => .inl ⟨t, h1, rows, h2, h3, hk⟩⟩
  ·exact ⟨_, h4, fun k2 hk => .inr ⟨rows, h2, h3, hk⟩⟩
 case load agg sz x =>
  obtain ⟨p, h1, cells, h2, h3⟩ := h
  cases agg with
  | true => exact ⟨_, h3.2, fun k2 hk => ⟨p, h1, cells, h2, h3.1, hk⟩⟩
  | false => obtain ⟨d, h4, h5⟩ := h3; exact ⟨_, h5, fun k2 hk => ⟨p, h1, cells, h2, d, h4, hk⟩⟩
 case store sz x v =>
  obtain ⟨p, h1, h2⟩ := h
  cases p <;> simp only [Qer] at h2 <;> try exact h2.elim
  obtain ⟨b, h3, row, h4, q, h5, cells, h6, h7, h8, h9⟩ := h2
  exact ⟨_, h9, fun k2 hk => ⟨_, h1, b, h3, row, h4, q, h5, cells, h6, h7, h8, hk⟩⟩
 case nilCheck x => obtain ⟨p, h1, h2, h3⟩ := h; exact ⟨_, h3, fun k2 hk => ⟨p, h1, h2, hk⟩⟩
 case bin op bt x y =>
  obtain ⟨p, h1, q, h2, h3⟩ := h
  obtain ⟨d, h4, h5⟩ := Qcm h3
  exact ⟨_, h4, fun k2 hk => ⟨p, h1, q, h2, h5 _ hk⟩⟩
 case eqs neg ks x y => obtain ⟨p, h1, q, h2, xs, h3, ys, h4, b, h5, h6⟩ := h; exact ⟨_, h6, fun k2 hk => ⟨p, h1, q, h2, xs, h3, ys, h4, b, h5, hk⟩⟩
 case un op x =>
  obtain ⟨p, h1, h2⟩ := h
  cases op <;> cases p <;> simp only [unK] at h2 <;> try exact h2.elim
  all_goals exact ⟨_, h2, fun k2 hk => ⟨_, h1, hk⟩⟩
 case conv kk x => obtain ⟨p, h1, d, h2, h3⟩ := h; exact ⟨_, h3, fun k2 hk => ⟨p, h1, d, h2, hk⟩⟩
 case capF x =>
  obtain ⟨p, h1, h2⟩ := h
  cases p <;> simp only [Qc5] at h2 <;> try exact h2.elim
  exact ⟨_, h2, fun k2 hk => ⟨_, h1, hk⟩⟩
 case appz esz et bytes zero x y =>
  obtain ⟨t, h1, p, h2, h3⟩ := h
  cases p <;> simp only [Qc5] at h3 <;> try exact h3.elim
  obtain ⟨h4, q, h5, n, h6, h7, h8, h9, h10, h11⟩ := h3
  exact ⟨_, h11, fun k2 hk => ⟨t, h1, _, h2, h4, q, h5, n, h6, h7, h8, h9, h10, hk⟩⟩
 case slice esz x lo hi mx =>
  rcases h with h | ⟨h0, hlo, p, h1, h2⟩
  rotate_left
  ·cases p <;> simp only [Qad] at h2 <;> try exact h2.elim
   ·exact ⟨_, h2.2, fun k2 hk => .inr ⟨h0, hlo, _, h1, h2.1, hk⟩⟩
   ·obtain ⟨m, h3, h4, h5, h6⟩ := h2
    exact ⟨_, h6, fun k2 hk => .inr ⟨h0, hlo, _, h1, m, h3, h4, h5, hk⟩⟩
  obtain ⟨p, h1, rows, h2, l, h3, hh, h4, h5, h6, h7, h8, h9⟩ := h
  cases mx with
  | none => exact ⟨_, h9, fun k2 hk => .inl ⟨p, h1, rows, h2, l, h3, hh, h4, h5, h6, h7, h8, hk⟩⟩
  | some m =>
   obtain ⟨h10, h11, h12⟩ := h9
   exact ⟨_, h12, fun k2 hk => .inl ⟨p, h1, rows, h2, l, h3, hh, h4, h5, h6, h7, h8, h10, h11, hk⟩⟩
 case sliceStr x lo hi => obtain ⟨p, h1, c, h2, l, h3, hh, h4, h5, h6, h7, h8⟩ := h; exact ⟨_, h8, fun k2 hk => ⟨p, h1, c, h2, l, h3, hh, h4, h5, h6, h7, hk⟩⟩
 case fieldAddr off x =>
  obtain ⟨p, h1, h2⟩ := h
  cases p <;> simp only [PJ] at h2 <;> try exact h2.elim
  all_goals exact ⟨_, h2.2, fun k2 hk => ⟨_, h1, h2.1, hk⟩⟩
 case field agg off sz x =>
  obtain ⟨p, h1, cells, h2, h3⟩ := h
  cases agg with
  | true => exact ⟨_, h3.2, fun k2 hk => ⟨p, h1, cells, h2, h3.1, hk⟩⟩
  | false => obtain ⟨d, h4, h5⟩ := h3; exact ⟨_, h5, fun k2 hk => ⟨p, h1, cells, h2, d, h4, hk⟩⟩
 case indexAddr esz x i =>
  obtain ⟨n, h1, p, h2, h3⟩ := h
  cases n <;> try (simp only [SO] at h3; done)
  cases p <;> simp only [SO] at h3 <;> try exact h3.elim
  ·obtain ⟨row, h4, h5, h6, h7⟩ := h3; exact ⟨_, h7, fun k2 hk => ⟨_, h1, _, h2, row, h4, h5, h6, hk⟩⟩
  ·obtain ⟨row, h4, h5, h6, h7⟩ := h3; exact ⟨_, h7, fun k2 hk => ⟨_, h1, _, h2, row, h4, h5, h6, hk⟩⟩
  ·obtain ⟨b, h4, h5, h6, h7, h8, h9⟩ := h3; exact ⟨_, h9, fun k2 hk => ⟨_, h1, _, h2, b, h4, h5, h6, h7, h8, hk⟩⟩
 case indexStr x i =>
  obtain ⟨n, h1, p, h2, h3⟩ := h
  cases n <;> try (simp only [Hy] at h3; done)
  cases p <;> simp only [Hy] at h3 <;> try exact h3.elim
  obtain ⟨c, h4, h5, h6⟩ := h3
  exact ⟨_, h6, fun k2 hk => ⟨_, h1, _, h2, c, h4, h5, hk⟩⟩
 case extract i x => obtain ⟨p, h1, ds, h2, d, h3, h4⟩ := h; exact ⟨_, h4, fun k2 hk => ⟨p, h1, ds, h2, d, h3, hk⟩⟩
 case len x => obtain ⟨p, h1, n, h2, h3⟩ := h; exact ⟨_, h3, fun k2 hk => ⟨p, h1, n, h2, hk⟩⟩
 case lenStr x => obtain ⟨p, h1, l, h2, h3⟩ := h; exact ⟨_, h3, fun k2 hk => ⟨p, h1, l, h2, hk⟩⟩
 case min x y =>
  obtain ⟨p, h1, q, h2, h3⟩ := h
  cases p <;> try (simp only [QdJ] at h3; done)
  cases q <;> simp only [QdJ] at h3 <;> try exact h3.elim
  exact ⟨_, h3, fun k2 hk => ⟨_, h1, _, h2, hk⟩⟩
 case append esz et bytes x y =>
  obtain ⟨p, h1, q, h2, h3⟩ := h
  have happ : ∀ (ys : List (List D)) (pr : Bool), QbI dr esz et bytes dst s p ys pr k -> ∃ s', k s' /\ ∀ k2 : St -> Prop, k2 s' -> QbI dr esz et bytes dst s p ys pr k2 := by
   intro ys pr h5
   cases p <;> simp only [QbI] at h5 <;> try exact h5.elim
   ·obtain ⟨t, h6, h7, h8, h9, h10, h11, h12⟩ := h5
    exact ⟨_, h12, fun k2 hk => ⟨t, h6, h7, h8, h9, h10, h11, hk⟩⟩
   ·obtain ⟨hd, hk0, b, h6, h7, h8, h9, h10, h12, h13, h14⟩ := h5
    exact ⟨_, h14, fun k2 hk => ⟨hd, hk0, b, h6, h7, h8, h9, h10, h12, h13, hk⟩⟩
  cases q <;> simp only [Qai] at h3 <;> try exact h3.elim
  ·obtain ⟨s', q1, q2⟩ := happ _ _ h3.2
   exact ⟨s', q1, fun k2 hk => ⟨p, h1, _, h2, h3.1, q2 k2 hk⟩⟩
  ·obtain ⟨s', q1, q2⟩ := happ _ _ h3.2
   exact ⟨s', q1, fun k2 hk => ⟨p, h1, _, h2, h3.1, q2 k2 hk⟩⟩
  ·obtain ⟨b, h4, h5, h6, h7⟩ := h3
   obtain ⟨s', q1, q2⟩ := happ _ _ h7
   exact ⟨s', q1, fun k2 hk => ⟨p, h1, _, h2, b, h4, h5, h6, q2 k2 hk⟩⟩
 case makeSlice esz et bytes zero x y =>
  obtain ⟨p, h1, q, h2, h3⟩ := h
  cases p <;> try (simp only [Bu] at h3; done)
  cases q <;> simp only [Bu] at h3 <;> try exact h3.elim
  obtain ⟨t, h4, h5, h6, h7, h8, h9, h10⟩ := h3
  exact ⟨_, h10, fun k2 hk => ⟨_, h1, _, h2, t, h4, h5, h6, h7, h8, h9, hk⟩⟩
 case range x => obtain ⟨t, h1, p, h2, l, h3, h4, h5⟩ := h; exact ⟨_, h5, fun k2 hk => ⟨t, h1, p, h2, l, h3, h4, hk⟩⟩
 case next x =>
  obtain ⟨hd, p, h1, h2⟩ := h
  unfold QcA at h2
  split at h2
  ·obtain ⟨l, q, h3, h4⟩ := h2
   rcases h4 with ⟨h4, h5⟩ | ⟨h4, h5⟩
   ·exact ⟨_, h5, fun k2 hk => ⟨hd, _, h1, l, q, h3, .inl ⟨h4, hk⟩⟩⟩
   ·exact ⟨_, h5, fun k2 hk => ⟨hd, _, h1, l, q, h3, .inr ⟨h4, hk⟩⟩⟩
  ·exact h2.elim
 case indexArr len esz x i =>
  obtain ⟨nd, h1, p, h2, h3⟩ := h
  cases nd <;> try (simp only [Qef] at h3; done)
  obtain ⟨h4, h5, h6⟩ := h3
  cases p <;> simp only [PJ] at h6 <;> try exact h6.elim
  all_goals exact ⟨_, h6.2, fun k2 hk => ⟨_, h1, _, h2, h4, h5, h6.1, hk⟩⟩
 case indexAgg agg len esz x i =>
  obtain ⟨nd, h1, n, h2, p, h3, cells, h4, h5, h6, h7⟩ := h
  cases agg with
  | true => exact ⟨_, h7.2, fun k2 hk => ⟨nd, h1, n, h2, p, h3, cells, h4, h5, h6, h7.1, hk⟩⟩
  | false => obtain ⟨d, h8, h9⟩ := h7; exact ⟨_, h9, fun k2 hk => ⟨nd, h1, n, h2, p, h3, cells, h4, h5, h6, d, h8, hk⟩⟩
 case call f args => obtain ⟨ds, h1, d, h2, h3, h4⟩ := h; exact ⟨_, h4, fun k2 hk => ⟨ds, h1, d, h2, h3, hk⟩⟩
 case mkfn f xs => obtain ⟨ds, h1, h2, h3⟩ := h; exact ⟨_, h3, fun k2 hk => ⟨ds, h1, h2, hk⟩⟩
 case mkbn f xs => obtain ⟨ds, h1, h2, h3⟩ := h; exact ⟨_, h3, fun k2 hk => ⟨ds, h1, h2, hk⟩⟩
 case callV x az =>
  obtain ⟨p, h1, h2⟩ := h
  rcases h2 with h2 | ⟨rfl, h2⟩
  ·cases p <;> simp only [Qej] at h2 <;> try exact h2.elim
   obtain ⟨h3, ds, h4, d, h5, h6, h7⟩ := h2
   exact ⟨_, h7, fun k2 hk => ⟨_, h1, .inl ⟨h3, ds, h4, d, h5, h6, hk⟩⟩⟩
  ·cases p <;> simp only [Qeh] at h2 <;> try exact h2.elim
   obtain ⟨h3, d, h5, h6, h7⟩ := h2
   exact ⟨_, h7, fun k2 hk => ⟨_, h1, .inr ⟨rfl, h3, d, h5, h6, hk⟩⟩⟩
theorem HP {K : St -> Prop} : ∀ {l : List AOper} {dr : Dr} {s : St}, run P dr l K s -> ∃ s', K s' /\ ∀ k2 : St -> Prop, k2 s' -> run P dr l k2 s
 | [], _, s, h => ⟨s, h, fun _ hk => hk⟩
 | ⟨dst, op, none⟩ :: r, dr, s, h => by
  simp only [run] at h ⊢
  rcases h with ⟨h1, h2⟩ | ⟨p, q, d, ef, h1, h2, h3⟩ | ⟨f, args, HF, Hn, Hu, d, h1, h2, h3, h5⟩ | ⟨s', d, bx, h1, h2, h3, h5⟩
  ·obtain ⟨s1, h3, h4⟩ := B7 h2
   obtain ⟨s2, h5, h6⟩ := HP h3
   exact ⟨s2, h5, fun k2 hk => .inl ⟨h1, h4 _ (h6 k2 hk)⟩⟩
  ·obtain ⟨s2, h6, h7⟩ := HP h3
   exact ⟨s2, h6, fun k2 hk => .inr (.inl ⟨p, q, d, ef, h1, h2, h7 k2 hk⟩)⟩
  ·obtain ⟨s2, h6, h7⟩ := HP h5
   exact ⟨s2, h6, fun k2 hk => .inr (.inr (.inl ⟨f, args, HF, Hn, Hu, d, h1, h2, h3, h7 k2 hk⟩))⟩
  ·obtain ⟨s2, h6, h7⟩ := HP h5
   exact ⟨s2, h6, fun k2 hk => .inr (.inr (.inr ⟨s', d, bx, h1, h2, h3, h7 k2 hk⟩))⟩
 | ⟨dst, op, some (t, b)⟩ :: r, dr, s, h => by
  simp only [run] at h ⊢
  obtain ⟨d, h0, h⟩ := h
  have hA : ((dr.ok r.length (Kk op (pk op s)) (JK op (wk op s)) = true /\ TF P dr.dr op dst s fun s' => run P (dr.nx (NH op dst r) (Kk op (pk op s)) (JK op (wk op s))) r K s') \/
    (∃ p q d ef, EF P dr.B op dst s p q d ef /\ dr.ok r.length (Kk op p) (JK op q) = true /\ run P (dr.nx (KJ dst.toList r) (Kk op p) (JK op q)) r K (s.eff dst d ef)) \/
    (∃ f args HF Hn Hu d, dr = .fixed /\ Gv s op f args /\ Kp P f args s HF Hn Hu d /\ run P dr r K (St.apply { s with H := Hn ++ (Hu ++ s.H) } dst d none)) \/
    ∃ s' d bx, dr = .fixed /\ s.le s' /\ XV P ⟨dst, op, none⟩ s' d bx /\ run P dr r K (s'.apply dst d bx)) ->
    ∃ s', K s' /\ ∀ k2 : St -> Prop, k2 s' -> ((dr.ok r.length (Kk op (pk op s)) (JK op (wk op s)) = true /\ TF P dr.dr op dst s fun s' => run P (dr.nx (NH op dst r) (Kk op (pk op s)) (JK op (wk op s))) r k2 s') \/
    (∃ p q d ef, EF P dr.B op dst s p q d ef /\ dr.ok r.length (Kk op p) (JK op q) = true /\ run P (dr.nx (KJ dst.toList r) (Kk op p) (JK op q)) r k2 (s.eff dst d ef)) \/
    (∃ f args HF Hn Hu d, dr = .fixed /\ Gv s op f args /\ Kp P f args s HF Hn Hu d /\ run P dr r k2 (St.apply { s with H := Hn ++ (Hu ++ s.H) } dst d none)) \/
    ∃ s' d bx, dr = .fixed /\ s.le s' /\ XV P ⟨dst, op, none⟩ s' d bx /\ run P dr r k2 (s'.apply dst d bx)) := fun h => by
   rcases h with ⟨h1, h2⟩ | ⟨p, q, d, ef, h1, h2, h3⟩ | ⟨f, args, HF, Hn, Hu, d, h1, h2, h3, h5⟩ | ⟨s', d, bx, h1, h2, h3, h5⟩
   ·obtain ⟨s1, h3, h4⟩ := B7 h2
    obtain ⟨s2, h5, h6⟩ := HP h3
    exact ⟨s2, h5, fun k2 hk => .inl ⟨h1, h4 _ (h6 k2 hk)⟩⟩
   ·obtain ⟨s2, h6, h7⟩ := HP h3
    exact ⟨s2, h6, fun k2 hk => .inr (.inl ⟨p, q, d, ef, h1, h2, h7 k2 hk⟩)⟩
   ·obtain ⟨s2, h6, h7⟩ := HP h5
    exact ⟨s2, h6, fun k2 hk => .inr (.inr (.inl ⟨f, args, HF, Hn, Hu, d, h1, h2, h3, h7 k2 hk⟩))⟩
   ·obtain ⟨s2, h6, h7⟩ := HP h5
    exact ⟨s2, h6, fun k2 hk => .inr (.inr (.inr ⟨s', d, bx, h1, h2, h3, h7 k2 hk⟩))⟩
  have hB : run P dr r K (s.apply dst .undef none) -> ∃ s', K s' /\ ∀ k2 : St -> Prop, k2 s' -> run P dr r k2 (s.apply dst .undef none) := HP
  cases d <;> simp only [PO] at h <;> try exact h.elim
  ·obtain ⟨s2, h1, h2⟩ := hB h
   exact ⟨s2, h1, fun k2 hk => ⟨_, h0, h2 k2 hk⟩⟩
  ·rename_i c
   cases c <;> cases b
   ·obtain ⟨s2, h1, h2⟩ := hA (h.1 rfl)
    exact ⟨s2, h1, fun k2 hk => ⟨_, h0, ⟨fun _ => h2 k2 hk, fun h => by cases h⟩⟩⟩
   ·obtain ⟨s2, h1, h2⟩ := hB (h.2 rfl)
    exact ⟨s2, h1, fun k2 hk => ⟨_, h0, ⟨(fun h => by cases h), fun _ => h2 k2 hk⟩⟩⟩
   ·obtain ⟨s2, h1, h2⟩ := hB (h.2 rfl)
    exact ⟨s2, h1, fun k2 hk => ⟨_, h0, ⟨(fun h => by cases h), fun _ => h2 k2 hk⟩⟩⟩
   ·obtain ⟨s2, h1, h2⟩ := hA (h.1 rfl)
    exact ⟨s2, h1, fun k2 hk => ⟨_, h0, ⟨fun _ => h2 k2 hk, fun h => by cases h⟩⟩⟩
/-! #### The rules -/
variable {l : List Nat} {b : TCode} {id i : Nat}
theorem Q6 {dr : Bool} {ops : List AOper} (h : ∀ K : St -> Prop, (∀ fr H, TX P nt b Q ⟨Q9 l fr, H⟩ -> K ⟨fr, H⟩) -> run P (Dr.of s.H dr) ops K s) : TX P nt (.seq (.region dr ops) l b) Q s := by
 obtain ⟨s1, ⟨e, s2, h1, h2⟩, h3⟩ := HP (h (fun st => TX P nt b Q ⟨Q9 l st.fr, st.H⟩) fun fr H h => h)
 exact ⟨e, s2, h1, Qb fun K hK => h3 K (hK s1.fr s1.H h2)⟩
theorem ZQ {dr : Bool} {ops : List AOper} (h : ∀ K : St -> Prop, (∀ s', Q .normal s' -> K s') -> run P (Dr.of s.H dr) ops K s) : TX P nt (.region dr ops) Q s := by
 obtain ⟨s1, h1, h3⟩ := HP (h (Q .normal) fun _ h => h)
 exact ⟨.normal, s1, h1, QI fun K hK => h3 K (hK s1 ⟨rfl, rfl⟩)⟩
def QdQ (P : Program) (nt : Nat) (l : List Nat) (b : TCode) (Q : Yz -> St -> Prop) : Yz -> St -> Prop
 | .normal, s => TX P nt b Q ⟨Q9 l s.fr, s.H⟩
 | e, s => Q e s
theorem XG {a : TCode} (h : TX P nt a (QdQ P nt l b Q) s) : TX P nt (.seq a l b) Q s := by
 obtain ⟨e, s1, h1, h2⟩ := h
 cases e with
 | normal =>
  obtain ⟨e2, s2, h3, h4⟩ := h1
  exact ⟨e2, s2, h3, QA (Xv (fun _ _ ⟨p, q⟩ => by subst p q; exact h4) h2)⟩
 | exit n => exact ⟨.exit n, s1, h1, QA (Xv (fun _ _ ⟨p, q⟩ => by subst p q; exact ⟨rfl, rfl⟩) h2)⟩
 | ret => exact ⟨.ret, s1, h1, QA (Xv (fun _ _ ⟨p, q⟩ => by subst p q; exact ⟨rfl, rfl⟩) h2)⟩
theorem YN {c : Opd} {x y : TCode} {t : Bool} (hc : s.ev c = some (.bool t)) (h1 : t = true -> TX P nt x Q s) (h2 : t = false -> TX P nt y Q s) : TX P nt (.cond c x y) Q s := by
 cases t
 ·obtain ⟨e, s1, h3, h4⟩ := h2 rfl; exact ⟨e, s1, h3, ZU hc h4⟩
 ·obtain ⟨e, s1, h3, h4⟩ := h1 rfl; exact ⟨e, s1, h3, Zr hc h4⟩
theorem Qcd {c : Opd} {x y : TCode} (hc : s.ev c = some (.bool true)) (h1 : TX P nt x Q s) : TX P nt (.cond c x y) Q s := YN hc (fun _ => h1) (fun h => by cases h)
theorem TJ {c : Opd} {x y : TCode} (hc : s.ev c = some (.bool false)) (h1 : TX P nt y Q s) : TX P nt (.cond c x y) Q s := YN hc (fun h => by cases h) (fun _ => h1)
theorem YB {a : TCode} (h : TX P nt a (JT id Q) s) : TX P nt (.block id a) Q s := by
 obtain ⟨e, s1, h1, h2⟩ := h
 cases e with
 | normal => exact ⟨.normal, s1, h1, Qy (Xv (fun _ _ ⟨p, q⟩ => by subst p q; exact ⟨rfl, rfl⟩) h2)⟩
 | ret => exact ⟨.ret, s1, h1, Qy (Xv (fun _ _ ⟨p, q⟩ => by subst p q; exact ⟨rfl, rfl⟩) h2)⟩
 | exit n =>
  by_cases hn : n = id
  ·subst hn
   simp only [JT, if_true] at h1
   exact ⟨.normal, s1, h1, Qy (Xv (fun _ _ ⟨p, q⟩ => by subst p q; simp only [JT, if_true]; exact ⟨trivial, trivial⟩) h2)⟩
  ·simp only [JT, if_neg hn] at h1
   exact ⟨.exit n, s1, h1, Qy (Xv (fun _ _ ⟨p, q⟩ => by subst p q; simp only [JT, if_neg hn]; exact ⟨trivial, trivial⟩) h2)⟩
theorem Hb (h : Q (.exit id) s) : TX P nt (.exit id) Q s := ⟨_, s, h, Zh ⟨rfl, rfl⟩⟩
theorem NE (h : Q .ret s) : TX P nt .ret Q s := ⟨_, s, h, Qq ⟨rfl, rfl⟩⟩
theorem Y8 (h : Q .normal s) : TX P nt .skip Q s := ⟨_, s, h, Qr ⟨rfl, rfl⟩⟩
theorem Ct {c : TCode} {s' : St} (h : s.le s') (hw : TX P nt c Q s') : TX P nt c Q s := let ⟨e, s1, h1, h2⟩ := hw; ⟨e, s1, h1, Ci h h2⟩
inductive Rounds (P : Program) (nt : Nat) (a : TCode) (e : Yz) (s' : St) : Nat -> St -> Prop
 | stop {s : St} : TW P nt a (fun e2 s2 => e2 = e /\ s2 = s') s -> e ≠ .normal -> Rounds P nt a e s' 0 s
 | next {s t s2 : St} {n : Nat} : TW P nt a (fun e2 s3 => e2 = .normal /\ s3 = t) s -> t.le s2 -> Rounds P nt a e s' n s2 -> Rounds P nt a e s' (n + 1) s
theorem Rounds.tw {a : TCode} {e : Yz} {s' : St} {n : Nat} (h : Rounds P nt a e s' n s) : TW P nt (.loop a) (fun e2 s2 => e2 = e /\ s2 = s') s := by
 refine Zq (ι := Nat × St) (fun j => j.2) (fun j => Rounds P nt a e s' j.1 j.2) (fun j => j.1) (n, s) (le_refl _) h fun j hj => ?_
 obtain ⟨m, st⟩ := j
 dsimp only at hj ⊢
 cases hj with
 | stop h1 h2 =>
  refine Xv (fun e2 s2 ⟨p, q⟩ => ?_) h1
  subst p q
  cases e2 with
  | normal => exact absurd rfl h2
  | exit n => exact ⟨rfl, rfl⟩
  | ret => exact ⟨rfl, rfl⟩
 | next h1 h2 h3 =>
  refine Xv (fun e2 s2 ⟨p, q⟩ => ?_) h1
  subst p q
  exact ⟨(_, _), h2, h3, Nat.lt_succ_self _⟩
theorem G0 {ι : Type} {a : TCode} (st : ι -> St) (I : ι -> Prop) (μ : ι -> Nat) (i0 : ι) (h0 : s.le (st i0)) (hI : I i0) (round : ∀ i, I i -> TX P nt a (P9 st I μ i Q) (st i)) : TX P nt (.loop a) Q s := by
 refine Ct h0 ?_
 have key : ∀ n i, μ i = n -> I i -> ∃ e s', Q e s' /\ ∃ m, Rounds P nt a e s' m (st i) := by
  intro n
  induction n using Nat.strongRecOn with
  | _ n ih =>
   intro i hn hi
   obtain ⟨e, s1, h1, h2⟩ := round i hi
   cases e with
   | normal =>
    obtain ⟨j, hle, hj, hlt⟩ := h1
    obtain ⟨e, s', h3, m, h4⟩ := ih (μ j) (hn ▸ hlt) j rfl hj
    exact ⟨e, s', h3, m + 1, .next h2 hle h4⟩
   | exit k => exact ⟨_, _, h1, 0, .stop h2 Wf⟩
   | ret => exact ⟨_, _, h1, 0, .stop h2 Wf⟩
 obtain ⟨e, s', h1, m, h2⟩ := key _ i0 rfl hI
 exact ⟨e, s', h1, h2.tw⟩
theorem Qdo {ι : Type} (st : ι -> St) (I : ι -> Prop) {a : TCode} (h : TX P nt a (QaT st I Q) s) (k : ∀ j, I j -> TX P nt b Q (st j)) : TX P nt (.seq a l b) Q s := by
 obtain ⟨e, s1, h1, h2⟩ := h
 cases e with
 | normal =>
  obtain ⟨j, hle, hI⟩ := h1
  obtain ⟨e2, s2, h3, h4⟩ := k j hI
  refine ⟨e2, s2, h3, Px (ι := Unit) (fun _ => st j) (fun _ => True) (Xv (fun _ _ ⟨p, q⟩ => by subst p q; exact ⟨(), hle, trivial⟩) h2) fun _ _ => h4⟩
 | exit n => exact ⟨.exit n, s1, h1, QA (Xv (fun _ _ ⟨p, q⟩ => by subst p q; exact ⟨rfl, rfl⟩) h2)⟩
 | ret => exact ⟨.ret, s1, h1, QA (Xv (fun _ _ ⟨p, q⟩ => by subst p q; exact ⟨rfl, rfl⟩) h2)⟩
theorem QK {fr fr' : Qgp} {H : Qgo} (h : Q9 l fr = fr') (k : TX P nt b Q ⟨fr', H⟩) : TX P nt b Q ⟨Q9 l fr, H⟩ := h ▸ k
theorem QX {fr fr' : Qgp} {H : Qgo} (h : Q9 l fr = fr') (k : TX P nt b Q ⟨fr', H⟩) : QdQ P nt l b Q .normal ⟨fr, H⟩ := by
 simp only [QdQ, h]; exact k
theorem YH (h : Q (.exit id) s) : QdQ P nt l b Q (.exit id) s := h
theorem Kb (h : Q .ret s) : QdQ P nt l b Q .ret s := h
end
section
variable {P : Program}
theorem Ok.ofX {f : Nat} {fn : Func} {tf : TFn} {ds : List D} {R : D -> Prop} (hm : P.follows .mixedOrders = true) (hf : P.funcs[f]? = some fn) (hp : QG P fn = some tf.erase) (hn : ds.length <= tf.nt)
  (h : TX P tf.nt tf.body (fun e s => ∃ d, R d /\ Post tf.rs d e s) ⟨LX 0 ds, []⟩) (hg : Rw f = [] := by rfl) : ∃ d, R d /\ Ok P f ds d := by
 obtain ⟨e, s, ⟨d, h1, h2⟩, h3⟩ := h
 exact ⟨d, h1, Ok.ofT hm hf hp hn (Xv (fun _ _ ⟨p, q⟩ => by subst p q; exact h2) h3) hg⟩
theorem OkH.ofX {f : Nat} {fn : Func} {tf : TFn} {ds : List D} {H : Qgo} {R : D -> Qgo -> Prop} (hm : P.follows .mixedOrders = true) (hf : P.funcs[f]? = some fn) (hp : QG P fn = some tf.erase) (hn : ds.length <= tf.nt)
  (h : TX P tf.nt tf.body (fun e s => ∃ d H', R d H' /\ (∀ k, 1000000 <= k -> (lk H k).isSome = true -> (lk H' k).isSome = true) /\ (∀ k b, lk H' k = some b -> 500000 <= k /\ ∀ j ∈ b.ids, (lk H' j).isSome = true) /\ Rf tf.rs d H' e s) ⟨LX 0 ds, H⟩) (hg : Rw f = [] := by rfl) : ∃ d H', R d H' /\ OkH P f ds H d H' := by
 obtain ⟨e, s, ⟨d, H', h1, h2, h3, h4⟩, h5⟩ := h
 exact ⟨d, H', h1, OkH.ofT hm hf hp hn h2 h3 (Xv (fun _ _ ⟨p, q⟩ => by subst p q; exact h4) h5) hg⟩
end
section
variable {fr : Qgp} {H H' : Qgo} {t : Nat}
theorem YG {e : Yz} {p d : D} (h : lk fr t = some p) (hd : Cj NL ⟨fr, H⟩ p = d) (hH : ∀ k b, lk H' k = some b -> lk H k = some b) (he : e = .ret \/ e = .normal := by first | exact .inl rfl | exact .inr rfl) : Rf [.tmp t] d H' e ⟨fr, H⟩ := by
 subst hd; rcases he with rfl | rfl <;> exact ⟨.inr ⟨_, rfl, _, h, rfl⟩, hH⟩
theorem H8 {e : Yz} {sz : Nat} {p : D} {cells cs : List D} {d : D} (h : lk fr t = some p) (ha : St.atO ⟨fr, H⟩ p = some cells) (hl : Nat.ble sz cells.length = true) (hc : cells.take sz = cs) (hd : Cj NL ⟨fr, H⟩ (.agg cs) = d) (hH : ∀ k b, lk H' k = some b -> lk H k = some b) (he : e = .ret \/ e = .normal := by first | exact .inl rfl | exact .inr rfl) : Rf [.cell t true sz] d H' e ⟨fr, H⟩ := by
 subst hc hd
 rcases he with rfl | rfl <;> exact ⟨.inr ⟨_, rfl, p, cells, h, Sp.2 ha, by simp only [if_true]; exact ⟨Qgr hl, trivial⟩⟩, hH⟩
end
theorem LO {P : Program} {f : Nat} {args : List Opd} {s : St} {ds ds' : List D} {k t n' : Nat} {b b' : Box} (ha : Zi s args = some ds) (hb : lk s.H k = some b) (hp : b.pr = true) (hk : k < 1000000) (hn : lk s.H t = none) (ht : t < 1000000) (hds : ∀ x ∈ ds, ∀ j ∈ x.ids, j = k) (hkd : ∃ x ∈ ds, k ∈ x.ids) (hp' : b'.pr = true)
  (hu : ds.map (Qee k) = ds') (hok : OkH P f ds' [(500000, b)] (.osl 500000 n') [(500000, b')]) : TP P f args s [] k t b b' n' := by
 subst hu
 exact ⟨ds, ha, hb, hp, hk, hn, ht, (fun j x hj => by cases hj), (fun j x hj => by cases hj), (fun x hx j hj => .inl (hds x hx j hj)), hkd, hp', hok⟩
section
variable {fr : Qgp} {H : Qgo} {t u : Nat}
theorem Post.eq {rs : List Si} {d d' : D} {e : Yz} {s : St} (h : Post rs d e s) (hd : d = d') : Post rs d' e s := hd ▸ h
theorem XQ {e : Yz} {sz : Nat} {p q d' : D} {cells cs ds : List D} (h : lk fr t = some p) (ha : St.atO ⟨fr, H⟩ p = some cells) (hl : Nat.ble sz cells.length = true) (hc : cells.take sz = cs) (h2 : lk fr u = some q) (hd : Kc ⟨fr, H⟩ (.agg cs) = .agg ds /\ Kc ⟨fr, H⟩ q = d')
  (he : e = .ret \/ e = .normal := by first | exact .inl rfl | exact .inr rfl) : Post [.cell t true sz, .tmp u] (.tup [.agg ds, d']) e ⟨fr, H⟩ := by
 subst hc
 obtain ⟨h3, rfl⟩ := hd
 have : Tf ⟨fr, H⟩ [.cell t true sz, .tmp u] [.agg ds, Kc ⟨fr, H⟩ q] :=
  ⟨_, _, rfl, ⟨p, cells, h, Sp.2 ha, by simp only [if_true]; exact ⟨Qgr hl, h3.symm⟩⟩, _, _, rfl, ⟨q, h2, rfl⟩, rfl⟩
 rcases he with rfl | rfl <;> exact ⟨_, rfl, this⟩
end
theorem Xz {m k : Nat} {b0 b : Box} (h : lk [(m, b0)] k = some b) : k = m /\ b = b0 := by
 rw [Qj] at h
 split at h
 ·rename_i e; cases h; exact ⟨e.symm, rfl⟩
 ·cases h
theorem OkH.mv {P : Program} {f : Nat} {fn : Func} {tf : TFn} {ds : List D} {d : D} {b b' : Box} (hm : P.follows .mixedOrders = true) (hf : P.funcs[f]? = some fn) (hp : QG P fn = some tf.erase) (hn : ds.length <= tf.nt) (hb : b'.pr = true)
  (h : TW P tf.nt tf.body (Rf tf.rs d [(500000, b')]) ⟨LX 0 ds, [(500000, b)]⟩) (hg : Rw f = [] := by rfl) : OkH P f ds [(500000, b)] d [(500000, b')] := by
 refine OkH.ofT hm hf hp hn (fun k hk h1 => ?_) (fun k x hk => ?_) h hg
 ·obtain ⟨y, hy⟩ := Qgx.1 h1
  obtain ⟨rfl, _⟩ := Xz hy
  omega
 ·obtain ⟨rfl, rfl⟩ := Xz hk
  refine ⟨Nat.le_refl _, fun j hj => ?_⟩
  simp [Box.ids, hb] at hj
theorem HR {H : Qgo} {m : Nat} {b0 : Box} (h : lk H m = some b0) : ∀ k b, lk [(m, b0)] k = some b -> lk H k = some b := fun k b hk => by
 obtain ⟨rfl, rfl⟩ := Xz hk; exact h
theorem Z8 {s : St} {k i off : Nat} {b : Box} {row : List D} (hb : lk s.H k = some b) (hr : b.rows[i]? = some row) : s.atO (.ref k i off) = some (row.drop off) := by
 simp only [St.atO, hb, hr]
theorem Bd {l : List Nat} {fr fr1 : Qgp} {H : Qgo} {t u n : Nat} {b : Box} (m : Nat) (hk : Q9 l fr = fr1) (hp : (fr1.all fun p => p.2.ids.isEmpty) = true) (hu : lk fr u = some (.osl t n)) (hb : lk H t = some b) (hpr : b.pr = true)
  (hB : Qcj H [] = true := by rfl) (ht : t < 1000000 := by decide) (hm : m < 1000000 := by decide) : St.le ⟨fr, H⟩ ⟨(u, .osl m n) :: fr1, [(m, b)]⟩ := fun E g a w r => by
 obtain ⟨g', r'⟩ := RK t m ht hm ⟨fr, H⟩ E g a w r
 have hsw : JP t m t = m := by unfold JP; rw [if_pos rfl]
 have hsm : JP t m m = t := by have := JJ t m t; rw [hsw] at this; exact this
 have hren : b.ren (JP t m) = b := Box.ren_pure ((r.bx t b hb).2.1 hpr)
 have hids : ∀ v d, lk fr1 v = some d -> d.ids = [] := fun v d h => by
  simp only [QgB] at hp
  have := hp (v, d) (ZY h)
  simpa using this
 refine ⟨g', r'.less (fun v d h => ?_) (fun j x h => ?_) (fun v d h j hj => ?_) (fun j x h i hi => ?_) fun j hj hs => ?_⟩
 ·simp only [St.ren, Z7]
  rw [Qj] at h
  split at h
  ·rename_i e
   cases h; subst e
   rw [hu]
   simp only [Option.map_some, D.ren, D.renS, hsw]
  ·have h2 : lk fr v = some d := by subst hk; exact YS l fr v d h
   rw [h2, Option.map_some]
   have h3 := hids v d h
   congr 1
   cases d <;> first | rfl | (simp [D.ids, D.sid] at h3; done) | skip
   ·rename_i cs
    simp only [D.ren]
    congr 1
    have one : ∀ d : D, d.sid = [] -> d.renS (JP t m) = d := fun d hd => by cases d <;> first | rfl | (simp [D.sid] at hd)
    simp only [D.ids, List.flatMap_eq_nil_iff] at h3
    exact Yv fun x hx => one x (h3 x hx)
   ·rename_i f cs
    simp only [D.ren]
    congr 1
    have one : ∀ d : D, d.sid = [] -> d.renS (JP t m) = d := fun d hd => by cases d <;> first | rfl | (simp [D.sid] at hd)
    simp only [D.ids, List.flatMap_eq_nil_iff] at h3
    exact Yv fun x hx => one x (h3 x hx)
 ·obtain ⟨rfl, rfl⟩ := Xz h
  show lk (P7 (JP t j) H) j = some x
  rw [Nf (JJ t j), hsm, hb, Option.map_some, hren]
 ·rw [Qj] at h
  split at h
  ·cases h
   simp [D.ids, D.sid] at hj; subst hj; simp [Qj]
  ·rw [hids v d h] at hj; cases hj
 ·obtain ⟨rfl, rfl⟩ := Xz h
  simp [Box.ids, hpr] at hi
 ·exfalso
  have hs' : (lk (P7 (JP t m) H) j).isSome = true := hs
  rw [Nf (JJ t m), QgJ] at hs'
  have hj' : JP t m j = j := by unfold JP; rw [if_neg Wa, if_neg Wa]
  rw [hj'] at hs'
  have := Mn hB j hj hs'
  cases this
theorem OkH.lent {P : Program} {f : Nat} {fn : Func} {tf : TFn} {ds : List D} {d : D} {k : Nat} {b b' : Box} (hk : 1000000 <= k) (hm : P.follows .mixedOrders = true) (hf : P.funcs[f]? = some fn) (hp : QG P fn = some tf.erase) (hn : ds.length <= tf.nt) (hb : b'.pr = true)
  (h : TW P tf.nt tf.body (Rf tf.rs d ((k, b') :: [(k, b)])) ⟨LX 0 ds, [(k, b)]⟩) (hg : Rw f = [] := by rfl) : OkH P f ds [(k, b)] d ((k, b') :: [(k, b)]) := by
 refine OkH.ofT hm hf hp hn (fun j hj h1 => ?_) (fun j x hj => ?_) h hg
 ·obtain ⟨y, hy⟩ := Qgx.1 h1
  obtain ⟨rfl, _⟩ := Xz hy
  rw [Qj, if_pos rfl]; rfl
 ·rw [Qj] at hj
  split at hj
  ·rename_i e; subst e; cases hj
   exact ⟨Wa, fun i hi => by simp [Box.ids, hb] at hi⟩
  ·rename_i e
   obtain ⟨rfl, _⟩ := Xz hj
   exact absurd rfl e
theorem QcU {H : Qgo} {m : Nat} {b0 b1 : Box} (h : lk H m = some b0) : ∀ k b, lk ((m, b0) :: [(m, b1)]) k = some b -> lk H k = some b := fun k b hk => by
 rw [Qj] at hk
 split at hk
 ·rename_i e; subst e; cases hk; exact h
 ·rename_i e
  obtain ⟨rfl, _⟩ := Xz hk
  exact absurd rfl e
section
variable {P : Program} {dr : Dr} {r : List AOper} {K : St -> Prop} {fr : Qgp} {H : Qgo} {t : Nat} {bt : Bool} {x y : Opd} {ki kj : IntKind} {m n z : Int}
theorem GY (hx : St.ev ⟨fr, H⟩ x = some (.int ki m)) (hy : St.ev ⟨fr, H⟩ y = some (.int ki n)) (k : run P dr r K ⟨(t, .int ki (JM .and ki m n)) :: fr, H⟩) : run P dr (⟨some t, .bin .and bt x y, none⟩ :: r) K ⟨fr, H⟩ := QN rfl rfl ⟨_, hx, _, hy, .inr rfl, k⟩
theorem QeS (hx : St.ev ⟨fr, H⟩ x = some (.int ki m)) (hy : St.ev ⟨fr, H⟩ y = some (.int ki n)) (k : run P dr r K ⟨(t, .int ki (JM .or ki m n)) :: fr, H⟩) : run P dr (⟨some t, .bin .or bt x y, none⟩ :: r) K ⟨fr, H⟩ := QN rfl rfl ⟨_, hx, _, hy, .inr rfl, k⟩
theorem NN (hx : St.ev ⟨fr, H⟩ x = some (.int ki m)) (hy : St.ev ⟨fr, H⟩ y = some (.int ki n)) (k : run P dr r K ⟨(t, .int ki (JM .andNot ki m n)) :: fr, H⟩) : run P dr (⟨some t, .bin .andNot bt x y, none⟩ :: r) K ⟨fr, H⟩ := QN rfl rfl ⟨_, hx, _, hy, .inr rfl, k⟩
theorem Qan (hx : St.ev ⟨fr, H⟩ x = some (.int ki m)) (hy : St.ev ⟨fr, H⟩ y = some (.int kj n)) (h0 : 0 <= n) (hz : ki.wrap (m * 2 ^ min n.toNat ki.bits) = z) (k : run P dr r K ⟨(t, .int ki z) :: fr, H⟩) : run P dr (⟨some t, .bin .shl bt x y, none⟩ :: r) K ⟨fr, H⟩ := by
 subst hz; exact QN rfl rfl ⟨_, hx, _, hy, .inl rfl, h0, k⟩
theorem Qdj (hx : St.ev ⟨fr, H⟩ x = some (.int ki m)) (hy : St.ev ⟨fr, H⟩ y = some (.int kj n)) (h0 : 0 <= n) (k : run P dr r K ⟨(t, .int ki (m.fdiv (2 ^ min n.toNat ki.bits))) :: fr, H⟩) : run P dr (⟨some t, .bin .shr bt x y, none⟩ :: r) K ⟨fr, H⟩ :=
 QN rfl rfl ⟨_, hx, _, hy, .inl rfl, h0, k⟩
end
end Go.Abs
namespace Go.Abs
open Go
theorem Na {H : Qgo} {S : Nat -> Bool} {d : D} (h : ∀ k ∈ d.sid, S k = false) : d.fzS H S = d := by
 cases d <;> try rfl
 ·rename_i k n
  simp only [D.fzS]; rw [if_neg (by rw [h k Wu]; simp)]
 ·rename_i k i o
  simp only [D.fzS]; rw [if_neg (by rw [h k Wu]; simp)]
theorem PM {H : Qgo} {S : Nat -> Bool} {d : D} (h : ∀ k ∈ d.ids, S k = false) : d.fz H S = d := by
 cases d
 case agg cs =>
  simp only [D.fz]
  rw [Yv fun x hx => Na fun k hk => h k (Qgy.2 ⟨x, hx, hk⟩)]
 case clo f cs =>
  simp only [D.fz]
  rw [Yv fun x hx => Na fun k hk => h k (Qgy.2 ⟨x, hx, hk⟩)]
 case osl k n => exact Na (d := .osl k n) h
 case ref k i o => exact Na (d := .ref k i o) h
 all_goals rfl
theorem Xw {H : Qgo} {S : Nat -> Bool} {b : Box} (h : b.pr = true \/ ∀ k ∈ b.ids, S k = false) : b.fz H S = b := by
 unfold Box.fz
 split
 ·rfl
 ·rename_i hp
  have h' := h.resolve_left hp
  have hids : b.ids = b.rows.flatMap fun r => r.flatMap D.sid := by unfold Box.ids; rw [if_neg hp]
  rw [hids] at h'
  have key : ∀ rows : List (List D), (∀ k ∈ rows.flatMap (fun r => r.flatMap D.sid), S k = false) -> (rows.map fun r => r.map (D.fzS H S)) = rows := by
   intro rows
   induction rows with
   | nil => intro _; rfl
   | cons r rs ih =>
    intro h'
    rw [List.map_cons, ih (fun k hk => h' k (by rw [List.flatMap_cons]; exact QgG _ hk)),
     Yv fun x hx => Na fun k hk => h' k (by rw [List.flatMap_cons]; exact List.mem_append_left _ (Qgy.2 ⟨x, hx, hk⟩))]
  have this := key b.rows h'
  rw [this]
theorem SR {fr fr1 : Qgp} {H H1 : Qgo} {l lH : List Nat} (k t : Nat) {n : Nat} {b : Box} (hf : Q9 l fr = fr1) (hH : Ks lH H = H1) (ht : lk fr t = some (.osl k n)) (hb : lk H k = some b) (hp : b.pr = true) (hn : n = b.rows.length)
  (c1 : (fr1.all fun p => !p.2.ids.contains k) = true) (c2 : (H1.all fun p => p.1 != k && (p.2.pr || !p.2.ids.contains k)) = true) (hw : wfB H1 fr1 = true) (hbk : Qcj H H1 = true) (hk : k < 1000000 := by decide) : St.le ⟨fr, H⟩ ⟨(t, .sl b.rows) :: fr1, H1⟩ := by
 intro E g a w r
 obtain ⟨g', _, r'⟩ := r.freeze k hk
 subst hf hH
 simp only [wfB, Qgv, QgB] at hw
 simp only [QgB, Bool.not_eq_true', List.contains_eq_mem, decide_eq_false_iff_not] at c1
 simp only [QgB, Qgv, Bool.or_eq_true, Bool.not_eq_true', List.contains_eq_mem, decide_eq_false_iff_not, bne_iff_ne, ne_eq] at c2
 have hS : ∀ (x : D), k ∉ x.ids -> x.fz H (· == k) = x := fun x hx => PM fun j hj => by
  simp only [beq_eq_false_iff_ne, ne_eq]; rintro rfl; exact hx hj
 refine ⟨g', r'.less (fun u d h => ?_) (fun j x h => ?_) (fun u d h j hj => ?_) (fun j x h i hi => hw.2 (j, x) (ZY h) i hi) fun j hj hs => ?_⟩
 ·simp only [St.freeze, Z7]
  rw [Qj] at h
  split at h
  ·rename_i e; cases h; subst e
   rw [ht]; simp only [Option.map_some]
   congr 1
   simp only [D.fz, D.fzS, beq_self_eq_true, if_true, hb, hp, hn, and_self]
  ·have h1 := YS l fr u d h
   rw [h1, Option.map_some, hS d (c1 (u, d) (ZY h))]
 ·have h1 := HZ lH H j x h
  have h2 := c2 (j, x) (ZY h)
  simp only [St.freeze, HA]
  rw [if_neg h2.1, Z7 (Box.fz H (· == k)), h1, Option.map_some]
  congr 1
  refine Xw (h2.2.imp id fun h3 i hi => ?_)
  simp only [beq_eq_false_iff_ne, ne_eq]; rintro rfl; exact h3 hi
 ·rw [Qj] at h
  split at h
  ·cases h; simp [D.ids, D.sid] at hj
  ·exact hw.1 (u, d) (ZY h) j hj
 ·have : (lk H j).isSome = true := by
   simp only [St.freeze, HA] at hs
   rw [if_neg Wa, Z7 (Box.fz H (· == k)), QgJ] at hs
   exact hs
  exact Mn hbk j hj this
theorem OkH.new {P : Program} {f : Nat} {fn : Func} {tf : TFn} {ds : List D} {d : D} {b' : Box} (hm : P.follows .mixedOrders = true) (hf : P.funcs[f]? = some fn) (hp : QG P fn = some tf.erase) (hn : ds.length <= tf.nt) (hb : b'.pr = true)
  (h : TW P tf.nt tf.body (Rf tf.rs d [(500000, b')]) ⟨LX 0 ds, []⟩) (hg : Rw f = [] := by rfl) : OkH P f ds [] d [(500000, b')] := by
 refine OkH.ofT hm hf hp hn (fun k hk h1 => by cases h1) (fun k x hk => ?_) h hg
 obtain ⟨rfl, rfl⟩ := Xz hk
 refine ⟨Nat.le_refl _, fun j hj => ?_⟩
 simp [Box.ids, hb] at hj
theorem Qdu {P : Program} {f : Nat} {args : List Opd} {s : St} {ds ds' : List D} {b : Box} {n : Nat} (ha : Zi s args = some ds) (hds : ∀ x ∈ ds, x.ids = []) (hu : ds.map Qd2 = ds') (hn : lk s.H 500000 = none) (hb : b.pr = true) (hok : OkH P f ds' [] (.osl 500000 n) [(500000, b)]) : Kp P f args s [] [(500000, b)] [] (.osl 500000 n) := by
 subst hu
 refine ⟨ds, ha, (fun _ _ h => by cases h), (fun _ _ h => by cases h), (fun x hx j hj => by rw [hds x hx] at hj; cases hj), (fun _ _ h => by cases h), fun j x hj => ?_, fun j hj => ?_, .inl hok⟩
 ·obtain ⟨rfl, rfl⟩ := Xz hj
  exact ⟨by decide, hn, fun i hi => by simp [Box.ids, hb] at hi⟩
 ·simp [D.ids, D.sid] at hj; subst hj; rfl
theorem Qco {P : Program} {f : Nat} {args : List Opd} {s : St} {ds ds' : List D} {b : Box} {n : Nat} (ha : Zi s args = some ds) (hds : ∀ x ∈ ds, x.ids = []) (hu : ds.map (D.ren upN) = ds') (hn : lk s.H 500000 = none) (hb : b.pr = true) (hok : OkH P f ds' [] (.osl 500000 n) [(500000, b)]) : Kp P f args s [] [(500000, b)] [] (.osl 500000 n) := by
 subst hu
 refine ⟨ds, ha, (fun _ _ h => by cases h), (fun _ _ h => by cases h), (fun x hx j hj => by rw [hds x hx] at hj; cases hj), (fun _ _ h => by cases h), fun j x hj => ?_, fun j hj => ?_, .inr hok⟩
 ·obtain ⟨rfl, rfl⟩ := Xz hj
  exact ⟨by decide, hn, fun i hi => by simp [Box.ids, hb] at hi⟩
 ·simp [D.ids, D.sid] at hj; subst hj; rfl
theorem QP {α : Type} {f : α -> List D} {l : List α} : Qc6 (.sl (l.map f)) = some (l.length : Int) := by simp [Qc6]
theorem FK {ρ : Nat -> Nat} {d : D} (h : ∀ k ∈ d.sid, ρ k = k) : d.renS ρ = d := by
 cases d <;> try rfl
 ·rename_i k n; simp only [D.renS]; rw [h k Wu]
 ·rename_i k i o; simp only [D.renS]; rw [h k Wu]
theorem QcM {ρ : Nat -> Nat} {d : D} (h : ∀ k ∈ d.ids, ρ k = k) : d.ren ρ = d := by
 cases d
 case agg cs =>
  simp only [D.ren]
  rw [Yv fun x hx => FK fun k hk => h k (Qgy.2 ⟨x, hx, hk⟩)]
 case clo f cs =>
  simp only [D.ren]
  rw [Yv fun x hx => FK fun k hk => h k (Qgy.2 ⟨x, hx, hk⟩)]
 case osl k n => exact FK (d := .osl k n) h
 case ref k i o => exact FK (d := .ref k i o) h
 all_goals rfl
theorem DR {ρ : Nat -> Nat} {b : Box} (hp : b.pr = false) (h : ∀ k ∈ b.ids, ρ k = k) : b.ren ρ = b := by
 have hids : b.ids = b.rows.flatMap fun r => r.flatMap D.sid := by unfold Box.ids; rw [if_neg (by rw [hp]; simp)]
 rw [hids] at h
 have key : ∀ rows : List (List D), (∀ k ∈ rows.flatMap (fun r => r.flatMap D.sid), ρ k = k) -> (rows.map fun r => r.map (D.renS ρ)) = rows := by
  intro rows
  induction rows with
  | nil => intro _; rfl
  | cons r rs ih =>
   intro h'
   rw [List.map_cons, ih (fun k hk => h' k (by rw [List.flatMap_cons]; exact QgG _ hk)),
    Yv fun x hx => FK fun k hk => h' k (by rw [List.flatMap_cons]; exact List.mem_append_left _ (Qgy.2 ⟨x, hx, hk⟩))]
 unfold Box.ren
 rw [key b.rows h]
theorem MH {fr fr1 : Qgp} {H H1 : Qgo} {l lH : List Nat} (t m u : Nat) {n : Nat} {b : Box} (hf : Q9 l fr = fr1) (hH : Ks lH H = H1) (hu : lk fr u = some (.osl t n)) (hb : lk H t = some b) (hpr : b.pr = true)
  (c1 : (fr1.all fun p => !p.2.ids.contains t && !p.2.ids.contains m) = true) (c2 : (H1.all fun p => p.1 != t && p.1 != m && (p.2.pr || (!p.2.ids.contains t && !p.2.ids.contains m))) = true) (hw : wfB H1 fr1 = true) (hbk : Qcj H H1 = true) (ht : t < 1000000 := by decide) (hm : m < 1000000 := by decide) :
  St.le ⟨fr, H⟩ ⟨(u, .osl m n) :: fr1, (m, b) :: H1⟩ := fun E g a w r => by
 subst hf hH
 obtain ⟨g', r'⟩ := RK t m ht hm ⟨fr, H⟩ E g a w r
 have hsw : JP t m t = m := by unfold JP; rw [if_pos rfl]
 have hsm : JP t m m = t := by have := JJ t m t; rw [hsw] at this; exact this
 have hid : ∀ k, k ≠ t -> k ≠ m -> JP t m k = k := fun k h1 h2 => by unfold JP; rw [if_neg h1, if_neg h2]
 have hren : b.ren (JP t m) = b := Box.ren_pure ((r.bx t b hb).2.1 hpr)
 simp only [wfB, Qgv, QgB] at hw
 simp only [QgB, Qgv, Bool.not_eq_true', List.contains_eq_mem, decide_eq_false_iff_not] at c1
 simp only [QgB, Qgv, Bool.or_eq_true, Bool.not_eq_true', List.contains_eq_mem, decide_eq_false_iff_not, bne_iff_ne, ne_eq] at c2
 have up : ∀ j, (lk (Ks lH H) j).isSome = true -> (lk ((m, b) :: Ks lH H) j).isSome = true := fun j hj => by
  rw [Qj]; split
  ·rfl
  ·exact hj
 refine ⟨g', r'.less (fun v d h => ?_) (fun j x h => ?_) (fun v d h j hj => ?_) (fun j x h i hi => ?_) fun j hj hs => ?_⟩
 ·simp only [St.ren, Z7]
  rw [Qj] at h
  split at h
  ·rename_i e
   cases h; subst e
   rw [hu]
   simp only [Option.map_some, D.ren, D.renS, hsw]
  ·have h2 := YS l fr v d h
   rw [h2, Option.map_some]
   congr 1
   have h3 := c1 (v, d) (ZY h)
   exact QcM fun k hk => hid k (by rintro rfl; exact h3.1 hk) (by rintro rfl; exact h3.2 hk)
 ·show lk (P7 (JP t m) H) j = some x
  rw [Nf (JJ t m)]
  rw [Qj] at h
  split at h
  ·rename_i e; cases h; subst e
   rw [hsm, hb, Option.map_some, hren]
  ·have h2 := HZ lH H j x h
   have h3 := c2 (j, x) (ZY h)
   rw [hid j h3.1.1 h3.1.2, h2, Option.map_some]
   congr 1
   cases hp : x.pr with
   | true => exact Box.ren_pure ((r.bx j x h2).2.1 hp)
   | false =>
    have h4 := h3.2.resolve_left (by rw [hp]; simp)
    exact DR hp fun k hk => hid k (by rintro rfl; exact h4.1 hk) (by rintro rfl; exact h4.2 hk)
 ·rw [Qj] at h
  split at h
  ·cases h
   simp [D.ids, D.sid] at hj; subst hj; simp [Qj]
  ·exact up j (hw.1 (v, d) (ZY h) j hj)
 ·rw [Qj] at h
  split at h
  ·rename_i e; cases h; simp [Box.ids, hpr] at hi
  ·exact up i (hw.2 (j, x) (ZY h) i hi)
 ·have hs' : (lk (P7 (JP t m) H) j).isSome = true := hs
  rw [Nf (JJ t m), QgJ, hid j Wa Wa] at hs'
  exact up j (Mn hbk j hj hs')
section
variable {P : Program} {dr : Dr} {r : List AOper} {K : St -> Prop} {fr : Qgp} {H : Qgo} {t : Nat}
theorem NO {esz : Nat} {x y m : Opd} {lo : Option Opd} {p : D} {rows rows' : List (List D)} {l h : Int} (hx : St.ev ⟨fr, H⟩ x = some p) (hr : p.rows? = some rows) (hl : St.bdO ⟨fr, H⟩ lo 0 = some l) (hh : St.bdO ⟨fr, H⟩ (some y) rows.length = some h) (hm : St.bdO ⟨fr, H⟩ (some m) 0 = some h)
  (h0 : 0 <= l) (h1 : l <= h) (h2 : h <= rows.length) (he : ∀ r ∈ rows, r.length = esz) (hq : (rows.take h.toNat).drop l.toNat = rows') (k : run P dr r K ⟨(t, .fsl rows') :: fr, H⟩) : run P dr (⟨some t, .slice esz x lo (some y) (some m), none⟩ :: r) K ⟨fr, H⟩ := QN rfl rfl (.inl ⟨p, hx, rows, hr, l, hl, h, hh, h0, h1, h2, he, hm, rfl, hq ▸ k⟩)
theorem Qdh {esz et bytes : Nat} {zero : List D} {x y : Opd} {ki kj : IntKind} {n : Int} (hx : St.ev ⟨fr, H⟩ x = some (.int ki n)) (hy : St.ev ⟨fr, H⟩ y = some (.int kj n)) (hn : lk H t = none) (h0 : 0 <= n) (hb : n.toNat * bytes <= 281474976710656) (hc : n.toNat <= 4611686018427387904)
  (k : run P dr r K ⟨(t, .osl t n.toNat) :: fr, (t, ⟨List.replicate n.toNat zero, esz, et, true⟩) :: H⟩) : run P dr (⟨some t, .makeSlice esz et bytes zero x y, none⟩ :: r) K ⟨fr, H⟩ := QN rfl rfl ⟨_, hx, _, hy, t, rfl, hn, rfl, h0, hb, hc, k⟩
end
end Go.Abs
namespace Go.Abs
open Go
/-! ### Walks over boxes that are lent, of which little is known -/
def Big (H : Qgo) : Prop := ∀ k b, lk H k = some b -> 1000000 <= k
def Closed (H : Qgo) : Prop := ∀ k b, lk H k = some b -> ∀ j ∈ b.ids, (lk H j).isSome = true
theorem Big.none {H : Qgo} (h : Big H) {k : Nat} (hk : k < 1000000) : lk H k = none := by
 cases hh : lk H k with
 | none => rfl
 | some b => have := h k b hh; omega
theorem Qk {α : Type} {H : List (Nat × α)} {k k' : Nat} {x b : α} (h : k' ≠ k) (e : lk H k = some b) : lk ((k', x) :: H) k = some b := by rw [Qj, if_neg h]; exact e
theorem Zu {α : Type} {H : List (Nat × α)} {k k' : Nat} {x : α} (h : k' ≠ k) (e : lk H k = none) : lk ((k', x) :: H) k = none := by rw [Qj, if_neg h]; exact e
theorem Qv {α : Type} {k : Nat} {v : α} {l : List (Nat × α)} : lk ((k, v) :: l) k = some v := by rw [Qj, if_pos rfl]
theorem Big.cons {H : Qgo} (h : Big H) {k : Nat} {b : Box} (hk : 1000000 <= k) : Big ((k, b) :: H) := fun j x hj => by
 rw [Qj] at hj
 split at hj
 ·rename_i e; subst e; exact hk
 ·exact h j x hj
theorem QV {H : Qgo} {k j : Nat} {b : Box} (h : (lk H j).isSome = true) : (lk ((k, b) :: H) j).isSome = true := by
 rw [Qj]; split
 ·rfl
 ·exact h
theorem QW {k : Nat} {b : Box} {l : Qgo} : (lk ((k, b) :: l) k).isSome = true := by rw [Qv]; rfl
theorem Zt {l : Qgo} {k : Nat} {b : Box} (h : lk l k = some b) : (lk l k).isSome = true := by rw [h]; rfl
def GX (b : Box) : Prop := b.ids = []
theorem Jm {b : Box} (h : b.pr = true) : b.ids = [] := by simp [Box.ids, h]
theorem Closed.cons {H : Qgo} (h : Closed H) {k : Nat} {b : Box} (hb : ∀ j ∈ b.ids, (lk H j).isSome = true) : Closed ((k, b) :: H) := fun j x hj i hi => by
 rw [Qj] at hj
 split at hj
 ·cases hj; exact QV (hb i hi)
 ·exact QV (h j x hj i hi)
theorem Closed.pr {H : Qgo} (h : Closed H) {k : Nat} {b : Box} (hb : b.pr = true) : Closed ((k, b) :: H) := h.cons fun j hj => by rw [Jm hb] at hj; cases hj
theorem QbR {l : List Nat} {fr fr1 fr' : Qgp} {H H' : Qgo} (hf : Q9 l fr = fr1) (ef : fr1 = fr') (hH : ∀ k b, lk H' k = some b -> lk H k = some b) (hfr : ∀ p ∈ fr', ∀ k ∈ p.2.ids, (lk H' k).isSome = true) (hcl : Closed H') (hbig : ∀ k, 1000000 <= k -> (lk H k).isSome = true -> (lk H' k).isSome = true) : St.le ⟨fr, H⟩ ⟨fr', H'⟩ := by
 subst hf ef
 intro E g a w r
 exact ⟨g, r.less (fun t d h => YS l fr t d h) hH (fun t d h k hk => hfr (t, d) (ZY h) k hk) hcl hbig⟩
theorem KS {fr fr' : Qgp} {H H' : Qgo} (ef : fr = fr') (hH : ∀ k, lk H k = lk H' k) : St.le ⟨fr, H⟩ ⟨fr', H'⟩ := by
 subst ef; exact RI ⟨fun _ => rfl, hH⟩
theorem MP {A H0 : Qgo} {k : Nat} {b : Box} (h : lk (A ++ H0) k = some b) : (k, b) ∈ A \/ (lk A k = none /\ lk H0 k = some b) := by
 rw [ZX] at h
 split at h
 ·rename_i v hv; cases h; exact .inl (ZY hv)
 ·rename_i hv; exact .inr ⟨hv, h⟩
theorem QdE {l : List Nat} {fr fr1 fr' : Qgp} {H A H0 : Qgo} (hf : Q9 l fr = fr1) (ef : fr1 = fr') (hA : ∀ p ∈ A, lk H p.1 = some p.2 /\ p.2.pr = true) (h0 : ∀ k b, lk A k = none -> lk H0 k = some b -> lk H k = some b) (hfr : ∀ p ∈ fr', ∀ k ∈ p.2.ids, (lk (A ++ H0) k).isSome = true) (hcl : Closed H0)
  (hbig : ∀ k, 1000000 <= k -> (lk H k).isSome = true -> (lk (A ++ H0) k).isSome = true) : St.le ⟨fr, H⟩ ⟨fr', A ++ H0⟩ := by
 have up : ∀ j, (lk H0 j).isSome = true -> (lk (A ++ H0) j).isSome = true := fun j hj => by
  rw [ZX]; split
  ·rfl
  ·exact hj
 refine QbR hf ef (fun k b hk => ?_) hfr (fun k b hk j hj => ?_) hbig
 ·rcases MP hk with h | ⟨h1, h2⟩
  ·exact (hA _ h).1
  ·exact h0 k b h1 h2
 ·rcases MP hk with h | ⟨h1, h2⟩
  ·rw [Jm (hA _ h).2] at hj; cases hj
  ·exact up j (hcl k b h2 j hj)
theorem Ly {H : Qgo} : Big (upH H) := fun k b hk => by
 obtain ⟨j, b0, rfl, _, _⟩ := YU hk
 unfold upN; omega
theorem Nt {H : Qgo} (h : Closed H) : Closed (upH H) := fun k b hk j hj => by
 obtain ⟨i, b0, rfl, h1, rfl⟩ := YU hk
 rw [Box.ren_ids] at hj
 obtain ⟨j0, hj0, rfl⟩ := QgF.1 hj
 rw [JD, QgJ]
 exact h i b0 h1 j0 hj0
theorem LN {P : Program} {f : Nat} {args : List Opd} {s : St} {ds ds' : List D} {HF : Qgo} {k : Nat} {b b' : Box} {d : D} (ha : Zi s args = some ds) (hF : ∀ j x, lk HF j = some x -> lk s.H j = some x) (hcl : Closed HF) (hds : ∀ x ∈ ds, ∀ j ∈ x.ids, (lk HF j).isSome = true)
  (hk : (lk HF k).isSome = true) (hb : b.pr = true) (hd : d.ids = []) (hu : ds.map Qd2 = ds') (hr : b.ren upN = b') (hok : OkH P f ds' (upH HF) d ((upN k, b') :: upH HF)) : Kp P f args s HF [] [(k, b)] d := by
 subst hu hr
 refine ⟨ds, ha, hF, hcl, hds, fun j x hj => ?_, (fun j x hj => by cases hj), (fun j hj => by rw [hd] at hj; cases hj), .inl hok⟩
 rw [Qj] at hj
 split at hj
 ·rename_i e; cases hj; subst e; exact ⟨hk, fun i hi => by rw [Jm hb] at hi; cases hi⟩
 ·cases hj
theorem XU {H : Qgo} {k : Nat} {b : Box} (hB : Big H) (hC : Closed H) (hk : 1000000 <= k) (hb : b.pr = true) : (∀ j, 1000000 <= j -> (lk H j).isSome = true -> (lk ((k, b) :: H) j).isSome = true) /\ (∀ j x, lk ((k, b) :: H) j = some x -> 500000 <= j /\ ∀ i ∈ x.ids, (lk ((k, b) :: H) i).isSome = true) :=
 ⟨fun _ _ h => QV h, fun j x hj => ⟨by have := hB.cons (b := b) hk j x hj; omega, hC.pr hb j x hj⟩⟩
theorem MK {l : List Nat} {fr fr1 fr' : Qgp} {B A A' H0 : Qgo} (hf : Q9 l fr = fr1) (ef : fr1 = fr') (hA : ∀ p ∈ A, lk B p.1 = some p.2 /\ p.2.pr = true) (eA : A = A') (hBA : ∀ p ∈ B, 1000000 <= p.1 -> (lk A p.1).isSome = true) (hb : Big H0) (hcl : Closed H0) (hfr : ∀ p ∈ fr', ∀ k ∈ p.2.ids, (lk (A' ++ H0) k).isSome = true) : St.le ⟨fr, B ++ H0⟩ ⟨fr', A' ++ H0⟩ := by
 subst eA
 have noB : ∀ k b, lk H0 k = some b -> lk A k = none -> lk B k = none := fun k b h1 h2 => by
  cases h : lk B k with
  | none => rfl
  | some x =>
   have := hBA (k, x) (ZY h) (hb k b h1)
   simp only at this
   rw [h2] at this; cases this
 refine QdE hf ef (fun p hp => ?_) (fun k b h1 h2 => ?_) hfr hcl fun k hk hs => ?_
 ·obtain ⟨q1, q2⟩ := hA p hp
  exact ⟨YC q1, q2⟩
 ·rw [YZ (noB k b h2 h1)]; exact h2
 ·rw [ZX] at hs ⊢
  cases h : lk B k with
  | some x =>
   have := hBA (k, x) (ZY h) hk
   obtain ⟨y, hy⟩ := Qgx.1 this
   simp only at hy
   rw [hy]; rfl
  | none =>
   rw [h] at hs
   cases h2 : lk A k with
   | some x => rfl
   | none => exact hs
theorem J6 {B H : Qgo} {kg : Nat} {g : Box} (hb : Big H) (h1 : lk B kg = some g) (h2 : ∀ p ∈ B, 1000000 <= p.1 -> p.1 = kg) : ∀ k b, lk ((kg, g) :: H) k = some b -> lk (B ++ H) k = some b := fun k b hk => by
 rw [Qj] at hk
 split at hk
 ·rename_i e; cases hk; subst e; exact YC h1
 ·rename_i e
  rw [ZX]
  cases h : lk B k with
  | none => exact hk
  | some x => exact absurd (h2 (k, x) (ZY h) (hb k b hk)).symm e
def scr (k : Nat) (H : Qgo) : Qgo := H.map fun p => (p.1, p.2.scrub k)
theorem Tk {k : Nat} {b : Box} (h : k ∉ b.ids) : b.scrub k = b := by
 unfold Box.scrub
 split
 ·rfl
 ·rename_i hp
  have hids : b.ids = b.rows.flatMap fun r => r.flatMap D.sid := by unfold Box.ids; rw [if_neg hp]
  rw [hids] at h
  have key : ∀ rows : List (List D), (k ∉ rows.flatMap fun r => r.flatMap D.sid) -> (rows.map fun r => r.map (D.scrubC k)) = rows := by
   intro rows
   induction rows with
   | nil => intro _; rfl
   | cons r rs ih =>
    intro h'
    rw [List.flatMap_cons, QgC] at h'
    rw [List.map_cons, ih (fun hh => h' (.inr hh)), Yv fun x hx => ?_]
    have hx' : k ∉ x.sid := fun hk => h' (.inl (Qgy.2 ⟨x, hx, hk⟩))
    cases x <;> try rfl
    ·rename_i j n
     simp only [D.sid, QgA] at hx'
     simp only [D.scrubC]
     first | rfl | rw [if_neg (fun e => hx' e.symm)] | rw [if_neg (fun e => hx' e)]
    ·rename_i j i o
     simp only [D.sid, QgA] at hx'
     simp only [D.scrubC]
     first | rfl | rw [if_neg (fun e => hx' e.symm)] | rw [if_neg (fun e => hx' e)]
  rw [key b.rows h]
theorem QbS {k : Nat} : ∀ {H : Qgo} {j : Nat}, lk (scr k H) j = (lk H j).map (Box.scrub k)
 | [], _ => rfl
 | (i, b) :: H, j => by
  show (if i = j then some (b.scrub k) else lk (scr k H) j) = _
  rw [Qj, QbS]
  split <;> rfl
theorem RO {H : Qgo} {k j : Nat} (hB : Big H) (hC : Closed H) (hk : k < 1000000) : lk (scr k H) j = lk H j := by
 rw [QbS]
 cases h : lk H j with
 | none => rfl
 | some b =>
  rw [Option.map_some, Tk fun hi => ?_]
  obtain ⟨x, hx⟩ := Qgx.1 (hC j b h k hi)
  have := hB k x hx
  omega
theorem QdG {fr : Qgp} {B H0 : Qgo} (k : Nat) (hB : Big H0) (hC : Closed H0) (hk : k < 1000000 := by decide) : St.le ⟨fr, B ++ scr k H0⟩ ⟨fr, B ++ H0⟩ :=
 RI ⟨fun _ => rfl, fun j => by
  show lk (B ++ scr k H0) j = lk (B ++ H0) j
  rw [ZX, ZX, RO hB hC hk]⟩
theorem T4 {l : List Nat} {fr fr1 : Qgp} {B A H0 : Qgo} (k t : Nat) {n : Nat} {b : Box} (hf : Q9 l fr = fr1) (ht : lk fr t = some (.osl k n)) (hb : lk B k = some b) (hp : b.pr = true) (hn : n = b.rows.length) (c1 : ∀ p ∈ fr1, k ∉ p.2.ids)
  (hA : ∀ p ∈ A, p.1 ≠ k /\ lk B p.1 = some p.2 /\ p.2.pr = true) (hBA : ∀ p ∈ B, 1000000 <= p.1 -> (lk A p.1).isSome = true) (hB : Big H0) (hC : Closed H0) (hfr : ∀ p ∈ fr1, ∀ j ∈ p.2.ids, (lk (A ++ H0) j).isSome = true) (hk : k < 1000000 := by decide) : St.le ⟨fr, B ++ H0⟩ ⟨(t, .sl b.rows) :: fr1, A ++ H0⟩ := by
 intro E g a w r
 obtain ⟨g', _, r'⟩ := r.freeze k hk
 subst hf
 have hbB : lk (B ++ H0) k = some b := YC hb
 have hS : ∀ (x : D), k ∉ x.ids -> x.fz (B ++ H0) (· == k) = x := fun x hx => PM fun j hj => by
  simp only [beq_eq_false_iff_ne, ne_eq]; rintro rfl; exact hx hj
 have hH0k : ∀ j x, lk H0 j = some x -> k ∉ x.ids := fun j x h hi => by
  obtain ⟨y, hy⟩ := Qgx.1 (hC j x h k hi)
  have := hB k y hy
  omega
 have noB : ∀ j x, lk H0 j = some x -> lk A j = none -> lk B j = none := fun j x h1 h2 => by
  cases h : lk B j with
  | none => rfl
  | some y =>
   have := hBA (j, y) (ZY h) (hB j x h1)
   simp only at this
   rw [h2] at this; cases this
 have boxOf : ∀ j x, lk (A ++ H0) j = some x -> j ≠ k /\ lk (B ++ H0) j = some x /\ (x.pr = true \/ k ∉ x.ids) := fun j x h => by
  rcases MP h with h | ⟨h1, h2⟩
  ·obtain ⟨q1, q2, q3⟩ := hA _ h
   exact ⟨q1, YC q2, .inl q3⟩
  ·refine ⟨fun e => ?_, ?_, .inr (hH0k j x h2)⟩
   ·subst e; have := hB _ x h2; omega
   ·rw [YZ (noB j x h2 h1)]; exact h2
 refine ⟨g', r'.less (fun u d h => ?_) (fun j x h => ?_) (fun u d h j hj => ?_) (fun j x h i hi => ?_) fun j hj hs => ?_⟩
 ·simp only [St.freeze, Z7]
  rw [Qj] at h
  split at h
  ·rename_i e; cases h; subst e
   rw [ht]; simp only [Option.map_some]
   congr 1
   simp only [D.fz, D.fzS, beq_self_eq_true, if_true, hbB, hp, hn, and_self]
  ·have h1 := YS l fr u d h
   rw [h1, Option.map_some, hS d (c1 (u, d) (ZY h))]
 ·obtain ⟨q1, q2, q3⟩ := boxOf j x h
  simp only [St.freeze, HA]
  rw [if_neg q1, Z7 (Box.fz (B ++ H0) (· == k)), q2, Option.map_some]
  congr 1
  refine Xw (q3.imp id fun h3 i hi => ?_)
  simp only [beq_eq_false_iff_ne, ne_eq]; rintro rfl; exact h3 hi
 ·rw [Qj] at h
  split at h
  ·cases h; simp [D.ids, D.sid] at hj
  ·exact hfr (u, d) (ZY h) j hj
 ·rcases MP h with h | ⟨h1, h2⟩
  ·rw [Jm (hA _ h).2.2] at hi; cases hi
  ·have := hC j x h2 i hi
   rw [ZX]; split
   ·rfl
   ·exact this
 ·have hs' : (lk (B ++ H0) j).isSome = true := by
   simp only [St.freeze, HA] at hs
   rw [if_neg Wa, Z7 (Box.fz (B ++ H0) (· == k)), QgJ] at hs
   exact hs
  rw [ZX] at hs' ⊢
  cases h : lk B j with
  | some x =>
   have := hBA (j, x) (ZY h) hj
   obtain ⟨y, hy⟩ := Qgx.1 this
   simp only at hy
   rw [hy]; rfl
  | none =>
   rw [h] at hs'
   cases h2 : lk A j with
   | some x => rfl
   | none => exact hs'
section
variable {P : Program} {r : List AOper} {K : St -> Prop} {fr : Qgp} {H : Qgo} {t : Nat}
theorem Qb6 {esz et bytes kk n : Nat} {x y : Opd} {b : Box} {ys : List (List D)} {q : D} {pr : Bool} (hx : St.ev ⟨fr, H⟩ x = some (.osl kk n)) (hy : St.ev ⟨fr, H⟩ y = some q) (hq : kk ∉ q.ids) (hs : St.src ⟨fr, H⟩ esz q ys pr) (hn : lk H t = none)
  (hb : lk H kk = some b) (hl : n = b.rows.length) (he : b.esz = esz) (het : b.et = et) (hbb : (n + ys.length) * bytes <= 140737488355328) (hc : n + ys.length <= 4611686018427387904)
  (k : run P .fixed r K ⟨(t, .osl t (n + ys.length)) :: fr, (t, ⟨b.rows ++ ys, esz, et, b.pr && pr⟩) :: (kk, Z6) :: H⟩) (hk0 : kk < 1000000 := by decide) (ht0 : t < 1000000 := by decide) : run P .fixed (⟨some t, .append esz et bytes x y, none⟩ :: r) K ⟨fr, H⟩ :=
 .inr (.inl ⟨_, _, _, _, ⟨t, kk, n, b, q, ys, pr, rfl, hx, hk0, hn, ht0, hb, hl, he, het, hy, hq, hs, hbb, hc, rfl, rfl, rfl, rfl⟩, rfl, k⟩)
end
/-! ### The same over boxes whose names are greater than N -/
def QeN (N : Nat) (H : Qgo) : Prop := ∀ k b, lk H k = some b -> N <= k
def Qak (H : Qgo) : Prop := ∀ p ∈ H, p.2.pr = true
theorem Qb0 {k : Nat} : ∀ {H : Qgo}, Qak H -> scr k H = H
 | [], _ => rfl
 | (j, b) :: H, h => by
  show (j, b.scrub k) :: scr k H = _
  have hb : b.scrub k = b := by unfold Box.scrub; rw [if_pos (h (j, b) Wf)]
  rw [hb, Qb0 fun p hp => h p (by simp [hp])]
theorem RJ {fr : Qgp} {B H0 : Qgo} (k : Nat) (h : Qak H0) : St.le ⟨fr, B ++ scr k H0⟩ ⟨fr, B ++ H0⟩ := by rw [Qb0 h]; exact le_refl _
theorem T5 {l : List Nat} {fr fr1 fr' : Qgp} {B A A' H0 : Qgo} {N : Nat} (hf : Q9 l fr = fr1) (ef : fr1 = fr') (hA : ∀ p ∈ A, lk B p.1 = some p.2) (eA : A = A') (hcA : ∀ p ∈ A', ∀ j ∈ p.2.ids, (lk (A' ++ H0) j).isSome = true) (hBA : ∀ p ∈ B, N <= p.1 -> (lk A p.1).isSome = true) (hb : QeN N H0) (hpr : Qak H0) (hfr : ∀ p ∈ fr', ∀ k ∈ p.2.ids, (lk (A' ++ H0) k).isSome = true) (hN : N <= 1000000 := by decide) : St.le ⟨fr, B ++ H0⟩ ⟨fr', A' ++ H0⟩ := by
 subst eA
 have noB : ∀ k b, lk H0 k = some b -> lk A k = none -> lk B k = none := fun k b h1 h2 => by
  cases h : lk B k with
  | none => rfl
  | some x =>
   have := hBA (k, x) (ZY h) (hb k b h1)
   simp only at this
   rw [h2] at this; cases this
 refine QbR hf ef (fun k b hk => ?_) hfr (fun k b hk j hj => ?_) fun k hk hs => ?_
 ·rcases MP hk with h | ⟨h1, h2⟩
  ·exact YC (hA _ h)
  ·rw [YZ (noB k b h2 h1)]; exact h2
 ·rcases MP hk with h | ⟨h1, h2⟩
  ·exact hcA _ h j hj
  ·rw [Jm (hpr _ (ZY h2))] at hj; cases hj
 ·rw [ZX] at hs ⊢
  cases h : lk B k with
  | some x =>
   have := hBA (k, x) (ZY h) (QgK hN hk)
   obtain ⟨y, hy⟩ := Qgx.1 this
   simp only at hy
   rw [hy]; rfl
  | none =>
   rw [h] at hs
   cases h2 : lk A k with
   | some x => rfl
   | none => exact hs
/-! ### Cells told az plain slices -/
theorem canS_cell {d : D} : d.canS.isCell = d.isCell := by cases d <;> rfl
theorem HU {d : D} : d.canS.sid = d.sid := by cases d <;> rfl
theorem RepS.canS {g : Gh} {d : D} {v : Value} (h : RepS g d v) : RepS g d.canS v := by
 cases d <;> simp only [D.canS] <;> try exact h
 simp only [RepS, RepP] at h ⊢
 obtain ⟨a0, q1, q2⟩ := h
 exact ⟨a0, _, q1, Nat.le_refl _, q2⟩
theorem CellsC.canS {g : Gh} {c : Array Value} : ∀ {off : Nat} {ds : List D}, CellsC g c off ds -> CellsC g c off (ds.map D.canS)
 | _, [], _ => by simp only [List.map_nil, CellsC]
 | off, d :: ds, h => by
  simp only [CellsC, List.map_cons] at h ⊢
  obtain ⟨⟨h1, x, h2, h3⟩, h4⟩ := h
  exact ⟨⟨canS_cell.trans h1, x, h2, h3.canS⟩, h4.canS⟩
theorem RowsC.canAt {g : Gh} {c : Array Value} : ∀ {off : Nat} {rs : List (List D)} (i : Nat), RowsC g c off rs -> RowsC g c off (rs.modify i fun r => r.map D.canS)
 | _, [], i, h => by cases i <;> exact h
 | off, r :: rs, 0, h => by
  simp only [RowsC, List.modify_zero_cons] at h ⊢
  exact ⟨h.1.canS, by rw [List.length_map]; exact h.2⟩
 | off, r :: rs, i + 1, h => by
  simp only [RowsC, List.modify_succ_cons] at h ⊢
  exact ⟨h.1, RowsC.canAt i h.2⟩
theorem Kw {α : Type} {f : α -> α} : ∀ {l : List α} {i : Nat} {x : α}, x ∈ l.modify i f -> x ∈ l \/ ∃ y ∈ l, x = f y
 | [], i, x, h => by cases i <;> exact absurd h Wf
 | a :: l, 0, x, h => by
  simp only [List.modify_zero_cons, Qgt] at h
  rcases h with rfl | h
  ·exact .inr ⟨a, by simp, rfl⟩
  ·exact .inl (by simp [h])
 | a :: l, i + 1, x, h => by
  simp only [List.modify_succ_cons, Qgt] at h
  rcases h with rfl | h
  ·exact .inl Wf
  ·rcases Kw h with h | ⟨y, hy, e⟩
   ·exact .inl (by simp [h])
   ·exact .inr ⟨y, by simp [hy], e⟩
theorem NW {fr : Qgp} {H : Qgo} {k : Nat} {b : Box} (i : Nat) (hb : lk H k = some b) : St.le ⟨fr, H⟩ ⟨fr, (k, { b with rows := b.rows.modify i fun r => r.map D.canS }) :: H⟩ := fun E g a w r => by
 have hsid : ∀ (r : List D), (r.map D.canS).flatMap D.sid = r.flatMap D.sid := fun r => by
  induction r with
  | nil => rfl
  | cons d r ih => rw [List.map_cons, List.flatMap_cons, List.flatMap_cons, HU, ih]
 have hids : ∀ j, j ∈ Box.ids { b with rows := b.rows.modify i fun r => r.map D.canS } -> j ∈ b.ids := fun j hj => by
  unfold Box.ids at hj ⊢
  simp only at hj
  split at hj
  ·cases hj
  ·rename_i hp
   rw [if_neg hp]
   obtain ⟨row, hrow, hk⟩ := Qgy.1 hj
   rcases Kw hrow with h | ⟨y, hy, rfl⟩
   ·exact Qgy.2 ⟨row, h, hk⟩
   ·rw [hsid] at hk; exact Qgy.2 ⟨y, hy, hk⟩
 have hsome : ∀ j, (lk ((k, ({ b with rows := b.rows.modify i fun r => r.map D.canS } : Box)) :: H) j).isSome = (lk H j).isSome := fun j => by
  rw [Qj]; split
  ·rename_i e; subst e; rw [hb]; rfl
  ·rfl
 have hget : ∀ j b', lk ((k, ({ b with rows := b.rows.modify i fun r => r.map D.canS } : Box)) :: H) j = some b' -> (j = k /\ b' = { b with rows := b.rows.modify i fun r => r.map D.canS }) \/ (j ≠ k /\ lk H j = some b') := fun j b' h => by
  rw [Qj] at h
  split at h
  ·rename_i e; cases h; exact .inl ⟨e.symm, rfl⟩
  ·rename_i e; exact .inr ⟨Ne.symm e, h⟩
 refine ⟨g, r.nt, r.df, r.fr, fun t d h j hj => (hsome j).trans (r.wfF t d h j hj), fun j b' h i' hi => ?_, fun j b' h => ?_, fun j j' b1 b2 B e e' h1 h2 h3 h4 => ?_, r.kr, r.ext, r.kx, fun j hj => let ⟨h1, h2, h3, h4⟩ := r.kp j hj; ⟨h1, h2, h3, (hsome j).trans h4⟩⟩
 ·rcases hget j b' h with ⟨rfl, rfl⟩ | ⟨_, h⟩
  ·rw [hsome]; exact r.wfH _ b hb i' (hids i' hi)
  ·rw [hsome]; exact r.wfH j b' h i' hi
 ·rcases hget j b' h with ⟨rfl, rfl⟩ | ⟨_, h⟩
  ·obtain ⟨h1, h2, h3⟩ := r.bx _ b hb
   by_cases hr : b.rows = []
   ·have e : ({ b with rows := b.rows.modify i fun r => r.map D.canS } : Box) = b := by
     obtain ⟨rows, e1, e2, e3⟩ := b
     simp only at hr
     subst hr
     cases i <;> rfl
    rw [e]; exact ⟨h1, h2, h3⟩
   ·refine ⟨fun row hrow => ?_, fun hp row hrow d hd => ?_, .inr ?_⟩
    ·rcases Kw hrow with h | ⟨y, hy, rfl⟩
     ·exact h1 row h
     ·rw [List.length_map]; exact h1 y hy
    ·rcases Kw hrow with h | ⟨y, hy, rfl⟩
     ·exact h2 hp row h d hd
     ·obtain ⟨d0, hd0, rfl⟩ := QgF.1 hd
      rw [HU]; exact h2 hp y hy d0 hd0
    ·obtain ⟨_, B, c, q1, q2, q3, q4, q5⟩ := h3.resolve_left fun h => hr h.1
     refine ⟨.inl fun e => hr ?_, B, c, q1, q2, q3, q4.canAt i, q5⟩
     have := congrArg List.length e
     simp only [List.length_modify, List.length_nil] at this
     exact List.eq_nil_of_length_eq_zero this
  ·exact r.bx j b' h
 ·have : ∀ j b', lk ((k, ({ b with rows := b.rows.modify i fun r => r.map D.canS } : Box)) :: H) j = some b' -> ∃ b'', lk H j = some b'' := fun j b' h => by
   rcases hget j b' h with ⟨rfl, _⟩ | ⟨_, h⟩
   ·exact ⟨b, hb⟩
   ·exact ⟨b', h⟩
  obtain ⟨c1, q1⟩ := this j b1 h1
  obtain ⟨c2, q2⟩ := this j' b2 h2
  exact r.inj j j' c1 c2 B e e' q1 q2 h3 h4
theorem Bf {fr fr' : Qgp} {H H' : Qgo} (k : Nat) (hk : k < 1000000) (hF : ∀ t d, lk fr' t = some d -> ∃ d0, lk fr t = some d0 /\ d0.fz H (· == k) = d) (hH : ∀ j b, lk H' j = some b -> j ≠ k /\ ∃ b0, lk H j = some b0 /\ b0.fz H (· == k) = b)
  (wfF : ∀ t d, lk fr' t = some d -> ∀ j ∈ d.ids, (lk H' j).isSome = true) (wfH : Closed H') (hbig : ∀ j, 1000000 <= j -> (lk H j).isSome = true -> (lk H' j).isSome = true) : St.le ⟨fr, H⟩ ⟨fr', H'⟩ := by
 intro E g a w r
 obtain ⟨g', _, r'⟩ := r.freeze k hk
 refine ⟨g', r'.less (fun u d h => ?_) (fun j x h => ?_) wfF wfH fun j hj hs => hbig j hj ?_⟩
 ·obtain ⟨d0, q1, q2⟩ := hF u d h
  simp only [St.freeze, Z7, q1, Option.map_some, q2]
 ·obtain ⟨q1, b0, q2, q3⟩ := hH j x h
  simp only [St.freeze, HA]
  rw [if_neg q1, Z7 (Box.fz H (· == k)), q2, Option.map_some, q3]
 ·simp only [St.freeze, HA] at hs
  rw [if_neg Wa, Z7 (Box.fz H (· == k)), QgJ] at hs
  exact hs
theorem QcB {fr fr' : Qgp} {H H' : Qgo} (S : Nat -> Bool) (hS : ∀ k, S k = true -> k < 1000000) (hF : ∀ t d, lk fr' t = some d -> ∃ d0, lk fr t = some d0 /\ d0.fz H S = d) (hH : ∀ j b, lk H' j = some b -> S j = false /\ ∃ b0, lk H j = some b0 /\ b0.fz H S = b)
  (wfF : ∀ t d, lk fr' t = some d -> ∀ j ∈ d.ids, (lk H' j).isSome = true) (wfH : Closed H') (hbig : ∀ j, 1000000 <= j -> (lk H j).isSome = true -> (lk H' j).isSome = true) : St.le ⟨fr, H⟩ ⟨fr', H'⟩ := by
 intro E g a w r
 obtain ⟨g', _, r'⟩ := r.freezeS S hS
 refine ⟨g', r'.less (fun u d h => ?_) (fun j x h => ?_) wfF wfH fun j hj hs => hbig j hj ?_⟩
 ·obtain ⟨d0, q1, q2⟩ := hF u d h
  simp only [St.freezeS, Z7, q1, Option.map_some, q2]
 ·obtain ⟨q1, b0, q2, q3⟩ := hH j x h
  simp only [St.freezeS, MQ]
  rw [if_neg (by rw [q1]; simp), Z7 (Box.fz H S), q2, Option.map_some, q3]
 ·simp only [St.freezeS, MQ] at hs
  split at hs
  ·cases hs
  ·rw [Z7 (Box.fz H S), QgJ] at hs
   exact hs
theorem Zl (n : Nat) (p : List Nat) : Hv n p [] = true := by simp [Hv]
theorem Zm {n k : Nat} {R : List (Nat × List Nat)} : Hv n [k] R = R.all fun e => e.1 != k || e.2.contains n := by simp [Hv]
theorem Zn {n k j : Nat} {R : List (Nat × List Nat)} : Hv n [k, j] R = ((R.all fun e => e.1 != k || e.2.contains n) && R.all fun e => e.1 != j || e.2.contains n) := by simp [Hv]
theorem ZB {P ds : List Nat} {n k : Nat} (h : ds.contains n = true) : ((P.map fun x => (x, ds)).all fun e => e.1 != k || e.2.contains n) = true := by
 rw [QgB]
 intro e he
 obtain ⟨x, _, rfl⟩ := QgF.1 he
 rw [h, Bool.or_true]
theorem QcC {fr : Qgp} {H : Qgo} (t : Nat) (ht : lk fr t = some (.fsl [])) : St.le ⟨fr, H⟩ ⟨(t, .sl []) :: fr, H⟩ := by
 intro E g a w r
 refine ⟨g, { r with fr := fun u d h => ?_, wfF := fun u d h j hj => ?_ }⟩
 ·rw [Qj] at h
  split at h
  ·rename_i e; cases h; subst e
   have h1 := r.fr t (.fsl []) ht
   simp only [Rep, RepS, RepP] at h1 ⊢
   obtain ⟨a0, h2, _⟩ := h1
   exact ⟨a0, 0, h2, Nat.le_refl _, .inl trivial⟩
  ·exact r.fr u d h
 ·rw [Qj] at h
  split at h
  ·cases h; simp [D.ids, D.sid] at hj
  ·exact r.wfF u d h j hj
end Go.Abs
namespace Go.Abs
open Go
theorem QdF {fr fr1 : Qgp} {H H1 : Qgo} {l lH : List Nat} (kA kR : Nat) (pr' : Bool) {bA bR : Box} {rows' : List (List D)} (hf : Q9 l fr = fr1) (hH : Ks lH H = H1) (hA : lk H kA = some bA) (hR : lk H kR = some bR) (hpA : bA.pr = false) (hp : bR.pr = true)
  (hfz : (bA.rows.map fun r => r.map (D.fzS H (· == kR))) = rows') (hpr : pr' = true -> rows' ≠ [] /\ ∀ r ∈ rows', ∀ d ∈ r, d.sid = []) (hne : kA ≠ kR) (c1 : (fr1.all fun p => !p.2.ids.contains kR) = true) (c2 : (H1.all fun p => p.1 != kR && (p.2.pr || !p.2.ids.contains kR)) = true)
  (hw : wfB ((kA, ⟨rows', bA.esz, bA.et, pr'⟩) :: H1) fr1 = true) (hbk : Qcj H ((kA, ⟨rows', bA.esz, bA.et, pr'⟩) :: H1) = true) (hk : kR < 1000000 := by decide) : St.le ⟨fr, H⟩ ⟨fr1, (kA, ⟨rows', bA.esz, bA.et, pr'⟩) :: H1⟩ := by
 subst hf hH
 simp only [wfB, Qgv, QgB] at hw
 simp only [QgB, Bool.not_eq_true', List.contains_eq_mem, decide_eq_false_iff_not] at c1
 simp only [QgB, Qgv, Bool.or_eq_true, Bool.not_eq_true', List.contains_eq_mem, decide_eq_false_iff_not, bne_iff_ne, ne_eq] at c2
 have hsome : ∀ j, (lk ((kA, (⟨rows', bA.esz, bA.et, false⟩ : Box)) :: Ks lH H) j).isSome = (lk ((kA, (⟨rows', bA.esz, bA.et, pr'⟩ : Box)) :: Ks lH H) j).isSome := fun j => by
  rw [Qj, Qj]; split <;> rfl
 have hids : ∀ j, j ∈ Box.ids ⟨rows', bA.esz, bA.et, false⟩ -> (lk ((kA, (⟨rows', bA.esz, bA.et, pr'⟩ : Box)) :: Ks lH H) j).isSome = true := fun j hj => by
  cases hc : pr'
  ·rw [hc] at hw; exact hw.2 (kA, ⟨rows', bA.esz, bA.et, false⟩) Wf j hj
  ·exfalso
   unfold Box.ids at hj
   simp only [Qgz, if_false] at hj
   obtain ⟨r, hr, hj⟩ := Qgy.1 hj
   obtain ⟨d, hd, hj⟩ := Qgy.1 hj
   rw [(hpr hc).2 r hr d hd] at hj; cases hj
 have h1 : St.le ⟨fr, H⟩ ⟨Q9 l fr, (kA, ⟨rows', bA.esz, bA.et, false⟩) :: Ks lH H⟩ := by
  refine Bf kR hk (fun t d h => ⟨d, YS l fr t d h, PM fun j hj => ?_⟩) (fun j b h => ?_) (fun t d h j hj => ?_) (fun j b h i hi => ?_) fun j hj hs => ?_
  ·simp only [beq_eq_false_iff_ne, ne_eq]; rintro rfl; exact c1 (t, d) (ZY h) hj
  ·rw [Qj] at h
   split at h
   ·rename_i e; cases h; subst e
    refine ⟨hne, bA, hA, ?_⟩
    unfold Box.fz; rw [if_neg (by rw [hpA]; simp)]
    rw [hfz, hpA]
   ·have := c2 (j, b) (ZY h)
    refine ⟨this.1, b, HZ lH H j b h, Xw (this.2.imp id fun h3 i hi => ?_)⟩
    simp only [beq_eq_false_iff_ne, ne_eq]; rintro rfl; exact h3 hi
  ·rw [hsome]; exact hw.1 (t, d) (ZY h) j hj
  ·rw [hsome]
   rw [Qj] at h
   split at h
   ·cases h; exact hids i hi
   ·exact hw.2 (j, b) (List.mem_cons_of_mem _ (ZY h)) i hi
  ·rw [hsome]; exact Mn hbk j hj hs
 cases hc : pr'
 ·exact h1
 ·refine le_trans h1 (le_trans (MI (k := kA) (by rw [Qj, if_pos rfl]) (hpr hc).1 (hpr hc).2) (RI ⟨fun _ => rfl, fun j => ?_⟩))
  show lk ((kA, _) :: (kA, _) :: Ks lH H) j = lk ((kA, _) :: Ks lH H) j
  rw [Qj, Qj, Qj]
  split <;> rfl
end Go.Abs
namespace Go.Abs
open Go
theorem Z.{u} {α : Sort u} {a : α} : a = a := rfl
theorem qB : (∀ (p : Prop) [Decidable p], (decide p = true) = p) /\ (∀ (p : Prop) [Decidable p], (decide p = false) ↔ ¬ p) /\ (∀ a b : Bool, ((!a) = b) = (a = !b)) /\ (!true) = false /\ (!false) = true := ⟨fun _ _ => decide_eq_true_eq, fun _ _ => decide_eq_false_iff_not, fun a b => by simp, rfl, rfl⟩
theorem qA : (∀ (p : Prop) [Decidable p], (decide p = true) = p) /\ (∀ (p : Prop) [Decidable p], (decide p = false) ↔ ¬ p) /\ (∀ a b : Bool, ((!a) = b) = (a = !b)) /\ (!true) = false /\ (!false) = true /\ (∀ (α β : Type) (f : α -> β) (l : List α), (l.map f).length = l.length) := ⟨qB.1, qB.2.1, qB.2.2.1, rfl, rfl, fun _ _ _ _ => List.length_map _⟩
theorem qa {p : Prop} [Decidable p] : (decide p = true) = p := decide_eq_true_eq
theorem qb {p : Prop} [Decidable p] : (decide p = false) ↔ ¬ p := decide_eq_false_iff_not
theorem qc {a b : Bool} : ((!a) = b) = (a = !b) := by simp
theorem qd : (!true) = false := rfl
theorem qe : (!false) = true := rfl
section
variable {fr : Qgp} {t0 t1 t2 t3 t4 t5 t6 t7 t8 t9 t10 t11 t12 t13 t14 t15 t16 t17 t18 t19 t20 t21 t22 t23 : Nat} {d0 d1 d2 d3 d4 d5 d6 d7 d8 d9 d10 d11 d12 d13 d14 d15 d16 d17 d18 d19 d20 d21 d22 d23 : D}
abbrev kE (fr : Qgp) (t : Nat) (d : D) : Prop := lk fr t = some d
theorem kp1 (h0 : kE fr t0 d0) : Q9 [t0] fr = [(t0, d0)] := Yr h0 ZC
theorem kp2 (h0 : kE fr t0 d0) (h1 : kE fr t1 d1) : Q9 [t0, t1] fr = [(t0, d0), (t1, d1)] := Yr h0 (kp1 h1)
theorem kp3 (h0 : kE fr t0 d0) (h1 : kE fr t1 d1) (h2 : kE fr t2 d2) : Q9 [t0, t1, t2] fr = [(t0, d0), (t1, d1), (t2, d2)] := Yr h0 (kp2 h1 h2)
theorem kp4 (h0 : kE fr t0 d0) (h1 : kE fr t1 d1) (h2 : kE fr t2 d2) (h3 : kE fr t3 d3) : Q9 [t0, t1, t2, t3] fr = [(t0, d0), (t1, d1), (t2, d2), (t3, d3)] := Yr h0 (kp3 h1 h2 h3)
theorem kp5 (h0 : kE fr t0 d0) (h1 : kE fr t1 d1) (h2 : kE fr t2 d2) (h3 : kE fr t3 d3) (h4 : kE fr t4 d4) : Q9 [t0, t1, t2, t3, t4] fr = [(t0, d0), (t1, d1), (t2, d2), (t3, d3), (t4, d4)] := Yr h0 (kp4 h1 h2 h3 h4)
theorem kp6 (h0 : kE fr t0 d0) (h1 : kE fr t1 d1) (h2 : kE fr t2 d2) (h3 : kE fr t3 d3) (h4 : kE fr t4 d4) (h5 : kE fr t5 d5) : Q9 [t0, t1, t2, t3, t4, t5] fr = [(t0, d0), (t1, d1), (t2, d2), (t3, d3), (t4, d4), (t5, d5)] := Yr h0 (kp5 h1 h2 h3 h4 h5)
theorem kp7 (h0 : kE fr t0 d0) (h1 : kE fr t1 d1) (h2 : kE fr t2 d2) (h3 : kE fr t3 d3) (h4 : kE fr t4 d4) (h5 : kE fr t5 d5) (h6 : kE fr t6 d6) : Q9 [t0, t1, t2, t3, t4, t5, t6] fr = [(t0, d0), (t1, d1), (t2, d2), (t3, d3), (t4, d4), (t5, d5), (t6, d6)] := Yr h0 (kp6 h1 h2 h3 h4 h5 h6)
theorem kp8 (h0 : kE fr t0 d0) (h1 : kE fr t1 d1) (h2 : kE fr t2 d2) (h3 : kE fr t3 d3) (h4 : kE fr t4 d4) (h5 : kE fr t5 d5) (h6 : kE fr t6 d6) (h7 : kE fr t7 d7) : Q9 [t0, t1, t2, t3, t4, t5, t6, t7] fr = [(t0, d0), (t1, d1), (t2, d2), (t3, d3), (t4, d4), (t5, d5), (t6, d6), (t7, d7)] := Yr h0 (kp7 h1 h2 h3 h4 h5 h6 h7)
theorem kp9 (h0 : kE fr t0 d0) (h1 : kE fr t1 d1) (h2 : kE fr t2 d2) (h3 : kE fr t3 d3) (h4 : kE fr t4 d4) (h5 : kE fr t5 d5) (h6 : kE fr t6 d6) (h7 : kE fr t7 d7) (h8 : kE fr t8 d8) : Q9 [t0, t1, t2, t3, t4, t5, t6, t7, t8] fr = [(t0, d0), (t1, d1), (t2, d2), (t3, d3), (t4, d4), (t5, d5), (t6, d6), (t7, d7), (t8, d8)] := Yr h0 (kp8 h1 h2 h3 h4 h5 h6 h7 h8)
theorem TC (h0 : kE fr t0 d0) (h1 : kE fr t1 d1) (h2 : kE fr t2 d2) (h3 : kE fr t3 d3) (h4 : kE fr t4 d4) (h5 : kE fr t5 d5) (h6 : kE fr t6 d6) (h7 : kE fr t7 d7) (h8 : kE fr t8 d8) (h9 : kE fr t9 d9) : Q9 [t0, t1, t2, t3, t4, t5, t6, t7, t8, t9] fr = [(t0, d0), (t1, d1), (t2, d2), (t3, d3), (t4, d4), (t5, d5), (t6, d6), (t7, d7), (t8, d8), (t9, d9)] := Yr h0 (kp9 h1 h2 h3 h4 h5 h6 h7 h8 h9)
theorem QeO (h0 : kE fr t0 d0) (h1 : kE fr t1 d1) (h2 : kE fr t2 d2) (h3 : kE fr t3 d3) (h4 : kE fr t4 d4) (h5 : kE fr t5 d5) (h6 : kE fr t6 d6) (h7 : kE fr t7 d7) (h8 : kE fr t8 d8) (h9 : kE fr t9 d9) (h10 : kE fr t10 d10) : Q9 [t0, t1, t2, t3, t4, t5, t6, t7, t8, t9, t10] fr = [(t0, d0), (t1, d1), (t2, d2), (t3, d3), (t4, d4), (t5, d5), (t6, d6), (t7, d7), (t8, d8), (t9, d9), (t10, d10)] := Yr h0 (TC h1 h2 h3 h4 h5 h6 h7 h8 h9 h10)
theorem QbQ (h0 : kE fr t0 d0) (h1 : kE fr t1 d1) (h2 : kE fr t2 d2) (h3 : kE fr t3 d3) (h4 : kE fr t4 d4) (h5 : kE fr t5 d5) (h6 : kE fr t6 d6) (h7 : kE fr t7 d7) (h8 : kE fr t8 d8) (h9 : kE fr t9 d9) (h10 : kE fr t10 d10) (h11 : kE fr t11 d11) : Q9 [t0, t1, t2, t3, t4, t5, t6, t7, t8, t9, t10, t11] fr = [(t0, d0), (t1, d1), (t2, d2), (t3, d3), (t4, d4), (t5, d5), (t6, d6), (t7, d7), (t8, d8), (t9, d9), (t10, d10), (t11, d11)] := Yr h0 (QeO h1 h2 h3 h4 h5 h6 h7 h8 h9 h10 h11)
theorem Qeo (h0 : kE fr t0 d0) (h1 : kE fr t1 d1) (h2 : kE fr t2 d2) (h3 : kE fr t3 d3) (h4 : kE fr t4 d4) (h5 : kE fr t5 d5) (h6 : kE fr t6 d6) (h7 : kE fr t7 d7) (h8 : kE fr t8 d8) (h9 : kE fr t9 d9) (h10 : kE fr t10 d10) (h11 : kE fr t11 d11) (h12 : kE fr t12 d12) : Q9 [t0, t1, t2, t3, t4, t5, t6, t7, t8, t9, t10, t11, t12] fr = [(t0, d0), (t1, d1), (t2, d2), (t3, d3), (t4, d4), (t5, d5), (t6, d6), (t7, d7), (t8, d8), (t9, d9), (t10, d10), (t11, d11), (t12, d12)] := Yr h0 (QbQ h1 h2 h3 h4 h5 h6 h7 h8 h9 h10 h11 h12)
end
section
variable {P : Program} {nt : Nat} {Q : Yz -> St -> Prop} {l : List Nat} {b : TCode} {K : St -> Prop} {H : Qgo} {fr fr' : Qgp} {r : List AOper} {dr : Dr} {x y z v : Opd} {p q : D} {t u : Nat}
variable {t0 t1 t2 t3 t4 t5 t6 t7 t8 : Nat} {d0 d1 d2 d3 d4 d5 d6 d7 d8 : D}
theorem kc (hK : ∀ fr H, TW P nt b Q ⟨Q9 l fr, H⟩ -> K ⟨fr, H⟩) (h : Q9 l fr = fr') (k : TW P nt b Q ⟨fr', H⟩) : K ⟨fr, H⟩ := hK _ _ (Rh h k)
theorem kc1 (hK : ∀ fr H, TW P nt b Q ⟨Q9 [t0] fr, H⟩ -> K ⟨fr, H⟩) (h0 : kE fr t0 d0) (k : TW P nt b Q ⟨[(t0, d0)], H⟩) : K ⟨fr, H⟩ := kc hK (kp1 h0) k
theorem ks1 (h0 : kE fr t0 d0) (k : TW P nt b Q ⟨[(t0, d0)], H⟩) : Cf P nt [t0] b Q .normal ⟨fr, H⟩ := Zf (kp1 h0) k
theorem kc2 (hK : ∀ fr H, TW P nt b Q ⟨Q9 [t0, t1] fr, H⟩ -> K ⟨fr, H⟩) (h0 : kE fr t0 d0) (h1 : kE fr t1 d1) (k : TW P nt b Q ⟨[(t0, d0), (t1, d1)], H⟩) : K ⟨fr, H⟩ := kc hK (kp2 h0 h1) k
theorem ks2 (h0 : kE fr t0 d0) (h1 : kE fr t1 d1) (k : TW P nt b Q ⟨[(t0, d0), (t1, d1)], H⟩) : Cf P nt [t0, t1] b Q .normal ⟨fr, H⟩ := Zf (kp2 h0 h1) k
theorem kc3 (hK : ∀ fr H, TW P nt b Q ⟨Q9 [t0, t1, t2] fr, H⟩ -> K ⟨fr, H⟩) (h0 : kE fr t0 d0) (h1 : kE fr t1 d1) (h2 : kE fr t2 d2) (k : TW P nt b Q ⟨[(t0, d0), (t1, d1), (t2, d2)], H⟩) : K ⟨fr, H⟩ := kc hK (kp3 h0 h1 h2) k
theorem ks3 (h0 : kE fr t0 d0) (h1 : kE fr t1 d1) (h2 : kE fr t2 d2) (k : TW P nt b Q ⟨[(t0, d0), (t1, d1), (t2, d2)], H⟩) : Cf P nt [t0, t1, t2] b Q .normal ⟨fr, H⟩ := Zf (kp3 h0 h1 h2) k
theorem kc4 (hK : ∀ fr H, TW P nt b Q ⟨Q9 [t0, t1, t2, t3] fr, H⟩ -> K ⟨fr, H⟩) (h0 : kE fr t0 d0) (h1 : kE fr t1 d1) (h2 : kE fr t2 d2) (h3 : kE fr t3 d3) (k : TW P nt b Q ⟨[(t0, d0), (t1, d1), (t2, d2), (t3, d3)], H⟩) : K ⟨fr, H⟩ := kc hK (kp4 h0 h1 h2 h3) k
theorem ks4 (h0 : kE fr t0 d0) (h1 : kE fr t1 d1) (h2 : kE fr t2 d2) (h3 : kE fr t3 d3) (k : TW P nt b Q ⟨[(t0, d0), (t1, d1), (t2, d2), (t3, d3)], H⟩) : Cf P nt [t0, t1, t2, t3] b Q .normal ⟨fr, H⟩ := Zf (kp4 h0 h1 h2 h3) k
theorem kc5 (hK : ∀ fr H, TW P nt b Q ⟨Q9 [t0, t1, t2, t3, t4] fr, H⟩ -> K ⟨fr, H⟩) (h0 : kE fr t0 d0) (h1 : kE fr t1 d1) (h2 : kE fr t2 d2) (h3 : kE fr t3 d3) (h4 : kE fr t4 d4) (k : TW P nt b Q ⟨[(t0, d0), (t1, d1), (t2, d2), (t3, d3), (t4, d4)], H⟩) : K ⟨fr, H⟩ := kc hK (kp5 h0 h1 h2 h3 h4) k
theorem ks5 (h0 : kE fr t0 d0) (h1 : kE fr t1 d1) (h2 : kE fr t2 d2) (h3 : kE fr t3 d3) (h4 : kE fr t4 d4) (k : TW P nt b Q ⟨[(t0, d0), (t1, d1), (t2, d2), (t3, d3), (t4, d4)], H⟩) : Cf P nt [t0, t1, t2, t3, t4] b Q .normal ⟨fr, H⟩ := Zf (kp5 h0 h1 h2 h3 h4) k
theorem kc6 (hK : ∀ fr H, TW P nt b Q ⟨Q9 [t0, t1, t2, t3, t4, t5] fr, H⟩ -> K ⟨fr, H⟩) (h0 : kE fr t0 d0) (h1 : kE fr t1 d1) (h2 : kE fr t2 d2) (h3 : kE fr t3 d3) (h4 : kE fr t4 d4) (h5 : kE fr t5 d5) (k : TW P nt b Q ⟨[(t0, d0), (t1, d1), (t2, d2), (t3, d3), (t4, d4), (t5, d5)], H⟩) : K ⟨fr, H⟩ := kc hK (kp6 h0 h1 h2 h3 h4 h5) k
theorem ks6 (h0 : kE fr t0 d0) (h1 : kE fr t1 d1) (h2 : kE fr t2 d2) (h3 : kE fr t3 d3) (h4 : kE fr t4 d4) (h5 : kE fr t5 d5) (k : TW P nt b Q ⟨[(t0, d0), (t1, d1), (t2, d2), (t3, d3), (t4, d4), (t5, d5)], H⟩) : Cf P nt [t0, t1, t2, t3, t4, t5] b Q .normal ⟨fr, H⟩ := Zf (kp6 h0 h1 h2 h3 h4 h5) k
theorem kc7 (hK : ∀ fr H, TW P nt b Q ⟨Q9 [t0, t1, t2, t3, t4, t5, t6] fr, H⟩ -> K ⟨fr, H⟩) (h0 : kE fr t0 d0) (h1 : kE fr t1 d1) (h2 : kE fr t2 d2) (h3 : kE fr t3 d3) (h4 : kE fr t4 d4) (h5 : kE fr t5 d5) (h6 : kE fr t6 d6) (k : TW P nt b Q ⟨[(t0, d0), (t1, d1), (t2, d2), (t3, d3), (t4, d4), (t5, d5), (t6, d6)], H⟩) : K ⟨fr, H⟩ := kc hK (kp7 h0 h1 h2 h3 h4 h5 h6) k
theorem ks7 (h0 : kE fr t0 d0) (h1 : kE fr t1 d1) (h2 : kE fr t2 d2) (h3 : kE fr t3 d3) (h4 : kE fr t4 d4) (h5 : kE fr t5 d5) (h6 : kE fr t6 d6) (k : TW P nt b Q ⟨[(t0, d0), (t1, d1), (t2, d2), (t3, d3), (t4, d4), (t5, d5), (t6, d6)], H⟩) : Cf P nt [t0, t1, t2, t3, t4, t5, t6] b Q .normal ⟨fr, H⟩ := Zf (kp7 h0 h1 h2 h3 h4 h5 h6) k
theorem kc8 (hK : ∀ fr H, TW P nt b Q ⟨Q9 [t0, t1, t2, t3, t4, t5, t6, t7] fr, H⟩ -> K ⟨fr, H⟩) (h0 : kE fr t0 d0) (h1 : kE fr t1 d1) (h2 : kE fr t2 d2) (h3 : kE fr t3 d3) (h4 : kE fr t4 d4) (h5 : kE fr t5 d5) (h6 : kE fr t6 d6) (h7 : kE fr t7 d7) (k : TW P nt b Q ⟨[(t0, d0), (t1, d1), (t2, d2), (t3, d3), (t4, d4), (t5, d5), (t6, d6), (t7, d7)], H⟩) : K ⟨fr, H⟩ := kc hK (kp8 h0 h1 h2 h3 h4 h5 h6 h7) k
theorem ks8 (h0 : kE fr t0 d0) (h1 : kE fr t1 d1) (h2 : kE fr t2 d2) (h3 : kE fr t3 d3) (h4 : kE fr t4 d4) (h5 : kE fr t5 d5) (h6 : kE fr t6 d6) (h7 : kE fr t7 d7) (k : TW P nt b Q ⟨[(t0, d0), (t1, d1), (t2, d2), (t3, d3), (t4, d4), (t5, d5), (t6, d6), (t7, d7)], H⟩) : Cf P nt [t0, t1, t2, t3, t4, t5, t6, t7] b Q .normal ⟨fr, H⟩ := Zf (kp8 h0 h1 h2 h3 h4 h5 h6 h7) k
theorem kc9 (hK : ∀ fr H, TW P nt b Q ⟨Q9 [t0, t1, t2, t3, t4, t5, t6, t7, t8] fr, H⟩ -> K ⟨fr, H⟩) (h0 : kE fr t0 d0) (h1 : kE fr t1 d1) (h2 : kE fr t2 d2) (h3 : kE fr t3 d3) (h4 : kE fr t4 d4) (h5 : kE fr t5 d5) (h6 : kE fr t6 d6) (h7 : kE fr t7 d7) (h8 : kE fr t8 d8) (k : TW P nt b Q ⟨[(t0, d0), (t1, d1), (t2, d2), (t3, d3), (t4, d4), (t5, d5), (t6, d6), (t7, d7), (t8, d8)], H⟩) : K ⟨fr, H⟩ := kc hK (kp9 h0 h1 h2 h3 h4 h5 h6 h7 h8) k
theorem gn2 {o0 : AOp} {g0 : Nat} {b0 : Bool} {w0 : Nat} {o1 : AOp} {g1 : Nat} {b1 : Bool} {w1 : Nat} (h0 : lk (fr) g0 = some (.bool (!b0))) (h1 : lk ((w0, .undef) :: fr) g1 = some (.bool (!b1))) (k : run P dr r K ⟨(w1, .undef) :: (w0, .undef) :: fr, H⟩) : run P dr (⟨some w0, o0, some (g0, b0)⟩ :: ⟨some w1, o1, some (g1, b1)⟩ :: r) K ⟨fr, H⟩ := (Y7 h0 (Y7 h1 k))
theorem gn3 {o0 : AOp} {g0 : Nat} {b0 : Bool} {w0 : Nat} {o1 : AOp} {g1 : Nat} {b1 : Bool} {w1 : Nat} {o2 : AOp} {g2 : Nat} {b2 : Bool} {w2 : Nat} (h0 : lk (fr) g0 = some (.bool (!b0))) (h1 : lk ((w0, .undef) :: fr) g1 = some (.bool (!b1))) (h2 : lk ((w1, .undef) :: (w0, .undef) :: fr) g2 = some (.bool (!b2))) (k : run P dr r K ⟨(w2, .undef) :: (w1, .undef) :: (w0, .undef) :: fr, H⟩) : run P dr (⟨some w0, o0, some (g0, b0)⟩ :: ⟨some w1, o1, some (g1, b1)⟩ :: ⟨some w2, o2, some (g2, b2)⟩ :: r) K ⟨fr, H⟩ := (Y7 h0 (Y7 h1 (Y7 h2 k)))
theorem gn4 {o0 : AOp} {g0 : Nat} {b0 : Bool} {w0 : Nat} {o1 : AOp} {g1 : Nat} {b1 : Bool} {w1 : Nat} {o2 : AOp} {g2 : Nat} {b2 : Bool} {w2 : Nat} {o3 : AOp} {g3 : Nat} {b3 : Bool} {w3 : Nat} (h0 : lk (fr) g0 = some (.bool (!b0))) (h1 : lk ((w0, .undef) :: fr) g1 = some (.bool (!b1))) (h2 : lk ((w1, .undef) :: (w0, .undef) :: fr) g2 = some (.bool (!b2))) (h3 : lk ((w2, .undef) :: (w1, .undef) :: (w0, .undef) :: fr) g3 = some (.bool (!b3))) (k : run P dr r K ⟨(w3, .undef) :: (w2, .undef) :: (w1, .undef) :: (w0, .undef) :: fr, H⟩) : run P dr (⟨some w0, o0, some (g0, b0)⟩ :: ⟨some w1, o1, some (g1, b1)⟩ :: ⟨some w2, o2, some (g2, b2)⟩ :: ⟨some w3, o3, some (g3, b3)⟩ :: r) K ⟨fr, H⟩ := (Y7 h0 (Y7 h1 (Y7 h2 (Y7 h3 k))))
theorem mv2 (hx : St.ev ⟨fr, H⟩ x = some p) (hy : St.ev ⟨(t, p) :: fr, H⟩ y = some q) (k : run P dr r K ⟨(u, q) :: (t, p) :: fr, H⟩) : run P dr (⟨some t, .mov x, none⟩ :: ⟨some u, .mov y, none⟩ :: r) K ⟨fr, H⟩ := Qa hx (Qa hy k)
end
end Go.Abs
namespace Go.Proofs
open Go Go.Abs
set_option maxRecDepth 100000
abbrev oo (t : Nat) (op : AOp) : AOper := ⟨some t,op,none⟩
abbrev om (t x : Nat) : AOper := ⟨some t,.mov (.s x),none⟩
abbrev oL (t n x : Nat) : AOper := ⟨some t,.load true n (.s x),none⟩
abbrev ol (t n x : Nat) : AOper := ⟨some t,.load false n (.s x),none⟩
abbrev oA (t n x : Nat) : AOper := ⟨some t,.fieldAddr n (.s x),none⟩
abbrev oe (t n x : Nat) : AOper := ⟨some t,.extract n (.s x),none⟩
abbrev oT (t g : Nat) (op : AOp) : AOper := ⟨some t,op,some (g,true)⟩
abbrev oF (t g : Nat) (op : AOp) : AOper := ⟨some t,op,some (g,false)⟩
abbrev jf : Opd := .c (.bool false)
abbrev je : Opd := .c (.fsl [])
abbrev jv (t : Nat) (x : Opd) : AOper := ⟨some t,.mov x,none⟩
abbrev jw (t : Nat) (x : Int) : AOper := ⟨some t,.mov (.c (.int .i64 x)),none⟩
abbrev jp (t x y : Nat) : AOper := ⟨some t,.pick (.s x) (.s y) (.c (.bool false)),none⟩
abbrev jh (t x : Nat) : AOper := ⟨some t,.nilCheck (.s x),none⟩
abbrev jA (t g n x : Nat) : AOper := ⟨some t,.fieldAddr n (.s x),some (g,true)⟩
abbrev ja (t g n x : Nat) : AOper := ⟨some t,.fieldAddr n (.s x),some (g,false)⟩
abbrev jY (t g : Nat) (o : BinOp) (x : Nat) (y : Int) : AOper := ⟨some t,.bin o false (.s x) (.c (.int .i64 y)),some (g,true)⟩
abbrev jy (t g : Nat) (o : BinOp) (x : Nat) (y : Int) : AOper := ⟨some t,.bin o false (.s x) (.c (.int .i64 y)),some (g,false)⟩
abbrev jS (n a b : Nat) : AOper := ⟨none,.store n (.s a) (.s b),none⟩
abbrev jI (n : Int) : Opd := .c (.int .i64 n)
abbrev jn (t x : Nat) : AOper := ⟨some t,.len (.s x),none⟩
abbrev jB (t : Nat) (o : BinOp) (x y : Nat) : AOper := ⟨some t,.bin o false (.s x) (.s y),none⟩
abbrev jb (t : Nat) (o : BinOp) (x : Nat) (y : Int) : AOper := ⟨some t,.bin o false (.s x) (.c (.int .i64 y)),none⟩
abbrev jx (t e x y : Nat) : AOper := ⟨some t,.indexAddr e (.s x) (.s y),none⟩
abbrev jc (t f : Nat) (l : List Opd) : AOper := ⟨some t,.call f l,none⟩
abbrev jo (t e x : Nat) : AOper := ⟨some t,.box e (.s x),none⟩
abbrev jT (t g x : Nat) : AOper := ⟨some t,.mov (.s x),some (g,true)⟩
abbrev jF (t g x : Nat) : AOper := ⟨some t,.mov (.s x),some (g,false)⟩
abbrev jL (t g n x : Nat) : AOper := ⟨some t,.load true n (.s x),some (g,true)⟩
abbrev jl (t g n x : Nat) : AOper := ⟨some t,.load false n (.s x),some (g,true)⟩
abbrev jM (t g n x : Nat) : AOper := ⟨some t,.load true n (.s x),some (g,false)⟩
abbrev jm (t g n x : Nat) : AOper := ⟨some t,.load false n (.s x),some (g,false)⟩
abbrev jC (c : Nat) (a b : TCode) : TCode := .cond (.s c) a b
abbrev jr (l : List AOper) : TCode := .region false l
abbrev jR (l : List AOper) : TCode := .region true l
abbrev jq (a : TCode) (v : List Nat) (b : TCode) : TCode := .seq a v b
abbrev jk (n : Nat) (a : TCode) : TCode := .block n (.loop a)
def tf3 : TFn := ⟨155,[.tmp 16],jq (jr [jo 12 24 4,jv 16 jf]) [0,1,2,3,5,6,7,12] (jq (jq (jr [om 29 1,jn 30 29,jb 31 .gtr 30 40]) [0,1,2,3,5,6,7,12,31] (jC 31 (jq (jr [jc 32 5 [],om 16 32]) [16] .ret) .skip)) [0,1,2,3,5,6,7,12] (jq (jr [om 33 0,jc 34 6 [.s 33,jI 4],oo 17 (.alloc 28 [(.fsl [])]),jS 1 17 34]) [1,2,3,5,6,7,12,17] (jq (jR [oL 36 1 17,oL 37 1 17,jc 38 8 [.s 37,je],om 39 1,jc 40 7 [.s 36,.s 38,.s 39],om 35 40,oe 41 0 35,oe 42 1 35,om 18 41,om 19 42]) [2,3,5,6,7,12,17,18] (jq (jq (jr [om 43 7]) [2,3,5,6,12,17,18,43] (jC 43 (jq (jr [om 44 2,oA 45 0 17,ol 46 1 45,jn 47 46,jc 48 9 [.s 44,.s 47],om 49 3,jc 50 9 [.s 49,jI 5],jb 51 .sub 50 1,om 52 5,jc 53 9 [.s 52,jI 9],jb 54 .sub 53 1,om 55 6,jc 56 9 [.s 55,jI 6],jb 57 .sub 56 1,om 2 48,om 3 51,om 5 54,om 6 57]) [2,3,5,6,12,17,18] (jR [oA 58 0 12,ol 59 1 58,oA 60 0 17,ol 61 1 60,jn 62 61,jc 63 9 [.s 59,.s 62],oA 64 1 12,ol 65 1 64,jc 66 9 [.s 65,jI 40],oo 67 (.build [(.int .i64 0),(.int .i64 0)] [(0,1,(.s 63)),(1,1,(.s 66))]),jS 2 12 67])) .skip)) [2,3,5,6,12,17,18] (jq (jr [om 68 18,oo 69 (.append 4 47 32 je (.s 68)),om 20 69]) [2,3,5,6,12,17,18,20] (jq (jr [oL 71 1 17,om 72 20,om 73 2,om 74 3,jc 75 10 [.s 71,.s 72,.s 73,.s 74],om 70 75,oe 76 0 70,oe 77 1 70,om 21 76,om 22 77]) [2,3,5,6,12,17,18,20,21,22] (jq (jr [oL 79 1 17,om 80 18,om 81 2,om 82 3,jc 83 11 [.s 79,.s 80,.s 81,.s 82],om 78 83,oe 84 0 78,oe 85 1 78,om 23 84,om 24 85]) [5,6,12,17,18,20,21,22,23,24] (jq (jr [oL 87 1 17,om 88 20,oL 89 2 12,om 90 5,jc 91 12 [.s 87,.s 88,.s 89,.s 90],om 86 91,oe 92 0 86,oe 93 1 86,om 25 92,om 26 93]) [5,6,12,17,18,20,21,22,23,24,25,26] (jq (jr [oL 95 1 17,om 96 18,oL 97 2 12,om 98 5,jc 99 13 [.s 95,.s 96,.s 97,.s 98],om 94 99,oe 100 0 94,oe 101 1 94,om 27 100,om 28 101]) [6,17,18,20,21,22,23,24,25,26,27,28] (jq (jq (jr [om 102 22,om 103 24,oo 104 (.bin .neq true (.s 102) (.s 103)),om 105 104,jF 106 105 21,jF 107 105 23,oF 108 105 (.call 14 [.s 106,.s 107]),oF 109 105 (.un .not (.s 108)),oo 110 (.pick (.s 105) (.c (.bool true)) (.s 109)),om 111 110,jF 112 111 26,jF 113 111 28,oF 114 111 (.bin .neq true (.s 112) (.s 113)),oo 115 (.pick (.s 111) (.c (.bool true)) (.s 114)),om 116 115,jF 117 116 25,jF 118 116 27,oF 119 116 (.call 14 [.s 117,.s 118]),oF 120 116 (.un .not (.s 119)),oo 121 (.pick (.s 116) (.c (.bool true)) (.s 120))]) [6,17,18,20,21,22,25,26,121] (jC 121 (jq (jr [jv 16 jf]) [16] .ret) .skip)) [6,17,18,20,21,22,25,26] (jq (jr [om 122 22,oo 123 (.un .not (.s 122)),om 124 123,jM 125 124 1 17,jF 126 124 21,oF 127 124 (.call 15 [.s 125,.s 126]),oo 128 (.pick (.s 124) (.c (.bool true)) (.s 127)),om 129 128,jT 130 129 26,oT 131 129 (.un .not (.s 130)),jT 132 129 131,jM 133 132 1 17,jF 134 132 25,oF 135 132 (.call 15 [.s 133,.s 134]),oT 136 129 (.pick (.s 132) (.c (.bool true)) (.s 135)),jp 137 129 136,om 138 137,jT 139 138 20,jT 140 138 6,oT 141 138 (.call 16 [.s 139,.s 140]),jT 142 138 18,jT 143 138 6,oT 144 138 (.call 17 [.s 142,.s 143]),oT 145 138 (.call 14 [.s 141,.s 144]),jp 146 138 145,om 147 146,jT 148 147 20,jT 149 147 18,oT 150 147 (.call 14 [.s 148,.s 149]),jp 151 147 150,om 152 151,oT 153 152 (.call 5 []),jp 154 152 153,om 16 154]) [16] .ret)))))))))))⟩
def tf5 : TFn := ⟨61,[.tmp 0],jq (jr [jv 0 jf]) [] (jq (jr [jc 6 19 [],oo 1 (.alloc 28 [(.fsl [])]),jS 1 1 6]) [1] (jq (jr [oL 8 1 1,oo 9 (.build [(.int .i64 0),(.int .i64 0)] [(0,1,(jI 1)),(1,1,(jI 1))]),jc 10 12 [.s 8,je,.s 9,jI 4],om 7 10,oe 11 0 7,oe 12 1 7,om 2 11,om 3 12]) [1,2,3] (jq (jr [oL 14 1 1,om 15 2,jc 16 10 [.s 14,.s 15,jI 1,jI 1],om 13 16,oe 17 0 13,oe 18 1 13,om 4 17,om 5 18]) [1,3,4,5] (jq (jr [om 19 3,om 20 19,jT 21 20 5,jp 22 20 21,om 23 22,jT 24 23 4,oT 25 23 (.len (.s 24)),jY 26 23 .eql 25 2,jp 27 23 26,om 28 27,jT 29 28 4,oT 30 28 (.indexAddr 4 (.s 29) (jI 0)),jL 31 28 4 30,oT 32 28 (.build [(.int .i64 0),(.int .i64 0),(.int .i64 0),(.int .i64 0)] [(0,1,(jI 1)),(1,1,(jI 6)),(2,1,(jI 0)),(3,1,(jI 4))]),oT 33 28 (.eqs false [0,0,0,0] (.s 31) (.s 32)),jp 34 28 33,om 35 34,jT 36 35 4,oT 37 35 (.indexAddr 4 (.s 36) (jI 1)),jL 38 35 4 37,oT 39 35 (.build [(.int .i64 0),(.int .i64 0),(.int .i64 0),(.int .i64 0)] [(0,1,(jI 1)),(1,1,(jI 4)),(2,1,(jI 1)),(3,1,(.c (.int .i64 (-1))))]),oT 40 35 (.eqs false [0,0,0,0] (.s 38) (.s 39)),jp 41 35 40,om 42 41,jL 43 42 1 1,jT 44 42 4,oT 45 42 (.call 15 [.s 43,.s 44]),jp 46 42 45,om 47 46,jL 48 47 1 1,jT 49 47 4,oT 50 47 (.call 20 [.s 48,.s 49,jI 1]),jY 51 47 .eql 50 4,jp 52 47 51,om 53 52,jL 54 53 1 1,jT 55 53 4,oT 56 53 (.build [(.int .i64 0),(.int .i64 0)] [(0,1,(jI 1)),(1,1,(jI 4))]),oT 57 53 (.buildSlice 2 24 [.s 56]),oT 58 53 (.call 21 [.s 54,.s 55,.s 57]),jY 59 53 .eql 58 2,jp 60 53 59,om 0 60]) [0] .ret))))⟩
def tf6 : TFn := ⟨90,[.cell 4 true 1],jq (jr [oo 4 (.alloc 28 [(.fsl [])])]) [0,1,4] (jq (jr [om 10 0,oo 11 (.build [(.fsl []),(.int .i64 0)] [(0,1,(.s 10))]),jo 12 53 11,om 5 12]) [1,4,5] (jq (jr [om 13 5,om 14 1,jc 15 22 [.s 13,.s 14],om 6 15]) [4,5,6] (jq (jR [om 16 6,oo 17 (.indexAddr 3 (.s 16) (jI 0)),oA 18 2 17,ol 19 1 18,om 20 5,om 21 6,jc 22 23 [.s 20,.s 21,jI 3],oo 23 (.indexAddr 8 (.s 19) (jI 0)),oA 24 6 23,jS 1 24 22]) [4,5,6] (jq (jq (jr [jw 7 1]) [4,5,6,7] (jk 0 (jq (jq (jr [om 25 7,om 26 6,jn 27 26,jB 28 .lss 25 27]) [4,5,6,7,28] (jC 28 .skip (.exit 0))) [4,5,6,7] (jq (.block 1 (jq (jr [jw 8 0]) [4,5,6,7,8] (jk 2 (jq (jq (jr [om 31 8,om 32 6,om 33 7,jx 34 3 32 33,oA 35 2 34,ol 36 1 35,jn 37 36,jB 38 .lss 31 37]) [4,5,6,7,8,38] (jC 38 .skip (.exit 2))) [4,5,6,7,8] (jq (.block 3 (jq (jr [om 41 6,om 42 7,jx 43 3 41 42,oA 44 2 43,ol 45 1 44,om 46 8,jx 47 8 45 46,om 9 47]) [4,5,6,7,8,9] (jq (jq (jr [om 48 6,om 49 7,jx 50 3 48 49,oA 51 1 50,ol 52 1 51,oo 53 (.bin .neq false (.s 52) (.c (.str [])))]) [4,5,6,7,8,9,53] (jC 53 (jr [om 54 9,om 55 7,jb 56 .sub 55 1,om 57 9,jh 58 57,oA 59 0 58,oL 60 5 59,jc 61 24 [.s 60],oo 62 (.build [(.int .i64 0),(.fsl []),(.fsl [])] [(0,1,(.s 56)),(1,2,(.s 61))]),oo 63 (.buildSlice 3 71 [.s 62]),oo 64 (.buildSlice 1 59 [.s 63]),jh 65 54,oA 66 6 65,jS 1 66 64]) .skip)) [4,5,6,7,8,9] (jq (jR [om 67 9,om 68 9,jh 69 68,oA 70 6 69,ol 71 1 70,om 72 5,om 73 6,jc 74 23 [.s 72,.s 73,jI 2],oo 75 (.append 1 59 24 (.s 71) (.s 74)),jh 76 67,oA 77 6 76,jS 1 77 75]) [4,5,6,7,8,9] (jq (jr [om 78 5,jc 79 25 [.s 78,jI 4],jb 80 .eql 79 0]) [4,5,6,7,8,9,80] (jC 80 (jr [om 81 9,om 82 5,om 83 6,jc 84 26 [.s 82,.s 83],oo 85 (.buildSlice 3 71 [.s 84]),jh 86 81,oA 87 7 86,jS 1 87 85]) .skip)))))) [4,5,6,7,8] (jr [om 39 8,jb 40 .add 39 1,om 8 40])))))) [4,5,6,7] (jr [om 29 7,jb 30 .add 29 1,om 7 30]))))) [4,6] (jq (jr [om 88 6,oo 89 (.build [(.fsl [])] [(0,1,(.s 88))]),jS 1 4 89]) [4] .ret)))))⟩
def tf7 : TFn := ⟨87,[.tmp 6,.tmp 7],jq (jr [jo 3 28 0,jv 6 je,jw 7 0]) [1,2,3] (jq (jr [jv 8 je]) [1,2,3,8] (jq (jq (jr [jw 9 0]) [1,2,3,8,9] (jk 0 (jq (jq (jr [om 17 9,om 18 2,jn 19 18,jB 20 .leq 17 19,om 21 20,jT 22 21 9,jY 23 21 .lss 22 12,jp 24 21 23]) [1,2,3,8,9,24] (jC 24 .skip (.exit 0))) [1,2,3,8,9] (jq (.block 1 (jq (jr [oL 28 1 3,om 29 1,om 30 8,jc 31 27 [.s 28,.s 29,.s 30],om 27 31,oe 32 0 27,oe 33 1 27,om 10 32,om 11 33]) [1,2,3,9,10,11] (jq (jr [om 34 10,om 8 34]) [1,2,3,8,9,11] (jq (jq (jr [om 35 11,jb 36 .geq 35 0,om 37 36,jF 38 37 9,jF 39 37 2,oF 40 37 (.len (.s 39)),oF 41 37 (.bin .eql false (.s 38) (.s 40)),oo 42 (.pick (.s 37) (.c (.bool true)) (.s 41))]) [1,2,3,8,9,11,42] (jC 42 (jq (jr [om 43 8,om 44 11,om 6 43,om 7 44]) [6,7] .ret) .skip)) [1,2,3,8,9] (jq (jR [om 45 2,om 46 9,jx 47 1 45 46,ol 48 1 47,oA 49 0 3,ol 50 1 49,jn 51 50,jc 52 9 [.s 48,.s 51],om 12 52]) [1,2,3,8,9,12] (jq (jr [oL 53 1 3,om 54 8,om 55 12,jc 56 29 [.s 53,.s 54,.s 55],jc 57 28 [.s 56],om 13 57]) [1,2,3,8,9,12,13] (jq (jr [jw 14 0]) [1,2,3,8,9,12,13,14] (jk 2 (jq (jq (jr [om 58 14,om 59 13,jn 60 59,jB 61 .lss 58 60]) [1,2,3,8,9,12,13,14,61] (jC 61 .skip (.exit 2))) [1,2,3,8,9,12,13,14] (jq (.block 3 (jq (jR [oL 65 1 3,om 66 8,om 67 12,om 68 13,om 69 14,om 70 2,om 71 9,jx 72 1 70 71,ol 73 1 72,jc 74 9 [.s 73,jI 7],jB 75 .add 69 74,om 76 13,jn 77 76,jB 78 .rem 75 77,jx 79 1 68 78,ol 80 1 79,jc 81 11 [.s 65,.s 66,.s 67,.s 80],om 64 81,oe 82 0 64,oe 83 1 64,om 15 82,om 16 83]) [1,2,3,8,9,12,13,14,15,16] (jq (jr [om 84 16]) [1,2,3,8,9,12,13,14,15,84] (jC 84 (jq (jr [om 85 15,om 8 85]) [1,2,3,8,9] (.exit 2)) .skip)))) [1,2,3,8,9,12,13,14] (jr [om 62 14,jb 63 .add 62 1,om 14 63]))))))))))) [1,2,3,8,9] (jr [om 25 9,jb 26 .add 25 1,om 9 26]))))) [8] (jq (jr [om 86 8,om 6 86,oo 7 (.mov (.c (.int .i64 (-1))))]) [6,7] .ret)))⟩
def tf8 : TFn := ⟨66,[.tmp 4],jq (jr [jo 2 28 0,jv 4 je]) [1,2] (jq (jr [oL 11 1 2,jc 12 30 [.s 11],om 5 12]) [1,2,5] (jq (jr [jv 6 je]) [1,2,5,6] (jq (jq (jr [jw 7 0]) [1,2,5,6,7] (jk 0 (jq (jq (jr [om 13 7,om 14 5,jn 15 14,jB 16 .lss 13 15]) [1,2,5,6,7,16] (jC 16 .skip (.exit 0))) [1,2,5,6,7] (jq (.block 1 (jr [om 19 6,om 20 5,om 21 7,jx 22 5 20 21,oA 23 4 22,ol 24 1 23,oo 25 (.buildSlice 1 50 [.s 24]),oo 26 (.append 1 50 24 (.s 19) (.s 25)),om 6 26])) [1,2,5,6,7] (jr [om 17 7,jb 18 .add 17 1,om 7 18]))))) [1,2,6] (jq (jq (jr [jw 8 0]) [1,2,6,8] (jk 2 (jq (jq (jr [om 27 8,om 28 1,jn 29 28,jB 30 .lss 27 29,om 31 30,jT 32 31 8,jA 33 31 0 2,jl 34 31 1 33,oT 35 31 (.len (.s 34)),oT 36 31 (.bin .lss false (.s 32) (.s 35)),jp 37 31 36]) [1,2,6,8,37] (jC 37 .skip (.exit 2))) [1,2,6,8] (jq (.block 3 (jq (jR [oL 41 1 2,om 42 8,oL 43 1 2,om 44 8,jc 45 32 [.s 43,.s 44],oL 46 1 2,om 47 8,jc 48 32 [.s 46,.s 47],om 49 1,om 50 8,jx 51 1 49 50,ol 52 1 51,jB 53 .and 48 52,jB 54 .sub 45 53,oo 55 (.build [(.int .i64 0),(.int .i64 0)] [(0,1,(.s 42)),(1,1,(.s 54))]),oo 56 (.buildSlice 2 24 [.s 55]),jc 57 31 [.s 41,.s 56],om 40 57,oe 58 0 40,oe 59 1 40,om 9 58,om 10 59]) [1,2,6,8,9,10] (jq (jr [om 60 10]) [1,2,6,8,9,60] (jC 60 (jr [om 61 6,om 62 9,oo 63 (.buildSlice 1 50 [.s 62]),oo 64 (.append 1 50 24 (.s 61) (.s 63)),om 6 64]) .skip)))) [1,2,6,8] (jr [om 38 8,jb 39 .add 38 1,om 8 39]))))) [6] (jq (jr [om 65 6,om 4 65]) [4] .ret)))))⟩
def tf9 : TFn := ⟨17,[.tmp 4],jq (jr [jw 4 0]) [0,1] (jq (jq (jr [om 6 1,jb 7 .lss 6 1]) [0,1,7] (jC 7 (jq (jr [jw 4 0]) [4] .ret) .skip)) [0,1] (jq (jr [om 8 0,om 9 1,jB 10 .rem 8 9,om 5 10]) [1,5] (jq (jq (jr [om 11 5,jb 12 .lss 11 0]) [1,5,12] (jC 12 (jq (jr [om 13 5,om 14 1,jB 15 .add 13 14,om 4 15]) [4] .ret) .skip)) [5] (jq (jr [om 16 5,om 4 16]) [4] .ret))))⟩
def tf10 : TFn := ⟨53,[.tmp 8,.tmp 9],jq (jr [jo 4 28 0,jv 8 je,jv 9 jf]) [1,2,3,4] (jq (jq (jr [oL 11 1 4,om 12 2,jc 13 33 [.s 11,.s 12],jb 14 .eql 13 0,om 15 14,jF 16 15 3,jy 17 15 .lss 16 0,oo 18 (.pick (.s 15) (.c (.bool true)) (.s 17)),om 19 18,jF 20 19 3,ja 21 19 0 4,jm 22 19 1 21,jF 23 19 2,oF 24 19 (.indexAddr 3 (.s 22) (.s 23)),ja 25 19 2 24,jm 26 19 1 25,oF 27 19 (.len (.s 26)),oF 28 19 (.bin .geq false (.s 20) (.s 27)),oo 29 (.pick (.s 19) (.c (.bool true)) (.s 28))]) [1,2,3,4,29] (jC 29 (jq (jr [jv 8 je,jv 9 jf]) [8,9] .ret) .skip)) [1,2,3,4] (jq (jr [om 30 3,jb 31 .add 30 1,oo 32 (.bin .shl false (jI 1) (.s 31)),om 10 32]) [1,2,4,10] (jq (jq (jr [oL 33 1 4,om 34 1,om 35 2,jc 36 34 [.s 33,.s 34,.s 35],om 37 10,jB 38 .and 36 37,jb 39 .eql 38 0,om 40 39,jF 41 40 1,jF 42 40 2,oF 43 40 (.call 35 [.s 41,.s 42]),oo 44 (.pick (.s 40) (.c (.bool true)) (.s 43))]) [1,2,10,44] (jC 44 (jq (jr [jv 8 je,jv 9 jf]) [8,9] .ret) .skip)) [1,2,10] (jq (jr [om 45 1,om 46 2,om 47 10,om 48 1,jc 49 18 [.s 48],jb 50 .add 49 1,oo 51 (.build [(.int .i64 0),(.int .i64 0),(.int .i64 0),(.int .i64 0)] [(0,1,(.s 46)),(1,1,(.s 47)),(2,1,(.s 50)),(3,1,(.c (.int .i64 (-1))))]),jc 52 36 [.s 45,.s 51],om 8 52,oo 9 (.mov (.c (.bool true)))]) [8,9] .ret))))⟩
def tf11 : TFn := ⟨53,[.tmp 8,.tmp 9],jq (jr [jo 4 28 0,jv 8 je,jv 9 jf]) [1,2,3,4] (jq (jq (jr [om 11 2,jb 12 .lss 11 0,om 13 12,jF 14 13 2,ja 15 13 0 4,jm 16 13 1 15,oF 17 13 (.len (.s 16)),oF 18 13 (.bin .geq false (.s 14) (.s 17)),oo 19 (.pick (.s 13) (.c (.bool true)) (.s 18)),om 20 19,jF 21 20 3,jy 22 20 .lss 21 0,oo 23 (.pick (.s 20) (.c (.bool true)) (.s 22)),om 24 23,jF 25 24 3,ja 26 24 0 4,jm 27 24 1 26,jF 28 24 2,oF 29 24 (.indexAddr 3 (.s 27) (.s 28)),ja 30 24 2 29,jm 31 24 1 30,oF 32 24 (.len (.s 31)),oF 33 24 (.bin .geq false (.s 25) (.s 32)),oo 34 (.pick (.s 24) (.c (.bool true)) (.s 33))]) [1,2,3,4,34] (jC 34 (jq (jr [jv 8 je,jv 9 jf]) [8,9] .ret) .skip)) [1,2,3,4] (jq (jr [om 35 2,om 36 3,oo 37 (.conv .u64 (.s 36)),oo 38 (.bin .shl false (jI 2) (.s 37)),om 39 1,jc 40 37 [.s 39],jb 41 .add 40 1,oo 42 (.build [(.int .i64 0),(.int .i64 0),(.int .i64 0),(.int .i64 0)] [(0,1,(.s 35)),(1,1,(.s 38)),(2,1,(.s 41)),(3,1,(.c (.int .i64 (-1))))]),oo 10 (.alloc 47 [(.int .i64 0),(.int .i64 0),(.int .i64 0),(.int .i64 0)]),jS 4 10 42]) [1,4,10] (jq (jq (jr [oL 43 1 4,om 44 1,oL 45 4 10,jc 46 38 [.s 43,.s 44,.s 45],oo 47 (.un .not (.s 46))]) [1,10,47] (jC 47 (jq (jr [jv 8 je,jv 9 jf]) [8,9] .ret) .skip)) [1,10] (jq (jR [om 48 1,oo 49 (.append 4 47 32 je (.s 48)),oL 50 4 10,oo 51 (.buildSlice 4 47 [.s 50]),oo 52 (.append 4 47 32 (.s 49) (.s 51)),om 8 52,oo 9 (.mov (.c (.bool true)))]) [8,9] .ret))))⟩
def tf12 : TFn := ⟨44,[.tmp 8,.tmp 9],jq (jr [jo 4 28 0,jo 6 24 2,jv 8 je,jv 9 jf]) [1,3,4,6] (jq (jr [oL 11 1 4,om 12 1,oA 13 0 6,ol 14 1 13,jc 15 20 [.s 11,.s 12,.s 14],om 10 15]) [1,3,6,10] (jq (jq (jr [om 16 3,jb 17 .lss 16 0,om 18 17,jF 19 18 10,ja 20 18 1 6,jm 21 18 1 20,oF 22 18 (.bin .and false (.s 19) (.s 21)),jy 23 18 .eql 22 0,oo 24 (.pick (.s 18) (.c (.bool true)) (.s 23)),om 25 24,jF 26 25 10,ja 27 25 1 6,jm 28 25 1 27,oF 29 25 (.bin .andNot false (.s 26) (.s 28)),jy 30 25 .eql 29 0,oo 31 (.pick (.s 25) (.c (.bool true)) (.s 30))]) [1,3,6,10,31] (jC 31 (jq (jr [jv 8 je,jv 9 jf]) [8,9] .ret) .skip)) [1,3,6,10] (jq (jR [om 32 1,oA 33 0 6,ol 34 1 33,om 35 10,oA 36 1 6,ol 37 1 36,jB 38 .andNot 35 37,om 39 1,jc 40 18 [.s 39],om 41 3,oo 42 (.build [(.int .i64 0),(.int .i64 0),(.int .i64 0),(.int .i64 0)] [(0,1,(.s 34)),(1,1,(.s 38)),(2,1,(.s 40)),(3,1,(.s 41))]),jc 43 36 [.s 32,.s 42],om 8 43,oo 9 (.mov (.c (.bool true)))]) [8,9] .ret)))⟩
def tf13 : TFn := ⟨58,[.tmp 8,.tmp 9],jq (jr [jo 4 28 0,jo 6 24 2,jv 8 je,jv 9 jf]) [1,3,4,6] (jq (jq (jr [om 12 3,jb 13 .lss 12 0,om 14 13,ja 15 14 0 6,jm 16 14 1 15,jy 17 14 .lss 16 0,oo 18 (.pick (.s 14) (.c (.bool true)) (.s 17)),om 19 18,ja 20 19 0 6,jm 21 19 1 20,ja 22 19 0 4,jm 23 19 1 22,oF 24 19 (.len (.s 23)),oF 25 19 (.bin .geq false (.s 21) (.s 24)),oo 26 (.pick (.s 19) (.c (.bool true)) (.s 25))]) [1,3,4,6,26] (jC 26 (jq (jr [jv 8 je,jv 9 jf]) [8,9] .ret) .skip)) [1,3,4,6] (jq (jr [oL 27 1 4,om 28 1,oA 29 0 6,ol 30 1 29,jc 31 29 [.s 27,.s 28,.s 30],om 10 31]) [1,3,6,10] (jq (jR [oA 32 0 6,ol 33 1 32,om 34 10,om 35 10,oA 36 1 6,ol 37 1 36,jB 38 .and 35 37,jB 39 .sub 34 38,om 40 1,jc 41 37 [.s 40],om 42 3,oo 43 (.build [(.int .i64 0),(.int .i64 0),(.int .i64 0),(.int .i64 0)] [(0,1,(.s 33)),(1,1,(.s 39)),(2,1,(.s 41)),(3,1,(.s 42))]),oo 11 (.alloc 47 [(.int .i64 0),(.int .i64 0),(.int .i64 0),(.int .i64 0)]),jS 4 11 43]) [1,10,11] (jq (jq (jr [oA 44 1 11,ol 45 1 44,jb 46 .eql 45 0,om 47 46,ja 48 47 1 11,jm 49 47 1 48,jF 50 47 10,oF 51 47 (.bin .eql false (.s 49) (.s 50)),oo 52 (.pick (.s 47) (.c (.bool true)) (.s 51))]) [1,11,52] (jC 52 (jq (jr [jv 8 je,jv 9 jf]) [8,9] .ret) .skip)) [1,11] (jq (jR [om 53 1,oo 54 (.append 4 47 32 je (.s 53)),oL 55 4 11,oo 56 (.buildSlice 4 47 [.s 55]),oo 57 (.append 4 47 32 (.s 54) (.s 56)),om 8 57,oo 9 (.mov (.c (.bool true)))]) [8,9] .ret)))))⟩
def tf14 : TFn := ⟨26,[.tmp 4],jq (jr [jv 4 jf]) [0,1] (jq (jq (jr [om 6 0,jn 7 6,om 8 1,jn 9 8,jB 10 .neq 7 9]) [0,1,10] (jC 10 (jq (jr [jv 4 jf]) [4] .ret) .skip)) [0,1] (jq (jq (jr [jw 5 0]) [0,1,5] (jk 0 (jq (jq (jr [om 11 5,om 12 0,jn 13 12,jB 14 .lss 11 13]) [0,1,5,14] (jC 14 .skip (.exit 0))) [0,1,5] (jq (.block 1 (jq (jR [om 17 0,om 18 5,jx 19 4 17 18,oL 20 4 19,om 21 1,om 22 5,jx 23 4 21 22,oL 24 4 23,oo 25 (.eqs true [0,0,0,0] (.s 20) (.s 24))]) [0,1,5,25] (jC 25 (jq (jr [jv 4 jf]) [4] .ret) .skip))) [0,1,5] (jr [om 15 5,jb 16 .add 15 1,om 5 16]))))) [] (jq (jr [oo 4 (.mov (.c (.bool true)))]) [4] .ret)))⟩
def tf15 : TFn := ⟨23,[.tmp 4],jq (jr [jo 2 28 0,jv 4 jf]) [1,2] (jq (jq (jr [om 7 1,jn 8 7,jw 9 0]) [1,2,7,8,9] (jk 0 (jq (jr [jB 10 .lss 9 8]) [1,2,7,8,9,10] (jq (jC 10 .skip (.exit 0)) [1,2,7,8,9] (jq (.block 1 (jq (jr [om 11 9,jx 12 4 7 9,oL 13 4 12,oo 6 (.alloc 47 [(.int .i64 0),(.int .i64 0),(.int .i64 0),(.int .i64 0)]),om 5 11,jS 4 6 13]) [1,2,5,6,7,8,9] (jq (jR [oL 14 1 2,om 15 1,om 16 5,om 17 5,oo 18 (.slice 4 (.s 15) none (some (.s 16)) (some (.s 17))),oL 19 4 6,jc 20 39 [.s 14,.s 18,.s 19],oo 21 (.un .not (.s 20))]) [1,2,7,8,9,21] (jC 21 (jq (jr [jv 4 jf]) [4] .ret) .skip)))) [1,2,7,8,9] (jr [jb 22 .add 9 1,om 9 22])))))) [] (jq (jr [oo 4 (.mov (.c (.bool true)))]) [4] .ret))⟩
def tf16 : TFn := ⟨19,[.tmp 4],jq (jr [jo 3 3 1,jv 4 je]) [0,3] (jq (jr [om 6 0,oo 7 (.mkfn 41 [.s 3]),jc 8 40 [.s 6,.s 7],om 5 8]) [0,5] (jq (jq (jr [om 9 5,jb 10 .lss 9 0]) [0,5,10] (jC 10 (jr [om 11 0,jn 12 11,om 5 12]) .skip)) [0,5] (jq (jr [om 13 0,om 14 5,om 15 5,oo 16 (.slice 4 (.s 13) none (some (.s 14)) (some (.s 15))),oo 17 (.buildSlice 1 30 [.s 16]),jc 18 42 [.s 17],om 4 18]) [4] .ret)))⟩
def tf17 : TFn := ⟨30,[.tmp 4],jq (jr [jv 4 je]) [0,1] (jq (jr [jv 5 je]) [0,1,5] (jq (jq (jr [jw 6 0]) [0,1,5,6] (jk 0 (jq (jq (jr [om 7 6,om 8 0,jn 9 8,jB 10 .lss 7 9,om 11 10,jT 12 11 0,jT 13 11 6,oT 14 11 (.indexAddr 4 (.s 12) (.s 13)),jA 15 11 2 14,jl 16 11 1 15,jT 17 11 1,oT 18 11 (.bin .leq false (.s 16) (.s 17)),jp 19 11 18]) [0,1,5,6,19] (jC 19 .skip (.exit 0))) [0,1,5,6] (jq (.block 1 (jr [om 22 5,om 23 0,om 24 6,jx 25 4 23 24,oL 26 4 25,oo 27 (.buildSlice 4 47 [.s 26]),oo 28 (.append 4 47 32 (.s 22) (.s 27)),om 5 28])) [0,1,5,6] (jr [om 20 6,jb 21 .add 20 1,om 6 21]))))) [5] (jq (jr [om 29 5,om 4 29]) [4] .ret)))⟩
def tf18 : TFn := ⟨13,[.tmp 2],jq (jr [jw 2 0]) [0] (jq (jq (jr [om 3 0,jn 4 3,jb 5 .eql 4 0]) [0,5] (jC 5 (jq (jr [jw 2 0]) [2] .ret) .skip)) [0] (jq (jr [om 6 0,om 7 0,jn 8 7,jb 9 .sub 8 1,jx 10 4 6 9,oA 11 2 10,ol 12 1 11,om 2 12]) [2] .ret))⟩
def tf19 : TFn := ⟨18,[.cell 0 true 1],jq (jr [oo 0 (.alloc 28 [(.fsl [])])]) [0] (jq (jr [jc 2 43 [],om 1 2]) [0,1] (jq (jR [oo 3 (.build [(.int .i64 0),(.int .i64 0),(.int .i64 0),(.str []),(.str []),(.int .i64 0),(.fsl []),(.fsl [])] [(5,1,(.c (.int .i64 (-1))))]),oo 4 (.buildSlice 8 61 [.s 3]),oo 5 (.build [(.str []),(.str []),(.fsl [])] [(2,1,(.s 4))]),om 6 1,oo 7 (.indexAddr 5 (.s 6) (jI 0)),oL 8 5 7,oo 9 (.build [(.int .i64 0),(.int .i64 0),(.int .i64 0),(.str []),(.str []),(.int .i64 0),(.fsl []),(.fsl [])] [(0,5,(.s 8))]),om 10 1,oo 11 (.indexAddr 5 (.s 10) (jI 1)),oL 12 5 11,oo 13 (.build [(.int .i64 0),(.int .i64 0),(.int .i64 0),(.str []),(.str []),(.int .i64 0),(.fsl []),(.fsl [])] [(0,5,(.s 12))]),oo 14 (.buildSlice 8 61 [.s 9,.s 13]),oo 15 (.build [(.str []),(.str []),(.fsl [])] [(0,1,(.c (.str [97,110,116]))),(2,1,(.s 14))]),oo 16 (.buildSlice 3 64 [.s 5,.s 15]),oo 17 (.build [(.fsl [])] [(0,1,(.s 16))]),jS 1 0 17]) [0] .ret))⟩
def tf20 : TFn := ⟨15,[.tmp 6],jq (jr [jo 3 28 0,jw 6 0]) [1,2,3] (jq (jq (jr [oL 7 1 3,om 8 2,jc 9 33 [.s 7,.s 8],jb 10 .eql 9 0]) [1,2,3,10] (jC 10 (jq (jr [jw 6 0]) [6] .ret) .skip)) [1,2,3] (jq (jr [oL 11 1 3,om 12 1,om 13 2,jc 14 34 [.s 11,.s 12,.s 13],om 6 14]) [6] .ret))⟩
def tf21 : TFn := ⟨89,[.tmp 6],jq (jr [jo 3 28 0,jw 6 0]) [1,2,3] (jq (jr [om 14 2,jn 15 14,oo 16 (.makeSlice 1 3 8 [(.int .i64 0)] (.s 15) (.s 15)),om 7 16]) [1,2,3,7] (jq (jq (jr [om 17 2,jn 18 17,jw 19 0]) [1,2,3,7,17,18,19] (jk 0 (jq (jr [jB 20 .lss 19 18]) [1,2,3,7,17,18,19,20] (jq (jC 20 .skip (.exit 0)) [1,2,3,7,17,18,19] (jq (.block 1 (jq (jr [om 21 19,jx 22 2 17 19,oL 23 2 22,oo 9 (.alloc 24 [(.int .i64 0),(.int .i64 0)]),om 8 21,jS 2 9 23]) [1,2,3,7,8,9,17,18,19] (jr [om 24 7,om 25 8,oL 26 1 3,oA 27 0 9,ol 28 1 27,jc 29 33 [.s 26,.s 28],jx 30 1 24 25,jS 1 30 29]))) [1,2,3,7,17,18,19] (jr [jb 31 .add 19 1,om 19 31])))))) [1,2,7] (jq (jq (jr [om 32 1,jn 33 32,jb 34 .add 33 1,jw 35 0]) [1,2,7,34,35] (jk 2 (jq (jr [jB 36 .lss 35 34]) [1,2,7,34,35,36] (jq (jC 36 .skip (.exit 2)) [1,2,7,34,35] (jq (.block 3 (jq (jr [om 37 35,om 10 37]) [1,2,7,10,34,35] (jq (jr [oo 11 (.mov (.c (.bool true)))]) [1,2,7,10,11,34,35] (jq (jq (jr [om 38 2,jn 39 38,jw 40 0]) [1,2,7,10,11,34,35,38,39,40] (jk 4 (jq (jr [jB 41 .lss 40 39]) [1,2,7,10,11,34,35,38,39,40,41] (jq (jC 41 .skip (.exit 4)) [1,2,7,10,11,34,35,38,39,40] (jq (.block 5 (jq (jr [om 42 40,jx 43 2 38 40,oL 44 2 43,oo 13 (.alloc 24 [(.int .i64 0),(.int .i64 0)]),om 12 42,jS 2 13 44]) [1,2,7,10,11,12,13,34,35,38,39,40] (jq (jq (jR [om 45 10,jb 46 .gtr 45 0,om 47 46,jT 48 47 1,jT 49 47 10,jY 50 47 .sub 49 1,oT 51 47 (.indexAddr 4 (.s 48) (.s 50)),jA 52 47 0 51,jl 53 47 1 52,jA 54 47 0 13,jl 55 47 1 54,oT 56 47 (.bin .eql false (.s 53) (.s 55)),jp 57 47 56,om 58 57,jT 59 58 7,jT 60 58 12,oT 61 58 (.indexAddr 1 (.s 59) (.s 60)),jl 62 58 1 61,jY 63 58 .neq 62 0,jp 64 58 63]) [1,2,7,10,11,12,13,34,35,38,39,40,64] (jC 64 (jr [om 65 7,om 66 12,om 67 1,om 68 10,jb 69 .sub 68 1,jx 70 4 67 69,oA 71 1 70,ol 72 1 71,jx 73 1 65 66,jS 1 73 72]) .skip)) [1,2,7,10,11,12,13,34,35,38,39,40] (jR [om 74 11,om 75 74,jT 76 75 7,jT 77 75 12,oT 78 75 (.indexAddr 1 (.s 76) (.s 77)),jl 79 75 1 78,jA 80 75 1 13,jl 81 75 1 80,oT 82 75 (.call 44 [.s 79,.s 81]),jY 83 75 .eql 82 2,jp 84 75 83,om 11 84])))) [1,2,7,10,11,34,35,38,39,40] (jr [jb 85 .add 40 1,om 40 85])))))) [1,2,7,10,11,34,35] (jq (jr [om 86 11]) [1,2,7,10,34,35,86] (jC 86 (jq (jr [om 87 10,om 6 87]) [6] .ret) .skip)))))) [1,2,7,34,35] (jr [jb 88 .add 35 1,om 35 88])))))) [] (jq (jr [oo 6 (.mov (.c (.int .i64 (-1))))]) [6] .ret))))⟩
def tf22 : TFn := ⟨100,[.tmp 4],jq (jr [jv 4 je]) [0,1] (jq (jr [oo 14 (.buildSlice 1 9 [(.c (.str [97,110,116])),(.c (.str [98,101,101])),(.c (.str [99,111,119])),(.c (.str [100,111,103])),(.c (.str [101,108,107]))]),om 5 14]) [0,1,5] (jq (jr [oo 15 (.build [(.int .i64 0),(.int .i64 0),(.int .i64 0),(.str []),(.str []),(.int .i64 0),(.fsl []),(.fsl [])] [(5,1,(.c (.int .i64 (-1))))]),oo 16 (.buildSlice 8 61 [.s 15]),oo 17 (.build [(.str []),(.str []),(.fsl [])] [(2,1,(.s 16))]),oo 18 (.buildSlice 3 64 [.s 17]),om 6 18]) [0,1,5,6] (jq (jr [jc 19 43 [],om 7 19]) [0,1,5,6,7] (jq (jq (jr [jw 8 0]) [0,1,5,6,7,8] (jk 0 (jq (jq (jr [om 20 8,om 21 0,om 22 1,jc 23 25 [.s 21,.s 22],oo 24 (.bin .add false (jI 1) (.s 23)),jB 25 .lss 20 24,om 26 25,jT 27 26 8,jT 28 26 5,oT 29 26 (.len (.s 28)),oT 30 26 (.bin .lss false (.s 27) (.s 29)),jp 31 26 30]) [0,1,5,6,7,8,31] (jC 31 .skip (.exit 0))) [0,1,5,6,7,8] (jq (.block 1 (jq (jr [jv 9 je]) [0,1,5,6,7,8,9] (jq (jr [om 34 0,jc 35 25 [.s 34,jI 16],om 10 35]) [0,1,5,6,7,8,9,10] (jq (jq (jr [jw 11 0]) [0,1,5,6,7,8,9,10,11] (jk 2 (jq (jq (jr [om 36 11,om 37 7,jn 38 37,jB 39 .lss 36 38]) [0,1,5,6,7,8,9,10,11,39] (jC 39 .skip (.exit 2))) [0,1,5,6,7,8,9,10,11] (jq (.block 3 (jq (jr [om 42 10,om 43 11,oo 44 (.conv .u64 (.s 43)),jB 45 .shr 42 44,jb 46 .and 45 1,jb 47 .eql 46 1]) [0,1,5,6,7,8,9,10,11,47] (jC 47 (jr [om 48 9,om 49 7,om 50 11,jx 51 5 49 50,oL 52 5 51,oo 53 (.build [(.int .i64 0),(.int .i64 0),(.int .i64 0),(.str []),(.str []),(.int .i64 0),(.fsl []),(.fsl [])] [(0,5,(.s 52))]),oo 54 (.buildSlice 8 61 [.s 53]),oo 55 (.append 8 61 112 (.s 48) (.s 54)),om 9 55]) .skip))) [0,1,5,6,7,8,9,10,11] (jr [om 40 11,jb 41 .add 40 1,om 11 41]))))) [0,1,5,6,7,8,9] (jq (jr [om 56 6,om 57 5,om 58 8,jx 59 1 57 58,ol 60 1 59,om 61 9,oo 62 (.build [(.str []),(.str []),(.fsl [])] [(0,1,(.s 60)),(2,1,(.s 61))]),oo 63 (.buildSlice 3 64 [.s 62]),oo 64 (.append 3 64 56 (.s 56) (.s 63)),om 6 64]) [0,1,5,6,7,8,9] (jq (jr [om 65 8,jb 66 .lss 65 2,om 67 66,jT 68 67 0,oT 69 67 (.call 25 [.s 68,jI 3]),jY 70 67 .eql 69 0,jp 71 67 70]) [0,1,5,6,7,8,9,71] (jC 71 (jq (jr [jv 12 je]) [0,1,5,6,7,8,9,12] (jq (jq (jr [jw 13 0]) [0,1,5,6,7,8,9,12,13] (jk 4 (jq (jq (jr [om 72 13,om 73 9,jn 74 73,jB 75 .lss 72 74]) [0,1,5,6,7,8,9,12,13,75] (jC 75 .skip (.exit 4))) [0,1,5,6,7,8,9,12,13] (jq (.block 5 (jq (jr [om 78 0,jc 79 25 [.s 78,jI 3],jb 80 .gtr 79 0]) [0,1,5,6,7,8,9,12,13,80] (jC 80 (jr [om 81 12,om 82 9,om 83 13,jx 84 8 82 83,oA 85 0 84,oL 86 5 85,oo 87 (.build [(.int .i64 0),(.int .i64 0),(.int .i64 0),(.str []),(.str []),(.int .i64 0),(.fsl []),(.fsl [])] [(0,5,(.s 86))]),oo 88 (.buildSlice 8 61 [.s 87]),oo 89 (.append 8 61 112 (.s 81) (.s 88)),om 12 89]) .skip))) [0,1,5,6,7,8,9,12,13] (jr [om 76 13,jb 77 .add 76 1,om 13 77]))))) [0,1,5,6,7,8,12] (jr [om 90 6,om 91 5,om 92 8,jx 93 1 91 92,ol 94 1 93,om 95 12,oo 96 (.build [(.str []),(.str []),(.fsl [])] [(0,1,(.s 94)),(1,1,(.c (.str [102]))),(2,1,(.s 95))]),oo 97 (.buildSlice 3 64 [.s 96]),oo 98 (.append 3 64 56 (.s 90) (.s 97)),om 6 98]))) .skip))))))) [0,1,5,6,7,8] (jr [om 32 8,jb 33 .add 32 1,om 8 33]))))) [6] (jq (jr [om 99 6,om 4 99]) [4] .ret)))))⟩
def tf23 : TFn := ⟨36,[.tmp 6],jq (jr [jv 6 je]) [0,1,2] (jq (jr [jv 7 je]) [0,1,2,7] (jq (jq (jr [om 10 0,om 11 2,jb 12 .add 11 1,jc 13 25 [.s 10,.s 12],om 8 13]) [0,1,7,8] (jk 0 (jq (jq (jr [om 14 8,jb 15 .gtr 14 0]) [0,1,7,8,15] (jC 15 .skip (.exit 0))) [0,1,7,8] (jq (.block 1 (jq (jr [om 18 0,om 19 1,jc 20 26 [.s 18,.s 19],oo 21 (.buildSlice 3 71 [.s 20]),om 9 21]) [0,1,7,8,9] (jq (jq (jr [om 22 0,jc 23 25 [.s 22,jI 3],jb 24 .eql 23 0]) [0,1,7,8,9,24] (jC 24 (jr [om 25 9,om 26 0,om 27 1,jc 28 26 [.s 26,.s 27],oo 29 (.buildSlice 3 71 [.s 28]),oo 30 (.append 3 71 56 (.s 25) (.s 29)),om 9 30]) .skip)) [0,1,7,8,9] (jr [om 31 7,om 32 9,oo 33 (.buildSlice 1 59 [.s 32]),oo 34 (.append 1 59 24 (.s 31) (.s 33)),om 7 34])))) [0,1,7,8] (jr [om 16 8,jb 17 .sub 16 1,om 8 17]))))) [7] (jq (jr [om 35 7,om 6 35]) [6] .ret)))⟩
def tf24 : TFn := ⟨24,[.cell 2 true 2],jq (jr [jo 1 58 0,oo 2 (.alloc 68 [(.fsl []),(.fsl [])])]) [1,2] (jq (jq (jr [oL 3 5 1,jc 4 45 [.s 3],oo 5 (.un .not (.s 4))]) [1,2,5] (jC 5 (jq (jr [jc 6 46 [],jS 2 2 6]) [2] .ret) .skip)) [1,2] (jq (jq (jr [oA 7 3 1,ol 8 1 7,oo 9 (.bin .neq false (.s 8) (.c (.str [])))]) [1,2,9] (jC 9 (jq (jR [oL 10 5 1,jc 11 47 [.s 10],oL 12 5 1,jc 13 48 [.s 12],oo 14 (.build [(.int .i64 0),(.int .i64 0),(.int .i64 0),(.int .i64 0),(.str []),(.str []),(.bool false),(.int .i64 0),(.int .i64 0),(.int .i64 0),(.int .i64 0),(.str []),(.str []),(.bool false)] [(0,7,(.s 11)),(7,7,(.s 13))]),oo 15 (.buildSlice 14 99 [.s 14]),oo 16 (.build [(.fsl []),(.fsl [])] [(1,1,(.s 15))]),jS 2 2 16]) [2] .ret) .skip)) [1,2] (jq (jR [oL 17 5 1,jc 18 49 [.s 17],oL 19 5 1,jc 20 50 [.s 19],oo 21 (.build [(.int .i64 0),(.int .i64 0),(.int .i64 0),(.int .i64 0),(.str []),(.str []),(.bool false),(.int .i64 0),(.int .i64 0),(.int .i64 0),(.int .i64 0),(.str []),(.str []),(.bool false)] [(0,7,(.s 18)),(7,7,(.s 20))]),oo 22 (.buildSlice 14 99 [.s 21]),oo 23 (.build [(.fsl []),(.fsl [])] [(0,1,(.s 22))]),jS 2 2 23]) [2] .ret)))⟩
def tf25 : TFn := ⟨24,[.tmp 4],jq (jr [jw 4 0]) [0,1] (jq (jr [om 5 0,jh 6 5,oA 7 1 6,ol 8 1 7,jb 9 .add 8 1,jh 10 5,oA 11 1 10,jS 1 11 9]) [0,1] (jq (jR [om 12 0,jh 13 12,oA 14 0 13,ol 15 1 14,om 16 0,jh 17 16,oA 18 1 17,ol 19 1 18,jb 20 .sub 19 1,jc 21 51 [.s 15,.s 20],om 22 1,jc 23 9 [.s 21,.s 22],om 4 23]) [4] .ret))⟩
def tf26 : TFn := ⟨21,[.cell 4 true 3],jq (jr [oo 4 (.alloc 71 [(.int .i64 0),(.fsl []),(.fsl [])])]) [0,1,4] (jq (jr [om 6 0,om 7 1,jn 8 7,jb 9 .sub 8 1,jc 10 25 [.s 6,.s 9],oo 11 (.bin .add false (jI 1) (.s 10)),om 5 11]) [0,1,4,5] (jq (jr [om 12 5,om 13 0,om 14 1,om 15 5,jx 16 3 14 15,oA 17 2 16,ol 18 1 17,jc 19 52 [.s 13,.s 18],oo 20 (.build [(.int .i64 0),(.fsl []),(.fsl [])] [(0,1,(.s 12)),(1,2,(.s 19))]),jS 3 4 20]) [4] .ret))⟩
def tf27 : TFn := ⟨50,[.tmp 6,.tmp 7],jq (jr [jo 3 28 0,jv 6 je,jw 7 0]) [1,2,3] (jq (jr [om 12 2,oo 13 (.append 4 47 32 je (.s 12)),om 8 13]) [1,3,8] (jq (jq (jr [jw 9 0]) [1,3,8,9] (jk 0 (jq (jq (jr [om 14 9,oA 15 0 3,ol 16 1 15,jn 17 16,jb 18 .mul 17 18,jB 19 .leq 14 18]) [1,3,8,9,19] (jC 19 .skip (.exit 0))) [1,3,8,9] (jq (.block 1 (jq (jr [oL 23 1 3,om 24 1,om 25 8,jc 26 53 [.s 23,.s 24,.s 25],om 22 26,oe 27 0 22,oe 28 1 22,om 10 27,om 11 28]) [1,3,8,9,10,11] (jq (jq (jr [om 29 11,jb 30 .lss 29 0]) [1,3,8,9,10,11,30] (jC 30 (jq (jr [om 31 8,om 32 10,om 6 31,om 7 32]) [6,7] .ret) .skip)) [1,3,8,9,10,11] (jR [oL 34 1 3,om 35 8,om 36 11,oL 37 1 3,om 38 1,om 39 10,jx 40 1 38 39,ol 41 1 40,om 42 11,jc 43 54 [.s 37,.s 41,.s 42],oo 44 (.build [(.int .i64 0),(.int .i64 0)] [(0,1,(.s 36)),(1,1,(.s 43))]),om 45 10,jc 46 13 [.s 34,.s 35,.s 44,.s 45],om 33 46,oe 47 0 33,oe 48 1 33,om 8 47])))) [1,3,8,9] (jr [om 20 9,jb 21 .add 20 1,om 9 21]))))) [8] (jq (jr [om 49 8,om 6 49,oo 7 (.mov (.c (.int .i64 (-1))))]) [6,7] .ret)))⟩
def tf28 : TFn := ⟨20,[.tmp 2],jq (jr [jv 2 je]) [0] (jq (jr [jv 3 je]) [0,3] (jq (jq (jr [jw 4 0]) [0,3,4] (jk 0 (jq (jq (jr [om 5 4,jb 6 .leq 5 16]) [0,3,4,6] (jC 6 .skip (.exit 0))) [0,3,4] (jq (.block 1 (jq (jr [om 9 0,om 10 4,jc 11 55 [.s 10],jB 12 .and 9 11,jb 13 .neq 12 0]) [0,3,4,13] (jC 13 (jr [om 14 3,om 15 4,jb 16 .sub 15 1,oo 17 (.buildSlice 1 3 [.s 16]),oo 18 (.append 1 3 8 (.s 14) (.s 17)),om 3 18]) .skip))) [0,3,4] (jr [om 7 4,jb 8 .add 7 1,om 4 8]))))) [3] (jq (jr [om 19 3,om 2 19]) [2] .ret)))⟩
def tf29 : TFn := ⟨41,[.tmp 6],jq (jr [jo 3 28 0,jw 6 0]) [1,2,3] (jq (jq (jr [om 8 1,jn 9 8,jb 10 .sub 9 1,om 7 10]) [1,2,3,7] (jk 0 (jq (jq (jr [om 11 7,jb 12 .geq 11 0]) [1,2,3,7,12] (jC 12 .skip (.exit 0))) [1,2,3,7] (jq (.block 1 (jq (jr [om 15 1,om 16 7,jx 17 4 15 16,oA 18 0 17,ol 19 1 18,om 20 2,jB 21 .eql 19 20,om 22 21,jT 23 22 2,jY 24 22 .geq 23 0,jp 25 22 24,om 26 25,jT 27 26 2,jA 28 26 0 3,jl 29 26 1 28,oT 30 26 (.len (.s 29)),oT 31 26 (.bin .lss false (.s 27) (.s 30)),jp 32 26 31]) [1,2,3,7,32] (jC 32 (jq (jr [om 33 1,om 34 7,jx 35 4 33 34,oA 36 1 35,ol 37 1 36,om 6 37]) [6] .ret) .skip))) [1,2,3,7] (jr [om 13 7,jb 14 .sub 13 1,om 7 14]))))) [2,3] (jq (jr [oL 38 1 3,om 39 2,jc 40 32 [.s 38,.s 39],om 6 40]) [6] .ret))⟩
def tf30 : TFn := ⟨98,[.tmp 2],jq (jr [jo 1 28 0,jv 2 je]) [1] (jq (jr [oo 13 (.build [(.int .i64 0),(.int .i64 0)] [(0,1,(jI 0)),(1,1,(jI 1))]),oo 14 (.buildSlice 2 24 [.s 13]),oo 15 (.build [(.int .i64 0),(.int .i64 0),(.int .i64 0),(.int .i64 0),(.fsl [])] [(0,1,(jI 1)),(4,1,(.s 14))]),oo 16 (.buildSlice 5 79 [.s 15]),om 3 16]) [1,3] (jq (jq (jr [jw 4 0]) [1,3,4] (jk 0 (jq (jq (jr [om 17 4,oA 18 0 1,ol 19 1 18,jn 20 19,jB 21 .lss 17 20]) [1,3,4,21] (jC 21 .skip (.exit 0))) [1,3,4] (jq (.block 1 (jq (jr [jw 5 0]) [1,3,4,5] (jk 2 (jq (jq (jr [om 24 5,oA 25 0 1,ol 26 1 25,om 27 4,jx 28 3 26 27,oA 29 2 28,ol 30 1 29,jn 31 30,jB 32 .lss 24 31]) [1,3,4,5,32] (jC 32 .skip (.exit 2))) [1,3,4,5] (jq (.block 3 (jq (jr [oA 35 0 1,ol 36 1 35,om 37 4,jx 38 3 36 37,oA 39 2 38,ol 40 1 39,om 41 5,jx 42 8 40 41,oL 43 8 42,oo 6 (.alloc 61 [(.int .i64 0),(.int .i64 0),(.int .i64 0),(.str []),(.str []),(.int .i64 0),(.fsl []),(.fsl [])]),jS 8 6 43]) [1,3,4,5,6] (jq (jq (jr [jw 7 0]) [1,3,4,5,6,7] (jk 4 (jq (jq (jr [om 44 7,oA 45 6 6,ol 46 1 45,jn 47 46,jB 48 .lss 44 47]) [1,3,4,5,6,7,48] (jC 48 .skip (.exit 4))) [1,3,4,5,6,7] (jq (.block 5 (jq (jR [oL 52 1 1,om 53 4,om 54 5,oA 55 6 6,ol 56 1 55,om 57 7,jx 58 1 56 57,ol 59 1 58,jc 60 56 [.s 52,.s 53,.s 54,.s 59,jf],om 51 60,oe 61 0 51,oe 62 1 51,om 8 61,om 9 62]) [1,3,4,5,6,7,8,9] (jq (jr [om 63 9]) [1,3,4,5,6,7,8,63] (jC 63 (jr [oL 64 1 1,om 65 3,om 66 4,om 67 8,oo 68 (.build [(.int .i64 0),(.int .i64 0),(.int .i64 0),(.int .i64 0),(.fsl [])] [(0,1,(jI 2)),(1,1,(.s 66)),(4,1,(.s 67))]),jc 69 57 [.s 64,.s 65,.s 68],om 3 69]) .skip)))) [1,3,4,5,6,7] (jr [om 49 7,jb 50 .add 49 1,om 7 50]))))) [1,3,4,5,6] (jq (jr [jw 10 0]) [1,3,4,5,6,10] (jk 6 (jq (jq (jr [om 70 10,oA 71 7 6,ol 72 1 71,jn 73 72,jB 74 .lss 70 73]) [1,3,4,5,6,10,74] (jC 74 .skip (.exit 6))) [1,3,4,5,6,10] (jq (.block 7 (jq (jR [oL 78 1 1,om 79 4,om 80 5,oA 81 7 6,ol 82 1 81,om 83 10,om 84 10,jb 85 .add 84 1,oo 86 (.slice 3 (.s 82) (some (.s 83)) (some (.s 85)) none),jc 87 56 [.s 78,.s 79,.s 80,.s 86,(.c (.bool true))],om 77 87,oe 88 0 77,oe 89 1 77,om 11 88,om 12 89]) [1,3,4,5,6,10,11,12] (jq (jr [om 90 12]) [1,3,4,5,6,10,11,90] (jC 90 (jr [oL 91 1 1,om 92 3,om 93 4,om 94 11,oo 95 (.build [(.int .i64 0),(.int .i64 0),(.int .i64 0),(.int .i64 0),(.fsl [])] [(0,1,(jI 3)),(1,1,(.s 93)),(4,1,(.s 94))]),jc 96 57 [.s 91,.s 92,.s 95],om 3 96]) .skip)))) [1,3,4,5,6,10] (jr [om 75 10,jb 76 .add 75 1,om 10 76])))))))) [1,3,4,5] (jr [om 33 5,jb 34 .add 33 1,om 5 34])))))) [1,3,4] (jr [om 22 4,jb 23 .add 22 1,om 4 23]))))) [3] (jq (jr [om 97 3,om 2 97]) [2] .ret)))⟩
def tf31 : TFn := ⟨58,[.tmp 4,.tmp 5],jq (jr [jo 2 28 0,jv 4 je,jv 5 jf]) [1,2] (jq (jr [oL 8 1 2,jc 9 58 [.s 8],om 6 9]) [1,2,6] (jq (jq (jr [jw 7 0]) [1,2,6,7] (jk 0 (jq (jq (jr [om 10 7,om 11 1,jn 12 11,jB 13 .lss 10 12]) [1,2,6,7,13] (jC 13 .skip (.exit 0))) [1,2,6,7] (jq (.block 1 (jq (jq (jr [om 16 1,om 17 7,jx 18 2 16 17,oA 19 0 18,ol 20 1 19,jb 21 .lss 20 0,om 22 21,jF 23 22 1,jF 24 22 7,oF 25 22 (.indexAddr 2 (.s 23) (.s 24)),ja 26 22 0 25,jm 27 22 1 26,jF 28 22 6,oF 29 22 (.len (.s 28)),oF 30 22 (.bin .geq false (.s 27) (.s 29)),oo 31 (.pick (.s 22) (.c (.bool true)) (.s 30))]) [1,2,6,7,31] (jC 31 (jq (jr [jv 4 je,jv 5 jf]) [4,5] .ret) .skip)) [1,2,6,7] (jR [om 32 6,om 33 1,om 34 7,jx 35 2 33 34,oA 36 0 35,ol 37 1 36,om 38 6,om 39 1,om 40 7,jx 41 2 39 40,oA 42 0 41,ol 43 1 42,jx 44 1 38 43,ol 45 1 44,om 46 1,om 47 7,jx 48 2 46 47,oA 49 1 48,ol 50 1 49,jB 51 .and 45 50,jx 52 1 32 37,jS 1 52 51]))) [1,2,6,7] (jr [om 14 7,jb 15 .add 14 1,om 7 15]))))) [2,6] (jq (jr [oL 53 1 2,om 54 6,jc 55 59 [.s 53,.s 54],oe 56 0 55,oe 57 1 55,om 4 56,om 5 57]) [4,5] .ret)))⟩
def tf32 : TFn := ⟨25,[.tmp 4],jq (jr [jo 2 28 0,jw 4 0]) [1,2] (jq (jq (jr [om 5 1,jb 6 .lss 5 0,om 7 6,jF 8 7 1,ja 9 7 0 2,jm 10 7 1 9,oF 11 7 (.len (.s 10)),oF 12 7 (.bin .geq false (.s 8) (.s 11)),oo 13 (.pick (.s 7) (.c (.bool true)) (.s 12))]) [1,2,13] (jC 13 (jq (jr [jw 4 0]) [4] .ret) .skip)) [1,2] (jq (jr [oA 14 0 2,ol 15 1 14,om 16 1,jx 17 3 15 16,oA 18 2 17,ol 19 1 18,jn 20 19,oo 21 (.min (.s 20) (jI 16)),jb 22 .add 21 1,jc 23 55 [.s 22],jb 24 .sub 23 1,om 4 24]) [4] .ret))⟩
def tf33 : TFn := ⟨18,[.tmp 4],jq (jr [jo 2 28 0,jw 4 0]) [1,2] (jq (jq (jr [oL 5 1 2,om 6 1,jc 7 60 [.s 5,.s 6],oo 8 (.un .not (.s 7))]) [1,2,8] (jC 8 (jq (jr [jw 4 0]) [4] .ret) .skip)) [1,2] (jq (jr [oA 9 0 2,ol 10 1 9,om 11 1,jx 12 3 10 11,oA 13 2 12,ol 14 1 13,jn 15 14,jc 16 61 [.s 15],jb 17 .sub 16 1,om 4 17]) [4] .ret))⟩
def tf34 : TFn := ⟨30,[.tmp 6],jq (jr [jo 3 28 0,jw 6 0]) [1,2,3] (jq (jq (jr [om 8 1,jn 9 8,jb 10 .sub 9 1,om 7 10]) [1,2,3,7] (jk 0 (jq (jq (jr [om 11 7,jb 12 .geq 11 0]) [1,2,3,7,12] (jC 12 .skip (.exit 0))) [1,2,3,7] (jq (.block 1 (jq (jr [om 15 1,om 16 7,jx 17 4 15 16,oA 18 0 17,ol 19 1 18,om 20 2,jB 21 .eql 19 20]) [1,2,3,7,21] (jC 21 (jq (jr [om 22 1,om 23 7,jx 24 4 22 23,oA 25 1 24,ol 26 1 25,om 6 26]) [6] .ret) .skip))) [1,2,3,7] (jr [om 13 7,jb 14 .sub 13 1,om 7 14]))))) [2,3] (jq (jr [oL 27 1 3,om 28 2,jc 29 33 [.s 27,.s 28],om 6 29]) [6] .ret))⟩
def tf35 : TFn := ⟨8,[.tmp 4],jq (jr [jo 3 3 1,jv 4 jf]) [0,3] (jq (jr [om 5 0,oo 6 (.mkfn 63 [.s 3]),jc 7 62 [.s 5,.s 6],om 4 7]) [4] .ret)⟩
def tf36 : TFn := ⟨14,[.tmp 4],jq (jr [jo 3 47 1,jv 4 je]) [0,3] (jq (jR [om 5 0,om 6 0,jn 7 6,om 8 0,jn 9 8,oo 10 (.slice 4 (.s 5) none (some (.s 7)) (some (.s 9))),oL 11 4 3,oo 12 (.buildSlice 4 47 [.s 11]),oo 13 (.append 4 47 32 (.s 10) (.s 12)),om 4 13]) [4] .ret)⟩
def tf37 : TFn := ⟨13,[.tmp 2],jq (jr [jw 2 0]) [0] (jq (jq (jr [om 3 0,jn 4 3,jb 5 .eql 4 0]) [0,5] (jC 5 (jq (jr [jw 2 0]) [2] .ret) .skip)) [0] (jq (jr [om 6 0,om 7 0,jn 8 7,jb 9 .sub 8 1,jx 10 4 6 9,oA 11 2 10,ol 12 1 11,om 2 12]) [2] .ret))⟩
def tf38 : TFn := ⟨85,[.tmp 6],jq (jr [jo 3 28 0,jo 5 47 2,jv 6 jf]) [1,3,5] (jq (jq (jr [oA 8 0 5,ol 9 1 8,jb 10 .lss 9 0,om 11 10,ja 12 11 0 5,jm 13 11 1 12,ja 14 11 0 3,jm 15 11 1 14,oF 16 11 (.len (.s 15)),oF 17 11 (.bin .geq false (.s 13) (.s 16)),oo 18 (.pick (.s 11) (.c (.bool true)) (.s 17)),om 19 18,ja 20 19 3 5,jm 21 19 1 20,oF 22 19 (.bin .lss false (.s 21) (.c (.int .i64 (-1)))),oo 23 (.pick (.s 19) (.c (.bool true)) (.s 22))]) [1,3,5,23] (jC 23 (jq (jr [jv 6 jf]) [6] .ret) .skip)) [1,3,5] (jq (jr [oL 24 1 3,om 25 1,oA 26 0 5,ol 27 1 26,jc 28 29 [.s 24,.s 25,.s 27],om 7 28]) [1,5,7] (jq (jq (jr [oA 29 3 5,ol 30 1 29,oo 31 (.bin .eql false (.s 30) (.c (.int .i64 (-1))))]) [1,5,7,31] (jC 31 (jq (jR [oA 32 1 5,ol 33 1 32,jc 34 64 [.s 33],jb 35 .geq 34 0,om 36 35,jA 37 36 1 5,jl 38 36 1 37,jT 39 36 7,oT 40 36 (.bin .and false (.s 38) (.s 39)),jA 41 36 1 5,jl 42 36 1 41,oT 43 36 (.bin .eql false (.s 40) (.s 42)),jp 44 36 43,om 45 44,jT 46 45 1,jA 47 45 0 5,jl 48 45 1 47,oT 49 45 (.call 65 [.s 46,.s 48]),oT 50 45 (.un .not (.s 49)),jp 51 45 50,om 52 51,jA 53 52 2 5,jl 54 52 1 53,jT 55 52 1,oT 56 52 (.call 37 [.s 55]),jY 57 52 .add 56 1,oT 58 52 (.bin .eql false (.s 54) (.s 57)),jp 59 52 58,om 6 59]) [6] .ret) .skip)) [1,5,7] (jq (jR [oA 60 1 5,ol 61 1 60,jb 62 .neq 61 0,om 63 62,jA 64 63 1 5,jl 65 63 1 64,jT 66 63 7,oT 67 63 (.bin .and false (.s 65) (.s 66)),jA 68 63 1 5,jl 69 63 1 68,oT 70 63 (.bin .eql false (.s 67) (.s 69)),jp 71 63 70,om 72 71,jA 73 72 1 5,jl 74 72 1 73,jT 75 72 7,oT 76 72 (.bin .neq false (.s 74) (.s 75)),jp 77 72 76,om 78 77,jA 79 78 2 5,jl 80 78 1 79,jT 81 78 1,oT 82 78 (.call 37 [.s 81]),oT 83 78 (.bin .eql false (.s 80) (.s 82)),jp 84 78 83,om 6 84]) [6] .ret))))⟩
def tf39 : TFn := ⟨69,[.tmp 6],jq (jr [jo 3 28 0,jo 5 47 2,jv 6 jf]) [1,3,5] (jq (jr [oL 8 1 3,om 9 1,oA 10 0 5,ol 11 1 10,jc 12 34 [.s 8,.s 9,.s 11],om 7 12]) [1,3,5,7] (jq (.block 0 (jq (jr [oL 14 1 3,oA 15 0 5,ol 16 1 15,jc 17 33 [.s 14,.s 16],jb 18 .eql 17 0,om 19 18,ja 20 19 3 5,jm 21 19 1 20,oF 22 19 (.bin .lss false (.s 21) (.c (.int .i64 (-1)))),oo 23 (.pick (.s 19) (.c (.bool true)) (.s 22)),om 24 23,ja 25 24 1 5,jm 26 24 1 25,jy 27 24 .eql 26 0,oo 28 (.pick (.s 24) (.c (.bool true)) (.s 27)),om 29 28,ja 30 29 1 5,jm 31 29 1 30,jF 32 29 7,oF 33 29 (.bin .andNot false (.s 31) (.s 32)),jy 34 29 .neq 33 0,oo 35 (.pick (.s 29) (.c (.bool true)) (.s 34)),om 13 35]) [1,5,7,13] (jC 13 (jq (jr [jv 6 jf]) [6] .ret) (jq (jr [oA 37 3 5,ol 38 1 37,oo 39 (.bin .eql false (.s 38) (.c (.int .i64 (-1)))),om 36 39]) [1,5,7,36] (jC 36 (jq (jR [oA 40 1 5,ol 41 1 40,jc 42 66 [.s 41],om 43 42,jT 44 43 1,jA 45 43 0 5,jl 46 43 1 45,oT 47 43 (.call 35 [.s 44,.s 46]),oT 48 43 (.un .not (.s 47)),jp 49 43 48,om 50 49,jA 51 50 2 5,jl 52 50 1 51,jT 53 50 1,oT 54 50 (.call 18 [.s 53]),jY 55 50 .add 54 1,oT 56 50 (.bin .eql false (.s 52) (.s 55)),jp 57 50 56,om 6 57]) [6] .ret) .skip))))) [1,5,7] (jq (jR [oA 58 1 5,ol 59 1 58,om 60 7,jB 61 .neq 59 60,om 62 61,jA 63 62 2 5,jl 64 62 1 63,jT 65 62 1,oT 66 62 (.call 18 [.s 65]),oT 67 62 (.bin .eql false (.s 64) (.s 66)),jp 68 62 67,om 6 68]) [6] .ret)))⟩
def tf40 : TFn := ⟨19,[.tmp 4],jq (jr [jw 4 0]) [0,1] (jq (jq (jr [om 6 0,jn 7 6,jw 8 0]) [0,1,7,8] (jk 0 (jq (jr [jB 9 .lss 8 7]) [0,1,7,8,9] (jq (jC 9 .skip (.exit 0)) [0,1,7,8] (jq (.block 1 (jq (jr [om 10 8,om 5 10]) [0,1,5,7,8] (jq (jr [om 11 1,om 12 0,om 13 5,jx 14 4 12 13,oL 15 4 14,oo 16 (.callV (.s 11) [.s 15])]) [0,1,5,7,8,16] (jC 16 (jq (jr [om 17 5,om 4 17]) [4] .ret) .skip)))) [0,1,7,8] (jr [jb 18 .add 8 1,om 8 18])))))) [] (jq (jr [oo 4 (.mov (.c (.int .i64 (-1))))]) [4] .ret))⟩
def tf41 : TFn := ⟨8,[.tmp 3],jq (jr [jo 2 47 0,jv 3 jf]) [1,2] (jq (jr [oA 4 2 2,ol 5 1 4,ol 6 1 1,jB 7 .gtr 5 6,om 3 7]) [3] .ret)⟩
def tf42 : TFn := ⟨36,[.tmp 2],jq (jr [jv 2 je]) [0] (jq (jr [jw 3 0]) [0,3] (jq (jq (jr [om 9 0,jn 10 9,jw 11 0]) [0,3,9,10,11] (jk 0 (jq (jr [jB 12 .lss 11 10]) [0,3,9,10,11,12] (jq (jC 12 .skip (.exit 0)) [0,3,9,10,11] (jq (.block 1 (jq (jr [jx 13 1 9 11,ol 14 1 13,om 5 14]) [0,3,5,9,10,11] (jq (jr [om 15 3,om 16 5,jn 17 16,jB 18 .add 15 17,om 3 18]) [0,3,9,10,11] (jq (jr [om 19 3,jb 20 .lss 19 0]) [0,3,9,10,11,20] (jC 20 (jr [oo 21 (.stop),⟨none,.stop,none⟩]) .skip))))) [0,3,9,10,11] (jr [jb 22 .add 11 1,om 11 22])))))) [0,3] (jq (jr [om 23 3,jc 24 67 [je,.s 23],om 6 24]) [0,6] (jq (jq (jr [om 25 0,jn 26 25,jw 27 0]) [6,25,26,27] (jk 2 (jq (jr [jB 28 .lss 27 26]) [6,25,26,27,28] (jq (jC 28 .skip (.exit 2)) [6,25,26,27] (jq (.block 3 (jq (jr [jx 29 1 25 27,ol 30 1 29,om 8 30]) [6,8,25,26,27] (jr [om 31 6,om 32 8,oo 33 (.append 4 47 32 (.s 31) (.s 32)),om 6 33]))) [6,25,26,27] (jr [jb 34 .add 27 1,om 27 34])))))) [6] (jq (jr [om 35 6,om 2 35]) [2] .ret)))))⟩
def tf43 : TFn := ⟨6,[.tmp 0],jq (jr [jv 0 je]) [] (jq (jr [oo 1 (.build [(.int .i64 0),(.int .i64 0),(.int .i64 0),(.str []),(.str [])] [(0,1,(jI 1))]),oo 2 (.build [(.int .i64 0),(.int .i64 0),(.int .i64 0),(.str []),(.str [])] [(0,1,(jI 1)),(1,1,(jI 2))]),oo 3 (.build [(.int .i64 0),(.int .i64 0),(.int .i64 0),(.str []),(.str [])] [(0,1,(jI 2)),(3,1,(.c (.str [97,46,49])))]),oo 4 (.build [(.int .i64 0),(.int .i64 0),(.int .i64 0),(.str []),(.str [])] [(0,1,(jI 2))]),oo 5 (.buildSlice 5 58 [.s 1,.s 2,.s 3,.s 4]),om 0 5]) [0] .ret)⟩
def tf44 : TFn := ⟨15,[.tmp 4],jq (jr [jw 4 0]) [0,1] (jq (.block 0 (jq (jr [om 6 0,om 7 1,jB 8 .andNot 6 7,jb 9 .eql 8 0,om 5 9]) [0,1,5] (jC 5 (jq (jr [jw 4 2]) [4] .ret) (jq (jr [om 11 0,om 12 1,jB 13 .and 11 12,jb 14 .eql 13 0,om 10 14]) [10] (jC 10 (jq (jr [jw 4 0]) [4] .ret) .skip))))) [] (jq (jr [jw 4 1]) [4] .ret))⟩
def tf45 : TFn := ⟨26,[.tmp 2],jq (jr [jo 1 58 0,jv 2 jf]) [1] (jq (jr [oA 3 0 1,ol 4 1 3,jc 5 68 [.s 4],om 6 5,jA 7 6 1 1,jl 8 6 1 7,oT 9 6 (.call 68 [.s 8]),jp 10 6 9,om 11 10,jA 12 11 2 1,jl 13 11 1 12,oT 14 11 (.call 68 [.s 13]),jp 15 11 14,om 16 15,jA 17 16 3 1,jl 18 16 1 17,oT 19 16 (.call 69 [.s 18,(.c (.bool true))]),jp 20 16 19,om 21 20,jA 22 21 4 1,jl 23 21 1 22,oT 24 21 (.call 69 [.s 23,jf]),jp 25 21 24,om 2 25]) [2] .ret)⟩
def tf46 : TFn := ⟨2,[.cell 0 true 2],jq (jr [oo 0 (.alloc 68 [(.fsl []),(.fsl [])])]) [0] (jq (jr [oo 1 (.build [(.fsl []),(.fsl [])] []),jS 2 0 1]) [0] .ret)⟩
def tf47 : TFn := ⟨6,[.cell 2 true 7],jq (jr [jo 1 58 0,oo 2 (.alloc 96 [(.int .i64 0),(.int .i64 0),(.int .i64 0),(.int .i64 0),(.str []),(.str []),(.bool false)])]) [1,2] (jq (jr [oL 3 5 1,jc 4 70 [.s 3],oo 5 (.build [(.int .i64 0),(.int .i64 0),(.int .i64 0),(.int .i64 0),(.str []),(.str []),(.bool false)] [(1,5,(.s 4))]),jS 7 2 5]) [2] .ret)⟩
def tf48 : TFn := ⟨6,[.cell 2 true 7],jq (jr [jo 1 58 0,oo 2 (.alloc 96 [(.int .i64 0),(.int .i64 0),(.int .i64 0),(.int .i64 0),(.str []),(.str []),(.bool false)])]) [1,2] (jq (jr [oL 3 5 1,jc 4 70 [.s 3],oo 5 (.build [(.int .i64 0),(.int .i64 0),(.int .i64 0),(.int .i64 0),(.str []),(.str []),(.bool false)] [(1,5,(.s 4)),(6,1,(.c (.bool true)))]),jS 7 2 5]) [2] .ret)⟩
def tf49 : TFn := ⟨14,[.cell 2 true 7],jq (jr [jo 1 58 0,oo 2 (.alloc 96 [(.int .i64 0),(.int .i64 0),(.int .i64 0),(.int .i64 0),(.str []),(.str []),(.bool false)])]) [1,2] (jq (jq (jr [oL 3 5 1,jc 4 71 [.s 3]]) [1,2,4] (jC 4 (jq (jr [jc 5 72 [],jS 7 2 5]) [2] .ret) .skip)) [1,2] (jq (jr [oA 6 0 1,ol 7 1 6,oA 8 1 1,ol 9 1 8,oA 10 2 1,ol 11 1 10,oo 12 (.build [(.int .i64 0),(.int .i64 0),(.int .i64 0),(.str []),(.str [])] [(0,1,(.s 7)),(1,1,(.s 9)),(2,1,(.s 11))]),jc 13 47 [.s 12],jS 7 2 13]) [2] .ret))⟩
def tf50 : TFn := ⟨21,[.cell 2 true 7],jq (jr [jo 1 58 0,oo 2 (.alloc 96 [(.int .i64 0),(.int .i64 0),(.int .i64 0),(.int .i64 0),(.str []),(.str []),(.bool false)])]) [1,2] (jq (jr [oA 6 0 1,ol 7 1 6,oA 8 1 1,ol 9 1 8,oA 10 2 1,ol 11 1 10,oo 12 (.build [(.int .i64 0),(.int .i64 0),(.int .i64 0),(.str []),(.str [])] [(0,1,(.s 7)),(1,1,(.s 9)),(2,1,(.s 11))]),jc 13 73 [.s 12],om 5 13,oe 14 0 5,oe 15 1 5,oo 3 (.alloc 58 [(.int .i64 0),(.int .i64 0),(.int .i64 0),(.str []),(.str [])]),jS 5 3 14,om 4 15]) [2,3,4] (jq (jq (jr [om 16 4,oo 17 (.un .not (.s 16))]) [2,3,17] (jC 17 (jq (jr [jc 18 74 [],jS 7 2 18]) [2] .ret) .skip)) [2,3] (jq (jr [oL 19 5 3,jc 20 47 [.s 19],jS 7 2 20]) [2] .ret)))⟩
def tf51 : TFn := ⟨19,[.tmp 4],jq (jr [jw 4 0]) [0,1] (jq (jq (jr [om 5 1,jb 6 .lss 5 0,om 7 6,jF 8 7 1,jF 9 7 0,oF 10 7 (.len (.s 9)),oF 11 7 (.bin .geq false (.s 8) (.s 10)),oo 12 (.pick (.s 7) (.c (.bool true)) (.s 11))]) [0,1,12] (jC 12 (jq (jr [om 13 1,jb 14 .rem 13 3,om 4 14]) [4] .ret) .skip)) [0,1] (jq (jr [om 15 0,om 16 1,jx 17 1 15 16,ol 18 1 17,om 4 18]) [4] .ret))⟩
def tf52 : TFn := ⟨41,[.cell 4 true 2],jq (jr [oo 4 (.alloc 68 [(.fsl []),(.fsl [])])]) [0,1,4] (jq (jr [om 8 0,jc 9 25 [.s 8,jI 8],om 5 9]) [0,1,4,5] (jq (jr [jc 10 46 [],oo 6 (.alloc 68 [(.fsl []),(.fsl [])]),jS 2 6 10]) [0,1,4,5,6] (jq (jq (jr [jw 7 0]) [0,1,4,5,6,7] (jk 0 (jq (jq (jr [om 11 7,om 12 1,jn 13 12,jB 14 .lss 11 13]) [0,1,4,5,6,7,14] (jC 14 .skip (.exit 0))) [0,1,4,5,6,7] (jq (.block 1 (jq (jr [om 17 5,om 18 7,oo 19 (.conv .u64 (.s 18)),jB 20 .shr 17 19,jb 21 .and 20 1,jb 22 .eql 21 1]) [0,1,4,5,6,7,22] (jC 22 (jR [oL 23 2 6,om 24 1,om 25 7,jx 26 8 24 25,oA 27 0 26,oL 28 5 27,jc 29 24 [.s 28],jc 30 75 [.s 23,.s 29],jS 2 6 30]) .skip))) [0,1,4,5,6,7] (jr [om 15 7,jb 16 .add 15 1,om 7 16]))))) [0,4,6] (jq (jq (jr [om 31 0,jc 32 25 [.s 31,jI 6]]) [4,6,32] (.block 2 (jq (jr [jb 34 .eql 32 0,om 33 34]) [4,6,32,33] (jC 33 (jq (jr [jc 35 76 [],jS 2 4 35]) [4] .ret) (jq (jr [jb 37 .eql 32 1,om 36 37]) [4,6,36] (jC 36 (jq (jr [oL 38 2 6,jc 39 77 [.s 38],jS 2 4 39]) [4] .ret) .skip)))))) [4,6] (jq (jr [oL 40 2 6,jS 2 4 40]) [4] .ret)))))⟩
def tf53 : TFn := ⟨35,[.tmp 6,.tmp 7],jq (jr [jo 3 28 0,jw 6 0,jw 7 0]) [1,2,3] (jq (jq (jr [jw 8 0]) [1,2,3,8] (jk 0 (jq (jq (jr [om 10 8,om 11 1,jn 12 11,jB 13 .lss 10 12]) [1,2,3,8,13] (jC 13 .skip (.exit 0))) [1,2,3,8] (jq (.block 1 (jq (jq (jR [oL 16 1 3,om 17 2,om 18 1,om 19 8,jx 20 1 18 19,ol 21 1 20,jc 22 78 [.s 16,.s 17,.s 21]]) [1,2,3,8,22] (jC 22 (jq (jr [om 23 8,om 6 23,oo 7 (.mov (.c (.int .i64 (-1))))]) [6,7] .ret) .skip)) [1,2,3,8] (jq (jR [oL 24 1 3,om 25 2,om 26 1,om 27 8,jx 28 1 26 27,ol 29 1 28,jc 30 79 [.s 24,.s 25,.s 29],om 9 30]) [1,2,3,8,9] (jq (jr [om 31 9,jb 32 .geq 31 0]) [1,2,3,8,9,32] (jC 32 (jq (jr [om 33 8,om 34 9,om 6 33,om 7 34]) [6,7] .ret) .skip))))) [1,2,3,8] (jr [om 14 8,jb 15 .add 14 1,om 8 15]))))) [] (jq (jr [oo 6 (.mov (.c (.int .i64 (-1)))),oo 7 (.mov (.c (.int .i64 (-1))))]) [6,7] .ret))⟩
def tf54 : TFn := ⟨29,[.tmp 6],jq (jr [jo 3 28 0,jw 6 0]) [1,2,3] (jq (jq (jr [jw 7 0]) [1,2,3,7] (jk 0 (jq (jq (jr [om 8 7,om 9 1,jn 10 9,jB 11 .lss 8 10]) [1,2,3,7,11] (jC 11 .skip (.exit 0))) [1,2,3,7] (jq (.block 1 (jq (jr [om 14 1,om 15 7,jx 16 2 14 15,oA 17 0 16,ol 18 1 17,om 19 2,jB 20 .eql 18 19]) [1,2,3,7,20] (jC 20 (jq (jr [om 21 1,om 22 7,jx 23 2 21 22,oA 24 1 23,ol 25 1 24,om 6 25]) [6] .ret) .skip))) [1,2,3,7] (jr [om 12 7,jb 13 .add 12 1,om 7 13]))))) [2,3] (jq (jr [oL 26 1 3,om 27 2,jc 28 32 [.s 26,.s 27],om 6 28]) [6] .ret))⟩
def tf55 : TFn := ⟨13,[.tmp 2],jq (jr [jw 2 0]) [0] (jq (jr [jw 3 1]) [0,3] (jq (jq (jr [jw 4 0]) [0,3,4] (jk 0 (jq (jq (jr [om 5 4,om 6 0,jB 7 .lss 5 6]) [0,3,4,7] (jC 7 .skip (.exit 0))) [0,3,4] (jq (.block 1 (jr [om 10 3,jb 11 .mul 10 2,om 3 11])) [0,3,4] (jr [om 8 4,jb 9 .add 8 1,om 4 9]))))) [3] (jq (jr [om 12 3,om 2 12]) [2] .ret)))⟩
def tf56 : TFn := ⟨63,[.tmp 10,.tmp 11],jq (jr [jo 5 28 0,jv 10 je,jv 11 jf]) [1,2,3,4,5] (jq (jr [om 15 1,oL 16 1 5,om 17 1,jc 18 32 [.s 16,.s 17],om 19 2,oo 20 (.conv .u64 (.s 19)),oo 21 (.bin .shl false (jI 2) (.s 20)),jB 22 .and 18 21,oo 23 (.build [(.int .i64 0),(.int .i64 0)] [(0,1,(.s 15)),(1,1,(.s 22))]),oo 24 (.buildSlice 2 24 [.s 23]),om 12 24]) [3,4,5,12] (jq (jq (jr [jw 13 0]) [3,4,5,12,13] (jk 0 (jq (jq (jr [om 25 13,om 26 3,jn 27 26,jB 28 .lss 25 27]) [3,4,5,12,13,28] (jC 28 .skip (.exit 0))) [3,4,5,12,13] (jq (.block 1 (jq (jR [oL 31 1 5,om 32 3,om 33 13,jx 34 3 32 33,oL 35 3 34,jc 36 80 [.s 31,.s 35],om 14 36]) [3,4,5,12,13,14] (jq (jq (jr [om 37 4,oo 38 (.un .not (.s 37))]) [3,4,5,12,13,14,38] (jC 38 (jR [oL 39 1 5,om 40 3,om 41 13,jx 42 3 40 41,oA 43 0 42,ol 44 1 43,jc 45 32 [.s 39,.s 44],om 46 14,jB 47 .sub 45 46,om 14 47]) .skip)) [3,4,5,12,13,14] (jr [om 48 12,om 49 3,om 50 13,jx 51 3 49 50,oA 52 0 51,ol 53 1 52,om 54 14,oo 55 (.build [(.int .i64 0),(.int .i64 0)] [(0,1,(.s 53)),(1,1,(.s 54))]),oo 56 (.buildSlice 2 24 [.s 55]),oo 57 (.append 2 24 16 (.s 48) (.s 56)),om 12 57])))) [3,4,5,12,13] (jr [om 29 13,jb 30 .add 29 1,om 13 30]))))) [5,12] (jq (jr [oL 58 1 5,om 59 12,jc 60 31 [.s 58,.s 59],oe 61 0 60,oe 62 1 60,om 10 61,om 11 62]) [10,11] .ret)))⟩
def tf57 : TFn := ⟨79,[.tmp 6],jq (jr [jo 3 28 0,jo 5 79 2,jv 6 je]) [1,3,5] (jq (jq (jr [jw 7 0]) [1,3,5,7] (jk 0 (jq (jq (jr [om 10 7,om 11 1,jn 12 11,jB 13 .lss 10 12]) [1,3,5,7,13] (jC 13 .skip (.exit 0))) [1,3,5,7] (jq (.block 1 (jq (jr [om 16 1,om 17 7,jx 18 5 16 17,oL 19 5 18,oo 8 (.alloc 79 [(.int .i64 0),(.int .i64 0),(.int .i64 0),(.int .i64 0),(.fsl [])]),jS 5 8 19]) [1,3,5,7,8] (jq (jR [oA 20 0 8,ol 21 1 20,oA 22 0 5,ol 23 1 22,jB 24 .eql 21 23,om 25 24,jA 26 25 1 8,jl 27 25 1 26,jA 28 25 1 5,jl 29 25 1 28,oT 30 25 (.bin .eql false (.s 27) (.s 29)),jp 31 25 30,om 32 31,jA 33 32 4 8,jl 34 32 1 33,jA 35 32 1 5,jl 36 32 1 35,oT 37 32 (.call 82 [.s 34,.s 36]),jA 38 32 4 5,jl 39 32 1 38,jA 40 32 1 5,jl 41 32 1 40,oT 42 32 (.call 82 [.s 39,.s 41]),oT 43 32 (.call 81 [.s 37,.s 42]),jp 44 32 43]) [1,3,5,7,8,44] (jC 44 (jq (jR [oA 45 1 5,ol 46 1 45,oL 47 1 3,oA 48 4 8,ol 49 1 48,oA 50 1 5,ol 51 1 50,jc 52 54 [.s 47,.s 49,.s 51],oL 53 1 3,oA 54 4 5,ol 55 1 54,oA 56 1 5,ol 57 1 56,jc 58 54 [.s 53,.s 55,.s 57],jB 59 .or 52 58,oo 60 (.build [(.int .i64 0),(.int .i64 0)] [(0,1,(.s 46)),(1,1,(.s 59))]),oo 61 (.buildSlice 2 24 [.s 60]),oA 62 4 8,ol 63 1 62,oA 64 1 5,ol 65 1 64,jc 66 82 [.s 63,.s 65],oo 67 (.append 2 24 16 (.s 61) (.s 66)),om 9 67]) [1,7,9] (jq (jr [om 68 1,om 69 7,om 70 9,jc 71 83 [.s 70],jx 72 5 68 69,oA 73 4 72,jS 1 73 71]) [1] (jq (jr [om 74 1,om 6 74]) [6] .ret))) .skip)))) [1,3,5,7] (jr [om 14 7,jb 15 .add 14 1,om 7 15]))))) [1,5] (jq (jr [om 75 1,oL 76 5 5,oo 77 (.buildSlice 5 79 [.s 76]),oo 78 (.append 5 79 56 (.s 75) (.s 77)),om 6 78]) [6] .ret))⟩
def tf58 : TFn := ⟨19,[.tmp 2],jq (jr [jo 1 28 0,jv 2 je]) [1] (jq (jr [jv 3 je]) [1,3] (jq (jq (jr [jw 4 0]) [1,3,4] (jk 0 (jq (jq (jr [om 5 4,oA 6 0 1,ol 7 1 6,jn 8 7,jB 9 .lss 5 8]) [1,3,4,9] (jC 9 .skip (.exit 0))) [1,3,4] (jq (.block 1 (jr [om 12 3,oL 13 1 1,om 14 4,jc 15 32 [.s 13,.s 14],oo 16 (.buildSlice 1 3 [.s 15]),oo 17 (.append 1 3 8 (.s 12) (.s 16)),om 3 17])) [1,3,4] (jr [om 10 4,jb 11 .add 10 1,om 4 11]))))) [3] (jq (jr [om 18 3,om 2 18]) [2] .ret)))⟩
def tf59 : TFn := ⟨37,[.tmp 4,.tmp 5],jq (jr [jo 2 28 0,jv 4 je,jv 5 jf]) [1,2] (jq (jr [jv 6 je]) [1,2,6] (jq (jq (jr [jw 7 0]) [1,2,6,7] (jk 0 (jq (jq (jr [om 8 7,om 9 1,jn 10 9,jB 11 .lss 8 10]) [1,2,6,7,11] (jC 11 .skip (.exit 0))) [1,2,6,7] (jq (.block 1 (jq (jq (jr [om 14 1,om 15 7,jx 16 1 14 15,ol 17 1 16,jb 18 .eql 17 0]) [1,2,6,7,18] (jC 18 (jq (jr [jv 4 je,jv 5 jf]) [4,5] .ret) .skip)) [1,2,6,7] (jq (jR [om 19 1,om 20 7,jx 21 1 19 20,ol 22 1 21,oL 23 1 2,om 24 7,jc 25 32 [.s 23,.s 24],jB 26 .neq 22 25]) [1,2,6,7,26] (jC 26 (jr [om 27 6,om 28 7,om 29 1,om 30 7,jx 31 1 29 30,ol 32 1 31,oo 33 (.build [(.int .i64 0),(.int .i64 0)] [(0,1,(.s 28)),(1,1,(.s 32))]),oo 34 (.buildSlice 2 24 [.s 33]),oo 35 (.append 2 24 16 (.s 27) (.s 34)),om 6 35]) .skip)))) [1,2,6,7] (jr [om 12 7,jb 13 .add 12 1,om 7 13]))))) [6] (jq (jr [om 36 6,om 4 36,oo 5 (.mov (.c (.bool true)))]) [4,5] .ret)))⟩
def tf60 : TFn := ⟨14,[.tmp 4],jq (jr [jo 2 28 0,jv 4 jf]) [1,2] (jq (jr [om 5 1,jb 6 .geq 5 0,om 7 6,jT 8 7 1,jA 9 7 0 2,jl 10 7 1 9,oT 11 7 (.len (.s 10)),oT 12 7 (.bin .lss false (.s 8) (.s 11)),jp 13 7 12,om 4 13]) [4] .ret)⟩
def tf61 : TFn := ⟨6,[.tmp 2],jq (jr [jw 2 0]) [0] (jq (jr [om 3 0,jb 4 .add 3 1,oo 5 (.bin .shl false (jI 1) (.s 4)),om 2 5]) [2] .ret)⟩
def tf62 : TFn := ⟨9,[.tmp 4],jq (jr [jv 4 jf]) [0,1] (jq (jr [om 5 0,om 6 1,jc 7 40 [.s 5,.s 6],jb 8 .geq 7 0,om 4 8]) [4] .ret)⟩
def tf63 : TFn := ⟨13,[.tmp 3],jq (jr [jo 2 47 0,jv 3 jf]) [1,2] (jq (jr [oA 4 3 2,ol 5 1 4,oo 6 (.bin .eql false (.s 5) (.c (.int .i64 (-1)))),om 7 6,jA 8 7 0 2,jl 9 7 1 8,jl 10 7 1 1,oT 11 7 (.bin .eql false (.s 9) (.s 10)),jp 12 7 11,om 3 12]) [3] .ret)⟩
def tf64 : TFn := ⟨12,[.tmp 2],jq (jr [jw 2 0]) [0] (jq (jr [om 4 0,jc 5 28 [.s 4],om 3 5]) [3] (jq (jq (jr [om 6 3,jn 7 6,jb 8 .neq 7 1]) [3,8] (jC 8 (jq (jr [oo 2 (.mov (.c (.int .i64 (-1))))]) [2] .ret) .skip)) [3] (jq (jr [om 9 3,oo 10 (.indexAddr 1 (.s 9) (jI 0)),ol 11 1 10,om 2 11]) [2] .ret)))⟩
def tf65 : TFn := ⟨27,[.tmp 4],jq (jr [jv 4 jf]) [0,1] (jq (jq (jr [jw 5 0]) [0,1,5] (jk 0 (jq (jq (jr [om 6 5,om 7 0,jn 8 7,jB 9 .lss 6 8]) [0,1,5,9] (jC 9 .skip (.exit 0))) [0,1,5] (jq (.block 1 (jq (jr [om 12 0,om 13 5,jx 14 4 12 13,oA 15 0 14,ol 16 1 15,om 17 1,jB 18 .eql 16 17,om 19 18,jT 20 19 0,jT 21 19 5,oT 22 19 (.indexAddr 4 (.s 20) (.s 21)),jA 23 19 3 22,jl 24 19 1 23,oT 25 19 (.bin .eql false (.s 24) (.c (.int .i64 (-1)))),jp 26 19 25]) [0,1,5,26] (jC 26 (jq (jr [oo 4 (.mov (.c (.bool true)))]) [4] .ret) .skip))) [0,1,5] (jr [om 10 5,jb 11 .add 10 1,om 5 11]))))) [] (jq (jr [jv 4 jf]) [4] .ret))⟩
def tf66 : TFn := ⟨12,[.tmp 2],jq (jr [jv 2 jf]) [0] (jq (jr [om 3 0,jb 4 .gtr 3 1,om 5 4,jT 6 5 0,jT 7 5 0,jY 8 5 .sub 7 1,oT 9 5 (.bin .and false (.s 6) (.s 8)),jY 10 5 .eql 9 0,jp 11 5 10,om 2 11]) [2] .ret)⟩
def tf67 : TFn := ⟨27,[.tmp 4],jq (jr [jv 4 je]) [0,1] (jq (jq (jr [om 5 1,jb 6 .lss 5 0]) [0,1,6] (jC 6 (jr [oo 7 (.stop),⟨none,.stop,none⟩]) .skip)) [0,1] (jq (jq (jr [om 8 1,om 9 0,oo 10 (.capF (.s 9)),om 11 0,jn 12 11,jB 13 .sub 10 12,jB 14 .sub 8 13,om 1 14]) [0,1] (jq (jr [om 15 1,jb 16 .gtr 15 0]) [0,1,16] (jC 16 (jr [om 17 0,om 18 0,oo 19 (.capF (.s 18)),oo 20 (.slice 4 (.s 17) none (some (.s 19)) none),om 21 1,oo 22 (.appz 4 47 32 [(.int .i64 0),(.int .i64 0),(.int .i64 0),(.int .i64 0)] (.s 20) (.s 21)),om 23 0,jn 24 23,oo 25 (.slice 4 (.s 22) none (some (.s 24)) none),om 0 25]) .skip))) [0] (jq (jr [om 26 0,om 4 26]) [4] .ret)))⟩
def tf68 : TFn := ⟨9,[.tmp 2],jq (jr [jv 2 jf]) [0] (jq (jr [om 3 0,jb 4 .geq 3 0,om 5 4,jT 6 5 0,jY 7 5 .leq 6 9999,jp 8 5 7,om 2 8]) [2] .ret)⟩
def tf69 : TFn := ⟨48,[.tmp 4],jq (jr [jv 4 jf]) [0,1] (jq (jq (jr [om 9 0,oo 10 (.bin .eql false (.s 9) (.c (.str [])))]) [0,1,10] (jC 10 (jq (jr [oo 4 (.mov (.c (.bool true)))]) [4] .ret) .skip)) [0,1] (jq (jr [om 11 0,jc 12 84 [.s 11,(.c (.int .u8 46))],om 5 12]) [1,5] (jq (jq (jr [om 13 5,jn 14 13,jb 15 .gtr 14 4]) [1,5,15] (jC 15 (jq (jr [jv 4 jf]) [4] .ret) .skip)) [1,5] (jq (jq (jr [jw 6 0]) [1,5,6] (jk 0 (jq (jq (jr [om 16 6,om 17 5,jn 18 17,jB 19 .lss 16 18]) [1,5,6,19] (jC 19 .skip (.exit 0))) [1,5,6] (jq (.block 1 (jq (jq (jr [om 22 5,om 23 6,jx 24 1 22 23,ol 25 1 24,jc 26 85 [.s 25],oo 27 (.un .not (.s 26))]) [1,5,6,27] (jC 27 (jq (jr [jv 4 jf]) [4] .ret) .skip)) [1,5,6] (jq (jr [om 29 5,om 30 6,jx 31 1 29 30,ol 32 1 31,jc 33 86 [.s 32],om 28 33,oe 34 0 28,oe 35 1 28,om 7 34,om 8 35]) [1,5,6,8] (jq (jr [om 36 1,om 37 36,jT 38 37 5,jT 39 37 6,oT 40 37 (.indexAddr 1 (.s 38) (.s 39)),jl 41 37 1 40,oT 42 37 (.call 87 [.s 41]),jp 43 37 42,om 44 43,jT 45 44 8,oT 46 44 (.un .not (.s 45)),jp 47 44 46]) [1,5,6,47] (jC 47 (jq (jr [jv 4 jf]) [4] .ret) .skip))))) [1,5,6] (jr [om 20 6,jb 21 .add 20 1,om 6 21]))))) [] (jq (jr [oo 4 (.mov (.c (.bool true)))]) [4] .ret)))))⟩
def tf70 : TFn := ⟨5,[.cell 2 true 5],jq (jr [jo 1 58 0,oo 2 (.alloc 58 [(.int .i64 0),(.int .i64 0),(.int .i64 0),(.str []),(.str [])])]) [1,2] (jq (jr [oA 3 4 1,⟨none,.store 1 (.s 3) (.c (.str [])),none⟩]) [1,2] (jq (jr [oL 4 5 1,jS 5 2 4]) [2] .ret))⟩
def tf71 : TFn := ⟨16,[.tmp 2],jq (jr [jo 1 58 0,jv 2 jf]) [1] (jq (jr [oA 3 0 1,ol 4 1 3,jb 5 .eql 4 0,om 6 5,jA 7 6 1 1,jl 8 6 1 7,jY 9 6 .eql 8 0,jp 10 6 9,om 11 10,jA 12 11 2 1,jl 13 11 1 12,jY 14 11 .eql 13 0,jp 15 11 14,om 2 15]) [2] .ret)⟩
def tf72 : TFn := ⟨2,[.cell 0 true 7],jq (jr [oo 0 (.alloc 96 [(.int .i64 0),(.int .i64 0),(.int .i64 0),(.int .i64 0),(.str []),(.str []),(.bool false)])]) [0] (jq (jr [oo 1 (.build [(.int .i64 0),(.int .i64 0),(.int .i64 0),(.int .i64 0),(.str []),(.str []),(.bool false)] [(0,1,(.c (.int .i64 (-1))))]),jS 7 0 1]) [0] .ret)⟩
def tf73 : TFn := ⟨34,[.cell 2 true 5,.tmp 3],jq (jr [jo 1 58 0,oo 2 (.alloc 58 [(.int .i64 0),(.int .i64 0),(.int .i64 0),(.str []),(.str [])]),jv 3 jf]) [1,2] (jq (jq (jr [oL 7 5 1,jc 8 45 [.s 7],oo 9 (.un .not (.s 8))]) [1,2,9] (jC 9 (jq (jr [oo 10 (.build [(.int .i64 0),(.int .i64 0),(.int .i64 0),(.str []),(.str [])] []),jS 5 2 10,jv 3 jf]) [2,3] .ret) .skip)) [1,2] (jq (jq (jr [oA 11 3 1,ol 12 1 11,oo 13 (.bin .neq false (.s 12) (.c (.str [])))]) [1,2,13] (jC 13 (jq (jr [oA 14 0 1,ol 15 1 14,oA 16 1 1,ol 17 1 16,oA 18 2 1,ol 19 1 18,oo 20 (.build [(.int .i64 0),(.int .i64 0),(.int .i64 0),(.str []),(.str [])] [(0,1,(.s 15)),(1,1,(.s 17)),(2,1,(.s 19))]),jS 5 2 20,oo 3 (.mov (.c (.bool true)))]) [2,3] .ret) .skip)) [1,2] (jq (jq (jr [jw 4 2]) [1,2,4] (jk 0 (jq (jq (jr [om 21 4,jb 22 .geq 21 0]) [1,2,4,22] (jC 22 .skip (.exit 0))) [1,2,4] (jq (.block 1 (jq (jr [oL 26 5 1,om 27 4,jc 28 88 [.s 26,.s 27],om 25 28,oe 29 0 25,oe 30 1 25,oo 5 (.alloc 58 [(.int .i64 0),(.int .i64 0),(.int .i64 0),(.str []),(.str [])]),jS 5 5 29,om 6 30]) [1,2,4,5,6] (jq (jr [om 31 6]) [1,2,4,5,31] (jC 31 (jq (jr [oL 32 5 5,jS 5 2 32,oo 3 (.mov (.c (.bool true)))]) [2,3] .ret) .skip)))) [1,2,4] (jr [om 23 4,jb 24 .sub 23 1,om 4 24]))))) [2] (jq (jr [oo 33 (.build [(.int .i64 0),(.int .i64 0),(.int .i64 0),(.str []),(.str [])] []),jS 5 2 33,jv 3 jf]) [2,3] .ret))))⟩
def tf74 : TFn := ⟨2,[.cell 0 true 7],jq (jr [oo 0 (.alloc 96 [(.int .i64 0),(.int .i64 0),(.int .i64 0),(.int .i64 0),(.str []),(.str []),(.bool false)])]) [0] (jq (jr [oo 1 (.build [(.int .i64 0),(.int .i64 0),(.int .i64 0),(.int .i64 0),(.str []),(.str []),(.bool false)] [(0,1,(jI 1))]),jS 7 0 1]) [0] .ret)⟩
def tf75 : TFn := ⟨25,[.cell 4 true 2],jq (jr [jo 2 68 0,jo 3 68 1,oo 4 (.alloc 68 [(.fsl []),(.fsl [])])]) [2,3,4] (jq (jq (jr [oL 5 2 2,jc 6 89 [.s 5],oo 7 (.un .not (.s 6)),om 8 7,jM 9 8 2 3,oF 10 8 (.call 89 [.s 9]),oF 11 8 (.un .not (.s 10)),oo 12 (.pick (.s 8) (.c (.bool true)) (.s 11))]) [2,3,4,12] (jC 12 (jq (jr [jc 13 46 [],jS 2 4 13]) [4] .ret) .skip)) [2,3,4] (jq (jR [oA 14 0 2,ol 15 1 14,oA 16 0 3,ol 17 1 16,jc 18 90 [.s 15,.s 17],oA 19 1 2,ol 20 1 19,oA 21 1 3,ol 22 1 21,jc 23 90 [.s 20,.s 22],oo 24 (.build [(.fsl []),(.fsl [])] [(0,1,(.s 18)),(1,1,(.s 23))]),jS 2 4 24]) [4] .ret))⟩
def tf76 : TFn := ⟨4,[.cell 0 true 2],jq (jr [oo 0 (.alloc 68 [(.fsl []),(.fsl [])])]) [0] (jq (jr [jc 1 91 [],jc 2 91 [],oo 3 (.build [(.fsl []),(.fsl [])] [(0,1,(.s 1)),(1,1,(.s 2))]),jS 2 0 3]) [0] .ret)⟩
def tf77 : TFn := ⟨14,[.cell 2 true 2],jq (jr [jo 1 68 0,oo 2 (.alloc 68 [(.fsl []),(.fsl [])])]) [1,2] (jq (jq (jr [oL 3 2 1,jc 4 89 [.s 3],oo 5 (.un .not (.s 4))]) [1,2,5] (jC 5 (jq (jr [jc 6 46 [],jS 2 2 6]) [2] .ret) .skip)) [1,2] (jq (jR [oA 7 0 1,ol 8 1 7,jc 9 92 [.s 8],oA 10 1 1,ol 11 1 10,jc 12 92 [.s 11],oo 13 (.build [(.fsl []),(.fsl [])] [(0,1,(.s 9)),(1,1,(.s 12))]),jS 2 2 13]) [2] .ret))⟩
def tf78 : TFn := ⟨29,[.tmp 6],jq (jr [jo 3 28 0,jv 6 jf]) [1,2,3] (jq (jq (jr [jw 7 0]) [1,2,3,7] (jk 0 (jq (jq (jr [om 8 7,om 9 2,jn 10 9,jB 11 .lss 8 10]) [1,2,3,7,11] (jC 11 .skip (.exit 0))) [1,2,3,7] (jq (.block 1 (jq (jR [oL 14 1 3,om 15 1,om 16 2,om 17 7,jx 18 2 16 17,oA 19 0 18,ol 20 1 19,jc 21 29 [.s 14,.s 15,.s 20],om 22 2,om 23 7,jx 24 2 22 23,oA 25 1 24,ol 26 1 25,jc 27 93 [.s 21,.s 26],jb 28 .neq 27 2]) [1,2,3,7,28] (jC 28 (jq (jr [jv 6 jf]) [6] .ret) .skip))) [1,2,3,7] (jr [om 12 7,jb 13 .add 12 1,om 7 13]))))) [] (jq (jr [oo 6 (.mov (.c (.bool true)))]) [6] .ret))⟩
def tf79 : TFn := ⟨41,[.tmp 6],jq (jr [jo 3 28 0,jw 6 0]) [1,2,3] (jq (jr [oo 7 (.mov (.c (.int .i64 (-1))))]) [1,2,3,7] (jq (jq (jr [jw 8 0]) [1,2,3,7,8] (jk 0 (jq (jq (jr [om 9 8,om 10 2,jn 11 10,jB 12 .lss 9 11]) [1,2,3,7,8,12] (jC 12 .skip (.exit 0))) [1,2,3,7,8] (jq (.block 1 (jq (jR [oL 15 1 3,om 16 1,om 17 2,om 18 8,jx 19 2 17 18,oA 20 0 19,ol 21 1 20,jc 22 29 [.s 15,.s 16,.s 21],om 23 2,om 24 8,jx 25 2 23 24,oA 26 1 25,ol 27 1 26,jc 28 93 [.s 22,.s 27]]) [1,2,3,7,8,28] (.block 2 (jq (jr [jb 30 .eql 28 0,om 29 30]) [1,2,3,7,8,28,29] (jC 29 (jq (jr [oo 6 (.mov (.c (.int .i64 (-1))))]) [6] .ret) (jq (jr [jb 32 .eql 28 1,om 31 32]) [1,2,3,7,8,31] (jC 31 (jq (jq (jr [om 33 7,jb 34 .geq 33 0]) [1,2,3,8,34] (jC 34 (jq (jr [oo 6 (.mov (.c (.int .i64 (-1))))]) [6] .ret) .skip)) [1,2,3,8] (jr [om 35 2,om 36 8,jx 37 2 35 36,oA 38 0 37,ol 39 1 38,om 7 39])) .skip))))))) [1,2,3,7,8] (jr [om 13 8,jb 14 .add 13 1,om 8 14]))))) [7] (jq (jr [om 40 7,om 6 40]) [6] .ret)))⟩
def tf80 : TFn := ⟨50,[.tmp 4],jq (jr [jo 2 28 0,jo 3 71 1,jw 4 0]) [2,3] (jq (jq (jr [oA 8 0 3,ol 9 1 8,jb 10 .lss 9 0,om 11 10,ja 12 11 0 3,jm 13 11 1 12,ja 14 11 0 2,jm 15 11 1 14,oF 16 11 (.len (.s 15)),oF 17 11 (.bin .geq false (.s 13) (.s 16)),oo 18 (.pick (.s 11) (.c (.bool true)) (.s 17))]) [2,3,18] (jC 18 (jq (jr [jw 4 0]) [4] .ret) .skip)) [2,3] (jq (jr [jw 5 0]) [2,3,5] (jq (jr [oA 19 0 2,ol 20 1 19,oA 21 0 3,ol 22 1 21,jx 23 3 20 22,oA 24 2 23,ol 25 1 24,om 6 25]) [3,5,6] (jq (jq (jr [jw 7 0]) [3,5,6,7] (jk 0 (jq (jq (jr [om 26 7,om 27 6,jn 28 27,jB 29 .lss 26 28,om 30 29,jT 31 30 7,jY 32 30 .lss 31 16,jp 33 30 32]) [3,5,6,7,33] (jC 33 .skip (.exit 0))) [3,5,6,7] (jq (.block 1 (jq (jR [oA 36 1 3,oL 37 2 36,om 38 6,om 39 7,jx 40 8 38 39,oA 41 0 40,oL 42 5 41,jc 43 94 [.s 37,.s 42]]) [3,5,6,7,43] (jC 43 (jr [om 44 5,om 45 7,jb 46 .add 45 1,jc 47 55 [.s 46],jB 48 .add 44 47,om 5 48]) .skip))) [3,5,6,7] (jr [om 34 7,jb 35 .add 34 1,om 7 35]))))) [5] (jq (jr [om 49 5,om 4 49]) [4] .ret)))))⟩
def tf81 : TFn := ⟨26,[.tmp 4],jq (jr [jv 4 jf]) [0,1] (jq (jq (jr [om 6 0,jn 7 6,om 8 1,jn 9 8,jB 10 .neq 7 9]) [0,1,10] (jC 10 (jq (jr [jv 4 jf]) [4] .ret) .skip)) [0,1] (jq (jq (jr [jw 5 0]) [0,1,5] (jk 0 (jq (jq (jr [om 11 5,om 12 0,jn 13 12,jB 14 .lss 11 13]) [0,1,5,14] (jC 14 .skip (.exit 0))) [0,1,5] (jq (.block 1 (jq (jR [om 17 0,om 18 5,jx 19 2 17 18,oL 20 2 19,om 21 1,om 22 5,jx 23 2 21 22,oL 24 2 23,oo 25 (.eqs true [0,0] (.s 20) (.s 24))]) [0,1,5,25] (jC 25 (jq (jr [jv 4 jf]) [4] .ret) .skip))) [0,1,5] (jr [om 15 5,jb 16 .add 15 1,om 5 16]))))) [] (jq (jr [oo 4 (.mov (.c (.bool true)))]) [4] .ret)))⟩
def tf82 : TFn := ⟨28,[.tmp 4],jq (jr [jv 4 je]) [0,1] (jq (jr [jv 5 je]) [0,1,5] (jq (jq (jr [jw 6 0]) [0,1,5,6] (jk 0 (jq (jq (jr [om 7 6,om 8 0,jn 9 8,jB 10 .lss 7 9]) [0,1,5,6,10] (jC 10 .skip (.exit 0))) [0,1,5,6] (jq (.block 1 (jq (jr [om 13 0,om 14 6,jx 15 2 13 14,oA 16 0 15,ol 17 1 16,om 18 1,jB 19 .neq 17 18]) [0,1,5,6,19] (jC 19 (jr [om 20 5,om 21 0,om 22 6,jx 23 2 21 22,oL 24 2 23,oo 25 (.buildSlice 2 24 [.s 24]),oo 26 (.append 2 24 16 (.s 20) (.s 25)),om 5 26]) .skip))) [0,1,5,6] (jr [om 11 6,jb 12 .add 11 1,om 6 12]))))) [5] (jq (jr [om 27 5,om 4 27]) [4] .ret)))⟩
def tf83 : TFn := ⟨31,[.tmp 2],jq (jr [jv 2 je]) [0] (jq (jr [jv 3 je]) [0,3] (jq (jq (jr [jw 4 0]) [0,3,4] (jk 0 (jq (jq (jr [om 6 4,jb 7 .lss 6 48]) [0,3,4,7] (jC 7 .skip (.exit 0))) [0,3,4] (jq (.block 1 (jq (jr [jw 5 0]) [0,3,4,5] (jk 2 (jq (jq (jr [om 10 5,om 11 0,jn 12 11,jB 13 .lss 10 12]) [0,3,4,5,13] (jC 13 .skip (.exit 2))) [0,3,4,5] (jq (.block 3 (jq (jr [om 16 0,om 17 5,jx 18 2 16 17,oA 19 0 18,ol 20 1 19,om 21 4,jB 22 .eql 20 21]) [0,3,4,5,22] (jC 22 (jr [om 23 3,om 24 0,om 25 5,jx 26 2 24 25,oL 27 2 26,oo 28 (.buildSlice 2 24 [.s 27]),oo 29 (.append 2 24 16 (.s 23) (.s 28)),om 3 29]) .skip))) [0,3,4,5] (jr [om 14 5,jb 15 .add 14 1,om 5 15])))))) [0,3,4] (jr [om 8 4,jb 9 .add 8 1,om 4 9]))))) [3] (jq (jr [om 30 3,om 2 30]) [2] .ret)))⟩
def tf84 : TFn := ⟨34,[.tmp 4],jq (jr [jv 4 je]) [0,1] (jq (jr [jv 5 je]) [0,1,5] (jq (jr [jw 6 0]) [0,1,5,6] (jq (jq (jr [jw 7 0]) [0,1,5,6,7] (jk 0 (jq (jq (jr [om 8 7,om 9 0,oo 10 (.lenStr (.s 9)),jB 11 .lss 8 10]) [0,1,5,6,7,11] (jC 11 .skip (.exit 0))) [0,1,5,6,7] (jq (.block 1 (jq (jr [om 14 0,om 15 7,oo 16 (.indexStr (.s 14) (.s 15)),om 17 1,jB 18 .eql 16 17]) [0,1,5,6,7,18] (jC 18 (jq (jr [om 19 5,om 20 0,om 21 6,om 22 7,oo 23 (.sliceStr (.s 20) (some (.s 21)) (some (.s 22))),oo 24 (.buildSlice 1 9 [.s 23]),oo 25 (.append 1 9 16 (.s 19) (.s 24)),om 5 25]) [0,1,5,7] (jr [om 26 7,jb 27 .add 26 1,om 6 27])) .skip))) [0,1,5,6,7] (jr [om 12 7,jb 13 .add 12 1,om 7 13]))))) [0,5,6] (jq (jr [om 28 5,om 29 0,om 30 6,oo 31 (.sliceStr (.s 29) (some (.s 30)) none),oo 32 (.buildSlice 1 9 [.s 31]),oo 33 (.append 1 9 16 (.s 28) (.s 32)),om 4 33]) [4] .ret))))⟩
def tf85 : TFn := ⟨40,[.tmp 2],jq (jr [jv 2 jf]) [0] (jq (jq (jr [om 5 0,oo 6 (.lenStr (.s 5)),jb 7 .lss 6 1,om 8 7,jF 9 8 0,oF 10 8 (.lenStr (.s 9)),jy 11 8 .gtr 10 8,oo 12 (.pick (.s 8) (.c (.bool true)) (.s 11))]) [0,12] (jC 12 (jq (jr [jv 2 jf]) [2] .ret) .skip)) [0] (jq (jq (jr [jw 3 0]) [0,3] (jk 0 (jq (jq (jr [om 13 3,om 14 0,oo 15 (.lenStr (.s 14)),jB 16 .lss 13 15]) [0,3,16] (jC 16 .skip (.exit 0))) [0,3] (jq (.block 1 (jq (jr [om 19 0,om 20 3,oo 21 (.indexStr (.s 19) (.s 20)),om 4 21]) [0,3,4] (jq (jr [om 22 4,oo 23 (.bin .lss false (.s 22) (.c (.int .u8 97))),om 24 23,jF 25 24 4,oF 26 24 (.bin .gtr false (.s 25) (.c (.int .u8 122))),oo 27 (.pick (.s 24) (.c (.bool true)) (.s 26)),om 28 27,jT 29 28 4,oT 30 28 (.bin .lss false (.s 29) (.c (.int .u8 48))),jT 31 28 30,jF 32 31 4,oF 33 31 (.bin .gtr false (.s 32) (.c (.int .u8 57))),oT 34 28 (.pick (.s 31) (.c (.bool true)) (.s 33)),jp 35 28 34,om 36 35,jT 37 36 4,oT 38 36 (.bin .neq false (.s 37) (.c (.int .u8 45))),jp 39 36 38]) [0,3,39] (jC 39 (jq (jr [jv 2 jf]) [2] .ret) .skip)))) [0,3] (jr [om 17 3,jb 18 .add 17 1,om 3 18]))))) [] (jq (jr [oo 2 (.mov (.c (.bool true)))]) [2] .ret)))⟩
def tf86 : TFn := ⟨46,[.tmp 2,.tmp 3],jq (jr [jw 2 0,jv 3 jf]) [0] (jq (jq (jr [om 6 0,oo 7 (.lenStr (.s 6)),jb 8 .lss 7 1,om 9 8,jF 10 9 0,oF 11 9 (.lenStr (.s 10)),jy 12 9 .gtr 11 9,oo 13 (.pick (.s 9) (.c (.bool true)) (.s 12)),om 14 13,jF 15 14 0,oF 16 14 (.lenStr (.s 15)),jy 17 14 .gtr 16 1,jF 18 14 17,jT 19 18 0,oT 20 18 (.indexStr (.s 19) (jI 0)),oT 21 18 (.bin .eql false (.s 20) (.c (.int .u8 48))),oF 22 14 (.pick (.s 18) (.s 21) jf),oo 23 (.pick (.s 14) (.c (.bool true)) (.s 22))]) [0,23] (jC 23 (jq (jr [jw 2 0,jv 3 jf]) [2,3] .ret) .skip)) [0] (jq (jr [jw 4 0]) [0,4] (jq (jq (jr [jw 5 0]) [0,4,5] (jk 0 (jq (jq (jr [om 24 5,om 25 0,oo 26 (.lenStr (.s 25)),jB 27 .lss 24 26]) [0,4,5,27] (jC 27 .skip (.exit 0))) [0,4,5] (jq (.block 1 (jq (jq (jr [om 30 0,om 31 5,oo 32 (.indexStr (.s 30) (.s 31)),jc 33 95 [.s 32],oo 34 (.un .not (.s 33))]) [0,4,5,34] (jC 34 (jq (jr [jw 2 0,jv 3 jf]) [2,3] .ret) .skip)) [0,4,5] (jr [om 35 4,jb 36 .mul 35 10,om 37 0,om 38 5,oo 39 (.indexStr (.s 37) (.s 38)),oo 40 (.bin .sub false (.s 39) (.c (.int .u8 48))),oo 41 (.conv .i64 (.s 40)),jB 42 .add 36 41,om 4 42]))) [0,4,5] (jr [om 28 5,jb 29 .add 28 1,om 5 29]))))) [4] (jq (jq (jr [om 43 4,jb 44 .gtr 43 9999]) [4,44] (jC 44 (jq (jr [jw 2 0,jv 3 jf]) [2,3] .ret) .skip)) [4] (jq (jr [om 45 4,om 2 45,oo 3 (.mov (.c (.bool true)))]) [2,3] .ret)))))⟩
def tf87 : TFn := ⟨23,[.tmp 2],jq (jr [jv 2 jf]) [0] (jq (jq (jr [jw 3 0]) [0,3] (jk 0 (jq (jq (jr [om 4 3,om 5 0,oo 6 (.lenStr (.s 5)),jB 7 .lss 4 6]) [0,3,7] (jC 7 .skip (.exit 0))) [0,3] (jq (.block 1 (jq (jr [om 10 0,om 11 3,oo 12 (.indexStr (.s 10) (.s 11)),oo 13 (.bin .lss false (.s 12) (.c (.int .u8 48))),om 14 13,jF 15 14 0,jF 16 14 3,oF 17 14 (.indexStr (.s 15) (.s 16)),oF 18 14 (.bin .gtr false (.s 17) (.c (.int .u8 57))),oo 19 (.pick (.s 14) (.c (.bool true)) (.s 18))]) [0,3,19] (jC 19 (jq (jr [jv 2 jf]) [2] .ret) .skip))) [0,3] (jr [om 8 3,jb 9 .add 8 1,om 3 9]))))) [0] (jq (jr [om 20 0,oo 21 (.lenStr (.s 20)),jb 22 .gtr 21 0,om 2 22]) [2] .ret))⟩
def tf88 : TFn := ⟨47,[.cell 4 true 5,.tmp 5],jq (jr [jo 2 58 0,oo 4 (.alloc 58 [(.int .i64 0),(.int .i64 0),(.int .i64 0),(.str []),(.str [])]),jv 5 jf]) [1,2,4] (jq (jq (jr [oL 7 5 2,jc 8 45 [.s 7],oo 9 (.un .not (.s 8)),om 10 9,jF 11 10 1,jy 12 10 .lss 11 0,oo 13 (.pick (.s 10) (.c (.bool true)) (.s 12)),om 14 13,jF 15 14 1,jy 16 14 .gtr 15 2,oo 17 (.pick (.s 14) (.c (.bool true)) (.s 16))]) [1,2,4,17] (jC 17 (jq (jr [oo 18 (.build [(.int .i64 0),(.int .i64 0),(.int .i64 0),(.str []),(.str [])] []),jS 5 4 18,jv 5 jf]) [4,5] .ret) .skip)) [1,2,4] (jq (jr [oo 6 (.alloc 58 [(.int .i64 0),(.int .i64 0),(.int .i64 0),(.str []),(.str [])])]) [1,2,4,6] (jq (jq (jr [om 19 1]) [2,4,6,19] (.block 0 (jq (jr [jb 29 .eql 19 0,om 28 29]) [2,4,6,19,28] (jC 28 (jr [oA 30 0 2,ol 31 1 30,jb 32 .add 31 1,oo 33 (.build [(.int .i64 0),(.int .i64 0),(.int .i64 0),(.str []),(.str [])] [(0,1,(.s 32))]),jS 5 6 33]) (jq (jr [jb 35 .eql 19 1,om 34 35]) [2,4,6,34] (jC 34 (jr [oA 36 0 2,ol 37 1 36,oA 38 1 2,ol 39 1 38,jb 40 .add 39 1,oo 41 (.build [(.int .i64 0),(.int .i64 0),(.int .i64 0),(.str []),(.str [])] [(0,1,(.s 37)),(1,1,(.s 40))]),jS 5 6 41]) (jr [oA 20 0 2,ol 21 1 20,oA 22 1 2,ol 23 1 22,oA 24 2 2,ol 25 1 24,jb 26 .add 25 1,oo 27 (.build [(.int .i64 0),(.int .i64 0),(.int .i64 0),(.str []),(.str [])] [(0,1,(.s 21)),(1,1,(.s 23)),(2,1,(.s 26))]),jS 5 6 27]))))))) [4,6] (jq (jq (jr [oL 42 5 6,jc 43 45 [.s 42],oo 44 (.un .not (.s 43))]) [4,6,44] (jC 44 (jq (jr [oo 45 (.build [(.int .i64 0),(.int .i64 0),(.int .i64 0),(.str []),(.str [])] []),jS 5 4 45,jv 5 jf]) [4,5] .ret) .skip)) [4,6] (jq (jr [oL 46 5 6,jS 5 4 46,oo 5 (.mov (.c (.bool true)))]) [4,5] .ret)))))⟩
def tf89 : TFn := ⟨39,[.tmp 2],jq (jr [jo 1 68 0,jv 2 jf]) [1] (jq (jq (jr [oA 4 0 1,ol 5 1 4,jc 6 96 [.s 5],oo 7 (.un .not (.s 6)),om 8 7,ja 9 8 1 1,jm 10 8 1 9,oF 11 8 (.call 96 [.s 10]),oF 12 8 (.un .not (.s 11)),oo 13 (.pick (.s 8) (.c (.bool true)) (.s 12))]) [1,13] (jC 13 (jq (jr [jv 2 jf]) [2] .ret) .skip)) [1] (jq (jq (jr [jw 3 0]) [1,3] (jk 0 (jq (jq (jr [om 14 3,oA 15 0 1,ol 16 1 15,jn 17 16,jB 18 .lss 14 17]) [1,3,18] (jC 18 .skip (.exit 0))) [1,3] (jq (.block 1 (jq (jr [oA 21 0 1,ol 22 1 21,om 23 3,jx 24 14 22 23,oA 25 0 24,oL 26 7 25,jc 27 97 [.s 26],oo 28 (.un .not (.s 27)),om 29 28,ja 30 29 0 1,jm 31 29 1 30,jF 32 29 3,oF 33 29 (.indexAddr 14 (.s 31) (.s 32)),ja 34 29 7 33,jM 35 29 7 34,oF 36 29 (.call 97 [.s 35]),oF 37 29 (.un .not (.s 36)),oo 38 (.pick (.s 29) (.c (.bool true)) (.s 37))]) [1,3,38] (jC 38 (jq (jr [jv 2 jf]) [2] .ret) .skip))) [1,3] (jr [om 19 3,jb 20 .add 19 1,om 3 20]))))) [] (jq (jr [oo 2 (.mov (.c (.bool true)))]) [2] .ret)))⟩
def tf90 : TFn := ⟨24,[.tmp 4],jq (jr [jv 4 je]) [0,1] (jq (jq (jr [om 7 0,jc 8 96 [.s 7],oo 9 (.un .not (.s 8)),om 10 9,jF 11 10 1,oF 12 10 (.call 96 [.s 11]),oF 13 10 (.un .not (.s 12)),oo 14 (.pick (.s 10) (.c (.bool true)) (.s 13))]) [0,1,14] (jC 14 (jq (jr [jv 4 je]) [4] .ret) .skip)) [0,1] (jq (jr [om 16 0,oo 17 (.append 14 99 144 je (.s 16)),om 18 1,oo 19 (.append 14 99 144 (.s 17) (.s 18)),jc 20 98 [.s 19],om 15 20,oe 21 0 15,oe 22 1 15,om 5 21,om 6 22]) [5] (jq (jr [om 23 5,om 4 23]) [4] .ret)))⟩
def tf91 : TFn := ⟨5,[.tmp 0],jq (jr [jv 0 je]) [] (jq (jr [jc 1 72 [],jc 2 74 [],oo 3 (.build [(.int .i64 0),(.int .i64 0),(.int .i64 0),(.int .i64 0),(.str []),(.str []),(.bool false),(.int .i64 0),(.int .i64 0),(.int .i64 0),(.int .i64 0),(.str []),(.str []),(.bool false)] [(0,7,(.s 1)),(7,7,(.s 2))]),oo 4 (.buildSlice 14 99 [.s 3]),om 0 4]) [0] .ret)⟩
def tf92 : TFn := ⟨42,[.tmp 2],jq (jr [jv 2 je]) [0] (jq (jq (jr [om 6 0,jc 7 96 [.s 6],oo 8 (.un .not (.s 7))]) [0,8] (jC 8 (jq (jr [jv 2 je]) [2] .ret) .skip)) [0] (jq (jr [jv 3 je]) [0,3] (jq (jr [om 9 0,jc 10 99 [.s 9],om 4 10]) [0,3,4] (jq (jq (jr [jw 5 0]) [0,3,4,5] (jk 0 (jq (jq (jr [om 11 5,jb 12 .add 11 1,om 13 4,jn 14 13,jB 15 .lss 12 14]) [0,3,4,5,15] (jC 15 .skip (.exit 0))) [0,3,4,5] (jq (.block 1 (jq (jR [om 18 0,om 19 4,om 20 5,jx 21 7 19 20,oL 22 7 21,om 23 4,om 24 5,jb 25 .add 24 1,jx 26 7 23 25,oL 27 7 26,jc 28 100 [.s 18,.s 22,.s 27],oo 29 (.un .not (.s 28))]) [0,3,4,5,29] (jC 29 (jR [om 30 3,om 31 4,om 32 5,jx 33 7 31 32,oL 34 7 33,om 35 4,om 36 5,jb 37 .add 36 1,jx 38 7 35 37,oL 39 7 38,jc 40 101 [.s 30,.s 34,.s 39],om 3 40]) .skip))) [0,3,4,5] (jr [om 16 5,jb 17 .add 16 1,om 5 17]))))) [3] (jq (jr [om 41 3,om 2 41]) [2] .ret)))))⟩
def tf93 : TFn := ⟨16,[.tmp 4],jq (jr [jw 4 0]) [0,1] (jq (.block 0 (jq (jr [om 6 0,om 7 1,jB 8 .and 6 7,om 9 0,jB 10 .eql 8 9,om 5 10]) [0,1,5] (jC 5 (jq (jr [jw 4 2]) [4] .ret) (jq (jr [om 12 0,om 13 1,jB 14 .and 12 13,jb 15 .eql 14 0,om 11 15]) [11] (jC 11 (jq (jr [jw 4 0]) [4] .ret) .skip))))) [] (jq (jr [jw 4 1]) [4] .ret))⟩
def tf94 : TFn := ⟨24,[.tmp 4],jq (jr [jo 2 68 0,jo 3 58 1,jv 4 jf]) [2,3] (jq (jq (jr [oL 5 2 2,jc 6 89 [.s 5],oo 7 (.un .not (.s 6)),om 8 7,jM 9 8 5 3,oF 10 8 (.call 45 [.s 9]),oF 11 8 (.un .not (.s 10)),oo 12 (.pick (.s 8) (.c (.bool true)) (.s 11))]) [2,3,12] (jC 12 (jq (jr [jv 4 jf]) [4] .ret) .skip)) [2,3] (jq (jq (jr [oA 13 3 3,ol 14 1 13,oo 15 (.bin .eql false (.s 14) (.c (.str [])))]) [2,3,15] (jC 15 (jq (jr [oA 16 0 2,ol 17 1 16,oL 18 5 3,jc 19 102 [.s 17,.s 18],om 4 19]) [4] .ret) .skip)) [2,3] (jq (jr [oA 20 1 2,ol 21 1 20,oL 22 5 3,jc 23 102 [.s 21,.s 22],om 4 23]) [4] .ret)))⟩
def tf95 : TFn := ⟨9,[.tmp 2],jq (jr [jv 2 jf]) [0] (jq (jr [om 3 0,oo 4 (.bin .geq false (.s 3) (.c (.int .u8 48))),om 5 4,jT 6 5 0,oT 7 5 (.bin .leq false (.s 6) (.c (.int .u8 57))),jp 8 5 7,om 2 8]) [2] .ret)⟩
def tf96 : TFn := ⟨35,[.tmp 2],jq (jr [jv 2 jf]) [0] (jq (jq (jr [jw 3 0]) [0,3] (jk 0 (jq (jq (jr [om 4 3,om 5 0,jn 6 5,jB 7 .lss 4 6]) [0,3,7] (jC 7 .skip (.exit 0))) [0,3] (jq (.block 1 (jq (jR [om 10 0,om 11 3,jx 12 14 10 11,oL 13 14 12,jc 14 103 [.s 13],oo 15 (.un .not (.s 14)),om 16 15,jF 17 16 3,jy 18 16 .gtr 17 0,jF 19 16 18,jT 20 19 0,jT 21 19 3,jY 22 19 .sub 21 1,oT 23 19 (.indexAddr 14 (.s 20) (.s 22)),jA 24 19 7 23,jL 25 19 7 24,jT 26 19 0,jT 27 19 3,oT 28 19 (.indexAddr 14 (.s 26) (.s 27)),jA 29 19 0 28,jL 30 19 7 29,oT 31 19 (.call 104 [.s 25,.s 30]),jY 32 19 .geq 31 0,oF 33 16 (.pick (.s 19) (.s 32) jf),oo 34 (.pick (.s 16) (.c (.bool true)) (.s 33))]) [0,3,34] (jC 34 (jq (jr [jv 2 jf]) [2] .ret) .skip))) [0,3] (jr [om 8 3,jb 9 .add 8 1,om 3 9]))))) [] (jq (jr [oo 2 (.mov (.c (.bool true)))]) [2] .ret))⟩
def tf97 : TFn := ⟨23,[.tmp 2],jq (jr [jo 1 96 0,jv 2 jf]) [1] (jq (jr [oA 3 0 1,ol 4 1 3,jb 5 .neq 4 0,om 6 5,ja 7 6 6 1,jm 8 6 1 7,oF 9 6 (.un .not (.s 8)),jF 10 6 9,jA 11 10 1 1,jA 12 10 3 11,jl 13 10 1 12,oT 14 10 (.bin .eql false (.s 13) (.c (.str []))),oF 15 6 (.pick (.s 10) (.s 14) jf),jF 16 6 15,jA 17 16 1 1,jL 18 16 5 17,oT 19 16 (.call 71 [.s 18]),oT 20 16 (.un .not (.s 19)),oF 21 6 (.pick (.s 16) (.s 20) jf),oo 22 (.pick (.s 6) (.c (.bool true)) (.s 21)),om 2 22]) [2] .ret)⟩
def tf98 : TFn := ⟨52,[.tmp 2,.tmp 3],jq (jr [jv 2 je,jv 3 jf]) [0] (jq (jq (jr [jw 4 0]) [0,4] (jk 0 (jq (jq (jr [om 8 4,om 9 0,jn 10 9,jB 11 .lss 8 10]) [0,4,11] (jC 11 .skip (.exit 0))) [0,4] (jq (.block 1 (jq (jr [om 14 0,om 15 4,jx 16 14 14 15,oL 17 14 16,jc 18 103 [.s 17],oo 19 (.un .not (.s 18))]) [0,4,19] (jC 19 (jq (jr [jv 2 je,jv 3 jf]) [2,3] .ret) .skip))) [0,4] (jr [om 12 4,jb 13 .add 12 1,om 4 13]))))) [0] (jq (jr [jv 5 je]) [0,5] (jq (jr [om 20 0,jc 21 99 [.s 20],om 6 21]) [0,5,6] (jq (jq (jr [jw 7 0]) [0,5,6,7] (jk 2 (jq (jq (jr [om 22 7,jb 23 .add 22 1,om 24 6,jn 25 24,jB 26 .lss 23 25]) [0,5,6,7,26] (jC 26 .skip (.exit 2))) [0,5,6,7] (jq (.block 3 (jq (jR [om 29 0,om 30 6,om 31 7,jx 32 7 30 31,oL 33 7 32,om 34 6,om 35 7,jb 36 .add 35 1,jx 37 7 34 36,oL 38 7 37,jc 39 100 [.s 29,.s 33,.s 38]]) [0,5,6,7,39] (jC 39 (jR [om 40 5,om 41 6,om 42 7,jx 43 7 41 42,oL 44 7 43,om 45 6,om 46 7,jb 47 .add 46 1,jx 48 7 45 47,oL 49 7 48,jc 50 101 [.s 40,.s 44,.s 49],om 5 50]) .skip))) [0,5,6,7] (jr [om 27 7,jb 28 .add 27 1,om 7 28]))))) [5] (jq (jr [om 51 5,om 2 51,oo 3 (.mov (.c (.bool true)))]) [2,3] .ret)))))⟩
def tf99 : TFn := ⟨28,[.tmp 2],jq (jr [jv 2 je]) [0] (jq (jr [jc 5 72 [],jc 6 74 [],oo 7 (.buildSlice 7 96 [.s 5,.s 6]),om 3 7]) [0,3] (jq (jq (jr [jw 4 0]) [0,3,4] (jk 0 (jq (jq (jr [om 8 4,om 9 0,jn 10 9,jB 11 .lss 8 10]) [0,3,4,11] (jC 11 .skip (.exit 0))) [0,3,4] (jq (.block 1 (jR [om 14 3,om 15 0,om 16 4,jx 17 14 15 16,oA 18 0 17,oL 19 7 18,jc 20 105 [.s 14,.s 19],om 21 0,om 22 4,jx 23 14 21 22,oA 24 7 23,oL 25 7 24,jc 26 105 [.s 20,.s 25],om 3 26])) [0,3,4] (jr [om 12 4,jb 13 .add 12 1,om 4 13]))))) [3] (jq (jr [om 27 3,om 2 27]) [2] .ret)))⟩
def tf100 : TFn := ⟨32,[.tmp 6],jq (jr [jo 4 96 1,jo 5 96 2,jv 6 jf]) [0,4,5] (jq (jq (jr [jw 7 0]) [0,4,5,7] (jk 0 (jq (jq (jr [om 8 7,om 9 0,jn 10 9,jB 11 .lss 8 10]) [0,4,5,7,11] (jC 11 .skip (.exit 0))) [0,4,5,7] (jq (.block 1 (jq (jR [om 14 0,om 15 7,jx 16 14 14 15,oA 17 0 16,oL 18 7 17,oL 19 7 4,jc 20 104 [.s 18,.s 19],jb 21 .leq 20 0,om 22 21,jL 23 22 7 5,jT 24 22 0,jT 25 22 7,oT 26 22 (.indexAddr 14 (.s 24) (.s 25)),jA 27 22 7 26,jL 28 22 7 27,oT 29 22 (.call 104 [.s 23,.s 28]),jY 30 22 .leq 29 0,jp 31 22 30]) [0,4,5,7,31] (jC 31 (jq (jr [oo 6 (.mov (.c (.bool true)))]) [6] .ret) .skip))) [0,4,5,7] (jr [om 12 7,jb 13 .add 12 1,om 7 13]))))) [] (jq (jr [jv 6 jf]) [6] .ret))⟩
def tf101 : TFn := ⟨35,[.tmp 6],jq (jr [jo 4 96 1,jo 5 96 2,jv 6 je]) [0,4,5] (jq (jq (jr [om 8 0,jn 9 8,jb 10 .sub 9 1,om 7 10]) [0,4,5,7] (jq (jR [om 11 7,jb 12 .geq 11 0,om 13 12,jT 14 13 0,jT 15 13 7,oT 16 13 (.indexAddr 14 (.s 14) (.s 15)),jA 17 13 7 16,jL 18 13 7 17,jL 19 13 7 4,oT 20 13 (.call 104 [.s 18,.s 19]),jY 21 13 .eql 20 0,jp 22 13 21]) [0,4,5,7,22] (jC 22 (jq (jr [om 23 0,om 24 7,oL 25 7 5,jx 26 14 23 24,oA 27 7 26,jS 7 27 25]) [0] (jq (jr [om 28 0,om 6 28]) [6] .ret)) .skip))) [0,4,5] (jq (jr [om 29 0,oL 30 7 4,oL 31 7 5,oo 32 (.build [(.int .i64 0),(.int .i64 0),(.int .i64 0),(.int .i64 0),(.str []),(.str []),(.bool false),(.int .i64 0),(.int .i64 0),(.int .i64 0),(.int .i64 0),(.str []),(.str []),(.bool false)] [(0,7,(.s 30)),(7,7,(.s 31))]),oo 33 (.buildSlice 14 99 [.s 32]),oo 34 (.append 14 99 144 (.s 29) (.s 33)),om 6 34]) [6] .ret))⟩
def tf102 : TFn := ⟨22,[.tmp 4],jq (jr [jo 3 58 1,jv 4 jf]) [0,3] (jq (jq (jr [jw 5 0]) [0,3,5] (jk 0 (jq (jq (jr [om 6 5,om 7 0,jn 8 7,jB 9 .lss 6 8,om 10 9,jT 11 10 0,oT 12 10 (.call 96 [.s 11]),jp 13 10 12]) [0,3,5,13] (jC 13 .skip (.exit 0))) [0,3,5] (jq (.block 1 (jq (jR [om 16 0,om 17 5,jx 18 14 16 17,oL 19 14 18,oL 20 5 3,jc 21 106 [.s 19,.s 20]]) [0,3,5,21] (jC 21 (jq (jr [oo 4 (.mov (.c (.bool true)))]) [4] .ret) .skip))) [0,3,5] (jr [om 14 5,jb 15 .add 14 1,om 5 15]))))) [] (jq (jr [jv 4 jf]) [4] .ret))⟩
def tf103 : TFn := ⟨19,[.tmp 2],jq (jr [jo 1 99 0,jv 2 jf]) [1] (jq (jr [oA 3 0 1,oL 4 7 3,jc 5 107 [.s 4],om 6 5,jA 7 6 7 1,jL 8 6 7 7,oT 9 6 (.call 107 [.s 8]),jp 10 6 9,om 11 10,jA 12 11 0 1,jL 13 11 7 12,jA 14 11 7 1,jL 15 11 7 14,oT 16 11 (.call 104 [.s 13,.s 15]),jY 17 11 .lss 16 0,jp 18 11 17,om 2 18]) [2] .ret)⟩
def tf104 : TFn := ⟨46,[.tmp 4],jq (jr [jo 2 96 0,jo 3 96 1,jw 4 0]) [2,3] (jq (jq (jr [oL 6 7 2,jc 7 107 [.s 6],oo 8 (.un .not (.s 7)),om 9 8,jM 10 9 7 3,oF 11 9 (.call 107 [.s 10]),oF 12 9 (.un .not (.s 11)),oo 13 (.pick (.s 9) (.c (.bool true)) (.s 12))]) [2,3,13] (jC 13 (jq (jr [jw 4 0]) [4] .ret) .skip)) [2,3] (jq (jq (jr [oA 14 0 2,ol 15 1 14,oA 16 0 3,ol 17 1 16,jB 18 .neq 15 17,om 19 18,ja 20 19 0 2,jm 21 19 1 20,jy 22 19 .neq 21 0,oo 23 (.pick (.s 19) (.c (.bool true)) (.s 22))]) [2,3,23] (jC 23 (jq (jr [oA 24 0 2,ol 25 1 24,oA 26 0 3,ol 27 1 26,jc 28 108 [.s 25,.s 27],om 4 28]) [4] .ret) .skip)) [2,3] (jq (jq (jr [oA 29 1 2,oL 30 5 29,oA 31 1 3,oL 32 5 31,jc 33 109 [.s 30,.s 32],om 5 33]) [2,3,5] (jq (jr [om 34 5,jb 35 .neq 34 0]) [2,3,5,35] (jC 35 (jq (jr [om 36 5,om 4 36]) [4] .ret) .skip))) [2,3] (jq (.block 0 (jq (jr [oA 38 6 2,ol 39 1 38,oA 40 6 3,ol 41 1 40,oo 42 (.bin .eql true (.s 39) (.s 41)),om 37 42]) [3,37] (jC 37 (jq (jr [jw 4 0]) [4] .ret) (jq (jr [oA 44 6 3,ol 45 1 44,om 43 45]) [43] (jC 43 (jq (jr [oo 4 (.mov (.c (.int .i64 (-1))))]) [4] .ret) .skip))))) [] (jq (jr [jw 4 1]) [4] .ret)))))⟩
def tf105 : TFn := ⟨46,[.tmp 4],jq (jr [jo 3 96 1,jv 4 je]) [0,3] (jq (jr [jw 5 0]) [0,3,5] (jq (jk 0 (jq (jq (jR [om 6 5,om 7 0,jn 8 7,jB 9 .lss 6 8,om 10 9,jT 11 10 0,jT 12 10 5,oT 13 10 (.indexAddr 7 (.s 11) (.s 12)),jL 14 10 7 13,jL 15 10 7 3,oT 16 10 (.call 104 [.s 14,.s 15]),jY 17 10 .lss 16 0,jp 18 10 17]) [0,3,5,18] (jC 18 .skip (.exit 0))) [0,3,5] (.block 1 (jr [om 19 5,jb 20 .add 19 1,om 5 20])))) [0,3,5] (jq (jq (jR [om 21 5,om 22 0,jn 23 22,jB 24 .lss 21 23,om 25 24,jT 26 25 0,jT 27 25 5,oT 28 25 (.indexAddr 7 (.s 26) (.s 27)),jL 29 25 7 28,jL 30 25 7 3,oT 31 25 (.call 104 [.s 29,.s 30]),jY 32 25 .eql 31 0,jp 33 25 32]) [0,3,5,33] (jC 33 (jq (jr [om 34 0,om 4 34]) [4] .ret) .skip)) [0,3,5] (jq (jR [om 35 0,om 36 5,oo 37 (.slice 7 (.s 35) none (some (.s 36)) none),oo 38 (.append 7 96 72 je (.s 37)),oL 39 7 3,oo 40 (.buildSlice 7 96 [.s 39]),oo 41 (.append 7 96 72 (.s 38) (.s 40)),om 42 0,om 43 5,oo 44 (.slice 7 (.s 42) (some (.s 43)) none none),oo 45 (.append 7 96 72 (.s 41) (.s 44)),om 4 45]) [4] .ret))))⟩
def tf106 : TFn := ⟨24,[.tmp 4],jq (jr [jo 2 99 0,jo 3 58 1,jv 4 jf]) [2,3] (jq (jr [oL 5 14 2,jc 6 103 [.s 5],om 7 6,jL 8 7 5 3,oT 9 7 (.call 45 [.s 8]),jp 10 7 9,om 11 10,jA 12 11 0 2,jL 13 11 7 12,jL 14 11 5 3,oT 15 11 (.call 110 [.s 13,.s 14]),jp 16 11 15,om 17 16,jA 18 17 7 2,jL 19 17 7 18,jL 20 17 5 3,oT 21 17 (.call 110 [.s 19,.s 20]),oT 22 17 (.un .not (.s 21)),jp 23 17 22,om 4 23]) [4] .ret)⟩
def tf107 : TFn := ⟨34,[.tmp 2],jq (jr [jo 1 96 0,jv 2 jf]) [1] (jq (jq (jr [oA 3 0 1,ol 4 1 3,jb 5 .eql 4 0]) [1,5] (jC 5 (jq (jr [oA 6 1 1,oL 7 5 6,jc 8 45 [.s 7],om 9 8,jA 10 9 1 1,jA 11 9 4 10,jl 12 9 1 11,oT 13 9 (.bin .eql false (.s 12) (.c (.str []))),jp 14 9 13,om 2 14]) [2] .ret) .skip)) [1] (jq (jr [oA 15 0 1,ol 16 1 15,oo 17 (.bin .eql false (.s 16) (.c (.int .i64 (-1)))),om 18 17,ja 19 18 0 1,jm 20 18 1 19,jy 21 18 .eql 20 1,oo 22 (.pick (.s 18) (.c (.bool true)) (.s 21)),om 23 22,jA 24 23 1 1,jL 25 23 5 24,oT 26 23 (.build [(.int .i64 0),(.int .i64 0),(.int .i64 0),(.str []),(.str [])] []),oT 27 23 (.eqs false [0,0,0,2,2] (.s 25) (.s 26)),jp 28 23 27,om 29 28,jA 30 29 6 1,jl 31 29 1 30,oT 32 29 (.un .not (.s 31)),jp 33 29 32,om 2 33]) [2] .ret))⟩
def tf108 : TFn := ⟨13,[.tmp 4],jq (jr [jw 4 0]) [0,1] (jq (.block 0 (jq (jr [om 6 0,om 7 1,jB 8 .lss 6 7,om 5 8]) [0,1,5] (jC 5 (jq (jr [oo 4 (.mov (.c (.int .i64 (-1))))]) [4] .ret) (jq (jr [om 10 0,om 11 1,jB 12 .gtr 10 11,om 9 12]) [9] (jC 9 (jq (jr [jw 4 1]) [4] .ret) .skip))))) [] (jq (jr [jw 4 0]) [4] .ret))⟩
def tf109 : TFn := ⟨45,[.tmp 4],jq (jr [jo 2 58 0,jo 3 58 1,jw 4 0]) [2,3] (jq (jq (jr [oL 8 5 2,jc 9 45 [.s 8],oo 10 (.un .not (.s 9)),om 11 10,jM 12 11 5 3,oF 13 11 (.call 45 [.s 12]),oF 14 11 (.un .not (.s 13)),oo 15 (.pick (.s 11) (.c (.bool true)) (.s 14))]) [2,3,15] (jC 15 (jq (jr [jw 4 0]) [4] .ret) .skip)) [2,3] (jq (jq (jr [oA 16 0 2,ol 17 1 16,oA 18 0 3,ol 19 1 18,jc 20 108 [.s 17,.s 19],om 5 20]) [2,3,5] (jq (jr [om 21 5,jb 22 .neq 21 0]) [2,3,5,22] (jC 22 (jq (jr [om 23 5,om 4 23]) [4] .ret) .skip))) [2,3] (jq (jq (jr [oA 24 1 2,ol 25 1 24,oA 26 1 3,ol 27 1 26,jc 28 108 [.s 25,.s 27],om 6 28]) [2,3,6] (jq (jr [om 29 6,jb 30 .neq 29 0]) [2,3,6,30] (jC 30 (jq (jr [om 31 6,om 4 31]) [4] .ret) .skip))) [2,3] (jq (jq (jr [oA 32 2 2,ol 33 1 32,oA 34 2 3,ol 35 1 34,jc 36 108 [.s 33,.s 35],om 7 36]) [2,3,7] (jq (jr [om 37 7,jb 38 .neq 37 0]) [2,3,7,38] (jC 38 (jq (jr [om 39 7,om 4 39]) [4] .ret) .skip))) [2,3] (jq (jr [oA 40 3 2,ol 41 1 40,oA 42 3 3,ol 43 1 42,jc 44 111 [.s 41,.s 43],om 4 44]) [4] .ret)))))⟩
def tf110 : TFn := ⟨35,[.tmp 4],jq (jr [jo 2 96 0,jo 3 58 1,jv 4 jf]) [2,3] (jq (jq (jr [oL 6 7 2,jc 7 107 [.s 6],oo 8 (.un .not (.s 7)),om 9 8,jM 10 9 5 3,oF 11 9 (.call 45 [.s 10]),oF 12 9 (.un .not (.s 11)),oo 13 (.pick (.s 9) (.c (.bool true)) (.s 12))]) [2,3,13] (jC 13 (jq (jr [jv 4 jf]) [4] .ret) .skip)) [2,3] (jq (jq (jr [oA 14 0 2,ol 15 1 14,jb 16 .neq 15 0]) [2,3,16] (jC 16 (jq (jr [oA 17 0 2,ol 18 1 17,jb 19 .lss 18 0,om 4 19]) [4] .ret) .skip)) [2,3] (jq (jr [oA 20 1 2,oL 21 5 20,oL 22 5 3,jc 23 109 [.s 21,.s 22],om 5 23]) [2,5] (jq (jr [om 24 5,jb 25 .lss 24 0,om 26 25,jF 27 26 5,jy 28 26 .eql 27 0,jF 29 26 28,jA 30 29 6 2,jl 31 29 1 30,oT 32 29 (.un .not (.s 31)),oF 33 26 (.pick (.s 29) (.s 32) jf),oo 34 (.pick (.s 26) (.c (.bool true)) (.s 33)),om 4 34]) [4] .ret))))⟩
def tf111 : TFn := ⟨52,[.tmp 4],jq (jr [jw 4 0]) [0,1] (jq (.block 0 (jq (jr [om 10 0,om 11 1,jB 12 .eql 10 11,om 9 12]) [0,1,9] (jC 9 (jq (jr [jw 4 0]) [4] .ret) (jq (jr [om 14 0,oo 15 (.bin .eql false (.s 14) (.c (.str []))),om 13 15]) [0,1,13] (jC 13 (jq (jr [jw 4 1]) [4] .ret) (jq (jr [om 17 1,oo 18 (.bin .eql false (.s 17) (.c (.str []))),om 16 18]) [0,1,16] (jC 16 (jq (jr [oo 4 (.mov (.c (.int .i64 (-1))))]) [4] .ret) .skip))))))) [0,1] (jq (jr [om 19 0,jc 20 84 [.s 19,(.c (.int .u8 46))],om 21 1,jc 22 84 [.s 21,(.c (.int .u8 46))],om 5 20,om 6 22]) [5,6] (jq (jq (jr [jw 7 0]) [5,6,7] (jk 1 (jq (jq (jr [om 23 7,om 24 5,jn 25 24,jB 26 .lss 23 25,om 27 26,jT 28 27 7,jT 29 27 6,oT 30 27 (.len (.s 29)),oT 31 27 (.bin .lss false (.s 28) (.s 30)),jp 32 27 31]) [5,6,7,32] (jC 32 .skip (.exit 1))) [5,6,7] (jq (.block 2 (jq (jR [om 35 5,om 36 7,jx 37 1 35 36,ol 38 1 37,om 39 6,om 40 7,jx 41 1 39 40,ol 42 1 41,jc 43 112 [.s 38,.s 42],om 8 43]) [5,6,7,8] (jq (jr [om 44 8,jb 45 .neq 44 0]) [5,6,7,8,45] (jC 45 (jq (jr [om 46 8,om 4 46]) [4] .ret) .skip)))) [5,6,7] (jr [om 33 7,jb 34 .add 33 1,om 7 34]))))) [5,6] (jq (jr [om 47 5,jn 48 47,om 49 6,jn 50 49,jc 51 108 [.s 48,.s 50],om 4 51]) [4] .ret))))⟩
def tf112 : TFn := ⟨40,[.tmp 4],jq (jr [jw 4 0]) [0,1] (jq (jr [om 11 0,jc 12 87 [.s 11],om 13 1,jc 14 87 [.s 13],om 5 12,om 6 14]) [0,1,5,6] (jq (.block 0 (jq (jr [om 16 5,om 17 16,jT 18 17 6,jp 19 17 18,om 15 19]) [0,1,5,6,15] (jC 15 (jq (jr [om 21 0,jc 22 86 [.s 21],om 20 22,oe 23 0 20,oe 24 1 20,om 7 23,om 8 24]) [1,7] (jq (jr [om 26 1,jc 27 86 [.s 26],om 25 27,oe 28 0 25,oe 29 1 25,om 9 28,om 10 29]) [7,9] (jq (jr [om 30 7,om 31 9,jc 32 108 [.s 30,.s 31],om 4 32]) [4] .ret))) (jq (jr [om 34 5,om 33 34]) [0,1,6,33] (jC 33 (jq (jr [oo 4 (.mov (.c (.int .i64 (-1))))]) [4] .ret) (jq (jr [om 36 6,om 35 36]) [0,1,35] (jC 35 (jq (jr [jw 4 1]) [4] .ret) .skip))))))) [0,1] (jq (jr [om 37 0,om 38 1,jc 39 113 [.s 37,.s 38],om 4 39]) [4] .ret)))⟩
def tf113 : TFn := ⟨13,[.tmp 4],jq (jr [jw 4 0]) [0,1] (jq (.block 0 (jq (jr [om 6 0,om 7 1,jB 8 .lss 6 7,om 5 8]) [0,1,5] (jC 5 (jq (jr [oo 4 (.mov (.c (.int .i64 (-1))))]) [4] .ret) (jq (jr [om 10 0,om 11 1,jB 12 .gtr 10 11,om 9 12]) [9] (jC 9 (jq (jr [jw 4 1]) [4] .ret) .skip))))) [] (jq (jr [jw 4 0]) [4] .ret))⟩
theorem tp3 : QG Tryz.prog Tryz.f3 = some tf3.erase := by kernel_rfl
theorem tp5 : QG Tryz.prog Tryz.f5 = some tf5.erase := by kernel_rfl
theorem tp6 : QG Tryz.prog Tryz.f6 = some tf6.erase := by kernel_rfl
theorem tp7 : QG Tryz.prog Tryz.f7 = some tf7.erase := by kernel_rfl
theorem tp8 : QG Tryz.prog Tryz.f8 = some tf8.erase := by kernel_rfl
theorem tp9 : QG Tryz.prog Tryz.f9 = some tf9.erase := by kernel_rfl
theorem QeW : QG Tryz.prog Tryz.f10 = some tf10.erase := by kernel_rfl
theorem QeX : QG Tryz.prog Tryz.f11 = some tf11.erase := by kernel_rfl
theorem QeY : QG Tryz.prog Tryz.f12 = some tf12.erase := by kernel_rfl
theorem QeZ : QG Tryz.prog Tryz.f13 = some tf13.erase := by kernel_rfl
theorem Qe0 : QG Tryz.prog Tryz.f14 = some tf14.erase := by kernel_rfl
theorem Qe1 : QG Tryz.prog Tryz.f15 = some tf15.erase := by kernel_rfl
theorem Qe2 : QG Tryz.prog Tryz.f16 = some tf16.erase := by kernel_rfl
theorem Qe3 : QG Tryz.prog Tryz.f17 = some tf17.erase := by kernel_rfl
theorem Qe4 : QG Tryz.prog Tryz.f18 = some tf18.erase := by kernel_rfl
theorem Qe5 : QG Tryz.prog Tryz.f19 = some tf19.erase := by kernel_rfl
theorem Qe6 : QG Tryz.prog Tryz.f20 = some tf20.erase := by kernel_rfl
theorem Qe7 : QG Tryz.prog Tryz.f21 = some tf21.erase := by kernel_rfl
theorem Qe8 : QG Tryz.prog Tryz.f22 = some tf22.erase := by kernel_rfl
theorem Qe9 : QG Tryz.prog Tryz.f23 = some tf23.erase := by kernel_rfl
theorem Qfa : QG Tryz.prog Tryz.f24 = some tf24.erase := by kernel_rfl
theorem Qfb : QG Tryz.prog Tryz.f25 = some tf25.erase := by kernel_rfl
theorem Qfc : QG Tryz.prog Tryz.f26 = some tf26.erase := by kernel_rfl
theorem Qfd : QG Tryz.prog Tryz.f27 = some tf27.erase := by kernel_rfl
theorem Qfe : QG Tryz.prog Tryz.f28 = some tf28.erase := by kernel_rfl
theorem Qff : QG Tryz.prog Tryz.f29 = some tf29.erase := by kernel_rfl
theorem Qfg : QG Tryz.prog Tryz.f30 = some tf30.erase := by kernel_rfl
theorem Qfh : QG Tryz.prog Tryz.f31 = some tf31.erase := by kernel_rfl
theorem Qfi : QG Tryz.prog Tryz.f32 = some tf32.erase := by kernel_rfl
theorem Qfj : QG Tryz.prog Tryz.f33 = some tf33.erase := by kernel_rfl
theorem Qfk : QG Tryz.prog Tryz.f34 = some tf34.erase := by kernel_rfl
theorem Qfl : QG Tryz.prog Tryz.f35 = some tf35.erase := by kernel_rfl
theorem Qfm : QG Tryz.prog Tryz.f36 = some tf36.erase := by kernel_rfl
theorem Qfn : QG Tryz.prog Tryz.f37 = some tf37.erase := by kernel_rfl
theorem Qfo : QG Tryz.prog Tryz.f38 = some tf38.erase := by kernel_rfl
theorem Qfp : QG Tryz.prog Tryz.f39 = some tf39.erase := by kernel_rfl
theorem Qfq : QG Tryz.prog Tryz.f40 = some tf40.erase := by kernel_rfl
theorem Qfr : QG Tryz.prog Tryz.f41 = some tf41.erase := by kernel_rfl
theorem Qfs : QG Tryz.prog Tryz.f42 = some tf42.erase := by kernel_rfl
theorem Qft : QG Tryz.prog Tryz.f43 = some tf43.erase := by kernel_rfl
theorem Qfu : QG Tryz.prog Tryz.f44 = some tf44.erase := by kernel_rfl
theorem Qfv : QG Tryz.prog Tryz.f45 = some tf45.erase := by kernel_rfl
theorem Qfw : QG Tryz.prog Tryz.f46 = some tf46.erase := by kernel_rfl
theorem Qfx : QG Tryz.prog Tryz.f47 = some tf47.erase := by kernel_rfl
theorem Qfy : QG Tryz.prog Tryz.f48 = some tf48.erase := by kernel_rfl
theorem Qfz : QG Tryz.prog Tryz.f49 = some tf49.erase := by kernel_rfl
theorem QfA : QG Tryz.prog Tryz.f50 = some tf50.erase := by kernel_rfl
theorem QfB : QG Tryz.prog Tryz.f51 = some tf51.erase := by kernel_rfl
theorem QfC : QG Tryz.prog Tryz.f52 = some tf52.erase := by kernel_rfl
theorem QfD : QG Tryz.prog Tryz.f53 = some tf53.erase := by kernel_rfl
theorem QfE : QG Tryz.prog Tryz.f54 = some tf54.erase := by kernel_rfl
theorem QfF : QG Tryz.prog Tryz.f55 = some tf55.erase := by kernel_rfl
theorem QfG : QG Tryz.prog Tryz.f56 = some tf56.erase := by kernel_rfl
theorem QfH : QG Tryz.prog Tryz.f57 = some tf57.erase := by kernel_rfl
theorem QfI : QG Tryz.prog Tryz.f58 = some tf58.erase := by kernel_rfl
theorem QfJ : QG Tryz.prog Tryz.f59 = some tf59.erase := by kernel_rfl
theorem QfK : QG Tryz.prog Tryz.f60 = some tf60.erase := by kernel_rfl
theorem QfL : QG Tryz.prog Tryz.f61 = some tf61.erase := by kernel_rfl
theorem QfM : QG Tryz.prog Tryz.f62 = some tf62.erase := by kernel_rfl
theorem QfN : QG Tryz.prog Tryz.f63 = some tf63.erase := by kernel_rfl
theorem QfO : QG Tryz.prog Tryz.f64 = some tf64.erase := by kernel_rfl
theorem QfP : QG Tryz.prog Tryz.f65 = some tf65.erase := by kernel_rfl
theorem QfQ : QG Tryz.prog Tryz.f66 = some tf66.erase := by kernel_rfl
theorem QfR : QG Tryz.prog Tryz.f67 = some tf67.erase := by kernel_rfl
theorem QfS : QG Tryz.prog Tryz.f68 = some tf68.erase := by kernel_rfl
theorem QfT : QG Tryz.prog Tryz.f69 = some tf69.erase := by kernel_rfl
theorem QfU : QG Tryz.prog Tryz.f70 = some tf70.erase := by kernel_rfl
theorem QfV : QG Tryz.prog Tryz.f71 = some tf71.erase := by kernel_rfl
theorem QfW : QG Tryz.prog Tryz.f72 = some tf72.erase := by kernel_rfl
theorem QfX : QG Tryz.prog Tryz.f73 = some tf73.erase := by kernel_rfl
theorem QfY : QG Tryz.prog Tryz.f74 = some tf74.erase := by kernel_rfl
theorem QfZ : QG Tryz.prog Tryz.f75 = some tf75.erase := by kernel_rfl
theorem Qf0 : QG Tryz.prog Tryz.f76 = some tf76.erase := by kernel_rfl
theorem Qf1 : QG Tryz.prog Tryz.f77 = some tf77.erase := by kernel_rfl
theorem Qf2 : QG Tryz.prog Tryz.f78 = some tf78.erase := by kernel_rfl
theorem Qf3 : QG Tryz.prog Tryz.f79 = some tf79.erase := by kernel_rfl
theorem Qf4 : QG Tryz.prog Tryz.f80 = some tf80.erase := by kernel_rfl
theorem Qf5 : QG Tryz.prog Tryz.f81 = some tf81.erase := by kernel_rfl
theorem Qf6 : QG Tryz.prog Tryz.f82 = some tf82.erase := by kernel_rfl
theorem Qf7 : QG Tryz.prog Tryz.f83 = some tf83.erase := by kernel_rfl
theorem Qf8 : QG Tryz.prog Tryz.f84 = some tf84.erase := by kernel_rfl
theorem Qf9 : QG Tryz.prog Tryz.f85 = some tf85.erase := by kernel_rfl
theorem Qga : QG Tryz.prog Tryz.f86 = some tf86.erase := by kernel_rfl
theorem Qgb : QG Tryz.prog Tryz.f87 = some tf87.erase := by kernel_rfl
theorem Qgc : QG Tryz.prog Tryz.f88 = some tf88.erase := by kernel_rfl
theorem Qgd : QG Tryz.prog Tryz.f89 = some tf89.erase := by kernel_rfl
theorem Qge : QG Tryz.prog Tryz.f90 = some tf90.erase := by kernel_rfl
theorem Qgf : QG Tryz.prog Tryz.f91 = some tf91.erase := by kernel_rfl
theorem Qgg : QG Tryz.prog Tryz.f92 = some tf92.erase := by kernel_rfl
theorem Qgh : QG Tryz.prog Tryz.f93 = some tf93.erase := by kernel_rfl
theorem Qgi : QG Tryz.prog Tryz.f94 = some tf94.erase := by kernel_rfl
theorem Qgj : QG Tryz.prog Tryz.f95 = some tf95.erase := by kernel_rfl
theorem Qgk : QG Tryz.prog Tryz.f96 = some tf96.erase := by kernel_rfl
theorem Qgl : QG Tryz.prog Tryz.f97 = some tf97.erase := by kernel_rfl
theorem Qgm : QG Tryz.prog Tryz.f98 = some tf98.erase := by kernel_rfl
theorem Qgn : QG Tryz.prog Tryz.f99 = some tf99.erase := by kernel_rfl
theorem Qev : QG Tryz.prog Tryz.f100 = some tf100.erase := by kernel_rfl
theorem Qew : QG Tryz.prog Tryz.f101 = some tf101.erase := by kernel_rfl
theorem Qex : QG Tryz.prog Tryz.f102 = some tf102.erase := by kernel_rfl
theorem Qey : QG Tryz.prog Tryz.f103 = some tf103.erase := by kernel_rfl
theorem Qez : QG Tryz.prog Tryz.f104 = some tf104.erase := by kernel_rfl
theorem QeA : QG Tryz.prog Tryz.f105 = some tf105.erase := by kernel_rfl
theorem QeB : QG Tryz.prog Tryz.f106 = some tf106.erase := by kernel_rfl
theorem QeC : QG Tryz.prog Tryz.f107 = some tf107.erase := by kernel_rfl
theorem QeD : QG Tryz.prog Tryz.f108 = some tf108.erase := by kernel_rfl
theorem QeE : QG Tryz.prog Tryz.f109 = some tf109.erase := by kernel_rfl
theorem QeF : QG Tryz.prog Tryz.f110 = some tf110.erase := by kernel_rfl
theorem QeG : QG Tryz.prog Tryz.f111 = some tf111.erase := by kernel_rfl
theorem QeH : QG Tryz.prog Tryz.f112 = some tf112.erase := by kernel_rfl
theorem QeI : QG Tryz.prog Tryz.f113 = some tf113.erase := by kernel_rfl
theorem ZR : Tryz.prog.follows .mixedOrders = true := by kernel_rfl
end Go.Proofs
namespace M3
open Go Go.Abs
def mFits (n : Int) : Bool := decide (0 <= n) && decide (n <= 9999)
def Gu (m n : Int) : Int := if m < n then -1 else if n < m then 1 else 0
def JN (c : UInt8) : Bool := decide (48 <= c.toNat) && decide (c.toNat <= 57)
def XT (s : List UInt8) : Bool := s.all JN && !decide (s = [])
theorem P4 {s : List UInt8} {i : Nat} (h : i < s.length) (hd : JN s[i] = false) : XT s = false := by
 have : s.all JN = false := by
  rw [Bool.eq_false_iff]
  intro ha
  rw [QgB] at ha
  rw [ha _ (Qgw h)] at hd
  cases hd
 rw [XT, this]; rfl
theorem Ld {s : List UInt8} {i : Nat} (hi : s.length <= i) (h : (s.take i).all JN = true) : XT s = !decide (s = []) := by
 rw [QgH hi] at h
 rw [XT, h]; rfl
def MY (v n : Int) : Int := if v.tmod n < 0 then v.tmod n + n else v.tmod n
def ZJ (l : List Int) : D := .sl (l.map fun x => [.int .i64 x])
theorem Qbd {v n : Int} (h : 0 < n) : 0 <= MY v n := by
 unfold MY
 have h1 := Int.tmod_lt_of_pos v h
 have h2 := Int.lt_tmod_of_pos v h
 split <;> omega
theorem Qbc {v n : Int} (h : 0 < n) : MY v n < n := by
 unfold MY
 have h1 := Int.tmod_lt_of_pos v h
 split <;> omega
end M3
namespace M3
open Go Go.Abs
def Ki (c : Int) : List UInt8 -> List UInt8 -> List (List UInt8)
 | [], cur => [cur]
 | x :: xs, cur => if (x.toNat : Int) = c then cur :: Ki c xs [] else Ki c xs (cur ++ [x])
def Yu (s : List UInt8) (c : Int) : List (List UInt8) := Ki c s []
def Kq (l : List (List UInt8)) : List (List D) := l.map fun x => [.str x]
def SplitI (s : List UInt8) (c : Int) (i k : Nat) (acc : List (List UInt8)) : Prop :=
 i <= s.length /\ k <= i /\ acc.length <= i /\ Yu s c = acc ++ Ki c (s.drop i) ((s.take i).drop k)
theorem SplitI.zero {s : List UInt8} {c : Int} : SplitI s c 0 0 [] := ⟨QgD _, Nat.le_refl _, Nat.le_refl _, by simp [Yu]⟩
theorem SplitI.hit {s : List UInt8} {c : Int} {i k : Nat} {acc : List (List UInt8)} (h : SplitI s c i k acc) (hi : i < s.length) (he : ((s[i]).toNat : Int) = c) : SplitI s c (i + 1) (i + 1) (acc ++ [(s.take i).drop k]) := by
 obtain ⟨h1, h2, h3, h4⟩ := h
 refine ⟨hi, Nat.le_refl _, by simp; omega, ?_⟩
 rw [QgI hi] at h4
 simp only [Ki, he, if_true] at h4
 rw [h4, List.append_assoc]
 simp
theorem SplitI.miss {s : List UInt8} {c : Int} {i k : Nat} {acc : List (List UInt8)} (h : SplitI s c i k acc) (hi : i < s.length) (he : ¬ ((s[i]).toNat : Int) = c) : SplitI s c (i + 1) k acc := by
 obtain ⟨h1, h2, h3, h4⟩ := h
 refine ⟨hi, Wa, Wa, ?_⟩
 rw [QgI hi] at h4
 simp only [Ki, he, if_false] at h4
 rw [h4, List.take_succ_eq_append_getElem hi, List.drop_append_of_le_length Wh]
theorem SplitI.done {s : List UInt8} {c : Int} {i k : Nat} {acc : List (List UInt8)} (h : SplitI s c i k acc) (hi : s.length <= i) : Yu s c = acc ++ [s.drop k] := by
 obtain ⟨h1, h2, h3, h4⟩ := h
 rw [h4, QgM hi, QgH hi]
 rfl
end M3
namespace M3
open Go Go.Abs
def S1 (a b : List UInt8) : Int := if Op.bytesLess a b = true then -1 else if a = b then 0 else 1
def X3 (c : Int) : Bool := decide (48 <= c) && decide (c <= 57)
def Xq (c : UInt8) : Bool := (decide (97 <= c.toNat) && decide (c.toNat <= 122)) || (decide (48 <= c.toNat) && decide (c.toNat <= 57)) || decide (c.toNat = 45)
def M0 (s : List UInt8) : Bool := decide (1 <= s.length) && decide (s.length <= 8) && s.all Xq
def val (s : List UInt8) : Nat := s.foldl (fun n c => 10 * n + (c.toNat - 48)) 0
def Xl (s : List UInt8) : Int × Bool :=
 if s.length < 1 \/ 9 < s.length \/ (1 < s.length /\ s.head? = some 48) \/ s.all JN = false \/ 9999 < val s then (0, false) else ((val s : Int), true)
def mOne (a b : List UInt8) : Int :=
 if XT a = true /\ XT b = true then Gu (Xl a).1 (Xl b).1
 else if XT a = true then -1 else if XT b = true then 1 else S1 a b
def Ck : List (List UInt8) -> List (List UInt8) -> Int
 | [], [] => 0
 | [], _ :: _ => -1
 | _ :: _, [] => 1
 | a :: l, b :: m => if mOne a b ≠ 0 then mOne a b else Ck l m
def Pq (a b : List UInt8) : Int := if a = b then 0 else if a = [] then 1 else if b = [] then -1 else Ck (Yu a 46) (Yu b 46)
def NM (pre : Bool) (t : List UInt8) : Bool := M0 t && !(pre && XT t && !(Xl t).2)
def HH (s : List UInt8) (pre : Bool) : Bool := decide (s = []) || (decide ((Yu s 46).length <= 4) && (Yu s 46).all (NM pre))
def PY (a b c : Int) (p q : List UInt8) : Bool := mFits a && mFits b && mFits c && HH p true && HH q false
def Bl (a b c : Int) (p q : List UInt8) (a' b' c' : Int) (p' q' : List UInt8) : Int :=
 if PY a b c p q = false \/ PY a' b' c' p' q' = false then 0
 else if Gu a a' ≠ 0 then Gu a a' else if Gu b b' ≠ 0 then Gu b b' else if Gu c c' ≠ 0 then Gu c c' else Pq p p'
theorem XX {α : Type} {s : List α} {p : α -> Bool} {i : Nat} (h : i < s.length) (hd : p s[i] = false) : s.all p = false := by
 rw [Bool.eq_false_iff]
 intro ha
 rw [QgB] at ha
 rw [ha _ (Qgw h)] at hd
 cases hd
theorem XP {α : Type} {s : List α} {p : α -> Bool} {i : Nat} (hi : s.length <= i) (h : (s.take i).all p = true) : s.all p = true := by rwa [QgH hi] at h
theorem DJ {s : List UInt8} {i : Nat} (h : i < s.length) : val (s.take (i + 1)) = 10 * val (s.take i) + (s[i].toNat - 48) := by
 rw [List.take_succ_eq_append_getElem h]; simp only [val, List.foldl_append, List.foldl_cons, List.foldl_nil]
theorem QdW : ∀ {s : List UInt8}, s.all JN = true -> val s < 10 ^ s.length := by
 intro s
 rw [<- List.reverse_reverse s]
 generalize s.reverse = r
 induction r with
 | nil => intro _; decide
 | cons c r ih =>
  intro h
  rw [List.reverse_cons, List.all_append, Qgv] at h
  have h1 := ih h.1
  have h2 : JN c = true := by simpa using h.2
  simp only [JN, Qgv, decide_eq_true_eq] at h2
  rw [List.reverse_cons]
  simp only [val, List.foldl_append, List.foldl_cons, List.foldl_nil, List.length_append, List.length_cons, List.length_nil] at h1 ⊢
  rw [Nat.pow_succ]
  omega
theorem Bs {l m : List (List UInt8)} {i : Nat} (h1 : i < l.length) (h2 : i < m.length) (h : mOne l[i] m[i] = 0) : Ck (l.drop i) (m.drop i) = Ck (l.drop (i + 1)) (m.drop (i + 1)) := by
 rw [QgI h1, QgI h2]
 simp [Ck, h]
theorem H5 {l m : List (List UInt8)} {i : Nat} (h1 : i < l.length) (h2 : i < m.length) (h : mOne l[i] m[i] ≠ 0) : Ck (l.drop i) (m.drop i) = mOne l[i] m[i] := by
 rw [QgI h1, QgI h2]
 simp [Ck, h]
theorem H4 {l m : List (List UInt8)} {i : Nat} (hl : i <= l.length) (hm : i <= m.length) (h : l.length <= i \/ m.length <= i) : Ck (l.drop i) (m.drop i) = Gu l.length m.length := by
 rcases QgP i l.length with h1 | h1 <;> rcases QgP i m.length with h2 | h2
 ·omega
 ·rw [QgI h1, QgM h2]
  simp only [Ck, Gu]
  rw [if_neg Wa, if_pos Wa]
 ·rw [QgI h2, QgM h1]
  simp only [Ck, Gu]
  rw [if_pos Wa]
 ·rw [QgM h1, QgM h2]
  simp only [Ck, Gu]
  rw [if_neg Wa, if_neg Wa]
end M3
namespace M3
end M3
namespace M3
theorem Qdz {s : List UInt8} (h : 0 < s.length) (e : ((s[0]).toNat : Int) = 48) : s.head? = some 48 := by
 cases s with
 | nil => simp at h
 | cons x r =>
  simp only [List.getElem_cons_zero] at e
  have : x = 48 := UInt8.toNat_inj.1 (by simpa using (by omega : x.toNat = 48))
  simp [this]
theorem C9 {s : List UInt8} (h : 0 < s.length) (e : ¬ ((s[0]).toNat : Int) = 48) : s.head? ≠ some 48 := by
 cases s with
 | nil => simp at h
 | cons x r =>
  simp only [List.getElem_cons_zero] at e
  intro hh
  simp at hh
  subst hh
  exact e rfl
theorem P3 {s : List UInt8} {i : Nat} (h : ¬ (s.length < 1 \/ 9 < s.length \/ (1 < s.length /\ s.head? = some 48))) (hi : s.length <= i) (ha : (s.take i).all JN = true) (hv : val (s.take i) <= 9999) : Xl s = ((val (s.take i) : Int), true) := by
 have h1 := XP hi ha
 rw [QgH hi] at hv ⊢
 rw [Xl, if_neg]
 rintro (q | q | q | q | q)
 ·exact h (.inl q)
 ·exact h (.inr (.inl q))
 ·exact h (.inr (.inr q))
 ·rw [h1] at q; cases q
 ·omega
theorem Nk {s : List UInt8} {i : Nat} (hi : s.length <= i) (hv : 9999 < val (s.take i)) : Xl s = (0, false) := by
 rw [QgH hi] at hv
 rw [Xl, if_pos (.inr (.inr (.inr (.inr hv))))]
theorem Nl {s : List UInt8} {i : Nat} (h : i < s.length) (hd : JN s[i] = false) : Xl s = (0, false) := by
 rw [Xl, if_pos (.inr (.inr (.inr (.inl (XX h hd)))))]
theorem Nm {s : List UInt8} (h : s.length < 1 \/ 9 < s.length) : Xl s = (0, false) := by
 rw [Xl, if_pos (by rcases h with h | h; exact .inl h; exact .inr (.inl h))]
theorem H7 {s : List UInt8} (h : 1 < s.length) (e : ((s[0]).toNat : Int) = 48) : Xl s = (0, false) := by
 rw [Xl, if_pos (.inr (.inr (.inl ⟨h, Qdz Wa e⟩)))]
end M3
namespace M3
open Go Go.Abs
theorem Zc (l : List (List UInt8)) : (Kq l).length = l.length := by simp [Kq]
theorem Fp {l : List (List UInt8)} {i : Nat} (h : i < l.length) : (Kq l)[((i : Nat) : Int).toNat]? = some [.str l[i]] := by simp [Kq, h]
theorem K4 {c : Int} : ∀ (s cur : List UInt8), (Ki c s cur).length <= s.length + 1 /\ ∀ x ∈ Ki c s cur, x.length <= s.length + cur.length
 | [], cur => by simp [Ki]
 | x :: xs, cur => by
  simp only [Ki]
  split
  ·obtain ⟨h1, h2⟩ := K4 (c := c) xs []
   refine ⟨by simp; omega, fun y hy => ?_⟩
   rcases Qgt.1 hy with rfl | hy
   ·simp <;> omega
   ·have := h2 y hy; simp at this ⊢; omega
  ·obtain ⟨h1, h2⟩ := K4 (c := c) xs (cur ++ [x])
   refine ⟨by simp; omega, fun y hy => ?_⟩
   have := h2 y hy; simp at this ⊢; omega
theorem B3 {s : List UInt8} {c : Int} : (Yu s c).length <= s.length + 1 := (K4 s []).1
theorem FO {s : List UInt8} {c : Int} {i : Nat} (h : i < (Yu s c).length) (hl : s.length <= 1000000) : ((Yu s c)[i]).length <= 1000000 := by
 have := (K4 (c := c) s []).2 _ (Qgw h)
 simp only [List.length_nil, Nat.add_zero] at this
 exact QgK this hl
end M3
namespace M3
open Go Go.Abs
theorem FB {s : List UInt8} {pre : Bool} {i : Nat} (hs : s ≠ []) (h : i < (Yu s 46).length) (hd : NM pre (Yu s 46)[i] = false) : HH s pre = false := by
 rw [HH, XX h hd]; simp [hs]
theorem HI {s : List UInt8} {pre : Bool} {i : Nat} (h4 : (Yu s 46).length <= 4) (hi : (Yu s 46).length <= i) (h : ((Yu s 46).take i).all (NM pre) = true) : HH s pre = true := by
 rw [HH, XP hi h]; simp [h4]
end M3
namespace M3
open Go Go.Abs
structure Cu where
 e : Int
 a : Int
 b : Int
 c : Int
 p : List UInt8
 q : List UInt8
 f : Bool
def Nh (e a b c : Int) (p q : List UInt8) (f : Bool) : Bool :=
 if e = 0 then PY a b c p q && decide (q = [])
 else (decide (e = -1) || decide (e = 1)) && (decide (a = 0) && (decide (b = 0) && (decide (c = 0) && (decide (p = []) && (decide (q = []) && true))))) && !f
def KT (e a b c : Int) (p q : List UInt8) (f : Bool) (e' a' b' c' : Int) (p' q' : List UInt8) (f' : Bool) : Int :=
 if Nh e a b c p q f = false \/ Nh e' a' b' c' p' q' f' = false then 0
 else if e ≠ e' \/ e ≠ 0 then Gu e e'
 else if Bl a b c p q a' b' c' p' q' ≠ 0 then Bl a b c p q a' b' c' p' q'
 else if f = f' then 0 else if f' = true then -1 else 1
def JE (e a b c : Int) (p q : List UInt8) (f : Bool) (a' b' c' : Int) (p' q' : List UInt8) : Bool :=
 if Nh e a b c p q f = false \/ PY a' b' c' p' q' = false then false
 else if e ≠ 0 then decide (e < 0)
 else decide (Bl a b c p q a' b' c' p' q' < 0) || (decide (Bl a b c p q a' b' c' p' q' = 0) && !f)
end M3
namespace M3
def RX (e a b c : Int) (p q : List UInt8) (f : Bool) (e' a' b' c' : Int) (p' q' : List UInt8) (f' : Bool) : Bool :=
 Nh e a b c p q f && Nh e' a' b' c' p' q' f' && decide (KT e a b c p q f e' a' b' c' p' q' f' < 0)
def GB (e a b c : Int) (p q : List UInt8) (f : Bool) (e' a' b' c' : Int) (p' q' : List UInt8) (f' : Bool) (x y z : Int) (r s : List UInt8) : Bool :=
 RX e a b c p q f e' a' b' c' p' q' f' && PY x y z r s && JE e a b c p q f x y z r s && !JE e' a' b' c' p' q' f' x y z r s
end M3
namespace M3
open Go Go.Abs
end M3
namespace M3
open Go Go.Abs
end M3
namespace M3
open Go Go.Abs
end M3
namespace M3
open Go Go.Abs
end M3
namespace Go.Proofs
open Go Go.Abs M3
theorem Xy {n : Int} : Ok Tryz.prog 68 [.int .i64 n] (.bool (mFits n)) := by
 refine Ok.ofT ZR Tryz.func68 QfS (Qgr Z) ?_
 show TW _ _ tf68.body _ _
 refine Qb fun K hK => Qa Z (kc1 hK Z ?_)
 refine Qb fun K hK => Qa Z (Mf Z Z (Qa Z ?_))
 refine Qu (g := 5) Z (fun h1 => ?_) (fun h1 => ?_)
 ·try rw [h1]
  try simp only [qB] at h1
  refine Qd Z (Qa Z (Qd Z (QbE Z Z (Qh Z Z (Qa Z (kc1 hK Z ?_))))))
  refine Qq (Qn Z ?_)
  (repeat clear hK K); simp_all [mFits] <;> omega
 ·try rw [h1]
  try simp only [qB] at h1
  refine gn2 Z Z (Qh Z Z (Qa Z (kc1 hK Z ?_)))
  refine Qq (Qn Z ?_)
  (repeat clear hK K); simp_all [mFits] <;> omega
theorem Zz {m n : Int} : Ok Tryz.prog 108 [.int .i64 m, .int .i64 n] (.int .i64 (Gu m n)) := by
 refine Ok.ofT ZR Tryz.func108 QeD (Qgr Z) ?_
 show TW _ _ tf108.body _ _
 refine Qb fun K hK => Qa Z (kc2 hK Z Z ?_)
 refine QA ?_ -- 0
 refine Qy (Qb fun K hK => mv2 Z Z (Yg Z Z (Qa Z (kc3 hK Z Z Z ?_))))
 refine Qs Z (fun h1 => ?_) (fun h1 => ?_)
 ·try rw [h1]
  try simp only [qB] at h1
  refine Qb fun K hK => Qa Z (kc1 hK Z ?_)
  refine Qq (Qp (Qg (QC Z ?_)))
  (repeat clear hK K); simp_all [Gu] <;> omega
 ·try rw [h1]
  try simp only [qB] at h1
  refine Qb fun K hK => mv2 Z Z (Pv Z Z (Qa Z (kc1 hK Z ?_)))
  refine Qs Z (fun h2 => ?_) (fun h2 => ?_)
  ·try rw [h2]
   try simp only [qB] at h2
   refine Qb fun K hK => Qa Z (kc1 hK Z ?_)
   refine Qq (Qp (Qg (QC Z ?_)))
   (repeat clear hK K); simp_all [Gu] <;> omega
  ·try rw [h2]
   try simp only [qB] at h2
   refine Qr (Qe (Zf (ZC) (Qb fun K hK => Qa Z (kc1 hK Z ?_))))
   refine Qq (QC Z ?_)
   (repeat clear hK K); simp_all [Gu] <;> omega
theorem _root_.Wd {p : Prop} (h : p := by first | exact Qm (by omega) (by omega) | exact Zb (by omega) (by omega) | exact Zp (by omega) (by omega) | rfl) : p := h
theorem Y4 {s : List UInt8} {c : Int} (hl : s.length <= 1000000) : Ok Tryz.prog 84 [.str s, .int .u8 c] (.sl (Kq (Yu s c))) := by
 refine Ok.ofT ZR Tryz.func84 Qf8 (Qgr Z) ?_
 show TW _ _ tf84.body _ _
 refine Qb fun K hK => Qa Z (kc2 hK Z Z ?_)
 refine Qb fun K hK => Qa Z (kc3 hK Z Z Z ?_)
 refine Qb fun K hK => Qa Z (kc4 hK Z Z Z Z ?_)
 refine QA ?_ -- 0
 refine Qb fun K hK => Qa Z (kc5 hK Z Z Z Z Z ?_)
 refine Qy ?_
 refine Zq (ι := Nat × Nat × List (List UInt8)) (fun ⟨i, k, acc⟩ => ⟨[(0, .str s), (1, .int .u8 c), (5, .osl 25 acc.length), (6, .int .i64 k), (7, .int .i64 i)], [(25, ⟨Kq acc, 1, 9, true⟩)]⟩) (fun ⟨i, k, acc⟩ => SplitI s c i k acc) (fun ⟨i, k, acc⟩ => s.length - i) (0, 0, []) ?_ ?_ ?_
 ·exact le_trans (Yd 5 25 1 9 rfl rfl) (Q3 (l := [0, 1, 5, 6, 7]) (lH := [25]) (kp5 rfl rfl rfl rfl rfl) (Qc rfl Ql) rfl rfl rfl)
 ·exact SplitI.zero
 intro ⟨i, k, acc⟩ hI
 have hI1 := hI.1
 have hI2 := hI.2.1
 have hI3 := hI.2.2.1
 try dsimp only
 refine QA ?_ -- 1
 refine Qb fun K hK => mv2 Z Z (XR Z (Yg Z Z (kc6 hK Z Z Z Z Z Z ?_)))
 refine Qs Z (fun h1 => ?_) (fun h1 => ?_)
 ·try rw [h1]
  try simp only [qB] at h1
  refine Qr (ks5 Z Z Z Z Z ?_)
  refine QA ?_ -- 2
  refine Qy (Qb fun K hK => mv2 Z Z (XO Z Z Wa (Fo Wa) (Qa Z (ZG Z Z (kc6 hK Z Z Z Z Z Z ?_)))))
  refine Qs Z (fun h2 => ?_) (fun h2 => ?_)
  ·try rw [h2]
   try simp only [qB] at h2
   refine Qb fun K hK => mv2 Z Z (mv2 Z Z (Pw Z Z Z Wa Wa Wa Z (QD Z Z (Xs Z Z (fun _ h => Xo Z Z Z h) Z (by simp [Kq]) Z Z Z Wh Wh (Qa Z (kc4 hK Z Z Z Z ?_))))))
   refine QI fun K hK => Qa Z (QZ Z Z Wd (Qa Z (hK _ ?_)))
   refine Qe (ks5 Z Z Z Z Z (QI fun K hK => Qa Z (QZ Z Z Wd (Qa Z (hK _ ?_)))))
   refine Qi (i + 1, i + 1, acc ++ [(s.take i).drop k]) ?_ ?_ ?_
   ·exact Q3 (l := [0, 1, 5, 6, 7]) (lH := [25]) (kp5 rfl rfl rfl rfl rfl) (Qc rfl Ql) (by simp [Kq, D.scrub]) (by simp [Kq, Box.scrub]) rfl
   ·exact hI.hit Wa Wl
   ·show s.length - (i + 1) < s.length - i; omega
  ·try rw [h2]
   try simp only [qB] at h2
   refine Qr (Qe (ks5 Z Z Z Z Z (QI fun K hK => Qa Z (QZ Z Z Wd (Qa Z (hK _ ?_))))))
   refine Qi (i + 1, k, acc) ?_ ?_ ?_
   ·exact Q3 (l := [0, 1, 5, 6, 7]) (lH := [25]) (kp5 rfl rfl rfl rfl rfl) (Qc rfl Ql) (by simp [Kq, D.scrub]) (by simp [Kq, Box.scrub]) rfl
   ·exact hI.miss Wa Wl
   ·show s.length - (i + 1) < s.length - i; omega
 ·try rw [h1]
  try simp only [qB] at h1
  refine Zh (QH (Qw (QE (ks3 Z Z Z (Qb fun K hK => mv2 Z Z (Qa Z (Pw Z Z Z Wa Wa Wa Z (QD Z Z (Xs Z Z (fun _ h => Xo Z Z Z h) Z (by simp [Kq]) Z Z Z Wh Wh ?_)))))))))
  refine Qa Z (kc1 hK Z ?_)
  refine Qq (Ye Z ?_)
  rw [hI.done Wa]; simp [Kc, D.fz, D.fzS, FR, lk, D.can, D.canS, Kq]
open Go Go.Abs M3
theorem Gq {a b : List UInt8} : Ok Tryz.prog 113 [.str a, .str b] (.int .i64 (S1 a b)) := by
 refine Ok.ofT ZR Tryz.func113 QeI (Qgr Z) ?_
 show TW _ _ tf113.body _ _
 refine Qb fun K hK => Qa Z (kc2 hK Z Z ?_)
 refine QA ?_ -- 0
 refine Qy (Qb fun K hK => mv2 Z Z (Qeb Z Z (Qa Z (kc3 hK Z Z Z ?_))))
 refine Qs Z (fun h1 => ?_) (fun h1 => ?_)
 ·try rw [h1]
  try simp only [qB] at h1
  refine Qb fun K hK => Qa Z (kc1 hK Z ?_)
  refine Qq (Qp (Qg (QC Z ?_)))
  (repeat clear hK K); simp_all [S1]
 ·try rw [h1]
  try simp only [qB] at h1
  refine Qb fun K hK => mv2 Z Z (Qdg Z Z (Qa Z (kc1 hK Z ?_)))
  refine Qs Z (fun h2 => ?_) (fun h2 => ?_)
  ·try rw [h2]
   try simp only [qB] at h2
   refine Qb fun K hK => Qa Z (kc1 hK Z ?_)
   refine Qq (Qp (Qg (QC Z ?_)))
   (repeat clear hK K); simp_all [S1]
  ·try rw [h2]
   try simp only [qB] at h2
   refine Qr (Qe (Zf (ZC) (Qb fun K hK => Qa Z (kc1 hK Z ?_))))
   refine Qq (QC Z ?_)
   (repeat clear hK K); simp_all [S1]
theorem Gg {c : Int} : Ok Tryz.prog 95 [.int .u8 c] (.bool (X3 c)) := by
 refine Ok.ofT ZR Tryz.func95 Qgj (Qgr Z) ?_
 show TW _ _ tf95.body _ _
 refine Qb fun K hK => Qa Z (kc1 hK Z ?_)
 refine Qb fun K hK => Qa Z (Mf Z Z (Qa Z ?_))
 refine Qu (g := 5) Z (fun h1 => ?_) (fun h1 => ?_)
 ·try rw [h1]
  try simp only [qB] at h1
  refine Qd Z (Qa Z (Qd Z (QbE Z Z (Qh Z Z (Qa Z (kc1 hK Z ?_))))))
  refine Qq (Qn Z ?_)
  (repeat clear hK K); simp_all [X3] <;> omega
 ·try rw [h1]
  try simp only [qB] at h1
  refine gn2 Z Z (Qh Z Z (Qa Z (kc1 hK Z ?_)))
  refine Qq (Qn Z ?_)
  (repeat clear hK K); simp_all [X3] <;> omega
theorem _root_.Wq {p : Prop} (h : p := by simp [JN]; omega) : p := h
theorem YI {s : List UInt8} (hl : s.length <= 1000000) : Ok Tryz.prog 87 [.str s] (.bool (XT s)) := by
 refine Ok.ofT ZR Tryz.func87 Qgb (Qgr Z) ?_
 show TW _ _ tf87.body _ _
 refine Qb fun K hK => Qa Z (kc1 hK Z ?_)
 refine QA ?_ -- 0
 refine Qb fun K hK => Qa Z (kc2 hK Z Z ?_)
 refine Qy ?_
 refine Zq (ι := Nat) (fun i => ⟨[(0, .str s), (3, .int .i64 i)], []⟩) (fun i => i <= s.length /\ (s.take i).all JN = true) (fun i => s.length - i) 0 ?_ ?_ ?_
 ·exact Za (kp2 rfl rfl)
 ·exact ⟨QgD _, rfl⟩
 intro i hI
 try dsimp only
 refine QA ?_ -- 1
 refine Qb fun K hK => mv2 Z Z (XR Z (Yg Z Z (kc3 hK Z Z Z ?_)))
 refine Qs Z (fun h1 => ?_) (fun h1 => ?_)
 ·try rw [h1]
  try simp only [qB] at h1
  refine Qr (ks2 Z Z ?_)
  refine QA ?_ -- 2
  refine Qy (Qb fun K hK => mv2 Z Z (XO Z Z Wa (Fo Wa) (Yg Z Z (Qa Z ?_))))
  refine Qu (g := 14) Z (fun h2 => ?_) (fun h2 => ?_)
  ·try rw [h2]
   try simp only [qB] at h2
   refine gn4 Z Z Z Z (Qh Z Z (kc3 hK Z Z Z ?_))
   refine Zr Z (Qb fun K hK => Qa Z (kc1 hK Z ?_))
   refine Qq (Qp (Qg (Q0 (Qp (Qg (Qn Z ?_))))))
   exact (P4 (i := i) Wa Wq).symm
  ·try rw [h2]
   try simp only [qB] at h2
   refine Qd Z (Qa Z (Qd Z (Qa Z (Qd Z (XO Z Z Wa (Fo Wa) (Qd Z (Pv Z Z (Qh Z Z (kc3 hK Z Z Z ?_)))))))))
   refine Qs Z (fun h3 => ?_) (fun h3 => ?_)
   ·try rw [h3]
    try simp only [qB] at h3
    refine Qb fun K hK => Qa Z (kc1 hK Z ?_)
    refine Qq (Qp (Qg (Q0 (Qp (Qg (Qn Z ?_))))))
    exact (P4 (i := i) Wa Wq).symm
   ·try rw [h3]
    try simp only [qB] at h3
    refine Qr (Qe (ks2 Z Z (QI fun K hK => Qa Z (QZ Z Z Wd (Qa Z (hK _ ?_))))))
    refine Qi (i + 1) ?_ ?_ ?_
    ·exact Za (kp2 rfl rfl)
    ·exact ⟨Wa, Yf Wa hI.2 Wq⟩
    ·first | omega | (simp only; omega) | (dsimp only; omega)
 ·try rw [h1]
  try simp only [qB] at h1
  refine Zh (QH (Qw (QE (ks1 Z (Qb fun K hK => Qa Z (XR Z (Pv Z Z (Qa Z (kc1 hK Z ?_)))))))))
  refine Qq (Qn Z ?_)
  rw [Ld (i := i) Wa hI.2]; cases s <;> simp
theorem _root_.Wo {p : Prop} (h : p := by simp [Xq]; omega) : p := h
theorem G6 {s : List UInt8} (hl : s.length <= 1000000) : Ok Tryz.prog 85 [.str s] (.bool (M0 s)) := by
 refine Ok.ofT ZR Tryz.func85 Qf9 (Qgr Z) ?_
 show TW _ _ tf85.body _ _
 refine Qb fun K hK => Qa Z (kc1 hK Z ?_)
 refine QA ?_ -- 0
 refine Qb fun K hK => Qa Z (XR Z (Yg Z Z (Qa Z ?_)))
 refine Qu (g := 8) Z (fun h1 => ?_) (fun h1 => ?_)
 ·try rw [h1]
  try simp only [qB] at h1
  refine gn3 Z Z Z (Qh Z Z (kc2 hK Z Z ?_))
  refine Zr Z (Qb fun K hK => Qa Z (kc1 hK Z ?_))
  refine Qq (Qg (Qn Z ?_))
  first | (have hz := XP (p := Xq) (s := s) (i := i) Wa hI.2; simp [M0, hz]; omega) | (have hz := XX (p := Xq) (s := s) (i := i) Wa Wo; simp [M0, hz]; done) | (simp [M0]; omega)
 ·try rw [h1]
  try simp only [qB] at h1
  refine Qd Z (Qa Z (Qd Z (XR Z (Qd Z (Pv Z Z (Qh Z Z (kc2 hK Z Z ?_)))))))
  refine Qs Z (fun h2 => ?_) (fun h2 => ?_)
  ·try rw [h2]
   try simp only [qB] at h2
   refine Qb fun K hK => Qa Z (kc1 hK Z ?_)
   refine Qq (Qg (Qn Z ?_))
   first | (have hz := XP (p := Xq) (s := s) (i := i) Wa hI.2; simp [M0, hz]; omega) | (have hz := XX (p := Xq) (s := s) (i := i) Wa Wo; simp [M0, hz]; done) | (simp [M0]; omega)
  ·try rw [h2]
   try simp only [qB] at h2
   refine Qr (ks1 Z ?_)
   refine QA ?_ -- 1
   refine Qb fun K hK => Qa Z (kc2 hK Z Z ?_)
   refine Qy ?_
   refine Zq (ι := Nat) (fun i => ⟨[(0, .str s), (3, .int .i64 i)], []⟩) (fun i => i <= s.length /\ (s.take i).all Xq = true) (fun i => s.length - i) 0 ?_ ?_ ?_
   ·exact Za (kp2 rfl rfl)
   ·exact ⟨QgD _, rfl⟩
   intro i hI
   try dsimp only
   refine QA ?_ -- 2
   refine Qb fun K hK => mv2 Z Z (XR Z (Yg Z Z (kc3 hK Z Z Z ?_)))
   refine Qs Z (fun h3 => ?_) (fun h3 => ?_)
   ·try rw [h3]
    try simp only [qB] at h3
    refine Qr (ks2 Z Z ?_)
    refine QA ?_ -- 3
    refine Qy (Qb fun K hK => mv2 Z Z (XO Z Z Wa (Fo Wa) (Qa Z (kc3 hK Z Z Z ?_))))
    refine Qb fun K hK => Qa Z (Yg Z Z (Qa Z ?_))
    refine Qu (g := 24) Z (fun h4 => ?_) (fun h4 => ?_)
    ·try rw [h4]
     try simp only [qB] at h4
     refine gn2 Z Z (Qh Z Z (Qa Z (Qd Z (Qa Z (Qd Z (Yg Z Z (Qd Z (Qa Z ?_))))))))
     refine Qu (g := 31) Z (fun h5 => ?_) (fun h5 => ?_)
     ·try rw [h5]
      try simp only [qB] at h5
      refine gn2 Z Z (Qd Z (Qh Z Z (Qh Z Z (Qa Z (Qd Z (Qa Z (Qd Z (X5 Z Z (Qh Z Z (kc3 hK Z Z Z ?_))))))))))
      refine Qs Z (fun h6 => ?_) (fun h6 => ?_)
      ·try rw [h6]
       try simp only [qB] at h6
       refine Qb fun K hK => Qa Z (kc1 hK Z ?_)
       refine Qq (Qp (Qg (Q0 (Qp (Qg (Qn Z ?_))))))
       first | (have hz := XP (p := Xq) (s := s) (i := i) Wa hI.2; simp [M0, hz]; omega) | (have hz := XX (p := Xq) (s := s) (i := i) Wa Wo; simp [M0, hz]; done) | (simp [M0]; omega)
      ·try rw [h6]
       try simp only [qB] at h6
       refine Qr (Qe (ks2 Z Z (QI fun K hK => Qa Z (QZ Z Z Wd (Qa Z (hK _ ?_))))))
       refine Qi (i + 1) ?_ ?_ ?_
       ·exact Za (kp2 rfl rfl)
       ·exact ⟨Wa, Yf Wa hI.2 Wo⟩
       ·first | omega | (simp only; omega) | (dsimp only; omega)
     ·try rw [h5]
      try simp only [qB] at h5
      refine Qd Z (Qa Z (Qd Z (Pv Z Z (Qd Z (Qh Z Z (Qh Z Z (Qa Z ?_)))))))
      refine Qu (g := 36) Z (fun h7 => ?_) (fun h7 => ?_)
      ·try rw [h7]
       try simp only [qB] at h7
       refine Qd Z (Qa Z (Qd Z (X5 Z Z (Qh Z Z (kc3 hK Z Z Z ?_)))))
       refine Qs Z (fun h8 => ?_) (fun h8 => ?_)
       ·try rw [h8]
        try simp only [qB] at h8
        refine Qb fun K hK => Qa Z (kc1 hK Z ?_)
        refine Qq (Qp (Qg (Q0 (Qp (Qg (Qn Z ?_))))))
        first | (have hz := XP (p := Xq) (s := s) (i := i) Wa hI.2; simp [M0, hz]; omega) | (have hz := XX (p := Xq) (s := s) (i := i) Wa Wo; simp [M0, hz]; done) | (simp [M0]; omega)
       ·try rw [h8]
        try simp only [qB] at h8
        refine Qr (Qe (ks2 Z Z (QI fun K hK => Qa Z (QZ Z Z Wd (Qa Z (hK _ ?_))))))
        refine Qi (i + 1) ?_ ?_ ?_
        ·exact Za (kp2 rfl rfl)
        ·exact ⟨Wa, Yf Wa hI.2 Wo⟩
        ·first | omega | (simp only; omega) | (dsimp only; omega)
      ·try rw [h7]
       try simp only [qB] at h7
       refine gn2 Z Z (Qh Z Z (kc3 hK Z Z Z ?_))
       refine ZU Z (Qr (Qe (ks2 Z Z (QI fun K hK => Qa Z (QZ Z Z Wd (Qa Z (hK _ ?_)))))))
       refine Qi (i + 1) ?_ ?_ ?_
       ·exact Za (kp2 rfl rfl)
       ·exact ⟨Wa, Yf Wa hI.2 Wo⟩
       ·first | omega | (simp only; omega) | (dsimp only; omega)
    ·try rw [h4]
     try simp only [qB] at h4
     refine Qd Z (Qa Z (Qd Z (Pv Z Z (Qh Z Z (Qa Z ?_)))))
     refine Qu (g := 28) Z (fun h9 => ?_) (fun h9 => ?_)
     ·try rw [h9]
      try simp only [qB] at h9
      refine Qd Z (Qa Z (Qd Z (Yg Z Z (Qd Z (Qa Z ?_)))))
      refine Qu (g := 31) Z (fun h10 => ?_) (fun h10 => ?_)
      ·try rw [h10]
       try simp only [qB] at h10
       refine gn2 Z Z (Qd Z (Qh Z Z (Qh Z Z (Qa Z (Qd Z (Qa Z (Qd Z (X5 Z Z (Qh Z Z (kc3 hK Z Z Z ?_))))))))))
       refine Qs Z (fun h11 => ?_) (fun h11 => ?_)
       ·try rw [h11]
        try simp only [qB] at h11
        refine Qb fun K hK => Qa Z (kc1 hK Z ?_)
        refine Qq (Qp (Qg (Q0 (Qp (Qg (Qn Z ?_))))))
        first | (have hz := XP (p := Xq) (s := s) (i := i) Wa hI.2; simp [M0, hz]; omega) | (have hz := XX (p := Xq) (s := s) (i := i) Wa Wo; simp [M0, hz]; done) | (simp [M0]; omega)
       ·try rw [h11]
        try simp only [qB] at h11
        refine Qr (Qe (ks2 Z Z (QI fun K hK => Qa Z (QZ Z Z Wd (Qa Z (hK _ ?_))))))
        refine Qi (i + 1) ?_ ?_ ?_
        ·exact Za (kp2 rfl rfl)
        ·exact ⟨Wa, Yf Wa hI.2 Wo⟩
        ·first | omega | (simp only; omega) | (dsimp only; omega)
      ·try rw [h10]
       try simp only [qB] at h10
       refine Qd Z (Qa Z (Qd Z (Pv Z Z (Qd Z (Qh Z Z (Qh Z Z (Qa Z ?_)))))))
       refine Qu (g := 36) Z (fun h12 => ?_) (fun h12 => ?_)
       ·try rw [h12]
        try simp only [qB] at h12
        refine Qd Z (Qa Z (Qd Z (X5 Z Z (Qh Z Z (kc3 hK Z Z Z ?_)))))
        refine Qs Z (fun h13 => ?_) (fun h13 => ?_)
        ·try rw [h13]
         try simp only [qB] at h13
         refine Qb fun K hK => Qa Z (kc1 hK Z ?_)
         refine Qq (Qp (Qg (Q0 (Qp (Qg (Qn Z ?_))))))
         first | (have hz := XP (p := Xq) (s := s) (i := i) Wa hI.2; simp [M0, hz]; omega) | (have hz := XX (p := Xq) (s := s) (i := i) Wa Wo; simp [M0, hz]; done) | (simp [M0]; omega)
        ·try rw [h13]
         try simp only [qB] at h13
         refine Qr (Qe (ks2 Z Z (QI fun K hK => Qa Z (QZ Z Z Wd (Qa Z (hK _ ?_))))))
         refine Qi (i + 1) ?_ ?_ ?_
         ·exact Za (kp2 rfl rfl)
         ·exact ⟨Wa, Yf Wa hI.2 Wo⟩
         ·first | omega | (simp only; omega) | (dsimp only; omega)
       ·try rw [h12]
        try simp only [qB] at h12
        refine gn2 Z Z (Qh Z Z (kc3 hK Z Z Z ?_))
        refine ZU Z (Qr (Qe (ks2 Z Z (QI fun K hK => Qa Z (QZ Z Z Wd (Qa Z (hK _ ?_)))))))
        refine Qi (i + 1) ?_ ?_ ?_
        ·exact Za (kp2 rfl rfl)
        ·exact ⟨Wa, Yf Wa hI.2 Wo⟩
        ·first | omega | (simp only; omega) | (dsimp only; omega)
     ·try rw [h9]
      try simp only [qB] at h9
      refine gn3 Z Z Z (ZD Z (ZD Z (Y7 Z (Qh Z Z (Qa Z (gn2 Z Z (Qh Z Z (kc3 hK Z Z Z ?_))))))))
      refine ZU Z (Qr (Qe (ks2 Z Z (QI fun K hK => Qa Z (QZ Z Z Wd (Qa Z (hK _ ?_)))))))
      refine Qi (i + 1) ?_ ?_ ?_
      ·exact Za (kp2 rfl rfl)
      ·exact ⟨Wa, Yf Wa hI.2 Wo⟩
      ·first | omega | (simp only; omega) | (dsimp only; omega)
   ·try rw [h3]
    try simp only [qB] at h3
    refine Zh (QH (Qw (QE (Zf (ZC) (Qb fun K hK => Qa Z (kc1 hK Z ?_))))))
    refine Qq (Qn Z ?_)
    first | (have hz := XP (p := Xq) (s := s) (i := i) Wa hI.2; simp [M0, hz]; omega) | (have hz := XX (p := Xq) (s := s) (i := i) Wa Wo; simp [M0, hz]; done) | (simp [M0]; omega)
theorem YO {s : List UInt8} (hl : s.length <= 1000000) : Ok Tryz.prog 86 [.str s] (.tup [.int .i64 (Xl s).1, .bool (Xl s).2]) := by
 refine Ok.ofT ZR Tryz.func86 Qga (Qgr Z) ?_
 show TW _ _ tf86.body _ _
 refine Qb fun K hK => mv2 Z Z (kc1 hK Z ?_)
 refine Px (ι := Unit) (fun _u => ⟨[(0, .str s)], []⟩) (fun _u => ¬ (s.length < 1 \/ 9 < s.length \/ (1 < s.length /\ s.head? = some 48))) ?_ ?_
 ·skip
  refine Qb fun K hK => Qa Z (XR Z (Yg Z Z (Qa Z ?_)))
  refine Qu (g := 9) Z (fun h1 => ?_) (fun h1 => ?_)
  ·try rw [h1]
   try simp only [qB, X3, Qgv, QgE] at h1
   refine gn3 Z Z Z (Qh Z Z (Qa Z (gn4 Z Z Z Z (ZD Z (ZD Z (ZD Z ?_))))))
   refine Y7 Z (Qh Z Z (kc2 hK Z Z ?_))
   refine Zr Z (Qb fun K hK => mv2 Z Z (kc2 hK Z Z ?_))
   refine Qq (Fr (QR Z Z ?_))
   first | (rw [Nm (s := s) Wa]; exact ⟨rfl, rfl⟩) | (rw [H7 (s := s) Wa Wl]; exact ⟨rfl, rfl⟩) | (rw [Nl (s := s) (i := i) Wa Wq]; exact ⟨rfl, rfl⟩) | (rw [Nk (s := s) (i := i) Wa Wa]; exact ⟨rfl, rfl⟩) | (rw [P3 (s := s) (i := i) hJ Wa hI.2.1 Wa]; exact ⟨rfl, rfl⟩)
  ·try rw [h1]
   try simp only [qB, X3, Qgv, QgE] at h1
   refine Qd Z (Qa Z (Qd Z (XR Z (Qd Z (Pv Z Z (Qh Z Z (Qa Z ?_)))))))
   refine Qu (g := 14) Z (fun h2 => ?_) (fun h2 => ?_)
   ·try rw [h2]
    try simp only [qB, X3, Qgv, QgE] at h2
    refine gn4 Z Z Z Z (ZD Z (ZD Z (ZD Z (Y7 Z (Qh Z Z (kc2 hK Z Z ?_))))))
    refine Zr Z (Qb fun K hK => mv2 Z Z (kc2 hK Z Z ?_))
    refine Qq (Fr (QR Z Z ?_))
    first | (rw [Nm (s := s) Wa]; exact ⟨rfl, rfl⟩) | (rw [H7 (s := s) Wa Wl]; exact ⟨rfl, rfl⟩) | (rw [Nl (s := s) (i := i) Wa Wq]; exact ⟨rfl, rfl⟩) | (rw [Nk (s := s) (i := i) Wa Wa]; exact ⟨rfl, rfl⟩) | (rw [P3 (s := s) (i := i) hJ Wa hI.2.1 Wa]; exact ⟨rfl, rfl⟩)
   ·try rw [h2]
    try simp only [qB, X3, Qgv, QgE] at h2
    refine Qd Z (Qa Z (Qd Z (XR Z (Qd Z (Pv Z Z (Qd Z (Qa Z ?_)))))))
    refine Qu (g := 18) Z (fun h3 => ?_) (fun h3 => ?_)
    ·try rw [h3]
     try simp only [qB, X3, Qgv, QgE] at h3
     refine Qd Z (Qa Z (Qd Z (XO Z Z Wa (Fo (i := 0) Wa) (Qd Z (ZG Z Z (Qd Z (Qh Z Z (Qh Z Z (kc2 hK Z Z ?_)))))))))
     refine Qs Z (fun h4 => ?_) (fun h4 => ?_)
     ·try rw [h4]
      try simp only [qB, X3, Qgv, QgE] at h4
      refine Qb fun K hK => mv2 Z Z (kc2 hK Z Z ?_)
      refine Qq (Fr (QR Z Z ?_))
      first | (rw [Nm (s := s) Wa]; exact ⟨rfl, rfl⟩) | (rw [H7 (s := s) Wa Wl]; exact ⟨rfl, rfl⟩) | (rw [Nl (s := s) (i := i) Wa Wq]; exact ⟨rfl, rfl⟩) | (rw [Nk (s := s) (i := i) Wa Wa]; exact ⟨rfl, rfl⟩) | (rw [P3 (s := s) (i := i) hJ Wa hI.2.1 Wa]; exact ⟨rfl, rfl⟩)
     ·try rw [h4]
      try simp only [qB, X3, Qgv, QgE] at h4
      refine Qr ?_
      refine Z1 () ?_ ?_
      ·exact Za (kp1 rfl)
      ·rintro (q | q | q) <;> first | omega | exact C9 (s := s) Wa Wl q.2
    ·try rw [h3]
     try simp only [qB, X3, Qgv, QgE] at h3
     refine gn3 Z Z Z (Qd Z (Qh Z Z (Qh Z Z (kc2 hK Z Z ?_))))
     refine ZU Z (Qr ?_)
     refine Z1 () ?_ ?_
     ·exact Za (kp1 rfl)
     ·rintro (q | q | q) <;> first | omega | exact C9 (s := s) Wa Wl q.2
 intro _u hJ
 try dsimp only
 refine Qb fun K hK => Qa Z (kc2 hK Z Z ?_)
 refine QA ?_ -- 1
 refine Qb fun K hK => Qa Z (kc3 hK Z Z Z ?_)
 refine Qy ?_
 refine Zq (ι := Nat) (fun i => ⟨[(0, .str s), (4, .int .i64 (val (s.take i))), (5, .int .i64 i)], []⟩) (fun i => i <= s.length /\ (s.take i).all JN = true /\ s.length <= 9) (fun i => s.length - i) 0 ?_ ?_ ?_
 ·first | exact Za (kp3 rfl rfl rfl) | exact Q3 (l := [0, 4, 5]) (kp3 rfl rfl rfl) Ql (by rw [DJ Wa]; simp; omega) rfl rfl
 ·exact ⟨QgD _, rfl, Wa⟩
 intro i hI
 have hv := QdW (s := s.take i) hI.2.1
 have hp : 10 ^ (s.take i).length <= 10 ^ 9 := Nat.pow_le_pow_right Wa Wh
 try dsimp only
 refine QA ?_ -- 2
 refine Qb fun K hK => mv2 Z Z (XR Z (Yg Z Z (kc4 hK Z Z Z Z ?_)))
 refine Qs Z (fun h5 => ?_) (fun h5 => ?_)
 ·try rw [h5]
  try simp only [qB, X3, Qgv, QgE] at h5
  refine Qr (ks3 Z Z Z ?_)
  refine QA ?_ -- 3
  refine Qy ?_
  refine QA ?_ -- 4
  refine Qb fun K hK => mv2 Z Z (XO Z Z Wa (Fo Wa) (Qt (Gg) Z Z (.inr Z) (Z9 Z (kc4 hK Z Z Z Z ?_))))
  refine Qs Z (fun h6 => ?_) (fun h6 => ?_)
  ·try rw [h6]
   try simp only [qB, X3, Qgv, QgE] at h6
   refine Qb fun K hK => mv2 Z Z (kc2 hK Z Z ?_)
   refine Qq (Qg (Qp (Qg (Q0 (Qp (Qg (QR Z Z ?_)))))))
   first | (rw [Nm (s := s) Wa]; exact ⟨rfl, rfl⟩) | (rw [H7 (s := s) Wa Wl]; exact ⟨rfl, rfl⟩) | (rw [Nl (s := s) (i := i) Wa Wq]; exact ⟨rfl, rfl⟩) | (rw [Nk (s := s) (i := i) Wa Wa]; exact ⟨rfl, rfl⟩) | (rw [P3 (s := s) (i := i) hJ Wa hI.2.1 Wa]; exact ⟨rfl, rfl⟩)
  ·try rw [h6]
   try simp only [qB, X3, Qgv, QgE] at h6
   refine Qr (ks3 Z Z Z (QI fun K hK => Qa Z (Qca Z Z Wd (mv2 Z Z (XO Z Z Wa (Fo Wa) (Xu Z Z Wd (Sl Z Wd (QZ Z Z Wd (Qa Z ?_)))))))))
   refine hK _ ?_
   refine Qe (ks3 Z Z Z (QI fun K hK => Qa Z (QZ Z Z Wd (Qa Z (hK _ ?_)))))
   refine Qi (i + 1) ?_ ?_ ?_
   ·first | exact Za (kp3 rfl rfl rfl) | exact Q3 (l := [0, 4, 5]) (kp3 rfl rfl rfl) Ql (by rw [DJ Wa]; simp; omega) rfl rfl
   ·exact ⟨Wa, Yf Wa hI.2.1 Wq, hI.2.2⟩
   ·first | omega | (simp only; omega) | (dsimp only; omega)
 ·try rw [h5]
  try simp only [qB, X3, Qgv, QgE] at h5
  refine Zh (QH (Qw (QE (ks1 Z ?_))))
  refine QA ?_ -- 5
  refine Qb fun K hK => Qa Z (Pv Z Z (kc2 hK Z Z ?_))
  refine Qs Z (fun h7 => ?_) (fun h7 => ?_)
  ·try rw [h7]
   try simp only [qB, X3, Qgv, QgE] at h7
   refine Qb fun K hK => mv2 Z Z (kc2 hK Z Z ?_)
   refine Qq (Qg (QR Z Z ?_))
   first | (rw [Nm (s := s) Wa]; exact ⟨rfl, rfl⟩) | (rw [H7 (s := s) Wa Wl]; exact ⟨rfl, rfl⟩) | (rw [Nl (s := s) (i := i) Wa Wq]; exact ⟨rfl, rfl⟩) | (rw [Nk (s := s) (i := i) Wa Wa]; exact ⟨rfl, rfl⟩) | (rw [P3 (s := s) (i := i) hJ Wa hI.2.1 Wa]; exact ⟨rfl, rfl⟩)
  ·try rw [h7]
   try simp only [qB, X3, Qgv, QgE] at h7
   refine Qr (ks1 Z (Qb fun K hK => mv2 Z Z (Qa Z (kc2 hK Z Z ?_))))
   refine Qq (QR Z Z ?_)
   first | (rw [Nm (s := s) Wa]; exact ⟨rfl, rfl⟩) | (rw [H7 (s := s) Wa Wl]; exact ⟨rfl, rfl⟩) | (rw [Nl (s := s) (i := i) Wa Wq]; exact ⟨rfl, rfl⟩) | (rw [Nk (s := s) (i := i) Wa Wa]; exact ⟨rfl, rfl⟩) | (rw [P3 (s := s) (i := i) hJ Wa hI.2.1 Wa]; exact ⟨rfl, rfl⟩)
open Go Go.Abs M3
theorem G5 {a b : List UInt8} (ha : a.length <= 1000000) (hb : b.length <= 1000000) : Ok Tryz.prog 112 [.str a, .str b] (.int .i64 (mOne a b)) := by
 refine Ok.ofT ZR Tryz.func112 QeH (Qgr Z) ?_
 show TW _ _ tf112.body _ _
 refine Qb fun K hK => Qa Z (kc2 hK Z Z ?_)
 refine Qb fun K hK => Qa Z (Qt (YI Wa) Z Z (.inr Z) (Qa Z (Qt (YI Wa) Z Z (.inr Z) (mv2 Z Z (kc4 hK Z Z Z Z ?_)))))
 refine QA ?_ -- 0
 refine Qy (Qb fun K hK => mv2 Z Z ?_)
 refine Qu (g := 17) Z (fun h1 => ?_) (fun h1 => ?_)
 ·try rw [h1]
  try simp only [qB] at h1
  refine Qd Z (Qa Z (Qh Z Z (Qa Z (kc5 hK Z Z Z Z Z ?_))))
  refine Qs Z (fun h2 => ?_) (fun h2 => ?_)
  ·try rw [h2]
   try simp only [qB] at h2
   refine Qb fun K hK => Qa Z (Qt (YO Wa) Z Z (.inr Z) (Qa Z (QU Z Z (QU Z Z (mv2 Z Z (kc2 hK Z Z ?_))))))
   refine Qb fun K hK => Qa Z (Qt (YO Wa) Z Z (.inr Z) (Qa Z (QU Z Z (QU Z Z (mv2 Z Z (kc2 hK Z Z ?_))))))
   refine Qb fun K hK => mv2 Z Z (Qt (Zz) Z Z (.inr Z) (Qa Z (kc1 hK Z ?_)))
   refine Qq (Qp (Qg (QC Z ?_)))
   simp [mOne, h1, h2]
  ·try rw [h2]
   try simp only [qB] at h2
   refine Qb fun K hK => mv2 Z Z (kc4 hK Z Z Z Z ?_)
   refine Zr Z (Qb fun K hK => Qa Z (kc1 hK Z ?_))
   refine Qq (Qp (Qg (QC Z ?_)))
   simp [mOne, h1, h2]
 ·try rw [h1]
  try simp only [qB] at h1
  refine Y7 Z (Qh Z Z (Qa Z (kc5 hK Z Z Z Z Z ?_)))
  refine ZU Z (Qb fun K hK => mv2 Z Z (kc4 hK Z Z Z Z ?_))
  refine ZU Z (Qb fun K hK => mv2 Z Z (kc3 hK Z Z Z ?_))
  refine Qs Z (fun h3 => ?_) (fun h3 => ?_)
  ·try rw [h3]
   try simp only [qB] at h3
   refine Qb fun K hK => Qa Z (kc1 hK Z ?_)
   refine Qq (Qp (Qg (QC Z ?_)))
   simp [mOne, h1, h3]
  ·try rw [h3]
   try simp only [qB] at h3
   refine Qr (Qe (ks2 Z Z (Qb fun K hK => mv2 Z Z (Qt (Gq) Z Z (.inr Z) (Qa Z (kc1 hK Z ?_))))))
   refine Qq (QC Z ?_)
   simp [mOne, h1, h3]
theorem GJ {a b : List UInt8} (ha : a.length <= 1000000) (hb : b.length <= 1000000) : Ok Tryz.prog 111 [.str a, .str b] (.int .i64 (Pq a b)) := by
 refine Ok.ofT ZR Tryz.func111 QeG (Qgr Z) ?_
 show TW _ _ tf111.body _ _
 refine Qb fun K hK => Qa Z (kc2 hK Z Z ?_)
 refine QA ?_ -- 0
 refine Qy (Qb fun K hK => mv2 Z Z (Me Z Z (Qa Z (kc3 hK Z Z Z ?_))))
 refine Qs Z (fun h1 => ?_) (fun h1 => ?_)
 ·try rw [h1]
  try simp only [qB, Zc] at h1
  refine Qb fun K hK => Qa Z (kc1 hK Z ?_)
  refine Qq (Qp (Qg (QC Z ?_)))
  (repeat clear hK K); first | (simp_all [Pq]; done) | (rw [hI.2.2, H5 Wa Wa Wl]) | (rw [hI.2.2, H4 Wa Wa Wa]; simp [Zc])
 ·try rw [h1]
  try simp only [qB, Zc] at h1
  refine Qb fun K hK => Qa Z (Me Z Z (Qa Z (kc3 hK Z Z Z ?_)))
  refine Qs Z (fun h2 => ?_) (fun h2 => ?_)
  ·try rw [h2]
   try simp only [qB, Zc] at h2
   refine Qb fun K hK => Qa Z (kc1 hK Z ?_)
   refine Qq (Qp (Qg (QC Z ?_)))
   (repeat clear hK K); first | (simp_all [Pq]; done) | (rw [hI.2.2, H5 Wa Wa Wl]) | (rw [hI.2.2, H4 Wa Wa Wa]; simp [Zc])
  ·try rw [h2]
   try simp only [qB, Zc] at h2
   refine Qb fun K hK => Qa Z (Me Z Z (Qa Z (kc3 hK Z Z Z ?_)))
   refine Qs Z (fun h3 => ?_) (fun h3 => ?_)
   ·try rw [h3]
    try simp only [qB, Zc] at h3
    refine Qb fun K hK => Qa Z (kc1 hK Z ?_)
    refine Qq (Qp (Qg (QC Z ?_)))
    (repeat clear hK K); first | (simp_all [Pq]; done) | (rw [hI.2.2, H5 Wa Wa Wl]) | (rw [hI.2.2, H4 Wa Wa Wa]; simp [Zc])
   ·try rw [h3]
    try simp only [qB, Zc] at h3
    refine Qr (Qe (ks2 Z Z (Qb fun K hK => Qa Z (Qt (Y4 Wa) Z Z (.inl Z) (Qa Z (Qt (Y4 Wa) Z Z (.inl Z) (mv2 Z Z (kc2 hK Z Z ?_))))))))
    refine QA ?_ -- 1
    refine Qb fun K hK => Qa Z (kc3 hK Z Z Z ?_)
    refine Qy ?_
    refine Zq (ι := Nat) (fun i => ⟨[(5, .sl (Kq (Yu a 46))), (6, .sl (Kq (Yu b 46))), (7, .int .i64 i)], []⟩) (fun i => i <= (Yu a 46).length /\ i <= (Yu b 46).length /\ Pq a b = Ck ((Yu a 46).drop i) ((Yu b 46).drop i)) (fun i => (Yu a 46).length - i) 0 ?_ ?_ ?_
    ·exact Za (kp3 rfl rfl rfl)
    ·exact ⟨QgD _, QgD _, by simp_all [Pq]⟩
    intro i hI
    have sl := B3 (s := a) (c := 46)
    try dsimp only
    refine QA ?_ -- 2
    refine Qb fun K hK => mv2 Z Z (QL Z Z (Yg Z Z (Qa Z ?_)))
    refine Qu (g := 27) Z (fun h4 => ?_) (fun h4 => ?_)
    ·try rw [h4]
     try simp only [qB, Zc] at h4
     refine Qd Z (Qa Z (Qd Z (Qa Z (Qd Z (QL Z Z (Qd Z (Yg Z Z (Qh Z Z (kc4 hK Z Z Z Z ?_)))))))))
     refine Qs Z (fun h5 => ?_) (fun h5 => ?_)
     ·try rw [h5]
      try simp only [qB, Zc] at h5
      refine Qr (ks3 Z Z Z ?_)
      refine QA ?_ -- 3
      refine Qy (Qb fun K hK => mv2 Z Z (QF Z Z Z Wa (Fp Wa) Z (QM (ds0 := [1, 0]) Z Z Z Z Z (mv2 Z Z (QF Z Z Z Wa (Fp Wa) Z (QM (ds0 := [1, 0]) Z Z Z Z Z (QS (ds0 := [0]) (G5 (FO Wa ha) (FO Wa hb)) Z Z (.inr Z) Z Z (Qa Z ?_))))))))
      refine kc4 hK Z Z Z Z ?_
      refine Qb fun K hK => Qa Z (X5 Z Z (kc5 hK Z Z Z Z Z ?_))
      refine Qs Z (fun h6 => ?_) (fun h6 => ?_)
      ·try rw [h6]
       try simp only [qB, Zc] at h6
       refine Qb fun K hK => mv2 Z Z (kc1 hK Z ?_)
       refine Qq (Qp (Qg (Q0 (Qp (Qg (QC Z ?_))))))
       (repeat clear hK K); first | (simp_all [Pq]; done) | (rw [hI.2.2, H5 Wa Wa Wl]) | (rw [hI.2.2, H4 Wa Wa Wa]; simp [Zc])
      ·try rw [h6]
       try simp only [qB, Zc] at h6
       refine Qr (Qe (ks3 Z Z Z (QI fun K hK => Qa Z (QZ Z Z Wd (Qa Z (hK _ ?_))))))
       refine Qi (i + 1) ?_ ?_ ?_
       ·exact Za (kp3 rfl rfl rfl)
       ·exact ⟨Wa, Wa, by rw [hI.2.2, Bs Wa Wa Wl]⟩
       ·first | omega | (simp only; omega) | (dsimp only; omega)
     ·try rw [h5]
      try simp only [qB, Zc] at h5
      refine Zh (QH (Qw (QE (ks2 Z Z (Qb fun K hK => Qa Z (QL Z Z (Qa Z (QL Z Z (Qt (Zz) Z Z (.inr Z) (Qa Z ?_))))))))))
      refine kc1 hK Z ?_
      refine Qq (QC Z ?_)
      (repeat clear hK K); first | (simp_all [Pq]; done) | (rw [hI.2.2, H5 Wa Wa Wl]) | (rw [hI.2.2, H4 Wa Wa Wa]; simp [Zc])
    ·try rw [h4]
     try simp only [qB, Zc] at h4
     refine gn4 Z Z Z Z (Qh Z Z (kc4 hK Z Z Z Z ?_))
     refine ZU Z (Zh (QH (Qw (QE (ks2 Z Z (Qb fun K hK => Qa Z (QL Z Z (Qa Z (QL Z Z (Qt (Zz) Z Z (.inr Z) ?_))))))))))
     refine Qa Z (kc1 hK Z ?_)
     refine Qq (QC Z ?_)
     (repeat clear hK K); first | (simp_all [Pq]; done) | (rw [hI.2.2, H5 Wa Wa Wl]) | (rw [hI.2.2, H4 Wa Wa Wa]; simp [Zc])
theorem Ju {s : List UInt8} {pre : Bool} (hl : s.length <= 1000000) : Ok Tryz.prog 69 [.str s, .bool pre] (.bool (HH s pre)) := by
 refine Ok.ofT ZR Tryz.func69 QfT (Qgr Z) ?_
 show TW _ _ tf69.body _ _
 refine Qb fun K hK => Qa Z (kc2 hK Z Z ?_)
 refine QA ?_ -- 0
 refine Qb fun K hK => Qa Z (Me Z Z (kc3 hK Z Z Z ?_))
 refine Qs Z (fun h1 => ?_) (fun h1 => ?_)
 ·try rw [h1]
  try simp only [qB, Zc] at h1
  refine Qb fun K hK => Qa Z (kc1 hK Z ?_)
  refine Qq (Qg (Qn Z ?_))
  (repeat clear hK K); first | (simp_all [HH]; done) | (simp [HH, h1]; omega) | exact (FB (i := i) Wl Wa (by simp [NM, h1])).symm | exact (HI (i := i) Wa Wa hI.2).symm
 ·try rw [h1]
  try simp only [qB, Zc] at h1
  refine Qr (ks2 Z Z (Qb fun K hK => Qa Z (Qt (Y4 Wa) Z Z (.inl Z) (Qa Z (kc2 hK Z Z ?_)))))
  refine QA ?_ -- 1
  refine Qb fun K hK => Qa Z (QL Z Z (Pv Z Z (kc3 hK Z Z Z ?_)))
  refine Qs Z (fun h2 => ?_) (fun h2 => ?_)
  ·try rw [h2]
   try simp only [qB, Zc] at h2
   refine Qb fun K hK => Qa Z (kc1 hK Z ?_)
   refine Qq (Qg (Qn Z ?_))
   (repeat clear hK K); first | (simp_all [HH]; done) | (simp [HH, h1, h2]; omega) | exact (FB (i := i) Wl Wa (by simp [NM, h1, h2])).symm | exact (HI (i := i) Wa Wa hI.2).symm
  ·try rw [h2]
   try simp only [qB, Zc] at h2
   refine Qr (ks2 Z Z ?_)
   refine QA ?_ -- 2
   refine Qb fun K hK => Qa Z (kc3 hK Z Z Z ?_)
   refine Qy ?_
   refine Zq (ι := Nat) (fun i => ⟨[(1, .bool pre), (5, .sl (Kq (Yu s 46))), (6, .int .i64 i)], []⟩) (fun i => i <= (Yu s 46).length /\ ((Yu s 46).take i).all (NM pre) = true) (fun i => (Yu s 46).length - i) 0 ?_ ?_ ?_
   ·first | exact Za (kp3 rfl rfl rfl) | exact Q3 (l := [1, 5, 6]) (kp3 rfl rfl rfl) Ql (by simp [h1, h2]) rfl rfl
   ·exact ⟨QgD _, rfl⟩
   intro i hI
   try dsimp only
   refine QA ?_ -- 3
   refine Qb fun K hK => mv2 Z Z (QL Z Z (Yg Z Z (kc4 hK Z Z Z Z ?_)))
   refine Qs Z (fun h3 => ?_) (fun h3 => ?_)
   ·try rw [h3]
    try simp only [qB, Zc] at h3
    refine Qr (ks3 Z Z Z ?_)
    refine QA ?_ -- 4
    refine Qy ?_
    refine QA ?_ -- 5
    refine Qb fun K hK => mv2 Z Z (QF Z Z Z Wa (Fp Wa) Z (Qx Z Z Z (Qt (G6 (FO Wa hl)) Z Z (.inr Z) (Z9 Z (kc4 hK Z Z Z Z ?_)))))
    refine Qs Z (fun h4 => ?_) (fun h4 => ?_)
    ·try rw [h4]
     try simp only [qB, Zc] at h4
     refine Qb fun K hK => Qa Z (kc1 hK Z ?_)
     refine Qq (Qg (Qp (Qg (Q0 (Qp (Qg (Qn Z ?_)))))))
     (repeat clear hK K); first | (simp_all [HH]; done) | (simp [HH, h1, h2, h3, h4]; omega) | exact (FB (i := i) Wl Wa (by simp [NM, h1, h2, h3, h4])).symm | exact (HI (i := i) Wa Wa hI.2).symm
    ·try rw [h4]
     try simp only [qB, Zc] at h4
     refine Qr (ks3 Z Z Z (Qb fun K hK => mv2 Z Z (QF Z Z Z Wa (Fp Wa) Z (Qx Z Z Z (Qt (YO (FO Wa hl)) Z Z (.inr Z) (Qa Z (QU Z Z (QU Z Z (Qa Z ?_)))))))))
     refine Qa Z (kc4 hK Z Z Z Z ?_)
     refine Qb fun K hK => mv2 Z Z ?_
     refine Qu (g := 37) Z (fun h5 => ?_) (fun h5 => ?_)
     ·try rw [h5]
      try simp only [qB, Zc] at h5
      refine Qd Z (Qa Z (Qd Z (Qa Z (Qd Z (QF Z Z Z Wa (Fp Wa) Z (Qd Z (Qx Z Z Z (Qd Z (Qt (YI (FO Wa hl)) Z Z (.inr Z) (Qh Z Z (Qa Z ?_)))))))))))
      refine Qu (g := 44) Z (fun h6 => ?_) (fun h6 => ?_)
      ·try rw [h6]
       try simp only [qB, Zc] at h6
       refine Qd Z (Qa Z (Qd Z (Z9 Z (Qh Z Z (kc4 hK Z Z Z Z ?_)))))
       refine Qs Z (fun h7 => ?_) (fun h7 => ?_)
       ·try rw [h7]
        try simp only [qB, Zc] at h7
        refine Qb fun K hK => Qa Z (kc1 hK Z ?_)
        refine Qq (Qp (Qg (Q0 (Qp (Qg (Qn Z ?_))))))
        (repeat clear hK K); first | (simp_all [HH]; done) | (simp [HH, h1, h2, h3, h4, h5, h6, h7]; omega) | exact (FB (i := i) Wl Wa (by simp [NM, h1, h2, h3, h4, h5, h6, h7])).symm | exact (HI (i := i) Wa Wa hI.2).symm
       ·try rw [h7]
        try simp only [qB, Zc] at h7
        refine Qr (Qe (ks3 Z Z Z (QI fun K hK => Qa Z (QZ Z Z Wd (Qa Z (hK _ ?_))))))
        refine Qi (i + 1) ?_ ?_ ?_
        ·first | exact Za (kp3 rfl rfl rfl) | exact Q3 (l := [1, 5, 6]) (kp3 rfl rfl rfl) Ql (by simp [h1, h2, h3, h4, h5, h6, h7]) rfl rfl
        ·exact ⟨Wa, Yf Wa hI.2 (by simp [NM, h1, h2, h3, h4, h5, h6, h7])⟩
        ·first | omega | (simp only; omega) | (dsimp only; omega)
      ·try rw [h6]
       try simp only [qB, Zc] at h6
       refine gn2 Z Z (Qh Z Z (kc4 hK Z Z Z Z ?_))
       refine ZU Z (Qr (Qe (ks3 Z Z Z (QI fun K hK => Qa Z (QZ Z Z Wd (Qa Z (hK _ ?_)))))))
       refine Qi (i + 1) ?_ ?_ ?_
       ·first | exact Za (kp3 rfl rfl rfl) | exact Q3 (l := [1, 5, 6]) (kp3 rfl rfl rfl) Ql (by simp [h1, h2, h3, h4, h5, h6]) rfl rfl
       ·exact ⟨Wa, Yf Wa hI.2 (by simp [NM, h1, h2, h3, h4, h5, h6])⟩
       ·first | omega | (simp only; omega) | (dsimp only; omega)
     ·try rw [h5]
      try simp only [qB, Zc] at h5
      refine gn4 Z Z Z Z (Y7 Z (Qh Z Z (Qa Z (gn2 Z Z (Qh Z Z (kc4 hK Z Z Z Z ?_))))))
      refine ZU Z (Qr (Qe (ks3 Z Z Z (QI fun K hK => Qa Z (QZ Z Z Wd (Qa Z (hK _ ?_)))))))
      refine Qi (i + 1) ?_ ?_ ?_
      ·first | exact Za (kp3 rfl rfl rfl) | exact Q3 (l := [1, 5, 6]) (kp3 rfl rfl rfl) Ql (by simp [h1, h2, h3, h4, h5]) rfl rfl
      ·exact ⟨Wa, Yf Wa hI.2 (by simp [NM, h1, h2, h3, h4, h5])⟩
      ·first | omega | (simp only; omega) | (dsimp only; omega)
   ·try rw [h3]
    try simp only [qB, Zc] at h3
    refine Zh (QH (Qw (QE (Zf (ZC) (Qb fun K hK => Qa Z (kc1 hK Z ?_))))))
    refine Qq (Qn Z ?_)
    (repeat clear hK K); first | (simp_all [HH]; done) | (simp [HH, h1, h2, h3]; omega) | exact (FB (i := i) Wl Wa (by simp [NM, h1, h2, h3])).symm | exact (HI (i := i) Wa Wa hI.2).symm
theorem Zd {a b c : Int} {p q : List UInt8} (hp : p.length <= 1000000) (hq : q.length <= 1000000) : Ok Tryz.prog 45 [.agg [.int .i64 a, .int .i64 b, .int .i64 c, .str p, .str q]] (.bool (PY a b c p q)) := by
 refine Ok.ofT ZR Tryz.func45 Qfv (Qgr Z) ?_
 show TW _ _ tf45.body _ _
 refine Qb fun K hK => Zx Z Z Z (Qa Z (kc1 hK Z ?_))
 refine Qb fun K hK => Qf Z Z (Qx Z Z Z (Qt (Xy) Z Z (.inr Z) (Qa Z ?_)))
 refine Qu (g := 6) Z (fun h1 => ?_) (fun h1 => ?_)
 ·try rw [h1]
  try simp only [qB] at h1
  refine Qd Z (Qf Z Z (Qd Z (Qx Z Z Z (Qd Z (Qt (Xy) Z Z (.inr Z) (Qh Z Z (Qa Z ?_)))))))
  refine Qu (g := 11) Z (fun h2 => ?_) (fun h2 => ?_)
  ·try rw [h2]
   try simp only [qB] at h2
   refine Qd Z (Qf Z Z (Qd Z (Qx Z Z Z (Qd Z (Qt (Xy) Z Z (.inr Z) (Qh Z Z (Qa Z ?_)))))))
   refine Qu (g := 16) Z (fun h3 => ?_) (fun h3 => ?_)
   ·try rw [h3]
    try simp only [qB] at h3
    refine Qd Z (Qf Z Z (Qd Z (Qx Z Z Z (Qd Z (Qt (Ju Wa) Z Z (.inr Z) (Qh Z Z (Qa Z ?_)))))))
    refine Qu (g := 21) Z (fun h4 => ?_) (fun h4 => ?_)
    ·try rw [h4]
     try simp only [qB] at h4
     refine Qd Z (Qf Z Z (Qd Z (Qx Z Z Z (Qd Z (Qt (Ju Wa) Z Z (.inr Z) (Qh Z Z (Qa Z (kc1 hK Z ?_))))))))
     refine Qq (Qn Z ?_)
     simp [PY, h1, h2, h3, h4]
    ·try rw [h4]
     try simp only [qB] at h4
     refine gn3 Z Z Z (Qh Z Z (Qa Z (kc1 hK Z ?_)))
     refine Qq (Qn Z ?_)
     simp [PY, h1, h2, h3, h4]
   ·try rw [h3]
    try simp only [qB] at h3
    refine gn3 Z Z Z (Qh Z Z (Qa Z (gn3 Z Z Z (Qh Z Z (Qa Z (kc1 hK Z ?_))))))
    refine Qq (Qn Z ?_)
    simp [PY, h1, h2, h3]
  ·try rw [h2]
   try simp only [qB] at h2
   refine gn3 Z Z Z (Qh Z Z (Qa Z (gn3 Z Z Z (Qh Z Z (Qa Z (gn2 Z Z ?_))))))
   refine Y7 Z (Qh Z Z (Qa Z (kc1 hK Z ?_)))
   refine Qq (Qn Z ?_)
   simp [PY, h1, h2]
 ·try rw [h1]
  try simp only [qB] at h1
  refine gn3 Z Z Z (Qh Z Z (Qa Z (gn3 Z Z Z (Qh Z Z (Qa Z (gn2 Z Z ?_))))))
  refine Y7 Z (Qh Z Z (Qa Z (gn3 Z Z Z (Qh Z Z (Qa Z (kc1 hK Z ?_))))))
  refine Qq (Qn Z ?_)
  simp [PY, h1]
open Go Go.Abs M3
theorem XL {a b c : Int} {p q : List UInt8} (hp : p.length <= 1000000) (hq : q.length <= 1000000) {a' b' c' : Int} {p' q' : List UInt8} (hp' : p'.length <= 1000000) (hq' : q'.length <= 1000000) : Ok Tryz.prog 109 [.agg [.int .i64 a, .int .i64 b, .int .i64 c, .str p, .str q], .agg [.int .i64 a', .int .i64 b', .int .i64 c', .str p', .str q']] (.int .i64 (Bl a b c p q a' b' c' p' q')) := by
 refine Ok.ofT ZR Tryz.func109 QeE (Qgr Z) ?_
 show TW _ _ tf109.body _ _
 refine Qb fun K hK => Zx Z Z Z (Zx Z Z Z (Qa Z (kc2 hK Z Z ?_)))
 refine QA ?_ -- 0
 refine Qb fun K hK => QB (cs := [_, _, _, _, _]) Z Z Z Z (Qt (Zd Wa Wa) Z Z (.inr Z) (Z9 Z (Qa Z ?_)))
 refine Qu (g := 11) Z (fun h1 => ?_) (fun h1 => ?_)
 ·try rw [h1]
  try simp only [qB] at h1
  refine gn3 Z Z Z (Qh Z Z (kc3 hK Z Z Z ?_))
  refine Zr Z (Qb fun K hK => Qa Z (kc1 hK Z ?_))
  refine Qq (Qg (QC Z ?_))
  simp [Bl, h1]
 ·try rw [h1]
  try simp only [qB] at h1
  refine Qd Z (QB (cs := [_, _, _, _, _]) Z Z Z Z (Qd Z (Qt (Zd Wa Wa) Z Z (.inr Z) (Qd Z (Z9 Z (Qh Z Z (kc3 hK Z Z Z ?_)))))))
  refine Qs Z (fun h2 => ?_) (fun h2 => ?_)
  ·try rw [h2]
   try simp only [qB] at h2
   refine Qb fun K hK => Qa Z (kc1 hK Z ?_)
   refine Qq (Qg (QC Z ?_))
   simp [Bl, h1, h2]
  ·try rw [h2]
   try simp only [qB] at h2
   refine Qr (ks2 Z Z ?_)
   refine QA ?_ -- 1
   refine Qb fun K hK => Qf Z Z (Qx Z Z Z (Qf Z Z (Qx Z Z Z (Qt (Zz) Z Z (.inr Z) (Qa Z (kc3 hK Z Z Z ?_))))))
   refine Qb fun K hK => Qa Z (X5 Z Z (kc4 hK Z Z Z Z ?_))
   refine Qs Z (fun h3 => ?_) (fun h3 => ?_)
   ·try rw [h3]
    try simp only [qB] at h3
    refine Qb fun K hK => mv2 Z Z (kc1 hK Z ?_)
    refine Qq (Qg (QC Z ?_))
    simp [Bl, h1, h2, h3]
   ·try rw [h3]
    try simp only [qB] at h3
    refine Qr (ks2 Z Z ?_)
    refine QA ?_ -- 2
    refine Qb fun K hK => Qf Z Z (Qx Z Z Z (Qf Z Z (Qx Z Z Z (Qt (Zz) Z Z (.inr Z) (Qa Z (kc3 hK Z Z Z ?_))))))
    refine Qb fun K hK => Qa Z (X5 Z Z (kc4 hK Z Z Z Z ?_))
    refine Qs Z (fun h4 => ?_) (fun h4 => ?_)
    ·try rw [h4]
     try simp only [qB] at h4
     refine Qb fun K hK => mv2 Z Z (kc1 hK Z ?_)
     refine Qq (Qg (QC Z ?_))
     simp [Bl, h1, h2, h3, h4]
    ·try rw [h4]
     try simp only [qB] at h4
     refine Qr (ks2 Z Z ?_)
     refine QA ?_ -- 3
     refine Qb fun K hK => Qf Z Z (Qx Z Z Z (Qf Z Z (Qx Z Z Z (Qt (Zz) Z Z (.inr Z) (Qa Z (kc3 hK Z Z Z ?_))))))
     refine Qb fun K hK => Qa Z (X5 Z Z (kc4 hK Z Z Z Z ?_))
     refine Qs Z (fun h5 => ?_) (fun h5 => ?_)
     ·try rw [h5]
      try simp only [qB] at h5
      refine Qb fun K hK => mv2 Z Z (kc1 hK Z ?_)
      refine Qq (Qg (QC Z ?_))
      simp [Bl, h1, h2, h3, h4, h5]
     ·try rw [h5]
      try simp only [qB] at h5
      refine Qr (ks2 Z Z (Qb fun K hK => Qf Z Z (Qx Z Z Z (Qf Z Z (Qx Z Z Z (Qt (GJ Wa Wa) Z Z (.inr Z) (Qa Z (kc1 hK Z ?_))))))))
      refine Qq (QC Z ?_)
      simp [Bl, h1, h2, h3, h4, h5]
theorem Ym {e a b c : Int} {p q : List UInt8} {f : Bool} (hp : p.length <= 1000000) (hq : q.length <= 1000000) : Ok Tryz.prog 107 [.agg [.int .i64 e, .int .i64 a, .int .i64 b, .int .i64 c, .str p, .str q, .bool f]] (.bool (Nh e a b c p q f)) := by
 refine Ok.ofT ZR Tryz.func107 QeC (Qgr Z) ?_
 show TW _ _ tf107.body _ _
 refine Qb fun K hK => Zx Z Z Z (Qa Z (kc1 hK Z ?_))
 refine QA ?_ -- 0
 refine Qb fun K hK => Qf Z Z (Qx Z Z Z (ZG Z Z (kc2 hK Z Z ?_)))
 refine Qs Z (fun h1 => ?_) (fun h1 => ?_)
 ·try rw [h1]
  try simp only [qB] at h1
  refine Qb fun K hK => Qf Z Z (QB (cs := [_, _, _, _, _]) Z Z Z Z (Qt (Zd Wa Wa) Z Z (.inr Z) (Qa Z ?_)))
  refine Qu (g := 9) Z (fun h2 => ?_) (fun h2 => ?_)
  ·try rw [h2]
   try simp only [qB] at h2
   refine Qd Z (Qf Z Z (Qd Z (Qf Z Z (Qd Z (Qx Z Z Z (Qd Z (Me Z Z (Qh Z Z (Qa Z (kc1 hK Z ?_))))))))))
   refine Qq (Qg (Qn Z ?_))
   (repeat clear hK K); simp_all [Nh]
  ·try rw [h2]
   try simp only [qB] at h2
   refine gn4 Z Z Z Z (Qh Z Z (Qa Z (kc1 hK Z ?_)))
   refine Qq (Qg (Qn Z ?_))
   (repeat clear hK K); simp_all [Nh]
 ·try rw [h1]
  try simp only [qB] at h1
  refine Qr (ks1 Z (Qb fun K hK => Qf Z Z (Qx Z Z Z (ZG Z Z (Qa Z ?_)))))
  refine Qu (g := 18) Z (fun h3 => ?_) (fun h3 => ?_)
  ·try rw [h3]
   try simp only [qB] at h3
   refine gn3 Z Z Z (Qh Z Z (Qa Z (Qd Z (Qf Z Z (Qd Z (QB (cs := [_, _, _, _, _]) Z Z Z Z (Qd Z (QQ Z Z (Qd Z ?_)))))))))
   refine LG Z Z Z (Qh Z Z (Qa Z ?_))
   refine Qu (g := 29) Z (fun h4 => ?_) (fun h4 => ?_)
   ·try rw [h4]
    try simp only [qB] at h4
    refine Qd Z (Qf Z Z (Qd Z (Qx Z Z Z (Qd Z (Z9 Z (Qh Z Z (Qa Z (kc1 hK Z ?_))))))))
    refine Qq (Qn Z ?_)
    (repeat clear hK K); simp_all [Nh]
   ·try rw [h4]
    try simp only [qB] at h4
    refine gn3 Z Z Z (Qh Z Z (Qa Z (kc1 hK Z ?_)))
    refine Qq (Qn Z ?_)
    (repeat clear hK K); simp_all [Nh]
  ·try rw [h3]
   try simp only [qB] at h3
   refine Qd Z (Qf Z Z (Qd Z (Qx Z Z Z (Qd Z (ZG Z Z (Qh Z Z (Qa Z ?_)))))))
   refine Qu (g := 23) Z (fun h5 => ?_) (fun h5 => ?_)
   ·try rw [h5]
    try simp only [qB] at h5
    refine Qd Z (Qf Z Z (Qd Z (QB (cs := [_, _, _, _, _]) Z Z Z Z (Qd Z (QQ Z Z (Qd Z (LG Z Z Z (Qh Z Z (Qa Z ?_)))))))))
    refine Qu (g := 29) Z (fun h6 => ?_) (fun h6 => ?_)
    ·try rw [h6]
     try simp only [qB] at h6
     refine Qd Z (Qf Z Z (Qd Z (Qx Z Z Z (Qd Z (Z9 Z (Qh Z Z (Qa Z (kc1 hK Z ?_))))))))
     refine Qq (Qn Z ?_)
     (repeat clear hK K); simp_all [Nh]
    ·try rw [h6]
     try simp only [qB] at h6
     refine gn3 Z Z Z (Qh Z Z (Qa Z (kc1 hK Z ?_)))
     refine Qq (Qn Z ?_)
     (repeat clear hK K); simp_all [Nh]
   ·try rw [h5]
    try simp only [qB] at h5
    refine gn4 Z Z Z Z (Qh Z Z (Qa Z (gn3 Z Z Z (Qh Z Z (Qa Z (kc1 hK Z ?_))))))
    refine Qq (Qn Z ?_)
    (repeat clear hK K); simp_all [Nh]
theorem Zw {e a b c : Int} {p q : List UInt8} {f : Bool} (hp : p.length <= 1000000) (hq : q.length <= 1000000) {e' a' b' c' : Int} {p' q' : List UInt8} {f' : Bool} (hp' : p'.length <= 1000000) (hq' : q'.length <= 1000000) : Ok Tryz.prog 104 [.agg [.int .i64 e, .int .i64 a, .int .i64 b, .int .i64 c, .str p, .str q, .bool f], .agg [.int .i64 e', .int .i64 a', .int .i64 b', .int .i64 c', .str p', .str q', .bool f']] (.int .i64 (KT e a b c p q f e' a' b' c' p' q' f')) := by
 refine Ok.ofT ZR Tryz.func104 Qez (Qgr Z) ?_
 show TW _ _ tf104.body _ _
 refine Qb fun K hK => Zx Z Z Z (Zx Z Z Z (Qa Z (kc2 hK Z Z ?_)))
 refine QA ?_ -- 0
 refine Qb fun K hK => QB (cs := [_, _, _, _, _, _, _]) Z Z Z Z (Qt (Ym Wa Wa) Z Z (.inr Z) (Z9 Z (Qa Z ?_)))
 refine Qu (g := 9) Z (fun h1 => ?_) (fun h1 => ?_)
 ·try rw [h1]
  try simp only [qB] at h1
  refine gn3 Z Z Z (Qh Z Z (kc3 hK Z Z Z ?_))
  refine Zr Z (Qb fun K hK => Qa Z (kc1 hK Z ?_))
  refine Qq (Qg (QC Z ?_))
  (repeat clear hK K); first | (simp [KT, h1]; done) | (simp_all [KT]; done)
 ·try rw [h1]
  try simp only [qB] at h1
  refine Qd Z (QB (cs := [_, _, _, _, _, _, _]) Z Z Z Z (Qd Z (Qt (Ym Wa Wa) Z Z (.inr Z) (Qd Z (Z9 Z (Qh Z Z (kc3 hK Z Z Z ?_)))))))
  refine Qs Z (fun h2 => ?_) (fun h2 => ?_)
  ·try rw [h2]
   try simp only [qB] at h2
   refine Qb fun K hK => Qa Z (kc1 hK Z ?_)
   refine Qq (Qg (QC Z ?_))
   (repeat clear hK K); first | (simp [KT, h1, h2]; done) | (simp_all [KT]; done)
  ·try rw [h2]
   try simp only [qB] at h2
   refine Qr (ks2 Z Z ?_)
   refine QA ?_ -- 1
   refine Qb fun K hK => Qf Z Z (Qx Z Z Z (Qf Z Z (Qx Z Z Z ?_)))
   first | refine X5 rfl rfl ?_ | refine Qal rfl rfl ?_
   refine Qa Z ?_
   refine Qu (g := 19) Z (fun h3 => ?_) (fun h3 => ?_)
   ·try rw [h3]
    try simp only [qB] at h3
    refine gn3 Z Z Z (Qh Z Z (kc3 hK Z Z Z ?_))
    refine Zr Z (Qb fun K hK => Qf Z Z (Qx Z Z Z (Qf Z Z (Qx Z Z Z (Qt (Zz) Z Z (.inr Z) (Qa Z (kc1 hK Z ?_)))))))
    refine Qq (Qg (QC Z ?_))
    (repeat clear hK K); first | (simp [KT, h1, h2, h3]; done) | (simp_all [KT]; done)
   ·try rw [h3]
    try simp only [qB] at h3
    refine Qd Z (Qf Z Z (Qd Z (Qx Z Z Z (Qd Z (X5 Z Z (Qh Z Z (kc3 hK Z Z Z ?_)))))))
    refine Qs Z (fun h4 => ?_) (fun h4 => ?_)
    ·try rw [h4]
     try simp only [qB] at h4
     refine Qb fun K hK => Qf Z Z (Qx Z Z Z (Qf Z Z (Qx Z Z Z (Qt (Zz) Z Z (.inr Z) (Qa Z (kc1 hK Z ?_))))))
     refine Qq (Qg (QC Z ?_))
     (repeat clear hK K); first | (simp [KT, h1, h2, h3, h4]; done) | (simp_all [KT]; done)
    ·try rw [h4]
     try simp only [qB] at h4
     refine Qr (ks2 Z Z ?_)
     refine QA ?_ -- 2
     refine Qb fun K hK => Qf Z Z (QB (cs := [_, _, _, _, _]) Z Z Z Z (Qf Z Z (QB (cs := [_, _, _, _, _]) Z Z Z Z (Qt (XL Wa Wa Wa Wa) Z Z (.inr Z) (Qa Z (kc3 hK Z Z Z ?_))))))
     refine Qb fun K hK => Qa Z (X5 Z Z (kc4 hK Z Z Z Z ?_))
     refine Qs Z (fun h5 => ?_) (fun h5 => ?_)
     ·try rw [h5]
      try simp only [qB] at h5
      refine Qb fun K hK => mv2 Z Z (kc1 hK Z ?_)
      refine Qq (Qg (QC Z ?_))
      (repeat clear hK K); first | (simp [KT, h1, h2, h3, h4, h5]; done) | (simp_all [KT]; done)
     ·try rw [h5]
      try simp only [qB] at h5
      refine Qr (ks2 Z Z ?_)
      refine QA ?_ -- 3
      refine Qy (Qb fun K hK => Qf Z Z (Qx Z Z Z (Qf Z Z (Qx Z Z Z (Qea Z Z (Qa Z (kc2 hK Z Z ?_)))))))
      refine Qs Z (fun h6 => ?_) (fun h6 => ?_)
      ·try rw [h6]
       try simp only [qB] at h6
       refine Qb fun K hK => Qa Z (kc1 hK Z ?_)
       refine Qq (Qp (Qg (QC Z ?_)))
       (repeat clear hK K); first | (simp [KT, h1, h2, h3, h4, h5, h6]; done) | (simp_all [KT]; done)
      ·try rw [h6]
       try simp only [qB] at h6
       refine Qb fun K hK => Qf Z Z (Qx Z Z Z (Qa Z (kc1 hK Z ?_)))
       refine Qs Z (fun h7 => ?_) (fun h7 => ?_)
       ·try rw [h7]
        try simp only [qB] at h7
        refine Qb fun K hK => Qa Z (kc1 hK Z ?_)
        refine Qq (Qp (Qg (QC Z ?_)))
        (repeat clear hK K); first | (simp [KT, h1, h2, h3, h4, h5, h6, h7]; done) | (simp_all [KT]; done)
       ·try rw [h7]
        try simp only [qB] at h7
        refine Qr (Qe (Zf (ZC) (Qb fun K hK => Qa Z (kc1 hK Z ?_))))
        refine Qq (QC Z ?_)
        (repeat clear hK K); first | (simp [KT, h1, h2, h3, h4, h5, h6, h7]; done) | (simp_all [KT]; done)
theorem Ja {e a b c : Int} {p q : List UInt8} {f : Bool} (hp : p.length <= 1000000) (hq : q.length <= 1000000) {a' b' c' : Int} {p' q' : List UInt8} (hp' : p'.length <= 1000000) (hq' : q'.length <= 1000000) : Ok Tryz.prog 110 [.agg [.int .i64 e, .int .i64 a, .int .i64 b, .int .i64 c, .str p, .str q, .bool f], .agg [.int .i64 a', .int .i64 b', .int .i64 c', .str p', .str q']] (.bool (JE e a b c p q f a' b' c' p' q')) := by
 refine Ok.ofT ZR Tryz.func110 QeF (Qgr Z) ?_
 show TW _ _ tf110.body _ _
 refine Qb fun K hK => Zx Z Z Z (Zx Z Z Z (Qa Z (kc2 hK Z Z ?_)))
 refine QA ?_ -- 0
 refine Qb fun K hK => QB (cs := [_, _, _, _, _, _, _]) Z Z Z Z (Qt (Ym Wa Wa) Z Z (.inr Z) (Z9 Z (Qa Z ?_)))
 refine Qu (g := 9) Z (fun h1 => ?_) (fun h1 => ?_)
 ·try rw [h1]
  try simp only [qB] at h1
  refine gn3 Z Z Z (Qh Z Z (kc3 hK Z Z Z ?_))
  refine Zr Z (Qb fun K hK => Qa Z (kc1 hK Z ?_))
  refine Qq (Qg (Qn Z ?_))
  (repeat clear hK K); first | (simp [JE, h1]; done) | (simp_all [JE]; done)
 ·try rw [h1]
  try simp only [qB] at h1
  refine Qd Z (QB (cs := [_, _, _, _, _]) Z Z Z Z (Qd Z (Qt (Zd Wa Wa) Z Z (.inr Z) (Qd Z (Z9 Z (Qh Z Z (kc3 hK Z Z Z ?_)))))))
  refine Qs Z (fun h2 => ?_) (fun h2 => ?_)
  ·try rw [h2]
   try simp only [qB] at h2
   refine Qb fun K hK => Qa Z (kc1 hK Z ?_)
   refine Qq (Qg (Qn Z ?_))
   (repeat clear hK K); first | (simp [JE, h1, h2]; done) | (simp_all [JE]; done)
  ·try rw [h2]
   try simp only [qB] at h2
   refine Qr (ks2 Z Z ?_)
   refine QA ?_ -- 1
   refine Qb fun K hK => Qf Z Z (Qx Z Z Z (X5 Z Z (kc3 hK Z Z Z ?_)))
   refine Qs Z (fun h3 => ?_) (fun h3 => ?_)
   ·try rw [h3]
    try simp only [qB] at h3
    refine Qb fun K hK => Qf Z Z (Qx Z Z Z (Yg Z Z (Qa Z (kc1 hK Z ?_))))
    refine Qq (Qg (Qn Z ?_))
    (repeat clear hK K); first | (simp [JE, h1, h2, h3]; done) | (simp_all [JE]; done)
   ·try rw [h3]
    try simp only [qB] at h3
    refine Qr (ks2 Z Z (Qb fun K hK => Qf Z Z (QB (cs := [_, _, _, _, _]) Z Z Z Z (QB (cs := [_, _, _, _, _]) Z Z Z Z (Qt (XL Wa Wa Wa Wa) Z Z (.inr Z) (Qa Z (kc2 hK Z Z ?_)))))))
    refine Qb fun K hK => Qa Z (Yg Z Z (Qa Z ?_))
    refine Qu (g := 26) Z (fun h4 => ?_) (fun h4 => ?_)
    ·try rw [h4]
     try simp only [qB] at h4
     refine gn3 Z Z Z (ZD Z (ZD Z (ZD Z (Y7 Z (Qh Z Z (Qa Z (kc1 hK Z ?_)))))))
     refine Qq (Qn Z ?_)
     (repeat clear hK K); first | (simp [JE, h1, h2, h3, h4]; done) | (simp_all [JE]; done)
    ·try rw [h4]
     try simp only [qB] at h4
     refine Qd Z (Qa Z (Qd Z (ZG Z Z (Qd Z (Qa Z ?_)))))
     refine Qu (g := 29) Z (fun h5 => ?_) (fun h5 => ?_)
     ·try rw [h5]
      try simp only [qB] at h5
      refine Qd Z (Qf Z Z (Qd Z (Qx Z Z Z (Qd Z (Z9 Z (Qd Z (Qh Z Z (Qh Z Z (Qa Z (kc1 hK Z ?_))))))))))
      refine Qq (Qn Z ?_)
      (repeat clear hK K); first | (simp [JE, h1, h2, h3, h4, h5]; done) | (simp_all [JE]; done)
     ·try rw [h5]
      try simp only [qB] at h5
      refine gn3 Z Z Z (Qd Z (Qh Z Z (Qh Z Z (Qa Z (kc1 hK Z ?_)))))
      refine Qq (Qn Z ?_)
      (repeat clear hK K); first | (simp [JE, h1, h2, h3, h4, h5]; done) | (simp_all [JE]; done)
theorem YJ {e a b c : Int} {p q : List UInt8} {f : Bool} (hp : p.length <= 1000000) (hq : q.length <= 1000000) {e' a' b' c' : Int} {p' q' : List UInt8} {f' : Bool} (hp' : p'.length <= 1000000) (hq' : q'.length <= 1000000) : Ok Tryz.prog 103 [.agg [.int .i64 e, .int .i64 a, .int .i64 b, .int .i64 c, .str p, .str q, .bool f, .int .i64 e', .int .i64 a', .int .i64 b', .int .i64 c', .str p', .str q', .bool f']] (.bool (RX e a b c p q f e' a' b' c' p' q' f')) := by
 refine Ok.ofT ZR Tryz.func103 Qey (Qgr Z) ?_
 show TW _ _ tf103.body _ _
 refine Qb fun K hK => Zx Z Z Z (Qa Z (kc1 hK Z ?_))
 refine Qb fun K hK => Qf Z Z (QB (cs := [_, _, _, _, _, _, _]) Z Z Z Z (Qt (Ym Wa Wa) Z Z (.inr Z) (Qa Z ?_)))
 refine Qu (g := 6) Z (fun h1 => ?_) (fun h1 => ?_)
 ·try rw [h1]
  try simp only [qB] at h1
  refine Qd Z (Qf Z Z (Qd Z (QB (cs := [_, _, _, _, _, _, _]) Z Z Z Z (Qd Z (Qt (Ym Wa Wa) Z Z (.inr Z) (Qh Z Z (Qa Z ?_)))))))
  refine Qu (g := 11) Z (fun h2 => ?_) (fun h2 => ?_)
  ·try rw [h2]
   try simp only [qB] at h2
   refine Qd Z (Qf Z Z (Qd Z (QB (cs := [_, _, _, _, _, _, _]) Z Z Z Z (Qd Z (Qf Z Z (Qd Z (QB (cs := [_, _, _, _, _, _, _]) Z Z Z Z (Qd Z (Qt (Zw Wa Wa Wa Wa) Z Z (.inr Z) (Qd Z (Yg Z Z ?_)))))))))))
   refine Qh Z Z (Qa Z (kc1 hK Z ?_))
   refine Qq (Qn Z ?_)
   (repeat clear hK K); first | (simp [RX, h1, h2]; done) | (simp_all [RX]; done)
  ·try rw [h2]
   try simp only [qB] at h2
   refine gn4 Z Z Z Z (gn2 Z Z (Qh Z Z (Qa Z (kc1 hK Z ?_))))
   refine Qq (Qn Z ?_)
   (repeat clear hK K); first | (simp [RX, h1, h2]; done) | (simp_all [RX]; done)
 ·try rw [h1]
  try simp only [qB] at h1
  refine gn3 Z Z Z (Qh Z Z (Qa Z (gn4 Z Z Z Z (gn2 Z Z (Qh Z Z ?_)))))
  refine Qa Z (kc1 hK Z ?_)
  refine Qq (Qn Z ?_)
  (repeat clear hK K); first | (simp [RX, h1]; done) | (simp_all [RX]; done)
theorem Gr {e a b c : Int} {p q : List UInt8} {f : Bool} (hp : p.length <= 1000000) (hq : q.length <= 1000000) {e' a' b' c' : Int} {p' q' : List UInt8} {f' : Bool} (hp' : p'.length <= 1000000) (hq' : q'.length <= 1000000) {x y z : Int} {r s : List UInt8} (hr : r.length <= 1000000) (hs : s.length <= 1000000) : Ok Tryz.prog 106 [.agg [.int .i64 e, .int .i64 a, .int .i64 b, .int .i64 c, .str p, .str q, .bool f, .int .i64 e', .int .i64 a', .int .i64 b', .int .i64 c', .str p', .str q', .bool f'], .agg [.int .i64 x, .int .i64 y, .int .i64 z, .str r, .str s]] (.bool (GB e a b c p q f e' a' b' c' p' q' f' x y z r s)) := by
 refine Ok.ofT ZR Tryz.func106 QeB (Qgr Z) ?_
 show TW _ _ tf106.body _ _
 refine Qb fun K hK => Zx Z Z Z (Zx Z Z Z (Qa Z (kc2 hK Z Z ?_)))
 refine Qb fun K hK => QB (cs := [_, _, _, _, _, _, _, _, _, _, _, _, _, _]) Z Z Z Z (Qt (YJ Wa Wa Wa Wa) Z Z (.inr Z) (Qa Z ?_))
 refine Qu (g := 7) Z (fun h1 => ?_) (fun h1 => ?_)
 ·try rw [h1]
  try simp only [qB] at h1
  refine Qd Z (QB (cs := [_, _, _, _, _]) Z Z Z Z (Qd Z (Qt (Zd Wa Wa) Z Z (.inr Z) (Qh Z Z (Qa Z ?_)))))
  refine Qu (g := 11) Z (fun h2 => ?_) (fun h2 => ?_)
  ·try rw [h2]
   try simp only [qB] at h2
   refine Qd Z (Qf Z Z (Qd Z (QB (cs := [_, _, _, _, _, _, _]) Z Z Z Z (Qd Z (QB (cs := [_, _, _, _, _]) Z Z Z Z (Qd Z (Qt (Ja Wa Wa Wa Wa) Z Z (.inr Z) (Qh Z Z (Qa Z ?_)))))))))
   refine Qu (g := 17) Z (fun h3 => ?_) (fun h3 => ?_)
   ·try rw [h3]
    try simp only [qB] at h3
    refine Qd Z (Qf Z Z (Qd Z (QB (cs := [_, _, _, _, _, _, _]) Z Z Z Z (Qd Z (QB (cs := [_, _, _, _, _]) Z Z Z Z (Qd Z (Qt (Ja Wa Wa Wa Wa) Z Z (.inr Z) (Qd Z (Z9 Z (Qh Z Z (Qa Z ?_)))))))))))
    refine kc1 hK Z ?_
    refine Qq (Qn Z ?_)
    (repeat clear hK K); first | (simp [GB, h1, h2, h3]; done) | (simp_all [GB]; done)
   ·try rw [h3]
    try simp only [qB] at h3
    refine gn4 Z Z Z Z (Y7 Z (Qh Z Z (Qa Z (kc1 hK Z ?_))))
    refine Qq (Qn Z ?_)
    (repeat clear hK K); first | (simp [GB, h1, h2, h3]; done) | (simp_all [GB]; done)
  ·try rw [h2]
   try simp only [qB] at h2
   refine gn4 Z Z Z Z (Qh Z Z (Qa Z (gn4 Z Z Z Z (Y7 Z (Qh Z Z ?_)))))
   refine Qa Z (kc1 hK Z ?_)
   refine Qq (Qn Z ?_)
   (repeat clear hK K); first | (simp [GB, h1, h2]; done) | (simp_all [GB]; done)
 ·try rw [h1]
  try simp only [qB] at h1
  refine gn2 Z Z (Qh Z Z (Qa Z (gn4 Z Z Z Z (Qh Z Z (Qa Z (gn2 Z Z ?_))))))
  refine gn3 Z Z Z (Qh Z Z (Qa Z (kc1 hK Z ?_)))
  refine Qq (Qn Z ?_)
  (repeat clear hK K); first | (simp [GB, h1]; done) | (simp_all [GB]; done)
end Go.Proofs
namespace M3
open Go Go.Abs
open Go Go.Abs
end M3
namespace M3
open Go Go.Abs
end M3
namespace M25
open Go Go.Abs M3
def PW (a b c : Int) : Bool := decide (a = 0) && decide (b = 0) && decide (c = 0)
def Jk (a b c : Int) (p q : List UInt8) (part : Int) : Option (Int × Int × Int) :=
 if PY a b c p q = false \/ part < 0 \/ 2 < part then none
 else
  let o := if part = 0 then (a + 1, 0, 0) else if part = 1 then (a, b + 1, 0) else (a, b, c + 1)
  if PY o.1 o.2.1 o.2.2 [] [] = true then some o else none
def dOV (o : Option (Int × Int × Int)) : D := .tup [.agg [.int .i64 (o.getD (0, 0, 0)).1, .int .i64 (o.getD (0, 0, 0)).2.1, .int .i64 (o.getD (0, 0, 0)).2.2, .str [], .str []], .bool o.isSome]
def XS (a b c : Int) (p q : List UInt8) : Nat -> Option (Int × Int × Int)
 | 0 => none
 | n + 1 => if (Jk a b c p q n).isSome = true then Jk a b c p q n else XS a b c p q n
def S0 (a b c : Int) (p q : List UInt8) : Option (Int × Int × Int) :=
 if PY a b c p q = false then none else if p ≠ [] then some (a, b, c) else XS a b c p q 3
theorem H6 {a b c : Int} {p q : List UInt8} (h : PY a b c p q = true) : (0 <= a /\ a <= 9999) /\ (0 <= b /\ b <= 9999) /\ (0 <= c /\ c <= 9999) := by
 simp only [PY, mFits, Qgv, decide_eq_true_eq] at h
 omega
theorem TM {a b c : Int} {p q : List UInt8} {m : Nat} (hm : 0 < m) (h : (Jk a b c p q ((m : Int) - 1)).isSome = false) : XS a b c p q m = XS a b c p q (m - 1) := by
 obtain ⟨n, rfl⟩ : ∃ n, m = n + 1 := ⟨m - 1, Wa⟩
 rw [show ((n + 1 : Nat) : Int) - 1 = (n : Int) by omega] at h
 rw [XS, if_neg (by rw [h]; simp)]; rfl
theorem Ss {a b c : Int} {p q : List UInt8} {m : Nat} (hm : 0 < m) (h : (Jk a b c p q ((m : Int) - 1)).isSome = true) : XS a b c p q m = Jk a b c p q ((m : Int) - 1) := by
 obtain ⟨n, rfl⟩ : ∃ n, m = n + 1 := ⟨m - 1, Wa⟩
 rw [show ((n + 1 : Nat) : Int) - 1 = (n : Int) by omega] at h ⊢
 rw [XS, if_pos h]
def dCu (x : Cu) : List D := [.int .i64 x.e, .int .i64 x.a, .int .i64 x.b, .int .i64 x.c, .str x.p, .str x.q, .bool x.f]
def NF (s : Cu × Cu) : List D := dCu s.1 ++ dCu s.2
def ZH (l : List (Cu × Cu)) : D := .sl (l.map NF)
def Rq (s : List (Cu × Cu) × List (Cu × Cu)) : D := .agg [ZH s.1, ZH s.2]
def Gy : Cu := ⟨-1, 0, 0, 0, [], [], false⟩
def Pp : Cu := ⟨1, 0, 0, 0, [], [], false⟩
def MS (a b c : Int) : Cu := if PW a b c = true then Gy else ⟨0, a, b, c, [], [], false⟩
def Fv (a b c : Int) : Cu := match S0 a b c [] [] with
 | none => Pp
 | some o => ⟨0, o.1, o.2.1, o.2.2, [], [], false⟩
def Y9 (a b c : Int) (p q : List UInt8) : List (Cu × Cu) × List (Cu × Cu) :=
 if PY a b c p q = false then ([], []) else if p ≠ [] then ([], [(⟨0, a, b, c, p, [], false⟩, ⟨0, a, b, c, p, [], true⟩)]) else ([(MS a b c, Fv a b c)], [])
def PZ (e a b c : Int) (p q : List UInt8) (f : Bool) : Bool := !decide (e = 0) || (!f && decide (p = []) && !PW a b c)
def Cu.sm (x : Cu) : Prop := x.p.length <= 1000000 /\ x.q.length <= 1000000
def Sm (l : List (Cu × Cu)) : Prop := l.length <= 1000000 /\ ∀ s ∈ l, Cu.sm s.1 /\ Cu.sm s.2
theorem Sm.at {l : List (Cu × Cu)} (h : Sm l) {i : Nat} (hi : i < l.length) : (l[i].1.p.length <= 1000000 /\ l[i].1.q.length <= 1000000) /\ (l[i].2.p.length <= 1000000 /\ l[i].2.q.length <= 1000000) := h.2 _ (Qgw hi)
def FA (s : Cu × Cu) : Bool := RX s.1.e s.1.a s.1.b s.1.c s.1.p s.1.q s.1.f s.2.e s.2.a s.2.b s.2.c s.2.p s.2.q s.2.f
def KU (x y : Cu) : Int := KT x.e x.a x.b x.c x.p x.q x.f y.e y.a y.b y.c y.p y.q y.f
def Qc7 (l : List (Cu × Cu)) (i : Nat) : Bool := match l[i]? with
 | none => true
 | some s => FA s && (decide (i = 0) || match l[i - 1]? with | none => true | some r => decide (KU r.2 s.1 < 0))
theorem BB {l : List (Cu × Cu)} {i : Nat} (h : i < l.length) : Qc7 l i = (FA l[i] && (decide (i = 0) || decide (KU (l[i - 1]'Wa).2 l[i].1 < 0))) := by
 unfold Qc7
 rw [List.getElem?_eq_getElem h, List.getElem?_eq_getElem (Wa : i - 1 < l.length)]
theorem QbV {l : List (Cu × Cu)} {i : Nat} (h : i < l.length) (h1 : FA l[i] = true) (h2 : i = 0 \/ KU (l[i - 1]'Wa).2 l[i].1 < 0) : Qc7 l i = true := by
 rw [BB h, h1]; simpa using h2
theorem P5 {l : List (Cu × Cu)} {i : Nat} (h : i < l.length) (h1 : FA l[i] = false \/ (i ≠ 0 /\ 0 <= KU (l[i - 1]'Wa).2 l[i].1)) : Qc7 l i = false := by
 rw [BB h]
 rcases h1 with h1 | ⟨h1, h2⟩
 ·rw [h1]; rfl
 ·simp only [QgE, Bool.or_eq_false_iff, decide_eq_false_iff_not]
  exact .inr ⟨h1, Wa⟩
def Ni (l : List (Cu × Cu)) : Bool := (List.range l.length).all (Qc7 l)
theorem K1 {n i : Nat} {p : Nat -> Bool} (h : i < n) (hp : p i = false) : (List.range n).all p = false := by
 rw [Bool.eq_false_iff]; intro ha
 rw [QgB] at ha
 rw [ha i (QgO.2 h)] at hp; cases hp
theorem R2 {i : Nat} {p : Nat -> Bool} (h : (List.range i).all p = true) (hp : p i = true) : (List.range (i + 1)).all p = true := by
 rw [List.range_succ, List.all_append, h]; simp [hp]
theorem N5 {i : Nat} {p : Nat -> Bool} {n : Nat} (h : (List.range i).all p = true) (hn : n <= i) : (List.range n).all p = true := by
 rw [QgB] at h ⊢
 exact fun x hx => h x (QgO.2 (Nat.lt_of_lt_of_le (QgO.1 hx) hn))
def RT (s : Cu × Cu) (a b c : Int) (p q : List UInt8) : Bool := GB s.1.e s.1.a s.1.b s.1.c s.1.p s.1.q s.1.f s.2.e s.2.a s.2.b s.2.c s.2.p s.2.q s.2.f a b c p q
def RS (l : List (Cu × Cu)) (a b c : Int) (p q : List UInt8) : Bool := Ni l && l.any fun s => RT s a b c p q
theorem RC {l : List (Cu × Cu)} {a b c : Int} {p q : List UInt8} {i : Nat} (hi : l.length <= i) (h : (l.take i).any (fun s => RT s a b c p q) = false) : RS l a b c p q = false := by
 rw [QgH hi] at h; rw [RS, h, Bool.and_false]
theorem RD {l : List (Cu × Cu)} {a b c : Int} {p q : List UInt8} (h : Ni l = false) : RS l a b c p q = false := by rw [RS, h]; rfl
theorem RE {l : List (Cu × Cu)} {a b c : Int} {p q : List UInt8} {i : Nat} (h : Ni l = true) (hi : i < l.length) (hp : RT l[i] a b c p q = true) : RS l a b c p q = true := by
 rw [RS, h, Bool.true_and]; exact List.any_eq_true.2 ⟨_, Qgw hi, hp⟩
def inC (x y : Cu) (s : Cu × Cu) : Bool := decide (KU s.1 x <= 0) && decide (KU y s.2 <= 0)
theorem QdD {x y : Cu} {s : Cu × Cu} (h1 : KU s.1 x <= 0) (h2 : KU y s.2 <= 0) : inC x y s = true := by simp [inC, h1, h2]
theorem QdC {x y : Cu} {s : Cu × Cu} (h : ¬ KU s.1 x <= 0 \/ ¬ KU y s.2 <= 0) : inC x y s = false := by
 simp only [inC, QgE, decide_eq_false_iff_not]; exact h
def mIn (l : List (Cu × Cu)) (x y : Cu) : Bool := l.any (inC x y)
theorem Ri {α : Type} {s : List α} {p : α -> Bool} {i : Nat} (h : i < s.length) (hp : p s[i] = true) : s.any p = true := List.any_eq_true.2 ⟨_, Qgw h, hp⟩
theorem Cv {α : Type} {s : List α} {p : α -> Bool} {i : Nat} (hi : s.length <= i) (h : (s.take i).any p = false) : s.any p = false := by rwa [QgH hi] at h
theorem PA {α : Type} {s : List α} {p : α -> Bool} {i : Nat} (h : i < s.length) (ha : (s.take i).any p = false) (hp : p s[i] = false) : (s.take (i + 1)).any p = false := by
 rw [List.take_succ_eq_append_getElem h, List.any_append, ha]; simp [hp]
def Hc (x : Cu) : Bool := PZ x.e x.a x.b x.c x.p x.q x.f
def JO (s : List (Cu × Cu) × List (Cu × Cu)) : Bool := Ni s.1 && Ni s.2 && s.1.all fun x => Hc x.1 && Hc x.2
def D3 (s : List (Cu × Cu) × List (Cu × Cu)) (a b c : Int) (p q : List UInt8) : Bool :=
 JO s && PY a b c p q && (if p = [] then RS s.1 a b c p q else RS s.2 a b c p q)
theorem Kh {s : List (Cu × Cu) × List (Cu × Cu)} (h : Ni s.1 = false \/ Ni s.2 = false) : JO s = false := by
 rw [JO]; rcases h with h | h <;> simp [h]
theorem Kg {s : List (Cu × Cu) × List (Cu × Cu)} {i : Nat} (hi : i < s.1.length) (h : Hc s.1[i].1 = false \/ Hc s.1[i].2 = false) : JO s = false := by
 have : (s.1.all fun x => Hc x.1 && Hc x.2) = false := XX hi (by rcases h with h | h <;> simp [h])
 rw [JO, this, Bool.and_false]
theorem FC {s : List (Cu × Cu) × List (Cu × Cu)} {i : Nat} (h1 : Ni s.1 = true) (h2 : Ni s.2 = true) (hi : s.1.length <= i) (h : (s.1.take i).all (fun x => Hc x.1 && Hc x.2) = true) : JO s = true := by
 rw [QgH hi] at h
 rw [JO, h1, h2, h]; rfl
def Rp (l : List Cu) : D := .sl (l.map dCu)
theorem Tg {l : List Cu} : ∀ r ∈ l.map dCu, r.length = 7 := fun r hr => by obtain ⟨x, _, rfl⟩ := QgF.1 hr; rfl
theorem Qbj {l : List Cu} {a b : Nat} : ∀ r ∈ ((l.map dCu).take a).drop b, r.length = 7 := fun r hr => Tg r (QgL (List.mem_of_mem_drop hr))
def HG : List Cu -> Cu -> List Cu
 | [], c => [c]
 | x :: r, c => if KU x c < 0 then x :: HG r c else if KU x c = 0 then x :: r else c :: x :: r
theorem Br {l : List Cu} {c : Cu} {k : Nat} (hk : k < l.length) (h : KU l[k] c < 0) (hi : HG l c = l.take k ++ HG (l.drop k) c) : HG l c = l.take (k + 1) ++ HG (l.drop (k + 1)) c := by
 rw [hi, QgI hk, HG, if_pos h, List.take_succ_eq_append_getElem hk, List.append_assoc]; rfl
theorem Bq {l : List Cu} {c : Cu} {k : Nat} (hk : k < l.length) (h : KU l[k] c = 0) (hi : HG l c = l.take k ++ HG (l.drop k) c) : HG l c = l := by
 rw [hi, QgI hk, HG, if_neg Wa, if_pos h, <- QgI hk, List.take_append_drop]
theorem Di {l : List Cu} {c : Cu} {k : Nat} (h : l.length <= k \/ ∃ hk : k < l.length, ¬ KU l[k] c < 0 /\ KU l[k] c ≠ 0) (hi : HG l c = l.take k ++ HG (l.drop k) c) : HG l c = l.take k ++ c :: l.drop k := by
 rw [hi]
 rcases h with h | ⟨hk, h1, h2⟩
 ·rw [QgM h, HG]
 ·rw [QgI hk, HG, if_neg h1, if_neg h2]
theorem N0 : ∀ (l : List Cu) (c : Cu), (HG l c).length <= l.length + 1
 | [], c => by simp [HG]
 | x :: r, c => by
  have := N0 r c
  simp only [HG]
  (repeat' split) <;> simp <;> omega
theorem RU : ∀ {l : List Cu} {c : Cu}, (∀ x ∈ l, Cu.sm x) -> Cu.sm c -> ∀ x ∈ HG l c, Cu.sm x
 | [], c, _, hc, x, hx => by simp [HG] at hx; exact hx ▸ hc
 | y :: r, c, hl, hc, x, hx => by
  simp only [HG] at hx
  split at hx
  ·rcases Qgt.1 hx with rfl | hx
   ·exact hl _ Wf
   ·exact RU (fun z hz => hl z (by simp [hz])) hc x hx
  ·split at hx
   ·exact hl x hx
   ·rcases Qgt.1 hx with rfl | hx
    ·exact hc
    ·exact hl x hx
def Y0 (l : List (Cu × Cu)) : List Cu := l.foldl (fun out s => HG (HG out s.1) s.2) [Gy, Pp]
theorem Qa2 {l : List (Cu × Cu)} {i : Nat} (h : i < l.length) : Y0 (l.take (i + 1)) = HG (HG (Y0 (l.take i)) l[i].1) l[i].2 := by
 rw [List.take_succ_eq_append_getElem h, Y0, List.foldl_append]; rfl
theorem PU : ∀ (l : List (Cu × Cu)) (out : List Cu), (l.foldl (fun out s => HG (HG out s.1) s.2) out).length <= out.length + 2 * l.length
 | [], out => by simp
 | s :: l, out => by
  have h1 := N0 out s.1
  have h2 := N0 (HG out s.1) s.2
  have := PU l (HG (HG out s.1) s.2)
  simp only [List.foldl_cons, List.length_cons]; omega
theorem HC (l : List (Cu × Cu)) : (Y0 l).length <= 2 + 2 * l.length := PU l _
theorem SW : ∀ {l : List (Cu × Cu)} {out : List Cu}, (∀ s ∈ l, Cu.sm s.1 /\ Cu.sm s.2) -> (∀ x ∈ out, Cu.sm x) -> ∀ x ∈ l.foldl (fun out s => HG (HG out s.1) s.2) out, Cu.sm x
 | [], _, _, h => h
 | s :: l, out, hl, h => by
  rw [List.foldl_cons]
  exact SW (fun t ht => hl t (by simp [ht])) (RU (RU h (hl s Wf).1) (hl s Wf).2)
theorem De {l : List (Cu × Cu)} (hl : ∀ s ∈ l, Cu.sm s.1 /\ Cu.sm s.2) : ∀ x ∈ Y0 l, Cu.sm x := SW hl (by
 intro x hx
 simp only [Qgt, Qgs, or_false] at hx
 rcases hx with rfl | rfl <;> exact ⟨QgD _, QgD _⟩)
theorem NZ {l : List (Cu × Cu)} (hl : Sm l) (i : Nat) : (Y0 (l.take i)).length <= 2000002 /\ ∀ x ∈ Y0 (l.take i), Cu.sm x := by
 refine ⟨?_, De fun s hs => hl.2 s (QgL hs)⟩
 have := HC (l.take i)
 have h2 : (l.take i).length <= l.length := List.length_take_le' ..
 have := hl.1
 omega
def HE (l : List (Cu × Cu)) (x y : Cu) : List (Cu × Cu) := match l.getLast? with
 | some s => if KU s.2 x = 0 then l.dropLast ++ [(s.1, y)] else l ++ [(x, y)]
 | none => l ++ [(x, y)]
theorem SX {l : List (Cu × Cu)} {x y : Cu} {i : Nat} (hi : i + 1 = l.length) (h : KU (l[i]'Wa).2 x = 0) : HE l x y = l.set i ((l[i]'Wa).1, y) := by
 have hg : l.getLast? = some (l[i]'Wa) := by
  rw [List.getLast?_eq_getElem?, show l.length - 1 = i by omega, List.getElem?_eq_getElem]
 rw [HE, hg]
 simp only [h, if_true]
 rw [List.dropLast_eq_take, show l.length - 1 = i by omega, List.set_eq_take_append_cons_drop, if_pos Wa, QgM Wa]
theorem Fx {l : List (Cu × Cu)} {x y : Cu} (h : l = [] \/ ∃ i, ∃ hi : i + 1 = l.length, KU (l[i]'Wa).2 x ≠ 0) : HE l x y = l ++ [(x, y)] := by
 rcases h with rfl | ⟨i, hi, h⟩
 ·rfl
 ·have hg : l.getLast? = some (l[i]'Wa) := by
   rw [List.getLast?_eq_getElem?, show l.length - 1 = i by omega, List.getElem?_eq_getElem]
  rw [HE, hg]
  simp only [if_neg h]
theorem SY (l : List (Cu × Cu)) (x y : Cu) : (HE l x y).length <= l.length + 1 := by
 unfold HE
 split
 ·split
  ·simp
  ·simp
 ·simp
theorem Df {l : List (Cu × Cu)} {x y : Cu} (hl : ∀ s ∈ l, Cu.sm s.1 /\ Cu.sm s.2) (hx : Cu.sm x) (hy : Cu.sm y) : ∀ s ∈ HE l x y, Cu.sm s.1 /\ Cu.sm s.2 := by
 intro s hs
 unfold HE at hs
 split at hs
 ·rename_i t ht
  have ht' := List.mem_of_getLast? ht
  split at hs
  ·rcases QgC.1 hs with hs | hs
   ·exact hl s (List.dropLast_subset _ hs)
   ·simp at hs; subst hs; exact ⟨(hl t ht').1, hy⟩
  ·rcases QgC.1 hs with hs | hs
   ·exact hl s hs
   ·simp at hs; subst hs; exact ⟨hx, hy⟩
 ·rcases QgC.1 hs with hs | hs
  ·exact hl s hs
  ·simp at hs; subst hs; exact ⟨hx, hy⟩
theorem L7 {α β : Type} {l : List α} {f : α -> β} {i : Nat} (h : i + 1 < l.length) : (l.map f)[((i : Int) + 1).toNat]? = some (f l[i + 1]) := by
 rw [show ((i : Int) + 1).toNat = i + 1 by omega, List.getElem?_map, List.getElem?_eq_getElem h]; rfl
def HD (f : Cu -> Cu -> Bool) : List Cu -> List (Cu × Cu) -> List (Cu × Cu)
 | x :: y :: r, out => HD f (y :: r) (if f x y = true then HE out x y else out)
 | _, out => out
def T9 (l : List (Cu × Cu)) : List (Cu × Cu) := if l.all FA = true then HD (mIn l) (Y0 l) [] else []
theorem PV {f : Cu -> Cu -> Bool} {c : List Cu} {out : List (Cu × Cu)} {i : Nat} (h : i + 1 < c.length) : HD f (c.drop i) out = HD f (c.drop (i + 1)) (if f c[i] c[i + 1] = true then HE out c[i] c[i + 1] else out) := by
 rw [QgI (Wa : i < c.length), QgI h, HD]
theorem Bm {f : Cu -> Cu -> Bool} {c : List Cu} {out : List (Cu × Cu)} {i : Nat} (h : c.length <= i + 1) : HD f (c.drop i) out = out := by
 have : (c.drop i).length <= 1 := by simp; omega
 match hd : c.drop i with
 | [] => rfl
 | [x] => rfl
 | x :: y :: r => rw [hd] at this; simp at this
def FillI (f : Cu -> Cu -> Bool) (c : List Cu) (i : Nat) (out : List (Cu × Cu)) : Prop :=
 out.length <= i /\ (∀ s ∈ out, Cu.sm s.1 /\ Cu.sm s.2) /\ HD f c [] = HD f (c.drop i) out
theorem FillI.zero {f : Cu -> Cu -> Bool} {c : List Cu} : FillI f c 0 [] := ⟨QgD _, by simp, by simp⟩
theorem FillI.take {f : Cu -> Cu -> Bool} {c : List Cu} {i : Nat} {out : List (Cu × Cu)} (h : FillI f c i out) (hc : ∀ x ∈ c, Cu.sm x) (hi : i + 1 < c.length) (ht : f c[i] c[i + 1] = true) : FillI f c (i + 1) (HE out c[i] c[i + 1]) := by
 obtain ⟨h1, h2, h3⟩ := h
 refine ⟨QgK (SY ..) Wa, Df h2 (hc _ (Qgw _)) (hc _ (Qgw _)), ?_⟩
 rw [h3, PV hi, if_pos ht]
theorem FillI.skip {f : Cu -> Cu -> Bool} {c : List Cu} {i : Nat} {out : List (Cu × Cu)} (h : FillI f c i out) (hi : i + 1 < c.length) (ht : f c[i] c[i + 1] = false) : FillI f c (i + 1) out := by
 obtain ⟨h1, h2, h3⟩ := h
 exact ⟨Wa, h2, by rw [h3, PV hi, if_neg (by rw [ht]; simp)]⟩
theorem FillI.done {f : Cu -> Cu -> Bool} {c : List Cu} {i : Nat} {out : List (Cu × Cu)} (h : FillI f c i out) (hi : c.length <= i + 1) : HD f c [] = out := by rw [h.2.2, Bm hi]
theorem Qac {i : Nat} : ((i : Int) + 1).toNat = i + 1 := Wa
theorem YF {l : List (Cu × Cu)} (hl : Sm l) : ∀ x ∈ Y0 l, Cu.sm x := De hl.2
def QbT (a b : List (Cu × Cu)) : List (Cu × Cu) := if Ni a = true /\ Ni b = true then T9 (a ++ b) else []
def La (a : List (Cu × Cu)) : List (Cu × Cu) := if Ni a = true then HD (fun x y => !mIn a x y) (Y0 a) [] else []
theorem QbX {l : List (Cu × Cu)} : ∀ r ∈ l.map NF, r.length = 14 := fun r hr => by obtain ⟨x, _, rfl⟩ := QgF.1 hr; rfl
theorem Sm.app {a b : List (Cu × Cu)} (ha : Sm a) (hb : Sm b) (h : a.length + b.length <= 1000000) : Sm (a ++ b) := by
 refine ⟨by simp; omega, fun s hs => ?_⟩
 rcases QgC.1 hs with hs | hs
 ·exact ha.2 s hs
 ·exact hb.2 s hs
theorem Qem {H : Qgo} {S : Nat -> Bool} {k n : Nat} {b : Box} (hS : S k = true) (hb : lk H k = some b) (hp : b.pr = true) (hn : n = b.rows.length) : (D.osl k n).fz H S = .sl b.rows := by
 simp only [D.fz, D.fzS, hS, hb, if_true, hp, hn, and_self]
abbrev FU := List (Cu × Cu) × List (Cu × Cu)
def Qah (a b : FU) : FU := if JO a = true /\ JO b = true then (QbT a.1 b.1, QbT a.2 b.2) else ([], [])
def MU (a : FU) : FU := if JO a = true then (La a.1, La a.2) else ([], [])
def mPl (v n : Int) : Int := if n < 1 then 0 else MY v n
theorem MX {v n : Int} : 0 <= mPl v n := by
 unfold mPl; split
 ·omega
 ·exact Qbd Wa
theorem MW {v n : Int} (h : 1 <= n) : mPl v n < n := by
 rw [mPl, if_neg Wa]; exact Qbc Wa
def Qag (l : List Int) (i : Int) : Int := if i < 0 \/ (l.length : Int) <= i then i.tmod 3 else l.getD i.toNat 0
theorem Bk {l : List Int} {i : Int} (h0 : 0 <= i) (h : i < l.length) : Qag l i = l[i.toNat]'Wa := by
 rw [Qag, if_neg Wa, List.getD_eq_getElem?_getD, List.getElem?_eq_getElem Wa]; rfl
def I64 (x : Int) : Prop := -9223372036854775808 <= x /\ x <= 9223372036854775807
theorem Qa1 {l : List Int} {i : Int} (hl : ∀ x ∈ l, I64 x) (hi : I64 i) : I64 (Qag l i) := by
 by_cases h : i < 0 \/ (l.length : Int) <= i
 ·rw [Qag, if_pos h]
  have h1 := Int.tmod_lt_of_pos i (Wa : (0 : Int) < 3)
  have h2 := Int.lt_tmod_of_pos i (Wa : (0 : Int) < 3)
  exact ⟨Wa, Wa⟩
 ·rw [Bk Wa Wa]
  exact hl _ (Qgw _)
theorem Pj (x : Int) : I64 (IntKind.i64.wrap x) := by
 unfold IntKind.wrap I64
 simp only [IntKind.bits, IntKind.signed, Bool.true_and]
 split
 ·rename_i h
  have := of_decide_eq_true h
  omega
 ·rename_i h
  have : ¬ (x % 2 ^ 64 >= 2 ^ (64 - 1)) := fun hh => h (decide_eq_true hh)
  omega
theorem Ng {α : Type} {k : Nat} {v : α} {l : List (Nat × α)} : lk ((k, v) :: l) k = some v := by rw [Qj, if_pos rfl]
theorem NY {α : Type} {k : Nat} {v : α} {l : List (Nat × α)} : (lk ((k, v) :: l) k).isSome = true := by rw [Ng]; rfl
def gB (L : List Int) (I : Int) (et : Nat) : Box := ⟨[[ZJ L, .int .i64 I]], 2, et, true⟩
def nxI (I : Int) : Int := IntKind.i64.wrap (I + 1)
def nx (L : List Int) (I n : Int) : Int := mPl (Qag L (IntKind.i64.wrap (nxI I - 1))) n
def J9 (h m : Int) : Int := if JM .and .i64 h m = h then 2 else if JM .and .i64 h m = 0 then 0 else 1
def GR (h m : Int) : Int := if JM .andNot .i64 h m = 0 then 2 else if JM .and .i64 h m = 0 then 0 else 1
theorem R0 {i : Nat} (h : i <= 62) : 1 <= (2 : Int) ^ i /\ (2 : Int) ^ i <= 4611686018427387904 := by
 have h1 : (2 : Nat) ^ i <= 2 ^ 62 := Nat.pow_le_pow_right Wa h
 have h2 : 1 <= (2 : Nat) ^ i := Nat.one_le_two_pow
 have h3 : ((2 ^ i : Nat) : Int) = (2 : Int) ^ i := by simp
 rw [<- h3]
 have h4 : (2 : Nat) ^ 62 = 4611686018427387904 := by decide
 omega
structure Vr where
 a : Int
 b : Int
 c : Int
 p : List UInt8
 q : List UInt8
def dVr (v : Vr) : List D := [.int .i64 v.a, .int .i64 v.b, .int .i64 v.c, .str v.p, .str v.q]
def Vr.sm (v : Vr) : Prop := v.p.length <= 100 /\ v.q.length <= 100
def versions : List Vr := [⟨1, 0, 0, [], []⟩, ⟨1, 2, 0, [], []⟩, ⟨2, 0, 0, [97, 46, 49], []⟩, ⟨2, 0, 0, [], []⟩]
theorem LA : ∀ v ∈ versions, v.sm := by
 intro v hv
 simp only [versions, Qgt, Qgs, or_false] at hv
 rcases hv with rfl | rfl | rfl | rfl <;> exact ⟨by decide, by decide⟩
theorem FF {i : Nat} : ((i : Int) - 1).toNat = i - 1 := Wa
end M25
namespace Go.Proofs
open Go Go.Abs M3 M25
theorem Jt {a b c : Int} {p q : List UInt8} : Ok Tryz.prog 70 [.agg [.int .i64 a, .int .i64 b, .int .i64 c, .str p, .str q]] (.agg [.int .i64 a, .int .i64 b, .int .i64 c, .str p, .str []]) := by
 refine Ok.ofT ZR Tryz.func70 QfU (Qgr Z) ?_
 show TW _ _ tf70.body _ _
 refine Qb fun K hK => Zx Z Z Z (ZI Z (kc2 hK Z Z ?_))
 refine Qb fun K hK => Qf Z Z (Q4 Z Z Z Z Z Z Z Z (kc2 hK Z Z ?_))
 refine Qb fun K hK => QB (cs := [_, _, _, _, _]) Z Z Z Z (Q4 Z Z Z Z Z Z Z Z (kc1 hK Z ?_))
 refine Qq (ZE (cs := [_, _, _, _, _]) Z Z Z Z ?_)
 exact rfl
theorem Y6  : Ok Tryz.prog 72 [] (.agg [.int .i64 (-1), .int .i64 0, .int .i64 0, .int .i64 0, .str [], .str [], .bool false]) := by
 refine Ok.ofT ZR Tryz.func72 QfW (Qgr Z) ?_
 show TW _ _ tf72.body _ _
 refine Qb fun K hK => ZI Z (kc1 hK Z ?_)
 refine Qb fun K hK => QQ Z Z (Q4 Z Z Z Z Z Z Z Z (kc1 hK Z ?_))
 refine Qq (ZE (cs := [_, _, _, _, _, _, _]) Z Z Z Z ?_)
 exact rfl
theorem Xk  : Ok Tryz.prog 74 [] (.agg [.int .i64 1, .int .i64 0, .int .i64 0, .int .i64 0, .str [], .str [], .bool false]) := by
 refine Ok.ofT ZR Tryz.func74 QfY (Qgr Z) ?_
 show TW _ _ tf74.body _ _
 refine Qb fun K hK => ZI Z (kc1 hK Z ?_)
 refine Qb fun K hK => QQ Z Z (Q4 Z Z Z Z Z Z Z Z (kc1 hK Z ?_))
 refine Qq (ZE (cs := [_, _, _, _, _, _, _]) Z Z Z Z ?_)
 exact rfl
theorem YP {a b c : Int} {p q : List UInt8} : Ok Tryz.prog 47 [.agg [.int .i64 a, .int .i64 b, .int .i64 c, .str p, .str q]] (.agg [.int .i64 0, .int .i64 a, .int .i64 b, .int .i64 c, .str p, .str [], .bool false]) := by
 refine Ok.ofT ZR Tryz.func47 Qfx (Qgr Z) ?_
 show TW _ _ tf47.body _ _
 refine Qb fun K hK => Zx Z Z Z (ZI Z (kc2 hK Z Z ?_))
 refine Qb fun K hK => QB (cs := [_, _, _, _, _]) Z Z Z Z (Qt (Jt) Z Z (.inl Z) (QQ Z Z (Q4 Z Z Z Z Z Z Z Z (kc1 hK Z ?_))))
 refine Qq (ZE (cs := [_, _, _, _, _, _, _]) Z Z Z Z ?_)
 exact rfl
theorem Hp {a b c : Int} {p q : List UInt8} : Ok Tryz.prog 48 [.agg [.int .i64 a, .int .i64 b, .int .i64 c, .str p, .str q]] (.agg [.int .i64 0, .int .i64 a, .int .i64 b, .int .i64 c, .str p, .str [], .bool true]) := by
 refine Ok.ofT ZR Tryz.func48 Qfy (Qgr Z) ?_
 show TW _ _ tf48.body _ _
 refine Qb fun K hK => Zx Z Z Z (ZI Z (kc2 hK Z Z ?_))
 refine Qb fun K hK => QB (cs := [_, _, _, _, _]) Z Z Z Z (Qt (Jt) Z Z (.inl Z) (QQ Z Z (Q4 Z Z Z Z Z Z Z Z (kc1 hK Z ?_))))
 refine Qq (ZE (cs := [_, _, _, _, _, _, _]) Z Z Z Z ?_)
 exact rfl
theorem Jc {a b c : Int} {p q : List UInt8} : Ok Tryz.prog 71 [.agg [.int .i64 a, .int .i64 b, .int .i64 c, .str p, .str q]] (.bool (PW a b c)) := by
 refine Ok.ofT ZR Tryz.func71 QfV (Qgr Z) ?_
 show TW _ _ tf71.body _ _
 refine Qb fun K hK => Zx Z Z Z (Qa Z (kc1 hK Z ?_))
 refine Qb fun K hK => Qf Z Z (Qx Z Z Z (ZG Z Z (Qa Z ?_)))
 refine Qu (g := 6) Z (fun h1 => ?_) (fun h1 => ?_)
 ·try rw [h1]
  try simp only [qB] at h1
  refine Qd Z (Qf Z Z (Qd Z (Qx Z Z Z (Qd Z (ZG Z Z (Qh Z Z (Qa Z ?_)))))))
  refine Qu (g := 11) Z (fun h2 => ?_) (fun h2 => ?_)
  ·try rw [h2]
   try simp only [qB] at h2
   refine Qd Z (Qf Z Z (Qd Z (Qx Z Z Z (Qd Z (ZG Z Z (Qh Z Z (Qa Z (kc1 hK Z ?_))))))))
   refine Qq (Qn Z ?_)
   (repeat clear hK K); simp_all [PW]
  ·try rw [h2]
   try simp only [qB] at h2
   refine gn3 Z Z Z (Qh Z Z (Qa Z (kc1 hK Z ?_)))
   refine Qq (Qn Z ?_)
   (repeat clear hK K); simp_all [PW]
 ·try rw [h1]
  try simp only [qB] at h1
  refine gn3 Z Z Z (Qh Z Z (Qa Z (gn3 Z Z Z (Qh Z Z (Qa Z (kc1 hK Z ?_))))))
  refine Qq (Qn Z ?_)
  (repeat clear hK K); simp_all [PW]
open Go Go.Abs M3 M25
theorem GH {a b c : Int} {p q : List UInt8} (hp : p.length <= 1000000) (hq : q.length <= 1000000) {part : Int} : Ok Tryz.prog 88 [.agg [.int .i64 a, .int .i64 b, .int .i64 c, .str p, .str q], .int .i64 part] (dOV (Jk a b c p q part)) := by
 refine Ok.ofT ZR Tryz.func88 Qgc (Qgr Z) ?_
 show TW _ _ tf88.body _ _
 refine Qb fun K hK => Zx Z Z Z (ZI Z (Qa Z (kc3 hK Z Z Z ?_)))
 refine QA ?_ -- 0
 refine Qb fun K hK => QB (cs := [_, _, _, _, _]) Z Z Z Z (Qt (Zd Wa Wa) Z Z (.inr Z) (Z9 Z (Qa Z ?_)))
 refine Qu (g := 10) Z (fun h1 => ?_) (fun h1 => ?_)
 ·try rw [h1]
  try simp only [qB] at h1
  refine gn2 Z Z (Qh Z Z (Qa Z (gn2 Z Z (Qh Z Z (kc4 hK Z Z Z Z ?_)))))
  refine Zr Z (Qb fun K hK => QQ Z Z (Q4 Z Z Z Z Z Z Z Z (Qa Z (kc2 hK Z Z ?_))))
  refine Qq (Qg (Post.eq (XQ (ds := [.int .i64 _, .int .i64 _, .int .i64 _, .str _, .str _]) (d' := .bool _) (cs := [_, _, _, _, _]) Z Z Z Z Z ⟨rfl, rfl⟩) ?_))
  (repeat clear hK K); first | (simp [Jk, dOV, h1]; done) | (simp_all [Jk, dOV]; done)
 ·try rw [h1]
  try simp only [qB] at h1
  refine Qd Z (Qa Z (Qd Z (Yg Z Z (Qh Z Z (Qa Z ?_)))))
  refine Qu (g := 14) Z (fun h2 => ?_) (fun h2 => ?_)
  ·try rw [h2]
   try simp only [qB] at h2
   refine gn2 Z Z (Qh Z Z (kc4 hK Z Z Z Z ?_))
   refine Zr Z (Qb fun K hK => QQ Z Z (Q4 Z Z Z Z Z Z Z Z (Qa Z (kc2 hK Z Z ?_))))
   refine Qq (Qg (Post.eq (XQ (ds := [.int .i64 _, .int .i64 _, .int .i64 _, .str _, .str _]) (d' := .bool _) (cs := [_, _, _, _, _]) Z Z Z Z Z ⟨rfl, rfl⟩) ?_))
   (repeat clear hK K); first | (simp [Jk, dOV, h1, h2]; done) | (simp_all [Jk, dOV]; done)
  ·try rw [h2]
   try simp only [qB] at h2
   refine Qd Z (Qa Z (Qd Z (Pv Z Z (Qh Z Z (kc4 hK Z Z Z Z ?_)))))
   refine Qs Z (fun h3 => ?_) (fun h3 => ?_)
   ·try rw [h3]
    try simp only [qB] at h3
    refine Qb fun K hK => QQ Z Z (Q4 Z Z Z Z Z Z Z Z (Qa Z (kc2 hK Z Z ?_)))
    refine Qq (Qg (Post.eq (XQ (ds := [.int .i64 _, .int .i64 _, .int .i64 _, .str _, .str _]) (d' := .bool _) (cs := [_, _, _, _, _]) Z Z Z Z Z ⟨rfl, rfl⟩) ?_))
    (repeat clear hK K); first | (simp [Jk, dOV, h1, h2, h3]; done) | (simp_all [Jk, dOV]; done)
   ·try rw [h3]
    try simp only [qB] at h3
    refine Qr (ks3 Z Z Z (Qb fun K hK => ZI Z (kc4 hK Z Z Z Z ?_)))
    refine QA ?_ -- 1
    refine Qb fun K hK => Qa Z (kc4 hK Z Z Z Z ?_)
    refine Qy (Qb fun K hK => ZG Z Z (Qa Z (kc5 hK Z Z Z Z Z ?_)))
    refine Qs Z (fun h4 => ?_) (fun h4 => ?_)
    ·try rw [h4]
     try simp only [qB] at h4
     refine QI fun K hK => Qf Z Z (Qx Z Z Z (QZ Z Z (Qm (by have := H6 (by simpa using h1); omega) (by have := H6 (by simpa using h1); omega)) (QQ Z Z (Q4 Z Z Z Z Z Z Z Z (hK _ ?_)))))
     refine Qe (ks2 Z Z ?_)
     refine QA ?_ -- 2
     refine Qb fun K hK => QB (cs := [_, _, _, _, _]) Z Z Z Z (Qt (Zd Wf Wf) Z Z (.inr Z) (Z9 Z (kc3 hK Z Z Z ?_)))
     refine Qs Z (fun h5 => ?_) (fun h5 => ?_)
     ·try rw [h5]
      try simp only [qB] at h5
      refine Qb fun K hK => QQ Z Z (Q4 Z Z Z Z Z Z Z Z (Qa Z (kc2 hK Z Z ?_)))
      refine Qq (Qg (Post.eq (XQ (ds := [.int .i64 _, .int .i64 _, .int .i64 _, .str _, .str _]) (d' := .bool _) (cs := [_, _, _, _, _]) Z Z Z Z Z ⟨rfl, rfl⟩) ?_))
      (repeat clear hK K); first | (simp [Jk, dOV, h1, h2, h3, h4, h5]; done) | (simp_all [Jk, dOV]; done)
     ·try rw [h5]
      try simp only [qB] at h5
      refine Qr (ks2 Z Z (Qb fun K hK => QB (cs := [_, _, _, _, _]) Z Z Z Z (Q4 Z Z Z Z Z Z Z Z (Qa Z (kc2 hK Z Z ?_)))))
      refine Qq (Post.eq (XQ (ds := [.int .i64 _, .int .i64 _, .int .i64 _, .str _, .str _]) (d' := .bool _) (cs := [_, _, _, _, _]) Z Z Z Z Z ⟨rfl, rfl⟩) ?_)
      (repeat clear hK K); first | (simp [Jk, dOV, h1, h2, h3, h4, h5]; done) | (simp_all [Jk, dOV]; done)
    ·try rw [h4]
     try simp only [qB] at h4
     refine Qb fun K hK => ZG Z Z (Qa Z (kc4 hK Z Z Z Z ?_))
     refine Qs Z (fun h6 => ?_) (fun h6 => ?_)
     ·try rw [h6]
      try simp only [qB] at h6
      refine QI fun K hK => Qf Z Z (Qx Z Z Z (Qf Z Z (Qx Z Z Z (QZ Z Z (Qm (by have := H6 (by simpa using h1); omega) (by have := H6 (by simpa using h1); omega)) (QQ Z Z (Q4 Z Z Z Z Z Z Z Z (hK _ ?_)))))))
      refine Qe (ks2 Z Z ?_)
      refine QA ?_ -- 2
      refine Qb fun K hK => QB (cs := [_, _, _, _, _]) Z Z Z Z (Qt (Zd Wf Wf) Z Z (.inr Z) (Z9 Z (kc3 hK Z Z Z ?_)))
      refine Qs Z (fun h7 => ?_) (fun h7 => ?_)
      ·try rw [h7]
       try simp only [qB] at h7
       refine Qb fun K hK => QQ Z Z (Q4 Z Z Z Z Z Z Z Z (Qa Z (kc2 hK Z Z ?_)))
       refine Qq (Qg (Post.eq (XQ (ds := [.int .i64 _, .int .i64 _, .int .i64 _, .str _, .str _]) (d' := .bool _) (cs := [_, _, _, _, _]) Z Z Z Z Z ⟨rfl, rfl⟩) ?_))
       (repeat clear hK K); first | (simp [Jk, dOV, h1, h2, h3, h4, h6, h7]; done) | (simp_all [Jk, dOV]; done)
      ·try rw [h7]
       try simp only [qB] at h7
       refine Qr (ks2 Z Z (Qb fun K hK => QB (cs := [_, _, _, _, _]) Z Z Z Z (Q4 Z Z Z Z Z Z Z Z (Qa Z (kc2 hK Z Z ?_)))))
       refine Qq (Post.eq (XQ (ds := [.int .i64 _, .int .i64 _, .int .i64 _, .str _, .str _]) (d' := .bool _) (cs := [_, _, _, _, _]) Z Z Z Z Z ⟨rfl, rfl⟩) ?_)
       (repeat clear hK K); first | (simp [Jk, dOV, h1, h2, h3, h4, h6, h7]; done) | (simp_all [Jk, dOV]; done)
     ·try rw [h6]
      try simp only [qB] at h6
      refine QI fun K hK => Qf Z Z (Qx Z Z Z (Qf Z Z (Qx Z Z Z (Qf Z Z (Qx Z Z Z (QZ Z Z (Qm (by have := H6 (by simpa using h1); omega) (by have := H6 (by simpa using h1); omega)) (QQ Z Z (Q4 Z Z Z Z Z Z Z Z (hK _ ?_)))))))))
      refine Qe (ks2 Z Z ?_)
      refine QA ?_ -- 2
      refine Qb fun K hK => QB (cs := [_, _, _, _, _]) Z Z Z Z (Qt (Zd Wf Wf) Z Z (.inr Z) (Z9 Z (kc3 hK Z Z Z ?_)))
      refine Qs Z (fun h8 => ?_) (fun h8 => ?_)
      ·try rw [h8]
       try simp only [qB] at h8
       refine Qb fun K hK => QQ Z Z (Q4 Z Z Z Z Z Z Z Z (Qa Z (kc2 hK Z Z ?_)))
       refine Qq (Qg (Post.eq (XQ (ds := [.int .i64 _, .int .i64 _, .int .i64 _, .str _, .str _]) (d' := .bool _) (cs := [_, _, _, _, _]) Z Z Z Z Z ⟨rfl, rfl⟩) ?_))
       (repeat clear hK K); first | (simp [Jk, dOV, h1, h2, h3, h4, h6, h8]; done) | (simp_all [Jk, dOV]; done)
      ·try rw [h8]
       try simp only [qB] at h8
       refine Qr (ks2 Z Z (Qb fun K hK => QB (cs := [_, _, _, _, _]) Z Z Z Z (Q4 Z Z Z Z Z Z Z Z (Qa Z (kc2 hK Z Z ?_)))))
       refine Qq (Post.eq (XQ (ds := [.int .i64 _, .int .i64 _, .int .i64 _, .str _, .str _]) (d' := .bool _) (cs := [_, _, _, _, _]) Z Z Z Z Z ⟨rfl, rfl⟩) ?_)
       (repeat clear hK K); first | (simp [Jk, dOV, h1, h2, h3, h4, h6, h8]; done) | (simp_all [Jk, dOV]; done)
theorem _root_.Wc {p : Prop} (h : p := by first | exact Qm (by omega) (by omega) | rfl) : p := h
theorem GI {a b c : Int} {p q : List UInt8} (hp : p.length <= 1000000) (hq : q.length <= 1000000) : Ok Tryz.prog 73 [.agg [.int .i64 a, .int .i64 b, .int .i64 c, .str p, .str q]] (dOV (S0 a b c p q)) := by
 refine Ok.ofT ZR Tryz.func73 QfX (Qgr Z) ?_
 show TW _ _ tf73.body _ _
 refine Qb fun K hK => Zx Z Z Z (ZI Z (Qa Z (kc2 hK Z Z ?_)))
 refine QA ?_ -- 0
 refine Qb fun K hK => QB (cs := [_, _, _, _, _]) Z Z Z Z (Qt (Zd Wa Wa) Z Z (.inr Z) (Z9 Z (kc3 hK Z Z Z ?_)))
 refine Qs Z (fun h1 => ?_) (fun h1 => ?_)
 ·try rw [h1]
  try simp only [qB] at h1
  refine Qb fun K hK => QQ Z Z (Q4 Z Z Z Z Z Z Z Z (Qa Z (kc2 hK Z Z ?_)))
  refine Qq (Qg (Post.eq (XQ (ds := [.int .i64 _, .int .i64 _, .int .i64 _, .str _, .str _]) (d' := .bool _) (cs := [_, _, _, _, _]) Z Z Z Z Z ⟨rfl, rfl⟩) ?_))
  simp [S0, dOV, h1]
 ·try rw [h1]
  try simp only [qB] at h1
  refine Qr (ks2 Z Z ?_)
  refine QA ?_ -- 1
  refine Qb fun K hK => Qf Z Z (Qx Z Z Z (Qal Z Z (kc3 hK Z Z Z ?_)))
  refine Qs Z (fun h2 => ?_) (fun h2 => ?_)
  ·try rw [h2]
   try simp only [qB] at h2
   refine Qb fun K hK => Qf Z Z (Qx Z Z Z (Qf Z Z (Qx Z Z Z (Qf Z Z (Qx Z Z Z (QQ Z Z (Q4 Z Z Z Z Z Z Z Z (Qa Z (kc2 hK Z Z ?_)))))))))
   refine Qq (Qg (Post.eq (XQ (ds := [.int .i64 _, .int .i64 _, .int .i64 _, .str _, .str _]) (d' := .bool _) (cs := [_, _, _, _, _]) Z Z Z Z Z ⟨rfl, rfl⟩) ?_))
   simp [S0, dOV, h1, h2]
  ·try rw [h2]
   try simp only [qB] at h2
   refine Qr (ks2 Z Z ?_)
   refine QA ?_ -- 2
   refine Qb fun K hK => Qa Z (kc3 hK Z Z Z ?_)
   refine Qy ?_
   refine Zq (ι := Nat) (fun m => ⟨[(1, .ref 1 0 0), (2, .ref 2 0 0), (4, .int .i64 ((m : Int) - 1))], [(1, ⟨[[.int .i64 a, .int .i64 b, .int .i64 c, .str p, .str q]], 5, 58, true⟩), (2, ⟨[[.int .i64 0, .int .i64 0, .int .i64 0, .str [], .str []]], 5, 58, true⟩)]⟩) (fun m => m <= 3 /\ XS a b c p q 3 = XS a b c p q m) (fun m => m) 3 ?_ ?_ ?_
   ·exact Q3 (l := [1, 2, 4]) (lH := [1, 2]) (kp3 rfl rfl rfl) (Qc rfl (Qc rfl Ql)) rfl rfl rfl
   ·exact ⟨Wa, rfl⟩
   intro m hI
   obtain ⟨hI1, hI2⟩ := hI
   try dsimp only
   refine QA ?_ -- 3
   refine Qb fun K hK => Qa Z (Mf Z Z (kc4 hK Z Z Z Z ?_))
   refine Qs Z (fun h3 => ?_) (fun h3 => ?_)
   ·try rw [h3]
    try simp only [qB] at h3
    rcases Nat.eq_zero_or_pos m with hm | hm <;> first | omega | skip
    refine Qr (ks3 Z Z Z ?_)
    refine QA ?_ -- 4
    refine Qy (Qb fun K hK => QB (cs := [_, _, _, _, _]) Z Z Z Z (Qa Z (Qt (GH Wa Wa) Z Z (.inl Z) (Qa Z (QU Z Z (QU Z Z (ZI Z (Q4 Z Z Z Z Z Z Z Z (Qa Z (kc5 hK Z Z Z Z Z ?_))))))))))
    refine Qb fun K hK => Qa Z (kc5 hK Z Z Z Z Z ?_)
    refine Qs Z (fun h4 => ?_) (fun h4 => ?_)
    ·try rw [h4]
     try simp only [qB] at h4
     refine Qb fun K hK => QB (cs := [_, _, _, _, _]) Z Z Z Z (Q4 Z Z Z Z Z Z Z Z (Qa Z (kc2 hK Z Z ?_)))
     refine Qq (Qp (Qg (Q0 (Qp (Qg (Post.eq (XQ (ds := [.int .i64 _, .int .i64 _, .int .i64 _, .str _, .str _]) (d' := .bool _) (cs := [_, _, _, _, _]) Z Z Z Z Z ⟨rfl, rfl⟩) ?_))))))
     subst h2
     simp [S0, dOV, h1, hI2, Ss hm h4, h4]
    ·try rw [h4]
     try simp only [qB] at h4
     refine Qr (Qe (ks3 Z Z Z (QI fun K hK => Qa Z (Xu Z Z Wc (Qa Z (hK _ ?_))))))
     refine Qi (m - 1) ?_ ?_ ?_
     ·refine Q3 (l := [1, 2, 4]) (lH := [1, 2]) (kp3 Z Z Z) (Qc Z (Qc Z Ql)) ?_ Z rfl; simp only [List.cons.injEq, Prod.mk.injEq, D.int.injEq, and_true, true_and]; omega
     ·exact ⟨Wa, by rw [hI2]; exact TM hm h4⟩
     ·show m - 1 < m; omega
   ·try rw [h3]
    try simp only [qB] at h3
    rcases Nat.eq_zero_or_pos m with hm | hm <;> first | omega | skip
    refine Zh (QH (Qw (QE (ks1 Z (Qb fun K hK => QQ Z Z (Q4 Z Z Z Z Z Z Z Z (Qa Z (kc2 hK Z Z ?_))))))))
    refine Qq (Post.eq (XQ (ds := [.int .i64 _, .int .i64 _, .int .i64 _, .str _, .str _]) (d' := .bool _) (cs := [_, _, _, _, _]) Z Z Z Z Z ⟨rfl, rfl⟩) ?_)
    subst h2
    subst hm
    have hb : XS a b c [] q 3 = none := hI2
    simp [S0, dOV, h1, hb]
open Go Go.Abs M3 M25
theorem Jd {e a b c : Int} {p q : List UInt8} {f : Bool} : Ok Tryz.prog 97 [.agg [.int .i64 e, .int .i64 a, .int .i64 b, .int .i64 c, .str p, .str q, .bool f]] (.bool (PZ e a b c p q f)) := by
 refine Ok.ofT ZR Tryz.func97 Qgl (Qgr Z) ?_
 show TW _ _ tf97.body _ _
 refine Qb fun K hK => Zx Z Z Z (Qa Z (kc1 hK Z ?_))
 refine Qb fun K hK => Qf Z Z (Qx Z Z Z (X5 Z Z (Qa Z ?_)))
 refine Qu (g := 6) Z (fun h1 => ?_) (fun h1 => ?_)
 ·try rw [h1]
  try simp only [qB] at h1
  refine gn4 Z Z Z Z (ZD Z (ZD Z (ZD Z (ZD Z (gn2 Z Z (ZD Z (ZD Z ?_)))))))
  refine ZD Z (ZD Z (Y7 Z (Qh Z Z (Qa Z (kc1 hK Z ?_)))))
  refine Qq (Qn Z ?_)
  (repeat clear hK K); simp_all [PZ]
 ·try rw [h1]
  try simp only [qB] at h1
  refine Qd Z (Qf Z Z (Qd Z (Qx Z Z Z (Qd Z (Z9 Z (Qd Z (Qa Z ?_)))))))
  refine Qu (g := 10) Z (fun h2 => ?_) (fun h2 => ?_)
  ·try rw [h2]
   try simp only [qB] at h2
   refine Qd Z (Qf Z Z (Qd Z (Qf Z Z (Qd Z (Qx Z Z Z (Qd Z (Me Z Z (Qd Z (Qh Z Z (Qd Z (Qa Z ?_)))))))))))
   refine Qu (g := 16) Z (fun h3 => ?_) (fun h3 => ?_)
   ·try rw [h3]
    try simp only [qB] at h3
    refine Qd Z (Qf Z Z (Qd Z (QB (cs := [_, _, _, _, _]) Z Z Z Z (Qd Z (Qt (Jc) Z Z (.inr Z) (Qd Z (Z9 Z (Qd Z (Qh Z Z (Qh Z Z (Qa Z ?_)))))))))))
    refine kc1 hK Z ?_
    refine Qq (Qn Z ?_)
    (repeat clear hK K); simp_all [PZ]
   ·try rw [h3]
    try simp only [qB] at h3
    refine gn4 Z Z Z Z (Qd Z (Qh Z Z (Qh Z Z (Qa Z (kc1 hK Z ?_)))))
    refine Qq (Qn Z ?_)
    (repeat clear hK K); simp_all [PZ]
  ·try rw [h2]
   try simp only [qB] at h2
   refine gn4 Z Z Z Z (Qd Z (Qh Z Z (Qd Z (Qa Z (gn4 Z Z Z Z ?_)))))
   refine Qd Z (Qh Z Z (Qh Z Z (Qa Z (kc1 hK Z ?_))))
   refine Qq (Qn Z ?_)
   (repeat clear hK K); simp_all [PZ]
theorem Gs {a b c : Int} {p q : List UInt8} : Ok Tryz.prog 49 [.agg [.int .i64 a, .int .i64 b, .int .i64 c, .str p, .str q]] (.agg (dCu (MS a b c))) := by
 refine Ok.ofT ZR Tryz.func49 Qfz (Qgr Z) ?_
 show TW _ _ tf49.body _ _
 refine Qb fun K hK => Zx Z Z Z (ZI Z (kc2 hK Z Z ?_))
 refine QA ?_ -- 0
 refine Qb fun K hK => QB (cs := [_, _, _, _, _]) Z Z Z Z (Qt (Jc) Z Z (.inr Z) (kc3 hK Z Z Z ?_))
 refine Qs Z (fun h1 => ?_) (fun h1 => ?_)
 ·try rw [h1]
  try simp only [qB] at h1
  refine Qb fun K hK => Qt (Y6) Z Z (.inl Z) (Q4 Z Z Z Z Z Z Z Z (kc1 hK Z ?_))
  refine Qq (Qg (Post.eq (ZE (ds := [.int .i64 _, .int .i64 _, .int .i64 _, .int .i64 _, .str _, .str _, .bool _]) (cs := [_, _, _, _, _, _, _]) Z Z Z Z Z) ?_))
  simp [MS, dCu, Gy, h1]
 ·try rw [h1]
  try simp only [qB] at h1
  refine Qr (ks2 Z Z (Qb fun K hK => Qf Z Z (Qx Z Z Z (Qf Z Z (Qx Z Z Z (Qf Z Z (Qx Z Z Z (QQ Z Z (Qt (YP) Z Z (.inl Z) (Q4 Z Z Z Z Z Z Z Z ?_))))))))))
  refine kc1 hK Z ?_
  refine Qq (Post.eq (ZE (ds := [.int .i64 _, .int .i64 _, .int .i64 _, .int .i64 _, .str _, .str _, .bool _]) (cs := [_, _, _, _, _, _, _]) Z Z Z Z Z) ?_)
  simp [MS, dCu, Gy, h1]
theorem Hq {a b c : Int} {p q : List UInt8} : Ok Tryz.prog 50 [.agg [.int .i64 a, .int .i64 b, .int .i64 c, .str p, .str q]] (.agg (dCu (Fv a b c))) := by
 refine Ok.ofT ZR Tryz.func50 QfA (Qgr Z) ?_
 show TW _ _ tf50.body _ _
 refine Qb fun K hK => Zx Z Z Z (ZI Z (kc2 hK Z Z ?_))
 refine Qb fun K hK => Qf Z Z (Qx Z Z Z (Qf Z Z (Qx Z Z Z (Qf Z Z (Qx Z Z Z (QQ Z Z (Qt (GI Wf Wf) Z Z (.inl Z) (Qa Z (QU Z Z (QU Z Z ?_))))))))))
 refine ZI Z (Q4 Z Z Z Z Z Z Z Z (Qa Z (kc3 hK Z Z Z ?_)))
 refine QA ?_ -- 0
 refine Qb fun K hK => Qa Z (Z9 Z (kc3 hK Z Z Z ?_))
 refine Qs Z (fun h1 => ?_) (fun h1 => ?_)
 ·try rw [h1]
  try simp only [qB] at h1
  refine Qb fun K hK => Qt (Xk) Z Z (.inl Z) (Q4 Z Z Z Z Z Z Z Z (kc1 hK Z ?_))
  refine Qq (Qg (Post.eq (ZE (ds := [.int .i64 _, .int .i64 _, .int .i64 _, .int .i64 _, .str _, .str _, .bool _]) (cs := [_, _, _, _, _, _, _]) Z Z Z Z Z) ?_))
  cases hn : S0 a b c [] [] <;> simp [Fv, dCu, Pp, hn] at *
 ·try rw [h1]
  try simp only [qB] at h1
  refine Qr (ks2 Z Z (Qb fun K hK => QB (cs := [_, _, _, _, _]) Z Z Z Z (Qt (YP) Z Z (.inl Z) (Q4 Z Z Z Z Z Z Z Z (kc1 hK Z ?_)))))
  refine Qq (Post.eq (ZE (ds := [.int .i64 _, .int .i64 _, .int .i64 _, .int .i64 _, .str _, .str _, .bool _]) (cs := [_, _, _, _, _, _, _]) Z Z Z Z Z) ?_)
  cases hn : S0 a b c [] [] <;> simp [Fv, dCu, Pp, hn] at *
theorem Je  : Ok Tryz.prog 91 [] (ZH [(Gy, Pp)]) := by
 refine Ok.ofT ZR Tryz.func91 Qgf (Qgr Z) ?_
 show TW _ _ tf91.body _ _
 refine Qb fun K hK => Qa Z (hK _ _ (Rh (ZC) ?_))
 refine Qb fun K hK => Qt (Y6) Z Z (.inl Z) (Qt (Xk) Z Z (.inl Z) (QQ Z Z (QD Z Z (Qa Z (kc1 hK Z ?_)))))
 refine Qq (Ye Z ?_)
 rfl
theorem Ya  : Ok Tryz.prog 46 [] (Rq ([], [])) := by
 refine Ok.ofT ZR Tryz.func46 Qfw (Qgr Z) ?_
 show TW _ _ tf46.body _ _
 refine Qb fun K hK => ZI Z (kc1 hK Z ?_)
 refine Qb fun K hK => QQ Z Z (Q4 Z Z Z Z Z Z Z Z (kc1 hK Z ?_))
 refine Qq (Post.eq (ZE (ds := [.sl _, .sl _]) (cs := [_, _]) Z Z Z Z Z) ?_)
 rfl
theorem G7  : Ok Tryz.prog 76 [] (Rq ([(Gy, Pp)], [(Gy, Pp)])) := by
 refine Ok.ofT ZR Tryz.func76 Qf0 (Qgr Z) ?_
 show TW _ _ tf76.body _ _
 refine Qb fun K hK => ZI Z (kc1 hK Z ?_)
 refine Qb fun K hK => Qt (Je) Z Z (.inl Z) (Qt (Je) Z Z (.inl Z) (QQ Z Z (Q4 Z Z Z Z Z Z Z Z (kc1 hK Z ?_))))
 refine Qq (Post.eq (ZE (ds := [.sl _, .sl _]) (cs := [_, _]) Z Z Z Z Z) ?_)
 rfl
theorem Jb {a b c : Int} {p q : List UInt8} (hp : p.length <= 1000000) (hq : q.length <= 1000000) : Ok Tryz.prog 24 [.agg [.int .i64 a, .int .i64 b, .int .i64 c, .str p, .str q]] (Rq (Y9 a b c p q)) := by
 refine Ok.ofT ZR Tryz.func24 Qfa (Qgr Z) ?_
 show TW _ _ tf24.body _ _
 refine Qb fun K hK => Zx Z Z Z (ZI Z (kc2 hK Z Z ?_))
 refine QA ?_ -- 0
 refine Qb fun K hK => QB (cs := [_, _, _, _, _]) Z Z Z Z (Qt (Zd Wa Wa) Z Z (.inr Z) (Z9 Z (kc3 hK Z Z Z ?_)))
 refine Qs Z (fun h1 => ?_) (fun h1 => ?_)
 ·try rw [h1]
  try simp only [qB] at h1
  refine Qb fun K hK => Qt (Ya) Z Z (.inl Z) (Q4 Z Z Z Z Z Z Z Z (kc1 hK Z ?_))
  refine Qq (Qg (Post.eq (ZE (ds := [.sl _, .sl _]) (cs := [_, _]) Z Z Z Z Z) ?_))
  simp [Y9, Rq, ZH, NF, dCu, h1]
 ·try rw [h1]
  try simp only [qB] at h1
  refine Qr (ks2 Z Z ?_)
  refine QA ?_ -- 1
  refine Qb fun K hK => Qf Z Z (Qx Z Z Z (Qal Z Z (kc3 hK Z Z Z ?_)))
  refine Qs Z (fun h2 => ?_) (fun h2 => ?_)
  ·try rw [h2]
   try simp only [qB] at h2
   refine Qb fun K hK => QJ (ds0 := [6, 3, 2, 1, 0]) (cs := [_, _, _, _, _]) Z Z Z Z Z Z (QS (ds0 := [3, 2, 1, 0]) (YP) Z Z (.inl Z) Z Z (QJ (ds0 := [4, 3, 2, 1, 0]) (cs := [_, _, _, _, _]) Z Z Z Z Z Z (QS (ds0 := [3, 2, 1, 0]) (Hp) Z Z (.inl Z) Z Z (QQ Z Z (QD Z Z (QQ Z Z (Xb (ds0 := []) Z Z Z Z Z Z Z Z Z Z (kc1 hK Z ?_))))))))
   refine Qq (Qg (Post.eq (ZE (ds := [.sl _, .sl _]) (cs := [_, _]) Z Z Z Z Z) ?_))
   simp [Y9, Rq, ZH, NF, dCu, h1, h2]
  ·try rw [h2]
   try simp only [qB] at h2
   refine Qr (ks2 Z Z (Qb fun K hK => QJ (ds0 := [6, 3, 2, 1, 0]) (cs := [_, _, _, _, _]) Z Z Z Z Z Z (QS (ds0 := [3, 2, 1, 0]) (Gs) Z Z (.inl Z) Z Z (QJ (ds0 := [4, 3, 2, 1, 0]) (cs := [_, _, _, _, _]) Z Z Z Z Z Z (QS (ds0 := [3, 2, 1, 0]) (Hq) Z Z (.inl Z) Z Z (QQ Z Z (QD Z Z (QQ Z Z (Xb (ds0 := []) Z Z Z Z Z Z Z Z Z Z (kc1 hK Z ?_))))))))))
   refine Qq (Post.eq (ZE (ds := [.sl _, .sl _]) (cs := [_, _]) Z Z Z Z Z) ?_)
   subst h2
   simp [Y9, Rq, ZH, NF, dCu, h1]
open Go Go.Abs M3 M25
theorem Z0 {l : List (Cu × Cu)} (hl : Sm l) : Ok Tryz.prog 96 [ZH l] (.bool (Ni l)) := by
 refine Ok.ofT ZR Tryz.func96 Qgk (Qgr Z) ?_
 show TW _ _ tf96.body _ _
 have hn := hl.1
 refine Qb fun K hK => Qa Z (kc1 hK Z ?_)
 refine QA ?_ -- 0
 refine Qb fun K hK => Qa Z (kc2 hK Z Z ?_)
 refine Qy ?_
 refine Zq (ι := Nat) (fun i => ⟨[(0, ZH l), (3, .int .i64 i)], []⟩) (fun i => i <= l.length /\ (List.range i).all (Qc7 l) = true) (fun i => l.length - i) 0 ?_ ?_ ?_
 ·exact Za (kp2 rfl rfl)
 ·exact ⟨QgD _, rfl⟩
 intro i hI
 try dsimp only
 refine QA ?_ -- 1
 refine Qb fun K hK => mv2 Z Z (QL Z Z (Yg Z Z (kc3 hK Z Z Z ?_)))
 refine Qs Z (fun h1 => ?_) (fun h1 => ?_)
 ·try rw [h1]
  try simp only [qA] at h1
  refine Qr (ks2 Z Z ?_)
  refine QA ?_ -- 2
  refine Qy (Qb fun K hK => mv2 Z Z (QF Z Z Z Wa (QO Wa) Z (QJ (ds0 := [20, 19, 18, 17, 16, 15, 14, 13, 12, 11, 10, 9, 8, 7, 6, 5, 4, 3, 2, 1, 0]) (cs := [_, _, _, _, _, _, _, _, _, _, _, _, _, _]) Z Z Z Z Z Z (QS (ds0 := [19, 18, 17, 16, 15, 14, 13, 12, 11, 10, 9, 8, 7, 6, 5, 4, 3, 2, 1, 0]) (YJ (hl.at (i := i) Wa).1.1 (hl.at (i := i) Wa).1.2 (hl.at (i := i) Wa).2.1 (hl.at (i := i) Wa).2.2) Z Z (.inr Z) Z Z (Z9 Z (Qa Z ?_))))))
  refine Qu (g := 16) Z (fun h2 => ?_) (fun h2 => ?_)
  ·try rw [h2]
   try simp only [qA] at h2
   refine gn3 Z Z Z (ZD Z (ZD Z (ZD Z (ZD Z (ZD Z (ZD Z (ZD Z (ZD Z (ZD Z ?_)))))))))
   refine ZD Z (ZD Z (ZD Z (ZD Z (Y7 Z (Qh Z Z (kc3 hK Z Z Z ?_))))))
   refine Zr Z (Qb fun K hK => Qa Z (kc1 hK Z ?_))
   refine Qq (Qp (Qg (Q0 (Qp (Qg (Qn Z ?_))))))
   first
    | exact (N5 hI.2 Wa).symm
    | exact (K1 (i := i) Wa (P5 Wa (.inl h2))).symm
    | (simp only [FF] at *; exact (K1 (i := i) Wa (P5 Wa (.inr ⟨Wa, h4⟩))).symm)
  ·try rw [h2]
   try simp only [qA] at h2
   refine Qd Z (Qa Z (Qd Z (Pv Z Z (Qd Z (Qa Z ?_)))))
   refine Qu (g := 19) Z (fun h3 => ?_) (fun h3 => ?_)
   ·try rw [h3]
    try simp only [qA] at h3
    refine Qd Z (Qa Z (Qd Z (Qa Z (Qd Z (Xu Z Z Wc (Qd Z (QF Z Z Z Wa (ZM Wa Wa) Z (Qd Z (Q2 Z Z (Qd Z (QJ (ds0 := [3, 2, 1, 0]) (cs := [_, _, _, _, _, _, _]) Z Z Z Z Z Z ?_)))))))))))
    refine Qd Z (Qa Z (Qd Z (Qa Z (Qd Z (QF Z Z Z Wa (QO Wa) Z (Qd Z (Q2 Z Z (Qd Z (QJ (ds0 := [3, 2, 1, 0]) (cs := [_, _, _, _, _, _, _]) Z Z Z Z Z Z (Qd Z (QS (ds0 := [2, 1, 0]) (Zw (hl.at (i := ((i : Int) - 1).toNat) Wa).2.1 (hl.at (i := ((i : Int) - 1).toNat) Wa).2.2 (hl.at (i := i) Wa).1.1 (hl.at (i := i) Wa).1.2) Z Z (.inr Z) Z Z ?_)))))))))))
    refine Qd Z (Mf Z Z (Qd Z (Qh Z Z (Qh Z Z (kc3 hK Z Z Z ?_)))))
    refine Qs Z (fun h4 => ?_) (fun h4 => ?_)
    ·try rw [h4]
     try simp only [qA] at h4
     refine Qb fun K hK => Qa Z (kc1 hK Z ?_)
     refine Qq (Qp (Qg (Q0 (Qp (Qg (Qn Z ?_))))))
     first
      | exact (N5 hI.2 Wa).symm
      | exact (K1 (i := i) Wa (P5 Wa (.inl h2))).symm
      | (simp only [FF] at *; exact (K1 (i := i) Wa (P5 Wa (.inr ⟨Wa, h4⟩))).symm)
    ·try rw [h4]
     try simp only [qA] at h4
     refine Qr (Qe (ks2 Z Z (QI fun K hK => Qa Z (QZ Z Z Wc (Qa Z (hK _ ?_))))))
     refine Qi (i + 1) ?_ ?_ ?_
     ·exact Za (kp2 rfl rfl)
     ·exact ⟨Wa, R2 hI.2 (QbV Wa h2 (by first | exact .inl Wa | (simp only [FF] at *; exact .inr (Int.not_le.1 h4))))⟩
     ·first | omega | (simp only; omega) | (dsimp only; omega)
   ·try rw [h3]
    try simp only [qA] at h3
    refine gn4 Z Z Z Z (gn4 Z Z Z Z (gn4 Z Z Z Z ?_))
    refine Y7 Z (Qd Z (Qh Z Z (Qh Z Z (kc3 hK Z Z Z ?_))))
    refine ZU Z (Qr (Qe (ks2 Z Z (QI fun K hK => Qa Z (QZ Z Z Wc (Qa Z (hK _ ?_)))))))
    refine Qi (i + 1) ?_ ?_ ?_
    ·exact Za (kp2 rfl rfl)
    ·exact ⟨Wa, R2 hI.2 (QbV Wa h2 (by first | exact .inl Wa | (simp only [FF] at *; exact .inr (Int.not_le.1 h4))))⟩
    ·first | omega | (simp only; omega) | (dsimp only; omega)
 ·try rw [h1]
  try simp only [qA] at h1
  refine Zh (QH (Qw (QE (Zf (ZC) (Qb fun K hK => Qa Z (kc1 hK Z ?_))))))
  refine Qq (Qn Z ?_)
  first
   | exact (N5 hI.2 Wa).symm
   | exact (K1 (i := i) Wa (P5 Wa (.inl h2))).symm
   | (simp only [FF] at *; exact (K1 (i := i) Wa (P5 Wa (.inr ⟨Wa, h4⟩))).symm)
theorem Ko {l : List (Cu × Cu)} (hl : Sm l) {x y : Cu} (hx : Cu.sm x) (hy : Cu.sm y) : Ok Tryz.prog 100 [ZH l, .agg (dCu x), .agg (dCu y)] (.bool (mIn l x y)) := by
 refine Ok.ofT ZR Tryz.func100 Qev (Qgr Z) ?_
 show TW _ _ tf100.body _ _
 have hn := hl.1
 refine Qb fun K hK => Zx Z Z Z (Zx Z Z Z (Qa Z (kc3 hK Z Z Z ?_)))
 refine QA ?_ -- 0
 refine Qb fun K hK => Qa Z (kc4 hK Z Z Z Z ?_)
 refine Qy ?_
 refine Zq (ι := Nat) (fun i => ⟨[(0, ZH l), (4, .ref 4 0 0), (5, .ref 5 0 0), (7, .int .i64 i)], [(4, ⟨[dCu x], 7, 96, true⟩), (5, ⟨[dCu y], 7, 96, true⟩)]⟩) (fun i => i <= l.length /\ (l.take i).any (inC x y) = false) (fun i => l.length - i) 0 ?_ ?_ ?_
 ·exact Q3 (l := [0, 4, 5, 7]) (lH := [4, 5]) (kp4 rfl rfl rfl rfl) (Qc rfl (Qc rfl Ql)) rfl rfl rfl
 ·exact ⟨QgD _, by simp⟩
 intro i hI
 try dsimp only
 refine QA ?_ -- 1
 refine Qb fun K hK => mv2 Z Z (QL Z Z (Yg Z Z (kc5 hK Z Z Z Z Z ?_)))
 refine Qs Z (fun h1 => ?_) (fun h1 => ?_)
 ·try rw [h1]
  try simp only [qA] at h1
  refine Qr (ks4 Z Z Z Z ?_)
  refine QA ?_ -- 2
  refine Qy (Qb fun K hK => mv2 Z Z (QF Z Z Z Wa (QO Wa) Z (Q2 Z Z (QJ (ds0 := [11, 10, 9, 8, 7, 6, 5, 4, 3, 2, 1, 0]) (cs := [_, _, _, _, _, _, _]) Z Z Z Z Z Z (QJ (ds0 := [11, 10, 9, 8, 7, 6, 5, 4, 3, 2, 1, 0]) (cs := [_, _, _, _, _, _, _]) Z Z Z Z Z Z (QS (ds0 := [10, 9, 8, 7, 6, 5, 4, 3, 2, 1, 0]) (Zw (hl.at (i := i) Wa).1.1 (hl.at (i := i) Wa).1.2 hx.1 hx.2) Z Z (.inr Z) Z Z (QbE Z Z (Qa Z ?_))))))))
  refine Qu (g := 22) Z (fun h2 => ?_) (fun h2 => ?_)
  ·try rw [h2]
   try simp only [qA] at h2
   refine Qd Z (QJ (ds0 := [2, 1, 0]) (cs := [_, _, _, _, _, _, _]) Z Z Z Z Z Z (Qd Z (Qa Z (Qd Z (Qa Z (Qd Z (QF Z Z Z Wa (QO Wa) Z (Qd Z (Q2 Z Z (Qd Z (QJ (ds0 := [2, 1, 0]) (cs := [_, _, _, _, _, _, _]) Z Z Z Z Z Z ?_)))))))))))
   refine Qd Z (QS (ds0 := [1, 0]) (Zw hy.1 hy.2 (hl.at (i := i) Wa).2.1 (hl.at (i := i) Wa).2.2) Z Z (.inr Z) Z Z (Qd Z (QbE Z Z (Qh Z Z (kc5 hK Z Z Z Z Z ?_)))))
   refine Qs Z (fun h3 => ?_) (fun h3 => ?_)
   ·try rw [h3]
    try simp only [qA] at h3
    refine Qb fun K hK => Qa Z (kc1 hK Z ?_)
    refine Qq (Qp (Qg (Q0 (Qp (Qg (Qn Z ?_))))))
    first
     | exact (Cv (i := i) Wa hI.2).symm
     | exact (Ri (i := i) Wa (QdD h2 h3)).symm
   ·try rw [h3]
    try simp only [qA] at h3
    refine Qr (Qe (ks4 Z Z Z Z (QI fun K hK => Qa Z (QZ Z Z Wc (Qa Z (hK _ ?_))))))
    refine Qi (i + 1) ?_ ?_ ?_
    ·exact Q3 (l := [0, 4, 5, 7]) (lH := [4, 5]) (kp4 rfl rfl rfl rfl) (Qc rfl (Qc rfl Ql)) rfl rfl rfl
    ·exact ⟨Wa, PA Wa hI.2 (QdC (by first | exact .inl h2 | exact .inr h3))⟩
    ·first | omega | (simp only; omega) | (dsimp only; omega)
  ·try rw [h2]
   try simp only [qA] at h2
   refine gn4 Z Z Z Z (gn4 Z Z Z Z (Qh Z Z (kc5 hK Z Z Z Z Z ?_)))
   refine ZU Z (Qr (Qe (ks4 Z Z Z Z (QI fun K hK => Qa Z (QZ Z Z Wc (Qa Z (hK _ ?_)))))))
   refine Qi (i + 1) ?_ ?_ ?_
   ·exact Q3 (l := [0, 4, 5, 7]) (lH := [4, 5]) (kp4 rfl rfl rfl rfl) (Qc rfl (Qc rfl Ql)) rfl rfl rfl
   ·exact ⟨Wa, PA Wa hI.2 (QdC (by first | exact .inl h2 | exact .inr h3))⟩
   ·first | omega | (simp only; omega) | (dsimp only; omega)
 ·try rw [h1]
  try simp only [qA] at h1
  refine Zh (QH (Qw (QE (Zf (ZC) (Qb fun K hK => Qa Z (kc1 hK Z ?_))))))
  refine Qq (Qn Z ?_)
  first
   | exact (Cv (i := i) Wa hI.2).symm
   | exact (Ri (i := i) Wa (QdD h2 h3)).symm
end Go.Proofs
