/- Part 3 of the means of the proof: a verified abstract evaluator, the prepared functions, and contracts of functions. It states nothing of the claim by itself. -/
import Derived.Test.YtgikdkfobdfmfaaB2
import Derived.KernelRfl
import Derived.Test.YtgikdkfobdfmfaaProg
set_option maxRecDepth 4000
set_option linter.unusedSimpArgs false
set_option linter.unusedVariables false
namespace Go.Abs
open Go
/-! ### Walks that end in some state of a kind: the state is picked on the way -/
def TX (P : Program) (nt : Nat) (c : TCode) (Q : Yn -> St -> Prop) (s : St) : Prop := ∃ e s', Q e s' /\ TW P nt c (fun e2 s2 => e2 = e /\ s2 = s') s
section
variable {P : Program} {nt : Nat} {Q Q' : Yn -> St -> Prop} {s : St}
theorem Xg {c : TCode} (h : ∀ e s, Q e s -> Q' e s) (k : TW P nt c Q s) : TW P nt c Q' s := fun code E g a w hm hp hn hfl r =>
 wpIn_mono (k code E g a w hm hp hn hfl r) fun e a' w' hq => by
  cases e <;> simp only [AQ] at hq ⊢ <;> try exact hq
  all_goals
   obtain ⟨s', g', hq, r'⟩ := hq
   exact ⟨s', g', h _ _ hq, r'⟩
/-! #### A region's walk picks its state -/
theorem Qni {op : BinOp} {bt : Bool} {p q : D} {kk : D -> Prop} (h : Qn9 op bt p q kk) : ∃ d, kk d /\ ∀ k2 : D -> Prop, k2 d -> Qn9 op bt p q k2 := by
 cases p <;> cases q <;> simp only [Qn9] at h ⊢ <;> try exact h.elim
 ·obtain ⟨h1, h2⟩ := h
  cases op <;> simp only [QlO] at h2 ⊢
  case quo => exact ⟨_, h2.2, fun k2 hk => ⟨h1, h2.1, hk⟩⟩
  case rem => exact ⟨_, h2.2, fun k2 hk => ⟨h1, h2.1, hk⟩⟩
  case shl => exact ⟨_, h2.2, fun k2 hk => ⟨h1, h2.1, hk⟩⟩
  case shr => exact ⟨_, h2.2, fun k2 hk => ⟨h1, h2.1, hk⟩⟩
  all_goals exact ⟨_, h2, fun k2 hk => ⟨h1, hk⟩⟩
 ·obtain ⟨h1, h2⟩ := h
  cases op <;> simp only [Qng] at h2 ⊢ <;> try exact h2.elim
  all_goals exact ⟨_, h2, fun k2 hk => ⟨h1, hk⟩⟩
 ·cases op <;> simp only [Qnj] at h ⊢ <;> try exact h.elim
  case add => exact ⟨_, h.2, fun k2 hk => ⟨h.1, hk⟩⟩
  all_goals exact ⟨_, h, fun k2 hk => hk⟩
 ·obtain ⟨h1, h2, h3, h4⟩ := h
  exact ⟨_, h4, fun k2 hk => ⟨h1, h2, h3, hk⟩⟩
theorem Qlv {dr : Bool} {op : AOp} {dst : Option Nat} {k : St -> Prop} (h : Qhd P dr op dst s k) : ∃ s', k s' /\ ∀ k2 : St -> Prop, k2 s' -> Qhd P dr op dst s k2 := by
 cases op <;> simp only [Qhd] at h ⊢
 case mov x => obtain ⟨d, h1, h2⟩ := h; exact ⟨_, h2, fun k2 hk => ⟨d, h1, hk⟩⟩
 case pick c x y => obtain ⟨cd, h1, t, h2, d, h3, h4⟩ := h; exact ⟨_, h4, fun k2 hk => ⟨cd, h1, t, h2, d, h3, hk⟩⟩
 case alloc et cells => obtain ⟨t, h1, h2, h3⟩ := h; exact ⟨_, h3, fun k2 hk => ⟨t, h1, h2, hk⟩⟩
 case box et x => obtain ⟨t, h1, v, h2, cells, h3, h4, h5⟩ := h; exact ⟨_, h5, fun k2 hk => ⟨t, h1, v, h2, cells, h3, h4, hk⟩⟩
 case build zero parts => obtain ⟨qs, h1, ds, h2, h3⟩ := h; exact ⟨_, h3, fun k2 hk => ⟨qs, h1, ds, h2, hk⟩⟩
 case buildSlice esz et parts =>
  rcases h with ⟨t, h1, rows, h2, h3, h4⟩ | ⟨rows, h2, h3, h4⟩
  ·exact ⟨_, h4, fun k2 hk => .inl ⟨t, h1, rows, h2, h3, hk⟩⟩
  ·exact ⟨_, h4, fun k2 hk => .inr ⟨rows, h2, h3, hk⟩⟩
 case load agg sz x =>
  obtain ⟨p, h1, cells, h2, h3⟩ := h
  cases agg with
  | true => exact ⟨_, h3.2, fun k2 hk => ⟨p, h1, cells, h2, h3.1, hk⟩⟩
  | false => obtain ⟨d, h4, h5⟩ := h3; exact ⟨_, h5, fun k2 hk => ⟨p, h1, cells, h2, d, h4, hk⟩⟩
 case store sz x v =>
  obtain ⟨p, h1, h2⟩ := h
  cases p <;> simp only [Qpz] at h2 <;> try exact h2.elim
  obtain ⟨b, h3, row, h4, q, h5, cells, h6, h7, h8, h9⟩ := h2
  exact ⟨_, h9, fun k2 hk => ⟨_, h1, b, h3, row, h4, q, h5, cells, h6, h7, h8, hk⟩⟩
 case nilCheck x => obtain ⟨p, h1, h2, h3⟩ := h; exact ⟨_, h3, fun k2 hk => ⟨p, h1, h2, hk⟩⟩
 case bin op bt x y =>
  obtain ⟨p, h1, q, h2, h3⟩ := h
  obtain ⟨d, h4, h5⟩ := Qni h3
  exact ⟨_, h4, fun k2 hk => ⟨p, h1, q, h2, h5 _ hk⟩⟩
 case eqs neg ks x y => obtain ⟨p, h1, q, h2, xs, h3, ys, h4, b, h5, h6⟩ := h; exact ⟨_, h6, fun k2 hk => ⟨p, h1, q, h2, xs, h3, ys, h4, b, h5, hk⟩⟩
 case un op x =>
  obtain ⟨p, h1, h2⟩ := h
  cases op <;> cases p <;> simp only [unK] at h2 <;> try exact h2.elim
  all_goals exact ⟨_, h2, fun k2 hk => ⟨_, h1, hk⟩⟩
 case conv kk x => obtain ⟨p, h1, d, h2, h3⟩ := h; exact ⟨_, h3, fun k2 hk => ⟨p, h1, d, h2, hk⟩⟩
 case slice esz x lo hi mx =>
  obtain ⟨p, h1, rows, h2, l, h3, hh, h4, h5, h6, h7, h8, h9⟩ := h
  cases mx with
  | none => exact ⟨_, h9, fun k2 hk => ⟨p, h1, rows, h2, l, h3, hh, h4, h5, h6, h7, h8, hk⟩⟩
  | some m =>
   obtain ⟨h10, h11, h12⟩ := h9
   exact ⟨_, h12, fun k2 hk => ⟨p, h1, rows, h2, l, h3, hh, h4, h5, h6, h7, h8, h10, h11, hk⟩⟩
 case sliceStr x lo hi => obtain ⟨p, h1, c, h2, l, h3, hh, h4, h5, h6, h7, h8⟩ := h; exact ⟨_, h8, fun k2 hk => ⟨p, h1, c, h2, l, h3, hh, h4, h5, h6, h7, hk⟩⟩
 case fieldAddr off x =>
  obtain ⟨p, h1, h2⟩ := h
  cases p <;> simp only [QfV] at h2 <;> try exact h2.elim
  all_goals exact ⟨_, h2.2, fun k2 hk => ⟨_, h1, h2.1, hk⟩⟩
 case field agg off sz x =>
  obtain ⟨p, h1, cells, h2, h3⟩ := h
  cases agg with
  | true => exact ⟨_, h3.2, fun k2 hk => ⟨p, h1, cells, h2, h3.1, hk⟩⟩
  | false => obtain ⟨d, h4, h5⟩ := h3; exact ⟨_, h5, fun k2 hk => ⟨p, h1, cells, h2, d, h4, hk⟩⟩
 case indexAddr esz x i =>
  obtain ⟨n, h1, p, h2, h3⟩ := h
  cases n <;> try (simp only [QhO] at h3; done)
  cases p <;> simp only [QhO] at h3 <;> try exact h3.elim
  ·obtain ⟨row, h4, h5, h6, h7⟩ := h3; exact ⟨_, h7, fun k2 hk => ⟨_, h1, _, h2, row, h4, h5, h6, hk⟩⟩
  ·obtain ⟨row, h4, h5, h6, h7⟩ := h3; exact ⟨_, h7, fun k2 hk => ⟨_, h1, _, h2, row, h4, h5, h6, hk⟩⟩
  ·obtain ⟨b, h4, h5, h6, h7, h8, h9⟩ := h3; exact ⟨_, h9, fun k2 hk => ⟨_, h1, _, h2, b, h4, h5, h6, h7, h8, hk⟩⟩
 case indexStr x i =>
  obtain ⟨n, h1, p, h2, h3⟩ := h
  cases n <;> try (simp only [QbF] at h3; done)
  cases p <;> simp only [QbF] at h3 <;> try exact h3.elim
  obtain ⟨c, h4, h5, h6⟩ := h3
  exact ⟨_, h6, fun k2 hk => ⟨_, h1, _, h2, c, h4, h5, hk⟩⟩
 case extract i x => obtain ⟨p, h1, ds, h2, d, h3, h4⟩ := h; exact ⟨_, h4, fun k2 hk => ⟨p, h1, ds, h2, d, h3, hk⟩⟩
 case len x => obtain ⟨p, h1, n, h2, h3⟩ := h; exact ⟨_, h3, fun k2 hk => ⟨p, h1, n, h2, hk⟩⟩
 case lenStr x => obtain ⟨p, h1, l, h2, h3⟩ := h; exact ⟨_, h3, fun k2 hk => ⟨p, h1, l, h2, hk⟩⟩
 case min x y =>
  obtain ⟨p, h1, q, h2, h3⟩ := h
  cases p <;> try (simp only [QoS] at h3; done)
  cases q <;> simp only [QoS] at h3 <;> try exact h3.elim
  exact ⟨_, h3, fun k2 hk => ⟨_, h1, _, h2, hk⟩⟩
 case append esz et bytes x y =>
  obtain ⟨p, h1, q, h2, h3⟩ := h
  have happ : ∀ (ys : List (List D)) (pr : Bool), QmC dr esz et bytes dst s p ys pr k -> ∃ s', k s' /\ ∀ k2 : St -> Prop, k2 s' -> QmC dr esz et bytes dst s p ys pr k2 := by
   intro ys pr h5
   cases p <;> simp only [QmC] at h5 <;> try exact h5.elim
   ·obtain ⟨t, h6, h7, h8, h9, h10, h11, h12⟩ := h5
    exact ⟨_, h12, fun k2 hk => ⟨t, h6, h7, h8, h9, h10, h11, hk⟩⟩
   ·obtain ⟨hd, hk0, b, h6, h7, h8, h9, h10, h12, h13, h14⟩ := h5
    exact ⟨_, h14, fun k2 hk => ⟨hd, hk0, b, h6, h7, h8, h9, h10, h12, h13, hk⟩⟩
  cases q <;> simp only [QlG] at h3 <;> try exact h3.elim
  ·obtain ⟨s', q1, q2⟩ := happ _ _ h3.2
   exact ⟨s', q1, fun k2 hk => ⟨p, h1, _, h2, h3.1, q2 k2 hk⟩⟩
  ·obtain ⟨s', q1, q2⟩ := happ _ _ h3.2
   exact ⟨s', q1, fun k2 hk => ⟨p, h1, _, h2, h3.1, q2 k2 hk⟩⟩
  ·obtain ⟨b, h4, h5, h6, h7⟩ := h3
   obtain ⟨s', q1, q2⟩ := happ _ _ h7
   exact ⟨s', q1, fun k2 hk => ⟨p, h1, _, h2, b, h4, h5, h6, q2 k2 hk⟩⟩
 case makeSlice esz et bytes zero x y =>
  obtain ⟨p, h1, q, h2, h3⟩ := h
  cases p <;> try (simp only [Qk4] at h3; done)
  cases q <;> simp only [Qk4] at h3 <;> try exact h3.elim
  obtain ⟨t, h4, h5, h6, h7, h8, h9, h10⟩ := h3
  exact ⟨_, h10, fun k2 hk => ⟨_, h1, _, h2, t, h4, h5, h6, h7, h8, h9, hk⟩⟩
 case range x => obtain ⟨t, h1, p, h2, l, h3, h4, h5⟩ := h; exact ⟨_, h5, fun k2 hk => ⟨t, h1, p, h2, l, h3, h4, hk⟩⟩
 case next x =>
  obtain ⟨hd, p, h1, h2⟩ := h
  unfold Qnz at h2
  split at h2
  ·obtain ⟨l, q, h3, h4⟩ := h2
   rcases h4 with ⟨h4, h5⟩ | ⟨h4, h5⟩
   ·exact ⟨_, h5, fun k2 hk => ⟨hd, _, h1, l, q, h3, .inl ⟨h4, hk⟩⟩⟩
   ·exact ⟨_, h5, fun k2 hk => ⟨hd, _, h1, l, q, h3, .inr ⟨h4, hk⟩⟩⟩
  ·exact h2.elim
 case indexArr len esz x i =>
  obtain ⟨nd, h1, p, h2, h3⟩ := h
  cases nd <;> try (simp only [Qpl] at h3; done)
  obtain ⟨h4, h5, h6⟩ := h3
  cases p <;> simp only [QfV] at h6 <;> try exact h6.elim
  all_goals exact ⟨_, h6.2, fun k2 hk => ⟨_, h1, _, h2, h4, h5, h6.1, hk⟩⟩
 case indexAgg agg len esz x i =>
  obtain ⟨nd, h1, n, h2, p, h3, cells, h4, h5, h6, h7⟩ := h
  cases agg with
  | true => exact ⟨_, h7.2, fun k2 hk => ⟨nd, h1, n, h2, p, h3, cells, h4, h5, h6, h7.1, hk⟩⟩
  | false => obtain ⟨d, h8, h9⟩ := h7; exact ⟨_, h9, fun k2 hk => ⟨nd, h1, n, h2, p, h3, cells, h4, h5, h6, d, h8, hk⟩⟩
 case call f args => obtain ⟨ds, h1, d, h2, h3, h4⟩ := h; exact ⟨_, h4, fun k2 hk => ⟨ds, h1, d, h2, h3, hk⟩⟩
 case mkfn f xs => obtain ⟨ds, h1, h2, h3⟩ := h; exact ⟨_, h3, fun k2 hk => ⟨ds, h1, h2, hk⟩⟩
 case callV x az =>
  obtain ⟨p, h1, h2⟩ := h
  cases p <;> simp only [Qpo] at h2 <;> try exact h2.elim
  obtain ⟨h3, ds, h4, d, h5, h6, h7⟩ := h2
  exact ⟨_, h7, fun k2 hk => ⟨_, h1, h3, ds, h4, d, h5, h6, hk⟩⟩
theorem QbY {K : St -> Prop} : ∀ {l : List AOper} {dr : Dr} {s : St}, run P dr l K s -> ∃ s', K s' /\ ∀ k2 : St -> Prop, k2 s' -> run P dr l k2 s
 | [], _, s, h => ⟨s, h, fun _ hk => hk⟩
 | ⟨dst, op, none⟩ :: r, dr, s, h => by
  simp only [run] at h ⊢
  rcases h with ⟨h1, h2⟩ | ⟨p, q, d, ef, h1, h2, h3⟩ | ⟨f, args, HF, Hn, Hu, d, h1, h2, h3, h5⟩ | ⟨s', d, bx, h1, h2, h3, h5⟩
  ·obtain ⟨s1, h3, h4⟩ := Qlv h2
   obtain ⟨s2, h5, h6⟩ := QbY h3
   exact ⟨s2, h5, fun k2 hk => .inl ⟨h1, h4 _ (h6 k2 hk)⟩⟩
  ·obtain ⟨s2, h6, h7⟩ := QbY h3
   exact ⟨s2, h6, fun k2 hk => .inr (.inl ⟨p, q, d, ef, h1, h2, h7 k2 hk⟩)⟩
  ·obtain ⟨s2, h6, h7⟩ := QbY h5
   exact ⟨s2, h6, fun k2 hk => .inr (.inr (.inl ⟨f, args, HF, Hn, Hu, d, h1, h2, h3, h7 k2 hk⟩))⟩
  ·obtain ⟨s2, h6, h7⟩ := QbY h5
   exact ⟨s2, h6, fun k2 hk => .inr (.inr (.inr ⟨s', d, bx, h1, h2, h3, h7 k2 hk⟩))⟩
 | ⟨dst, op, some (t, b)⟩ :: r, dr, s, h => by
  simp only [run] at h ⊢
  obtain ⟨d, h0, h⟩ := h
  have hA : ((dr.ok r.length (pk op s) (wk op s) = true /\ Qhd P dr.dr op dst s fun s' => run P (dr.nx (QeQ op dst r) (pk op s) (wk op s)) r K s') \/
    (∃ p q d ef, EF P dr.B op dst s p q d ef /\ dr.ok r.length p q = true /\ run P (dr.nx (Qa2 dst.toList r) p q) r K (s.eff dst d ef)) \/
    (∃ f args HF Hn Hu d, dr = .fixed /\ Qco s op f args /\ Qa0 P f args s HF Hn Hu d /\ run P dr r K (St.apply { s with H := Hn ++ (Hu ++ s.H) } dst d none)) \/
    ∃ s' d bx, dr = .fixed /\ s.le s' /\ XM P ⟨dst, op, none⟩ s' d bx /\ run P dr r K (s'.apply dst d bx)) ->
    ∃ s', K s' /\ ∀ k2 : St -> Prop, k2 s' -> ((dr.ok r.length (pk op s) (wk op s) = true /\ Qhd P dr.dr op dst s fun s' => run P (dr.nx (QeQ op dst r) (pk op s) (wk op s)) r k2 s') \/
    (∃ p q d ef, EF P dr.B op dst s p q d ef /\ dr.ok r.length p q = true /\ run P (dr.nx (Qa2 dst.toList r) p q) r k2 (s.eff dst d ef)) \/
    (∃ f args HF Hn Hu d, dr = .fixed /\ Qco s op f args /\ Qa0 P f args s HF Hn Hu d /\ run P dr r k2 (St.apply { s with H := Hn ++ (Hu ++ s.H) } dst d none)) \/
    ∃ s' d bx, dr = .fixed /\ s.le s' /\ XM P ⟨dst, op, none⟩ s' d bx /\ run P dr r k2 (s'.apply dst d bx)) := fun h => by
   rcases h with ⟨h1, h2⟩ | ⟨p, q, d, ef, h1, h2, h3⟩ | ⟨f, args, HF, Hn, Hu, d, h1, h2, h3, h5⟩ | ⟨s', d, bx, h1, h2, h3, h5⟩
   ·obtain ⟨s1, h3, h4⟩ := Qlv h2
    obtain ⟨s2, h5, h6⟩ := QbY h3
    exact ⟨s2, h5, fun k2 hk => .inl ⟨h1, h4 _ (h6 k2 hk)⟩⟩
   ·obtain ⟨s2, h6, h7⟩ := QbY h3
    exact ⟨s2, h6, fun k2 hk => .inr (.inl ⟨p, q, d, ef, h1, h2, h7 k2 hk⟩)⟩
   ·obtain ⟨s2, h6, h7⟩ := QbY h5
    exact ⟨s2, h6, fun k2 hk => .inr (.inr (.inl ⟨f, args, HF, Hn, Hu, d, h1, h2, h3, h7 k2 hk⟩))⟩
   ·obtain ⟨s2, h6, h7⟩ := QbY h5
    exact ⟨s2, h6, fun k2 hk => .inr (.inr (.inr ⟨s', d, bx, h1, h2, h3, h7 k2 hk⟩))⟩
  have hB : run P dr r K (s.apply dst .undef none) -> ∃ s', K s' /\ ∀ k2 : St -> Prop, k2 s' -> run P dr r k2 (s.apply dst .undef none) := QbY
  cases d <;> simp only [QfY] at h <;> try exact h.elim
  ·obtain ⟨s2, h1, h2⟩ := hB h
   exact ⟨s2, h1, fun k2 hk => ⟨_, h0, h2 k2 hk⟩⟩
  ·rename_i c
   cases c <;> cases b
   ·obtain ⟨s2, h1, h2⟩ := hA (h.1 rfl)
    exact ⟨s2, h1, fun k2 hk => ⟨_, h0, ⟨fun _ => h2 k2 hk, fun h => by cases h⟩⟩⟩
   ·obtain ⟨s2, h1, h2⟩ := hB (h.2 rfl)
    exact ⟨s2, h1, fun k2 hk => ⟨_, h0, ⟨(fun h => by cases h), fun _ => h2 k2 hk⟩⟩⟩
   ·obtain ⟨s2, h1, h2⟩ := hB (h.2 rfl)
    exact ⟨s2, h1, fun k2 hk => ⟨_, h0, ⟨(fun h => by cases h), fun _ => h2 k2 hk⟩⟩⟩
   ·obtain ⟨s2, h1, h2⟩ := hA (h.1 rfl)
    exact ⟨s2, h1, fun k2 hk => ⟨_, h0, ⟨fun _ => h2 k2 hk, fun h => by cases h⟩⟩⟩
/-! #### The rules -/
variable {l : List Nat} {b : TCode} {id i : Nat}
theorem Q6 {dr : Bool} {ops : List AOper} (h : ∀ K : St -> Prop, (∀ fr H, TX P nt b Q ⟨Q8 l fr, H⟩ -> K ⟨fr, H⟩) -> run P (Dr.of s.H dr) ops K s) : TX P nt (.seq (.region dr ops) l b) Q s := by
 obtain ⟨s1, ⟨e, s2, h1, h2⟩, h3⟩ := QbY (h (fun st => TX P nt b Q ⟨Q8 l st.fr, st.H⟩) fun fr H h => h)
 exact ⟨e, s2, h1, Qe fun K hK => h3 K (hK s1.fr s1.H h2)⟩
theorem ZI {dr : Bool} {ops : List AOper} (h : ∀ K : St -> Prop, (∀ s', Q .normal s' -> K s') -> run P (Dr.of s.H dr) ops K s) : TX P nt (.region dr ops) Q s := by
 obtain ⟨s1, h1, h3⟩ := QbY (h (Q .normal) fun _ h => h)
 exact ⟨.normal, s1, h1, Q4 fun K hK => h3 K (hK s1 ⟨rfl, rfl⟩)⟩
def QoZ (P : Program) (nt : Nat) (l : List Nat) (b : TCode) (Q : Yn -> St -> Prop) : Yn -> St -> Prop
 | .normal, s => TX P nt b Q ⟨Q8 l s.fr, s.H⟩
 | e, s => Q e s
theorem XD {a : TCode} (h : TX P nt a (QoZ P nt l b Q) s) : TX P nt (.seq a l b) Q s := by
 obtain ⟨e, s1, h1, h2⟩ := h
 cases e with
 | normal =>
  obtain ⟨e2, s2, h3, h4⟩ := h1
  exact ⟨e2, s2, h3, QE (Xg (fun _ _ ⟨p, q⟩ => by subst p q; exact h4) h2)⟩
 | exit n => exact ⟨.exit n, s1, h1, QE (Xg (fun _ _ ⟨p, q⟩ => by subst p q; exact ⟨rfl, rfl⟩) h2)⟩
 | ret => exact ⟨.ret, s1, h1, QE (Xg (fun _ _ ⟨p, q⟩ => by subst p q; exact ⟨rfl, rfl⟩) h2)⟩
theorem YF {c : Opd} {x y : TCode} {t : Bool} (hc : s.ev c = some (.bool t)) (h1 : t = true -> TX P nt x Q s) (h2 : t = false -> TX P nt y Q s) : TX P nt (.cond c x y) Q s := by
 cases t
 ·obtain ⟨e, s1, h3, h4⟩ := h2 rfl; exact ⟨e, s1, h3, Zy hc h4⟩
 ·obtain ⟨e, s1, h3, h4⟩ := h1 rfl; exact ⟨e, s1, h3, ZG hc h4⟩
theorem Qio {c : Opd} {x y : TCode} (hc : s.ev c = some (.bool false)) (h1 : TX P nt y Q s) : TX P nt (.cond c x y) Q s := YF hc (fun h => by cases h) (fun _ => h1)
theorem YB {a : TCode} (h : TX P nt a (Qam id Q) s) : TX P nt (.block id a) Q s := by
 obtain ⟨e, s1, h1, h2⟩ := h
 cases e with
 | normal => exact ⟨.normal, s1, h1, QG (Xg (fun _ _ ⟨p, q⟩ => by subst p q; exact ⟨rfl, rfl⟩) h2)⟩
 | ret => exact ⟨.ret, s1, h1, QG (Xg (fun _ _ ⟨p, q⟩ => by subst p q; exact ⟨rfl, rfl⟩) h2)⟩
 | exit n =>
  by_cases hn : n = id
  ·subst hn
   simp only [Qam, if_true] at h1
   exact ⟨.normal, s1, h1, QG (Xg (fun _ _ ⟨p, q⟩ => by subst p q; simp only [Qam, if_true]; exact ⟨trivial, trivial⟩) h2)⟩
  ·simp only [Qam, if_neg hn] at h1
   exact ⟨.exit n, s1, h1, QG (Xg (fun _ _ ⟨p, q⟩ => by subst p q; simp only [Qam, if_neg hn]; exact ⟨trivial, trivial⟩) h2)⟩
theorem Qcq (h : Q (.exit id) s) : TX P nt (.exit id) Q s := ⟨_, s, h, Zk ⟨rfl, rfl⟩⟩
theorem Qfx (h : Q .ret s) : TX P nt .ret Q s := ⟨_, s, h, Qt ⟨rfl, rfl⟩⟩
theorem YX (h : Q .normal s) : TX P nt .skip Q s := ⟨_, s, h, Qu ⟨rfl, rfl⟩⟩
theorem Qkl {c : TCode} {s' : St} (h : s.le s') (hw : TX P nt c Q s') : TX P nt c Q s := let ⟨e, s1, h1, h2⟩ := hw; ⟨e, s1, h1, QpQ h h2⟩
inductive Rounds (P : Program) (nt : Nat) (a : TCode) (e : Yn) (s' : St) : Nat -> St -> Prop
 | stop {s : St} : TW P nt a (fun e2 s2 => e2 = e /\ s2 = s') s -> e ≠ .normal -> Rounds P nt a e s' 0 s
 | next {s t s2 : St} {n : Nat} : TW P nt a (fun e2 s3 => e2 = .normal /\ s3 = t) s -> t.le s2 -> Rounds P nt a e s' n s2 -> Rounds P nt a e s' (n + 1) s
theorem Rounds.tw {a : TCode} {e : Yn} {s' : St} {n : Nat} (h : Rounds P nt a e s' n s) : TW P nt (.loop a) (fun e2 s2 => e2 = e /\ s2 = s') s := by
 refine ZL (ι := Nat × St) (fun j => j.2) (fun j => Rounds P nt a e s' j.1 j.2) (fun j => j.1) (n, s) (le_refl _) h fun j hj => ?_
 obtain ⟨m, st⟩ := j
 dsimp only at hj ⊢
 cases hj with
 | stop h1 h2 =>
  refine Xg (fun e2 s2 ⟨p, q⟩ => ?_) h1
  subst p q
  cases e2 with
  | normal => exact absurd rfl h2
  | exit n => exact ⟨rfl, rfl⟩
  | ret => exact ⟨rfl, rfl⟩
 | next h1 h2 h3 =>
  refine Xg (fun e2 s2 ⟨p, q⟩ => ?_) h1
  subst p q
  exact ⟨(_, _), h2, h3, Nat.lt_succ_self _⟩
theorem QdZ {ι : Type} {a : TCode} (st : ι -> St) (I : ι -> Prop) (μ : ι -> Nat) (i0 : ι) (h0 : s.le (st i0)) (hI : I i0) (round : ∀ i, I i -> TX P nt a (Qgb st I μ i Q) (st i)) : TX P nt (.loop a) Q s := by
 refine Qkl h0 ?_
 have key : ∀ n i, μ i = n -> I i -> ∃ e s', Q e s' /\ ∃ m, Rounds P nt a e s' m (st i) := by
  intro n
  induction n using Nat.strongRecOn with
  | _ n ih =>
   intro i hn hi
   obtain ⟨e, s1, h1, h2⟩ := round i hi
   cases e with
   | normal =>
    obtain ⟨j, hle, hj, hlt⟩ := h1
    obtain ⟨e, s', h3, m, h4⟩ := ih (μ j) (hn ▸ hlt) j rfl hj
    exact ⟨e, s', h3, m + 1, .next h2 hle h4⟩
   | exit k => exact ⟨_, _, h1, 0, .stop h2 (by simp)⟩
   | ret => exact ⟨_, _, h1, 0, .stop h2 (by simp)⟩
 obtain ⟨e, s', h1, m, h2⟩ := key _ i0 rfl hI
 exact ⟨e, s', h1, h2.tw⟩
theorem Qkm {ι : Type} (st : ι -> St) (I : ι -> Prop) {a : TCode} (h : TX P nt a (Ql3 st I Q) s) (k : ∀ j, I j -> TX P nt b Q (st j)) : TX P nt (.seq a l b) Q s := by
 obtain ⟨e, s1, h1, h2⟩ := h
 cases e with
 | normal =>
  obtain ⟨j, hle, hI⟩ := h1
  obtain ⟨e2, s2, h3, h4⟩ := k j hI
  refine ⟨e2, s2, h3, Qhm (ι := Unit) (fun _ => st j) (fun _ => True) (Xg (fun _ _ ⟨p, q⟩ => by subst p q; exact ⟨(), hle, trivial⟩) h2) fun _ _ => h4⟩
 | exit n => exact ⟨.exit n, s1, h1, QE (Xg (fun _ _ ⟨p, q⟩ => by subst p q; exact ⟨rfl, rfl⟩) h2)⟩
 | ret => exact ⟨.ret, s1, h1, QE (Xg (fun _ _ ⟨p, q⟩ => by subst p q; exact ⟨rfl, rfl⟩) h2)⟩
theorem QK {fr fr' : List (Nat × D)} {H : List (Nat × Box)} (h : Q8 l fr = fr') (k : TX P nt b Q ⟨fr', H⟩) : TX P nt b Q ⟨Q8 l fr, H⟩ := h ▸ k
theorem Q5 {fr fr' : List (Nat × D)} {H : List (Nat × Box)} (h : Q8 l fr = fr') (k : TX P nt b Q ⟨fr', H⟩) : QoZ P nt l b Q .normal ⟨fr, H⟩ := by
 simp only [QoZ, h]; exact k
theorem Y3 (h : Q (.exit id) s) : QoZ P nt l b Q (.exit id) s := h
theorem QjQ (h : Q .ret s) : QoZ P nt l b Q .ret s := h
end
section
variable {P : Program}
theorem Ok.ofX {f : Nat} {fn : Func} {tf : TFn} {ds : List D} {R : D -> Prop} (hm : P.follows .mixedOrders = true) (hf : P.funcs[f]? = some fn) (hp : QJ P fn = some tf.erase) (hn : ds.length <= tf.nt)
  (h : TX P tf.nt tf.body (fun e s => ∃ d, R d /\ Post tf.rs d e s) ⟨Qj0 0 ds, []⟩) (hg : Qik f = [] := by rfl) : ∃ d, R d /\ Ok P f ds d := by
 obtain ⟨e, s, ⟨d, h1, h2⟩, h3⟩ := h
 exact ⟨d, h1, Ok.ofT hm hf hp hn (Xg (fun _ _ ⟨p, q⟩ => by subst p q; exact h2) h3) hg⟩
theorem OkH.ofX {f : Nat} {fn : Func} {tf : TFn} {ds : List D} {H : List (Nat × Box)} {R : D -> List (Nat × Box) -> Prop} (hm : P.follows .mixedOrders = true) (hf : P.funcs[f]? = some fn) (hp : QJ P fn = some tf.erase) (hn : ds.length <= tf.nt)
  (h : TX P tf.nt tf.body (fun e s => ∃ d H', R d H' /\ (∀ k, 1000000 <= k -> (lk H k).isSome = true -> (lk H' k).isSome = true) /\ (∀ k b, lk H' k = some b -> 500000 <= k /\ ∀ j ∈ b.ids, (lk H' j).isSome = true) /\ Qhi tf.rs d H' e s) ⟨Qj0 0 ds, H⟩) (hg : Qik f = [] := by rfl) : ∃ d H', R d H' /\ OkH P f ds H d H' := by
 obtain ⟨e, s, ⟨d, H', h1, h2, h3, h4⟩, h5⟩ := h
 exact ⟨d, H', h1, OkH.ofT hm hf hp hn h2 h3 (Xg (fun _ _ ⟨p, q⟩ => by subst p q; exact h4) h5) hg⟩
end
section
variable {fr : List (Nat × D)} {H H' : List (Nat × Box)} {t : Nat}
theorem XI {e : Yn} {p d : D} (h : lk fr t = some p) (hd : Qko Qfs ⟨fr, H⟩ p = d) (hH : ∀ k b, lk H' k = some b -> lk H k = some b) (he : e = .ret \/ e = .normal := by first | exact .inl rfl | exact .inr rfl) : Qhi [.tmp t] d H' e ⟨fr, H⟩ := by
 subst hd; rcases he with rfl | rfl <;> exact ⟨⟨_, rfl, _, h, rfl⟩, hH⟩
theorem Qcb {e : Yn} {sz : Nat} {p : D} {cells cs : List D} {d : D} (h : lk fr t = some p) (ha : St.atO ⟨fr, H⟩ p = some cells) (hl : Nat.ble sz cells.length = true) (hc : cells.take sz = cs) (hd : Qko Qfs ⟨fr, H⟩ (.agg cs) = d) (hH : ∀ k b, lk H' k = some b -> lk H k = some b) (he : e = .ret \/ e = .normal := by first | exact .inl rfl | exact .inr rfl) : Qhi [.cell t true sz] d H' e ⟨fr, H⟩ := by
 subst hc hd
 rcases he with rfl | rfl <;> exact ⟨⟨_, rfl, p, cells, h, Qho.2 ha, by simp only [if_true]; exact ⟨Nat.le_of_ble_eq_true hl, trivial⟩⟩, hH⟩
end
theorem QmE {P : Program} {f : Nat} {args : List Opd} {s : St} {ds ds' : List D} {k t n' : Nat} {b b' : Box} (ha : Zu s args = some ds) (hb : lk s.H k = some b) (hp : b.pr = true) (hk : k < 1000000) (hn : lk s.H t = none) (ht : t < 1000000) (hds : ∀ x ∈ ds, ∀ j ∈ x.ids, j = k) (hkd : ∃ x ∈ ds, k ∈ x.ids) (hp' : b'.pr = true)
  (hu : ds.map (Qpj k) = ds') (hok : OkH P f ds' [(500000, b)] (.osl 500000 n') [(500000, b')]) : QjZ P f args s [] k t b b' n' := by
 subst hu
 exact ⟨ds, ha, hb, hp, hk, hn, ht, (fun j x hj => by cases hj), (fun j x hj => by cases hj), (fun x hx j hj => .inl (hds x hx j hj)), hkd, hp', hok⟩
section
variable {fr : List (Nat × D)} {H : List (Nat × Box)} {t u : Nat}
theorem Post.eq {rs : List Qhe} {d d' : D} {e : Yn} {s : St} (h : Post rs d e s) (hd : d = d') : Post rs d' e s := hd ▸ h
theorem Xw {e : Yn} {sz : Nat} {p q d' : D} {cells cs ds : List D} (h : lk fr t = some p) (ha : St.atO ⟨fr, H⟩ p = some cells) (hl : Nat.ble sz cells.length = true) (hc : cells.take sz = cs) (h2 : lk fr u = some q) (hd : Qai ⟨fr, H⟩ (.agg cs) = .agg ds /\ Qai ⟨fr, H⟩ q = d')
  (he : e = .ret \/ e = .normal := by first | exact .inl rfl | exact .inr rfl) : Post [.cell t true sz, .tmp u] (.tup [.agg ds, d']) e ⟨fr, H⟩ := by
 subst hc
 obtain ⟨h3, rfl⟩ := hd
 have : Qh7 ⟨fr, H⟩ [.cell t true sz, .tmp u] [.agg ds, Qai ⟨fr, H⟩ q] :=
  ⟨_, _, rfl, ⟨p, cells, h, Qho.2 ha, by simp only [if_true]; exact ⟨Nat.le_of_ble_eq_true hl, h3.symm⟩⟩, _, _, rfl, ⟨q, h2, rfl⟩, rfl⟩
 rcases he with rfl | rfl <;> exact ⟨_, rfl, this⟩
end
theorem XU {m k : Nat} {b0 b : Box} (h : lk [(m, b0)] k = some b) : k = m /\ b = b0 := by
 rw [Qh] at h
 split at h
 ·rename_i e; cases h; exact ⟨e.symm, rfl⟩
 ·cases h
theorem OkH.mv {P : Program} {f : Nat} {fn : Func} {tf : TFn} {ds : List D} {d : D} {b b' : Box} (hm : P.follows .mixedOrders = true) (hf : P.funcs[f]? = some fn) (hp : QJ P fn = some tf.erase) (hn : ds.length <= tf.nt) (hb : b'.pr = true)
  (h : TW P tf.nt tf.body (Qhi tf.rs d [(500000, b')]) ⟨Qj0 0 ds, [(500000, b)]⟩) (hg : Qik f = [] := by rfl) : OkH P f ds [(500000, b)] d [(500000, b')] := by
 refine OkH.ofT hm hf hp hn (fun k hk h1 => ?_) (fun k x hk => ?_) h hg
 ·obtain ⟨y, hy⟩ := Option.isSome_iff_exists.1 h1
  obtain ⟨rfl, _⟩ := XU hy
  omega
 ·obtain ⟨rfl, rfl⟩ := XU hk
  refine ⟨Nat.le_refl _, fun j hj => ?_⟩
  simp [Box.ids, hb] at hj
theorem QiS {H : List (Nat × Box)} {m : Nat} {b0 : Box} (h : lk H m = some b0) : ∀ k b, lk [(m, b0)] k = some b -> lk H k = some b := fun k b hk => by
 obtain ⟨rfl, rfl⟩ := XU hk; exact h
theorem Z5 {s : St} {k i off : Nat} {b : Box} {row : List D} (hb : lk s.H k = some b) (hr : b.rows[i]? = some row) : s.atO (.ref k i off) = some (row.drop off) := by
 simp only [St.atO, hb, hr]
theorem QkT {l : List Nat} {fr fr1 : List (Nat × D)} {H : List (Nat × Box)} {t u n : Nat} {b : Box} (m : Nat) (hk : Q8 l fr = fr1) (hp : (fr1.all fun p => p.2.ids.isEmpty) = true) (hu : lk fr u = some (.osl t n)) (hb : lk H t = some b) (hpr : b.pr = true)
  (hB : Qn8 H [] = true := by rfl) (ht : t < 1000000 := by decide) (hm : m < 1000000 := by decide) : St.le ⟨fr, H⟩ ⟨(u, .osl m n) :: fr1, [(m, b)]⟩ := fun E g a w r => by
 obtain ⟨g', r'⟩ := QgK t m ht hm ⟨fr, H⟩ E g a w r
 have hsw : Qag t m t = m := by unfold Qag; rw [if_pos rfl]
 have hsm : Qag t m m = t := by have := QaV t m t; rw [hsw] at this; exact this
 have hren : b.ren (Qag t m) = b := Box.ren_pure ((r.bx t b hb).2.1 hpr)
 have hids : ∀ v d, lk fr1 v = some d -> d.ids = [] := fun v d h => by
  simp only [List.all_eq_true] at hp
  have := hp (v, d) (ZV h)
  simpa using this
 refine ⟨g', r'.less (fun v d h => ?_) (fun j x h => ?_) (fun v d h j hj => ?_) (fun j x h i hi => ?_) fun j hj hs => ?_⟩
 ·simp only [St.ren, Z1]
  rw [Qh] at h
  split at h
  ·rename_i e
   cases h; subst e
   rw [hu]
   simp only [Option.map_some, D.ren, D.renS, hsw]
  ·have h2 : lk fr v = some d := by subst hk; exact Y0 l fr v d h
   rw [h2, Option.map_some]
   have h3 := hids v d h
   congr 1
   cases d <;> first | rfl | (simp [D.ids, D.sid] at h3; done) | skip
   ·rename_i cs
    simp only [D.ren]
    congr 1
    have one : ∀ d : D, d.sid = [] -> d.renS (Qag t m) = d := fun d hd => by cases d <;> first | rfl | (simp [D.sid] at hd)
    simp only [D.ids, List.flatMap_eq_nil_iff] at h3
    exact Yi fun x hx => one x (h3 x hx)
   ·rename_i f cs
    simp only [D.ren]
    congr 1
    have one : ∀ d : D, d.sid = [] -> d.renS (Qag t m) = d := fun d hd => by cases d <;> first | rfl | (simp [D.sid] at hd)
    simp only [D.ids, List.flatMap_eq_nil_iff] at h3
    exact Yi fun x hx => one x (h3 x hx)
 ·obtain ⟨rfl, rfl⟩ := XU h
  show lk (QgZ (Qag t j) H) j = some x
  rw [QdM (QaV t j), hsm, hb, Option.map_some, hren]
 ·rw [Qh] at h
  split at h
  ·cases h
   simp [D.ids, D.sid] at hj; subst hj; simp [Qh]
  ·rw [hids v d h] at hj; cases hj
 ·obtain ⟨rfl, rfl⟩ := XU h
  simp [Box.ids, hpr] at hi
 ·exfalso
  have hs' : (lk (QgZ (Qag t m) H) j).isSome = true := hs
  rw [QdM (QaV t m), Option.isSome_map] at hs'
  have hj' : Qag t m j = j := by unfold Qag; rw [if_neg (by omega), if_neg (by omega)]
  rw [hj'] at hs'
  have := Qgm hB j hj hs'
  cases this
theorem OkH.lent {P : Program} {f : Nat} {fn : Func} {tf : TFn} {ds : List D} {d : D} {k : Nat} {b b' : Box} (hk : 1000000 <= k) (hm : P.follows .mixedOrders = true) (hf : P.funcs[f]? = some fn) (hp : QJ P fn = some tf.erase) (hn : ds.length <= tf.nt) (hb : b'.pr = true)
  (h : TW P tf.nt tf.body (Qhi tf.rs d ((k, b') :: [(k, b)])) ⟨Qj0 0 ds, [(k, b)]⟩) (hg : Qik f = [] := by rfl) : OkH P f ds [(k, b)] d ((k, b') :: [(k, b)]) := by
 refine OkH.ofT hm hf hp hn (fun j hj h1 => ?_) (fun j x hj => ?_) h hg
 ·obtain ⟨y, hy⟩ := Option.isSome_iff_exists.1 h1
  obtain ⟨rfl, _⟩ := XU hy
  rw [Qh, if_pos rfl]; rfl
 ·rw [Qh] at hj
  split at hj
  ·rename_i e; subst e; cases hj
   exact ⟨by omega, fun i hi => by simp [Box.ids, hb] at hi⟩
  ·rename_i e
   obtain ⟨rfl, _⟩ := XU hj
   exact absurd rfl e
theorem QnZ {H : List (Nat × Box)} {m : Nat} {b0 b1 : Box} (h : lk H m = some b0) : ∀ k b, lk ((m, b0) :: [(m, b1)]) k = some b -> lk H k = some b := fun k b hk => by
 rw [Qh] at hk
 split at hk
 ·rename_i e; subst e; cases hk; exact h
 ·rename_i e
  obtain ⟨rfl, _⟩ := XU hk
  exact absurd rfl e
section
variable {P : Program} {dr : Dr} {r : List AOper} {K : St -> Prop} {fr : List (Nat × D)} {H : List (Nat × Box)} {t : Nat} {bt : Bool} {x y : Opd} {ki kj : IntKind} {m n z : Int}
theorem Qol (hx : St.ev ⟨fr, H⟩ x = some (.int ki m)) (hy : St.ev ⟨fr, H⟩ y = some (.int ki n)) (k : run P dr r K ⟨(t, .int ki (QdL .and ki m n)) :: fr, H⟩) : run P dr (⟨some t, .bin .and bt x y, none⟩ :: r) K ⟨fr, H⟩ := QQ rfl rfl ⟨_, hx, _, hy, .inr rfl, k⟩
theorem Qos (hx : St.ev ⟨fr, H⟩ x = some (.int ki m)) (hy : St.ev ⟨fr, H⟩ y = some (.int kj n)) (h0 : 0 <= n) (k : run P dr r K ⟨(t, .int ki (m.fdiv (2 ^ min n.toNat ki.bits))) :: fr, H⟩) : run P dr (⟨some t, .bin .shr bt x y, none⟩ :: r) K ⟨fr, H⟩ :=
 QQ rfl rfl ⟨_, hx, _, hy, .inl rfl, h0, k⟩
end
end Go.Abs
namespace Go.Abs
open Go
theorem QcH {H : List (Nat × Box)} {S : Nat -> Bool} {d : D} (h : ∀ k ∈ d.sid, S k = false) : d.fzS H S = d := by
 cases d <;> try rfl
 ·rename_i k n
  simp only [D.fzS]; rw [if_neg (by rw [h k (by simp [D.sid])]; simp)]
 ·rename_i k i o
  simp only [D.fzS]; rw [if_neg (by rw [h k (by simp [D.sid])]; simp)]
theorem QeX {H : List (Nat × Box)} {S : Nat -> Bool} {d : D} (h : ∀ k ∈ d.ids, S k = false) : d.fz H S = d := by
 cases d
 case agg cs =>
  simp only [D.fz]
  rw [Yi fun x hx => QcH fun k hk => h k (List.mem_flatMap.2 ⟨x, hx, hk⟩)]
 case clo f cs =>
  simp only [D.fz]
  rw [Yi fun x hx => QcH fun k hk => h k (List.mem_flatMap.2 ⟨x, hx, hk⟩)]
 case osl k n => exact QcH (d := .osl k n) h
 case ref k i o => exact QcH (d := .ref k i o) h
 all_goals rfl
theorem YJ {H : List (Nat × Box)} {S : Nat -> Bool} {b : Box} (h : b.pr = true \/ ∀ k ∈ b.ids, S k = false) : b.fz H S = b := by
 unfold Box.fz
 split
 ·rfl
 ·rename_i hp
  have h' := h.resolve_left hp
  have hids : b.ids = b.rows.flatMap fun r => r.flatMap D.sid := by unfold Box.ids; rw [if_neg hp]
  rw [hids] at h'
  have key : ∀ rows : List (List D), (∀ k ∈ rows.flatMap (fun r => r.flatMap D.sid), S k = false) -> (rows.map fun r => r.map (D.fzS H S)) = rows := by
   intro rows
   induction rows with
   | nil => intro _; rfl
   | cons r rs ih =>
    intro h'
    rw [List.map_cons, ih (fun k hk => h' k (by rw [List.flatMap_cons]; exact List.mem_append_right _ hk)),
     Yi fun x hx => QcH fun k hk => h' k (by rw [List.flatMap_cons]; exact List.mem_append_left _ (List.mem_flatMap.2 ⟨x, hx, hk⟩))]
  have this := key b.rows h'
  rw [this]
theorem QoN {fr fr1 : List (Nat × D)} {H H1 : List (Nat × Box)} {l lH : List Nat} (k t : Nat) {n : Nat} {b : Box} (hf : Q8 l fr = fr1) (hH : QbI lH H = H1) (ht : lk fr t = some (.osl k n)) (hb : lk H k = some b) (hp : b.pr = true) (hn : n = b.rows.length)
  (c1 : (fr1.all fun p => !p.2.ids.contains k) = true) (c2 : (H1.all fun p => p.1 != k && (p.2.pr || !p.2.ids.contains k)) = true) (hw : wfB H1 fr1 = true) (hbk : Qn8 H H1 = true) (hk : k < 1000000 := by decide) : St.le ⟨fr, H⟩ ⟨(t, .sl b.rows) :: fr1, H1⟩ := by
 intro E g a w r
 obtain ⟨g', _, r'⟩ := r.freeze k hk
 subst hf hH
 simp only [wfB, Bool.and_eq_true, List.all_eq_true] at hw
 simp only [List.all_eq_true, Bool.not_eq_true', List.contains_eq_mem, decide_eq_false_iff_not] at c1
 simp only [List.all_eq_true, Bool.and_eq_true, Bool.or_eq_true, Bool.not_eq_true', List.contains_eq_mem, decide_eq_false_iff_not, bne_iff_ne, ne_eq] at c2
 have hS : ∀ (x : D), k ∉ x.ids -> x.fz H (· == k) = x := fun x hx => QeX fun j hj => by
  simp only [beq_eq_false_iff_ne, ne_eq]; rintro rfl; exact hx hj
 refine ⟨g', r'.less (fun u d h => ?_) (fun j x h => ?_) (fun u d h j hj => ?_) (fun j x h i hi => hw.2 (j, x) (ZV h) i hi) fun j hj hs => ?_⟩
 ·simp only [St.freeze, Z1]
  rw [Qh] at h
  split at h
  ·rename_i e; cases h; subst e
   rw [ht]; simp only [Option.map_some]
   congr 1
   simp only [D.fz, D.fzS, beq_self_eq_true, if_true, hb, hp, hn, and_self]
  ·have h1 := Y0 l fr u d h
   rw [h1, Option.map_some, hS d (c1 (u, d) (ZV h))]
 ·have h1 := Qdg lH H j x h
  have h2 := c2 (j, x) (ZV h)
  simp only [St.freeze, QbK]
  rw [if_neg h2.1, Z1 (Box.fz H (· == k)), h1, Option.map_some]
  congr 1
  refine YJ (h2.2.imp id fun h3 i hi => ?_)
  simp only [beq_eq_false_iff_ne, ne_eq]; rintro rfl; exact h3 hi
 ·rw [Qh] at h
  split at h
  ·cases h; simp [D.ids, D.sid] at hj
  ·exact hw.1 (u, d) (ZV h) j hj
 ·have : (lk H j).isSome = true := by
   simp only [St.freeze, QbK] at hs
   rw [if_neg (by omega), Z1 (Box.fz H (· == k)), Option.isSome_map] at hs
   exact hs
  exact Qgm hbk j hj this
theorem Q2 {α : Type} {f : α -> List D} {l : List α} : Qob (.sl (l.map f)) = some (l.length : Int) := by simp [Qob]
theorem Qds {ρ : Nat -> Nat} {d : D} (h : ∀ k ∈ d.sid, ρ k = k) : d.renS ρ = d := by
 cases d <;> try rfl
 ·rename_i k n; simp only [D.renS]; rw [h k (by simp [D.sid])]
 ·rename_i k i o; simp only [D.renS]; rw [h k (by simp [D.sid])]
theorem QnQ {ρ : Nat -> Nat} {d : D} (h : ∀ k ∈ d.ids, ρ k = k) : d.ren ρ = d := by
 cases d
 case agg cs =>
  simp only [D.ren]
  rw [Yi fun x hx => Qds fun k hk => h k (List.mem_flatMap.2 ⟨x, hx, hk⟩)]
 case clo f cs =>
  simp only [D.ren]
  rw [Yi fun x hx => Qds fun k hk => h k (List.mem_flatMap.2 ⟨x, hx, hk⟩)]
 case osl k n => exact Qds (d := .osl k n) h
 case ref k i o => exact Qds (d := .ref k i o) h
 all_goals rfl
section
variable {P : Program} {dr : Dr} {r : List AOper} {K : St -> Prop} {fr : List (Nat × D)} {H : List (Nat × Box)} {t : Nat}
theorem Qmy {esz et bytes : Nat} {zero : List D} {x y : Opd} {ki kj : IntKind} {n : Int} (hx : St.ev ⟨fr, H⟩ x = some (.int ki n)) (hy : St.ev ⟨fr, H⟩ y = some (.int kj n)) (hn : lk H t = none) (h0 : 0 <= n) (hb : n.toNat * bytes <= 281474976710656) (hc : n.toNat <= 4611686018427387904)
  (k : run P dr r K ⟨(t, .osl t n.toNat) :: fr, (t, ⟨List.replicate n.toNat zero, esz, et, true⟩) :: H⟩) : run P dr (⟨some t, .makeSlice esz et bytes zero x y, none⟩ :: r) K ⟨fr, H⟩ := QQ rfl rfl ⟨_, hx, _, hy, t, rfl, hn, rfl, h0, hb, hc, k⟩
end
end Go.Abs
namespace Go.Abs
open Go
/-! ### Walks over boxes that are lent, of which little is known -/
def Big (H : List (Nat × Box)) : Prop := ∀ k b, lk H k = some b -> 1000000 <= k
def Closed (H : List (Nat × Box)) : Prop := ∀ k b, lk H k = some b -> ∀ j ∈ b.ids, (lk H j).isSome = true
theorem Big.none {H : List (Nat × Box)} (h : Big H) {k : Nat} (hk : k < 1000000) : lk H k = none := by
 cases hh : lk H k with
 | none => rfl
 | some b => have := h k b hh; omega
theorem Qk {α : Type} {H : List (Nat × α)} {k k' : Nat} {x b : α} (h : k' ≠ k) (e : lk H k = some b) : lk ((k', x) :: H) k = some b := by rw [Qh, if_neg h]; exact e
theorem Zo {α : Type} {H : List (Nat × α)} {k k' : Nat} {x : α} (h : k' ≠ k) (e : lk H k = none) : lk ((k', x) :: H) k = none := by rw [Qh, if_neg h]; exact e
theorem Qx {α : Type} {k : Nat} {v : α} {l : List (Nat × α)} : lk ((k, v) :: l) k = some v := by rw [Qh, if_pos rfl]
theorem Big.cons {H : List (Nat × Box)} (h : Big H) {k : Nat} {b : Box} (hk : 1000000 <= k) : Big ((k, b) :: H) := fun j x hj => by
 rw [Qh] at hj
 split at hj
 ·rename_i e; subst e; exact hk
 ·exact h j x hj
theorem QT {H : List (Nat × Box)} {k j : Nat} {b : Box} (h : (lk H j).isSome = true) : (lk ((k, b) :: H) j).isSome = true := by
 rw [Qh]; split
 ·rfl
 ·exact h
theorem QZ {k : Nat} {b : Box} {l : List (Nat × Box)} : (lk ((k, b) :: l) k).isSome = true := by rw [Qx]; rfl
theorem Zr {l : List (Nat × Box)} {k : Nat} {b : Box} (h : lk l k = some b) : (lk l k).isSome = true := by rw [h]; rfl
def Qok (b : Box) : Prop := b.ids = []
theorem XB {b : Box} (h : b.pr = true) : b.ids = [] := by simp [Box.ids, h]
theorem Closed.cons {H : List (Nat × Box)} (h : Closed H) {k : Nat} {b : Box} (hb : ∀ j ∈ b.ids, (lk H j).isSome = true) : Closed ((k, b) :: H) := fun j x hj i hi => by
 rw [Qh] at hj
 split at hj
 ·cases hj; exact QT (hb i hi)
 ·exact QT (h j x hj i hi)
theorem Closed.pr {H : List (Nat × Box)} (h : Closed H) {k : Nat} {b : Box} (hb : b.pr = true) : Closed ((k, b) :: H) := h.cons fun j hj => by rw [XB hb] at hj; cases hj
theorem QmI {l : List Nat} {fr fr1 fr' : List (Nat × D)} {H H' : List (Nat × Box)} (hf : Q8 l fr = fr1) (ef : fr1 = fr') (hH : ∀ k b, lk H' k = some b -> lk H k = some b) (hfr : ∀ p ∈ fr', ∀ k ∈ p.2.ids, (lk H' k).isSome = true) (hcl : Closed H') (hbig : ∀ k, 1000000 <= k -> (lk H k).isSome = true -> (lk H' k).isSome = true) : St.le ⟨fr, H⟩ ⟨fr', H'⟩ := by
 subst hf ef
 intro E g a w r
 exact ⟨g, r.less (fun t d h => Y0 l fr t d h) hH (fun t d h k hk => hfr (t, d) (ZV h) k hk) hcl hbig⟩
theorem Qba {fr fr' : List (Nat × D)} {H H' : List (Nat × Box)} (ef : fr = fr') (hH : ∀ k, lk H k = lk H' k) : St.le ⟨fr, H⟩ ⟨fr', H'⟩ := by
 subst ef; exact QgI ⟨fun _ => rfl, hH⟩
theorem Qd3 {A H0 : List (Nat × Box)} {k : Nat} {b : Box} (h : lk (A ++ H0) k = some b) : (k, b) ∈ A \/ (lk A k = none /\ lk H0 k = some b) := by
 rw [ZM] at h
 split at h
 ·rename_i v hv; cases h; exact .inl (ZV hv)
 ·rename_i hv; exact .inr ⟨hv, h⟩
theorem QoM {l : List Nat} {fr fr1 fr' : List (Nat × D)} {H A H0 : List (Nat × Box)} (hf : Q8 l fr = fr1) (ef : fr1 = fr') (hA : ∀ p ∈ A, lk H p.1 = some p.2 /\ p.2.pr = true) (h0 : ∀ k b, lk A k = none -> lk H0 k = some b -> lk H k = some b) (hfr : ∀ p ∈ fr', ∀ k ∈ p.2.ids, (lk (A ++ H0) k).isSome = true) (hcl : Closed H0)
  (hbig : ∀ k, 1000000 <= k -> (lk H k).isSome = true -> (lk (A ++ H0) k).isSome = true) : St.le ⟨fr, H⟩ ⟨fr', A ++ H0⟩ := by
 have up : ∀ j, (lk H0 j).isSome = true -> (lk (A ++ H0) j).isSome = true := fun j hj => by
  rw [ZM]; split
  ·rfl
  ·exact hj
 refine QmI hf ef (fun k b hk => ?_) hfr (fun k b hk j hj => ?_) hbig
 ·rcases Qd3 hk with h | ⟨h1, h2⟩
  ·exact (hA _ h).1
  ·exact h0 k b h1 h2
 ·rcases Qd3 hk with h | ⟨h1, h2⟩
  ·rw [XB (hA _ h).2] at hj; cases hj
  ·exact up j (hcl k b h2 j hj)
theorem QiX {H : List (Nat × Box)} : Big (upH H) := fun k b hk => by
 obtain ⟨j, b0, rfl, _, _⟩ := YN hk
 unfold upN; omega
theorem QdX {H : List (Nat × Box)} (h : Closed H) : Closed (upH H) := fun k b hk j hj => by
 obtain ⟨i, b0, rfl, h1, rfl⟩ := YN hk
 rw [Box.ren_ids] at hj
 obtain ⟨j0, hj0, rfl⟩ := List.mem_map.1 hj
 rw [Qas, Option.isSome_map]
 exact h i b0 h1 j0 hj0
theorem Qi7 {P : Program} {f : Nat} {args : List Opd} {s : St} {ds ds' : List D} {HF : List (Nat × Box)} {k : Nat} {b b' : Box} {d : D} (ha : Zu s args = some ds) (hF : ∀ j x, lk HF j = some x -> lk s.H j = some x) (hcl : Closed HF) (hds : ∀ x ∈ ds, ∀ j ∈ x.ids, (lk HF j).isSome = true)
  (hk : (lk HF k).isSome = true) (hb : b.pr = true) (hd : d.ids = []) (hu : ds.map Qpk = ds') (hr : b.ren upN = b') (hok : OkH P f ds' (upH HF) d ((upN k, b') :: upH HF)) : Qa0 P f args s HF [] [(k, b)] d := by
 subst hu hr
 refine ⟨ds, ha, hF, hcl, hds, fun j x hj => ?_, (fun j x hj => by cases hj), (fun j hj => by rw [hd] at hj; cases hj), hok⟩
 rw [Qh] at hj
 split at hj
 ·rename_i e; cases hj; subst e; exact ⟨hk, fun i hi => by rw [XB hb] at hi; cases hi⟩
 ·cases hj
theorem XA {H : List (Nat × Box)} {k : Nat} {b : Box} (hB : Big H) (hC : Closed H) (hk : 1000000 <= k) (hb : b.pr = true) : (∀ j, 1000000 <= j -> (lk H j).isSome = true -> (lk ((k, b) :: H) j).isSome = true) /\ (∀ j x, lk ((k, b) :: H) j = some x -> 500000 <= j /\ ∀ i ∈ x.ids, (lk ((k, b) :: H) i).isSome = true) :=
 ⟨fun _ _ h => QT h, fun j x hj => ⟨by have := hB.cons (b := b) hk j x hj; omega, hC.pr hb j x hj⟩⟩
theorem Qe3 {l : List Nat} {fr fr1 fr' : List (Nat × D)} {B A A' H0 : List (Nat × Box)} (hf : Q8 l fr = fr1) (ef : fr1 = fr') (hA : ∀ p ∈ A, lk B p.1 = some p.2 /\ p.2.pr = true) (eA : A = A') (hBA : ∀ p ∈ B, 1000000 <= p.1 -> (lk A p.1).isSome = true) (hb : Big H0) (hcl : Closed H0) (hfr : ∀ p ∈ fr', ∀ k ∈ p.2.ids, (lk (A' ++ H0) k).isSome = true) : St.le ⟨fr, B ++ H0⟩ ⟨fr', A' ++ H0⟩ := by
 subst eA
 have noB : ∀ k b, lk H0 k = some b -> lk A k = none -> lk B k = none := fun k b h1 h2 => by
  cases h : lk B k with
  | none => rfl
  | some x =>
   have := hBA (k, x) (ZV h) (hb k b h1)
   simp only at this
   rw [h2] at this; cases this
 refine QoM hf ef (fun p hp => ?_) (fun k b h1 h2 => ?_) hfr hcl fun k hk hs => ?_
 ·obtain ⟨q1, q2⟩ := hA p hp
  exact ⟨Ys q1, q2⟩
 ·rw [YU (noB k b h2 h1)]; exact h2
 ·rw [ZM] at hs ⊢
  cases h : lk B k with
  | some x =>
   have := hBA (k, x) (ZV h) hk
   obtain ⟨y, hy⟩ := Option.isSome_iff_exists.1 this
   simp only at hy
   rw [hy]; rfl
  | none =>
   rw [h] at hs
   cases h2 : lk A k with
   | some x => rfl
   | none => exact hs
theorem Qar {B H : List (Nat × Box)} {kg : Nat} {g : Box} (hb : Big H) (h1 : lk B kg = some g) (h2 : ∀ p ∈ B, 1000000 <= p.1 -> p.1 = kg) : ∀ k b, lk ((kg, g) :: H) k = some b -> lk (B ++ H) k = some b := fun k b hk => by
 rw [Qh] at hk
 split at hk
 ·rename_i e; cases hk; subst e; exact Ys h1
 ·rename_i e
  rw [ZM]
  cases h : lk B k with
  | none => exact hk
  | some x => exact absurd (h2 (k, x) (ZV h) (hb k b hk)).symm e
def scr (k : Nat) (H : List (Nat × Box)) : List (Nat × Box) := H.map fun p => (p.1, p.2.scrub k)
theorem Qib {k : Nat} {b : Box} (h : k ∉ b.ids) : b.scrub k = b := by
 unfold Box.scrub
 split
 ·rfl
 ·rename_i hp
  have hids : b.ids = b.rows.flatMap fun r => r.flatMap D.sid := by unfold Box.ids; rw [if_neg hp]
  rw [hids] at h
  have key : ∀ rows : List (List D), (k ∉ rows.flatMap fun r => r.flatMap D.sid) -> (rows.map fun r => r.map (D.scrubC k)) = rows := by
   intro rows
   induction rows with
   | nil => intro _; rfl
   | cons r rs ih =>
    intro h'
    rw [List.flatMap_cons, List.mem_append] at h'
    rw [List.map_cons, ih (fun hh => h' (.inr hh)), Yi fun x hx => ?_]
    have hx' : k ∉ x.sid := fun hk => h' (.inl (List.mem_flatMap.2 ⟨x, hx, hk⟩))
    cases x <;> try rfl
    ·rename_i j n
     simp only [D.sid, List.mem_singleton] at hx'
     simp only [D.scrubC]
     first | rfl | rw [if_neg (fun e => hx' e.symm)] | rw [if_neg (fun e => hx' e)]
    ·rename_i j i o
     simp only [D.sid, List.mem_singleton] at hx'
     simp only [D.scrubC]
     first | rfl | rw [if_neg (fun e => hx' e.symm)] | rw [if_neg (fun e => hx' e)]
  rw [key b.rows h]
theorem QmJ {k : Nat} : ∀ {H : List (Nat × Box)} {j : Nat}, lk (scr k H) j = (lk H j).map (Box.scrub k)
 | [], _ => rfl
 | (i, b) :: H, j => by
  show (if i = j then some (b.scrub k) else lk (scr k H) j) = _
  rw [Qh, QmJ]
  split <;> rfl
theorem QgM {H : List (Nat × Box)} {k j : Nat} (hB : Big H) (hC : Closed H) (hk : k < 1000000) : lk (scr k H) j = lk H j := by
 rw [QmJ]
 cases h : lk H j with
 | none => rfl
 | some b =>
  rw [Option.map_some, Qib fun hi => ?_]
  obtain ⟨x, hx⟩ := Option.isSome_iff_exists.1 (hC j b h k hi)
  have := hB k x hx
  omega
theorem QoO {fr : List (Nat × D)} {B H0 : List (Nat × Box)} (k : Nat) (hB : Big H0) (hC : Closed H0) (hk : k < 1000000 := by decide) : St.le ⟨fr, B ++ scr k H0⟩ ⟨fr, B ++ H0⟩ :=
 QgI ⟨fun _ => rfl, fun j => by
  show lk (B ++ scr k H0) j = lk (B ++ H0) j
  rw [ZM, ZM, QgM hB hC hk]⟩
theorem QiD {l : List Nat} {fr fr1 : List (Nat × D)} {B A H0 : List (Nat × Box)} (k t : Nat) {n : Nat} {b : Box} (hf : Q8 l fr = fr1) (ht : lk fr t = some (.osl k n)) (hb : lk B k = some b) (hp : b.pr = true) (hn : n = b.rows.length) (c1 : ∀ p ∈ fr1, k ∉ p.2.ids)
  (hA : ∀ p ∈ A, p.1 ≠ k /\ lk B p.1 = some p.2 /\ p.2.pr = true) (hBA : ∀ p ∈ B, 1000000 <= p.1 -> (lk A p.1).isSome = true) (hB : Big H0) (hC : Closed H0) (hfr : ∀ p ∈ fr1, ∀ j ∈ p.2.ids, (lk (A ++ H0) j).isSome = true) (hk : k < 1000000 := by decide) : St.le ⟨fr, B ++ H0⟩ ⟨(t, .sl b.rows) :: fr1, A ++ H0⟩ := by
 intro E g a w r
 obtain ⟨g', _, r'⟩ := r.freeze k hk
 subst hf
 have hbB : lk (B ++ H0) k = some b := Ys hb
 have hS : ∀ (x : D), k ∉ x.ids -> x.fz (B ++ H0) (· == k) = x := fun x hx => QeX fun j hj => by
  simp only [beq_eq_false_iff_ne, ne_eq]; rintro rfl; exact hx hj
 have hH0k : ∀ j x, lk H0 j = some x -> k ∉ x.ids := fun j x h hi => by
  obtain ⟨y, hy⟩ := Option.isSome_iff_exists.1 (hC j x h k hi)
  have := hB k y hy
  omega
 have noB : ∀ j x, lk H0 j = some x -> lk A j = none -> lk B j = none := fun j x h1 h2 => by
  cases h : lk B j with
  | none => rfl
  | some y =>
   have := hBA (j, y) (ZV h) (hB j x h1)
   simp only at this
   rw [h2] at this; cases this
 have boxOf : ∀ j x, lk (A ++ H0) j = some x -> j ≠ k /\ lk (B ++ H0) j = some x /\ (x.pr = true \/ k ∉ x.ids) := fun j x h => by
  rcases Qd3 h with h | ⟨h1, h2⟩
  ·obtain ⟨q1, q2, q3⟩ := hA _ h
   exact ⟨q1, Ys q2, .inl q3⟩
  ·refine ⟨fun e => ?_, ?_, .inr (hH0k j x h2)⟩
   ·subst e; have := hB _ x h2; omega
   ·rw [YU (noB j x h2 h1)]; exact h2
 refine ⟨g', r'.less (fun u d h => ?_) (fun j x h => ?_) (fun u d h j hj => ?_) (fun j x h i hi => ?_) fun j hj hs => ?_⟩
 ·simp only [St.freeze, Z1]
  rw [Qh] at h
  split at h
  ·rename_i e; cases h; subst e
   rw [ht]; simp only [Option.map_some]
   congr 1
   simp only [D.fz, D.fzS, beq_self_eq_true, if_true, hbB, hp, hn, and_self]
  ·have h1 := Y0 l fr u d h
   rw [h1, Option.map_some, hS d (c1 (u, d) (ZV h))]
 ·obtain ⟨q1, q2, q3⟩ := boxOf j x h
  simp only [St.freeze, QbK]
  rw [if_neg q1, Z1 (Box.fz (B ++ H0) (· == k)), q2, Option.map_some]
  congr 1
  refine YJ (q3.imp id fun h3 i hi => ?_)
  simp only [beq_eq_false_iff_ne, ne_eq]; rintro rfl; exact h3 hi
 ·rw [Qh] at h
  split at h
  ·cases h; simp [D.ids, D.sid] at hj
  ·exact hfr (u, d) (ZV h) j hj
 ·rcases Qd3 h with h | ⟨h1, h2⟩
  ·rw [XB (hA _ h).2.2] at hi; cases hi
  ·have := hC j x h2 i hi
   rw [ZM]; split
   ·rfl
   ·exact this
 ·have hs' : (lk (B ++ H0) j).isSome = true := by
   simp only [St.freeze, QbK] at hs
   rw [if_neg (by omega), Z1 (Box.fz (B ++ H0) (· == k)), Option.isSome_map] at hs
   exact hs
  rw [ZM] at hs' ⊢
  cases h : lk B j with
  | some x =>
   have := hBA (j, x) (ZV h) hj
   obtain ⟨y, hy⟩ := Option.isSome_iff_exists.1 this
   simp only at hy
   rw [hy]; rfl
  | none =>
   rw [h] at hs'
   cases h2 : lk A j with
   | some x => rfl
   | none => exact hs'
section
variable {P : Program} {r : List AOper} {K : St -> Prop} {fr : List (Nat × D)} {H : List (Nat × Box)} {t : Nat}
theorem Qm3 {esz et bytes kk n : Nat} {x y : Opd} {b : Box} {ys : List (List D)} {q : D} {pr : Bool} (hx : St.ev ⟨fr, H⟩ x = some (.osl kk n)) (hy : St.ev ⟨fr, H⟩ y = some q) (hq : kk ∉ q.ids) (hs : St.src ⟨fr, H⟩ esz q ys pr) (hn : lk H t = none)
  (hb : lk H kk = some b) (hl : n = b.rows.length) (he : b.esz = esz) (het : b.et = et) (hbb : (n + ys.length) * bytes <= 140737488355328) (hc : n + ys.length <= 4611686018427387904)
  (k : run P .fixed r K ⟨(t, .osl t (n + ys.length)) :: fr, (t, ⟨b.rows ++ ys, esz, et, b.pr && pr⟩) :: (kk, Z3) :: H⟩) (hk0 : kk < 1000000 := by decide) (ht0 : t < 1000000 := by decide) : run P .fixed (⟨some t, .append esz et bytes x y, none⟩ :: r) K ⟨fr, H⟩ :=
 .inr (.inl ⟨_, _, _, _, ⟨t, kk, n, b, q, ys, pr, rfl, hx, hk0, hn, ht0, hb, hl, he, het, hy, hq, hs, hbb, hc, rfl, rfl, rfl, rfl⟩, rfl, k⟩)
end
/-! ### The same over boxes whose names are greater than N -/
def QpP (N : Nat) (H : List (Nat × Box)) : Prop := ∀ k b, lk H k = some b -> N <= k
def QlJ (H : List (Nat × Box)) : Prop := ∀ p ∈ H, p.2.pr = true
theorem QmW {k : Nat} : ∀ {H : List (Nat × Box)}, QlJ H -> scr k H = H
 | [], _ => rfl
 | (j, b) :: H, h => by
  show (j, b.scrub k) :: scr k H = _
  have hb : b.scrub k = b := by unfold Box.scrub; rw [if_pos (h (j, b) (by simp))]
  rw [hb, QmW fun p hp => h p (by simp [hp])]
theorem QgJ {fr : List (Nat × D)} {B H0 : List (Nat × Box)} (k : Nat) (h : QlJ H0) : St.le ⟨fr, B ++ scr k H0⟩ ⟨fr, B ++ H0⟩ := by rw [QmW h]; exact le_refl _
theorem QiE {l : List Nat} {fr fr1 fr' : List (Nat × D)} {B A A' H0 : List (Nat × Box)} {N : Nat} (hf : Q8 l fr = fr1) (ef : fr1 = fr') (hA : ∀ p ∈ A, lk B p.1 = some p.2) (eA : A = A') (hcA : ∀ p ∈ A', ∀ j ∈ p.2.ids, (lk (A' ++ H0) j).isSome = true) (hBA : ∀ p ∈ B, N <= p.1 -> (lk A p.1).isSome = true) (hb : QpP N H0) (hpr : QlJ H0) (hfr : ∀ p ∈ fr', ∀ k ∈ p.2.ids, (lk (A' ++ H0) k).isSome = true) (hN : N <= 1000000 := by decide) : St.le ⟨fr, B ++ H0⟩ ⟨fr', A' ++ H0⟩ := by
 subst eA
 have noB : ∀ k b, lk H0 k = some b -> lk A k = none -> lk B k = none := fun k b h1 h2 => by
  cases h : lk B k with
  | none => rfl
  | some x =>
   have := hBA (k, x) (ZV h) (hb k b h1)
   simp only at this
   rw [h2] at this; cases this
 refine QmI hf ef (fun k b hk => ?_) hfr (fun k b hk j hj => ?_) fun k hk hs => ?_
 ·rcases Qd3 hk with h | ⟨h1, h2⟩
  ·exact Ys (hA _ h)
  ·rw [YU (noB k b h2 h1)]; exact h2
 ·rcases Qd3 hk with h | ⟨h1, h2⟩
  ·exact hcA _ h j hj
  ·rw [XB (hpr _ (ZV h2))] at hj; cases hj
 ·rw [ZM] at hs ⊢
  cases h : lk B k with
  | some x =>
   have := hBA (k, x) (ZV h) (Nat.le_trans hN hk)
   obtain ⟨y, hy⟩ := Option.isSome_iff_exists.1 this
   simp only at hy
   rw [hy]; rfl
  | none =>
   rw [h] at hs
   cases h2 : lk A k with
   | some x => rfl
   | none => exact hs
/-! ### Cells told az plain slices -/
theorem canS_cell {d : D} : d.canS.isCell = d.isCell := by cases d <;> rfl
theorem Qb1 {d : D} : d.canS.sid = d.sid := by cases d <;> rfl
theorem RepS.canS {g : Gh} {d : D} {v : Value} (h : RepS g d v) : RepS g d.canS v := by
 cases d <;> simp only [D.canS] <;> try exact h
 simp only [RepS, RepP] at h ⊢
 obtain ⟨a0, q1, q2⟩ := h
 exact ⟨a0, _, q1, Nat.le_refl _, q2⟩
theorem CellsC.canS {g : Gh} {c : Array Value} : ∀ {off : Nat} {ds : List D}, CellsC g c off ds -> CellsC g c off (ds.map D.canS)
 | _, [], _ => by simp only [List.map_nil, CellsC]
 | off, d :: ds, h => by
  simp only [CellsC, List.map_cons] at h ⊢
  obtain ⟨⟨h1, x, h2, h3⟩, h4⟩ := h
  exact ⟨⟨canS_cell.trans h1, x, h2, h3.canS⟩, h4.canS⟩
theorem RowsC.canAt {g : Gh} {c : Array Value} : ∀ {off : Nat} {rs : List (List D)} (i : Nat), RowsC g c off rs -> RowsC g c off (rs.modify i fun r => r.map D.canS)
 | _, [], i, h => by cases i <;> exact h
 | off, r :: rs, 0, h => by
  simp only [RowsC, List.modify_zero_cons] at h ⊢
  exact ⟨h.1.canS, by rw [List.length_map]; exact h.2⟩
 | off, r :: rs, i + 1, h => by
  simp only [RowsC, List.modify_succ_cons] at h ⊢
  exact ⟨h.1, RowsC.canAt i h.2⟩
theorem QaO {α : Type} {f : α -> α} : ∀ {l : List α} {i : Nat} {x : α}, x ∈ l.modify i f -> x ∈ l \/ ∃ y ∈ l, x = f y
 | [], i, x, h => by cases i <;> exact absurd h (by simp)
 | a :: l, 0, x, h => by
  simp only [List.modify_zero_cons, List.mem_cons] at h
  rcases h with rfl | h
  ·exact .inr ⟨a, by simp, rfl⟩
  ·exact .inl (by simp [h])
 | a :: l, i + 1, x, h => by
  simp only [List.modify_succ_cons, List.mem_cons] at h
  rcases h with rfl | h
  ·exact .inl (by simp)
  ·rcases QaO h with h | ⟨y, hy, e⟩
   ·exact .inl (by simp [h])
   ·exact .inr ⟨y, by simp [hy], e⟩
theorem Ql5 {fr : List (Nat × D)} {H : List (Nat × Box)} {k : Nat} {b : Box} (i : Nat) (hb : lk H k = some b) : St.le ⟨fr, H⟩ ⟨fr, (k, { b with rows := b.rows.modify i fun r => r.map D.canS }) :: H⟩ := fun E g a w r => by
 have hsid : ∀ (r : List D), (r.map D.canS).flatMap D.sid = r.flatMap D.sid := fun r => by
  induction r with
  | nil => rfl
  | cons d r ih => rw [List.map_cons, List.flatMap_cons, List.flatMap_cons, Qb1, ih]
 have hids : ∀ j, j ∈ Box.ids { b with rows := b.rows.modify i fun r => r.map D.canS } -> j ∈ b.ids := fun j hj => by
  unfold Box.ids at hj ⊢
  simp only at hj
  split at hj
  ·cases hj
  ·rename_i hp
   rw [if_neg hp]
   obtain ⟨row, hrow, hk⟩ := List.mem_flatMap.1 hj
   rcases QaO hrow with h | ⟨y, hy, rfl⟩
   ·exact List.mem_flatMap.2 ⟨row, h, hk⟩
   ·rw [hsid] at hk; exact List.mem_flatMap.2 ⟨y, hy, hk⟩
 have hsome : ∀ j, (lk ((k, ({ b with rows := b.rows.modify i fun r => r.map D.canS } : Box)) :: H) j).isSome = (lk H j).isSome := fun j => by
  rw [Qh]; split
  ·rename_i e; subst e; rw [hb]; rfl
  ·rfl
 have hget : ∀ j b', lk ((k, ({ b with rows := b.rows.modify i fun r => r.map D.canS } : Box)) :: H) j = some b' -> (j = k /\ b' = { b with rows := b.rows.modify i fun r => r.map D.canS }) \/ (j ≠ k /\ lk H j = some b') := fun j b' h => by
  rw [Qh] at h
  split at h
  ·rename_i e; cases h; exact .inl ⟨e.symm, rfl⟩
  ·rename_i e; exact .inr ⟨Ne.symm e, h⟩
 refine ⟨g, r.nt, r.df, r.fr, fun t d h j hj => (hsome j).trans (r.wfF t d h j hj), fun j b' h i' hi => ?_, fun j b' h => ?_, fun j j' b1 b2 B e e' h1 h2 h3 h4 => ?_, r.kr, r.ext, r.kx, fun j hj => let ⟨h1, h2, h3, h4⟩ := r.kp j hj; ⟨h1, h2, h3, (hsome j).trans h4⟩⟩
 ·rcases hget j b' h with ⟨rfl, rfl⟩ | ⟨_, h⟩
  ·rw [hsome]; exact r.wfH _ b hb i' (hids i' hi)
  ·rw [hsome]; exact r.wfH j b' h i' hi
 ·rcases hget j b' h with ⟨rfl, rfl⟩ | ⟨_, h⟩
  ·obtain ⟨h1, h2, h3⟩ := r.bx _ b hb
   by_cases hr : b.rows = []
   ·have e : ({ b with rows := b.rows.modify i fun r => r.map D.canS } : Box) = b := by
     obtain ⟨rows, e1, e2, e3⟩ := b
     simp only at hr
     subst hr
     cases i <;> rfl
    rw [e]; exact ⟨h1, h2, h3⟩
   ·refine ⟨fun row hrow => ?_, fun hp row hrow d hd => ?_, .inr ?_⟩
    ·rcases QaO hrow with h | ⟨y, hy, rfl⟩
     ·exact h1 row h
     ·rw [List.length_map]; exact h1 y hy
    ·rcases QaO hrow with h | ⟨y, hy, rfl⟩
     ·exact h2 hp row h d hd
     ·obtain ⟨d0, hd0, rfl⟩ := List.mem_map.1 hd
      rw [Qb1]; exact h2 hp y hy d0 hd0
    ·obtain ⟨_, B, c, q1, q2, q3, q4, q5⟩ := h3.resolve_left fun h => hr h.1
     refine ⟨fun e => hr ?_, B, c, q1, q2, q3, q4.canAt i, q5⟩
     have := congrArg List.length e
     simp only [List.length_modify, List.length_nil] at this
     exact List.eq_nil_of_length_eq_zero this
  ·exact r.bx j b' h
 ·have : ∀ j b', lk ((k, ({ b with rows := b.rows.modify i fun r => r.map D.canS } : Box)) :: H) j = some b' -> ∃ b'', lk H j = some b'' := fun j b' h => by
   rcases hget j b' h with ⟨rfl, _⟩ | ⟨_, h⟩
   ·exact ⟨b, hb⟩
   ·exact ⟨b', h⟩
  obtain ⟨c1, q1⟩ := this j b1 h1
  obtain ⟨c2, q2⟩ := this j' b2 h2
  exact r.inj j j' c1 c2 B e e' q1 q2 h3 h4
theorem Qju {fr fr' : List (Nat × D)} {H H' : List (Nat × Box)} (k : Nat) (hk : k < 1000000) (hF : ∀ t d, lk fr' t = some d -> ∃ d0, lk fr t = some d0 /\ d0.fz H (· == k) = d) (hH : ∀ j b, lk H' j = some b -> j ≠ k /\ ∃ b0, lk H j = some b0 /\ b0.fz H (· == k) = b)
  (wfF : ∀ t d, lk fr' t = some d -> ∀ j ∈ d.ids, (lk H' j).isSome = true) (wfH : Closed H') (hbig : ∀ j, 1000000 <= j -> (lk H j).isSome = true -> (lk H' j).isSome = true) : St.le ⟨fr, H⟩ ⟨fr', H'⟩ := by
 intro E g a w r
 obtain ⟨g', _, r'⟩ := r.freeze k hk
 refine ⟨g', r'.less (fun u d h => ?_) (fun j x h => ?_) wfF wfH fun j hj hs => hbig j hj ?_⟩
 ·obtain ⟨d0, q1, q2⟩ := hF u d h
  simp only [St.freeze, Z1, q1, Option.map_some, q2]
 ·obtain ⟨q1, b0, q2, q3⟩ := hH j x h
  simp only [St.freeze, QbK]
  rw [if_neg q1, Z1 (Box.fz H (· == k)), q2, Option.map_some, q3]
 ·simp only [St.freeze, QbK] at hs
  rw [if_neg (by omega), Z1 (Box.fz H (· == k)), Option.isSome_map] at hs
  exact hs
theorem QnA {fr fr' : List (Nat × D)} {H H' : List (Nat × Box)} (S : Nat -> Bool) (hS : ∀ k, S k = true -> k < 1000000) (hF : ∀ t d, lk fr' t = some d -> ∃ d0, lk fr t = some d0 /\ d0.fz H S = d) (hH : ∀ j b, lk H' j = some b -> S j = false /\ ∃ b0, lk H j = some b0 /\ b0.fz H S = b)
  (wfF : ∀ t d, lk fr' t = some d -> ∀ j ∈ d.ids, (lk H' j).isSome = true) (wfH : Closed H') (hbig : ∀ j, 1000000 <= j -> (lk H j).isSome = true -> (lk H' j).isSome = true) : St.le ⟨fr, H⟩ ⟨fr', H'⟩ := by
 intro E g a w r
 obtain ⟨g', _, r'⟩ := r.freezeS S hS
 refine ⟨g', r'.less (fun u d h => ?_) (fun j x h => ?_) wfF wfH fun j hj hs => hbig j hj ?_⟩
 ·obtain ⟨d0, q1, q2⟩ := hF u d h
  simp only [St.freezeS, Z1, q1, Option.map_some, q2]
 ·obtain ⟨q1, b0, q2, q3⟩ := hH j x h
  simp only [St.freezeS, Qe7]
  rw [if_neg (by rw [q1]; simp), Z1 (Box.fz H S), q2, Option.map_some, q3]
 ·simp only [St.freezeS, Qe7] at hs
  split at hs
  ·cases hs
  ·rw [Z1 (Box.fz H S), Option.isSome_map] at hs
   exact hs
theorem Zl (n : Nat) (p : List Nat) : QbC n p [] = true := by simp [QbC]
theorem Zm {n k : Nat} {R : List (Nat × List Nat)} : QbC n [k] R = R.all fun e => e.1 != k || e.2.contains n := by simp [QbC]
theorem Zn {n k j : Nat} {R : List (Nat × List Nat)} : QbC n [k, j] R = ((R.all fun e => e.1 != k || e.2.contains n) && R.all fun e => e.1 != j || e.2.contains n) := by simp [QbC]
theorem ZD {P ds : List Nat} {n k : Nat} (h : ds.contains n = true) : ((P.map fun x => (x, ds)).all fun e => e.1 != k || e.2.contains n) = true := by
 rw [List.all_eq_true]
 intro e he
 obtain ⟨x, _, rfl⟩ := List.mem_map.1 he
 rw [h, Bool.or_true]
end Go.Abs
namespace Go.Abs
open Go
theorem Qpt {fr fr1 : List (Nat × D)} {H H1 : List (Nat × Box)} {l lH : List Nat} (kA kR : Nat) (pr' : Bool) {bA bR : Box} {rows' : List (List D)} (hf : Q8 l fr = fr1) (hH : QbI lH H = H1) (hA : lk H kA = some bA) (hR : lk H kR = some bR) (hpA : bA.pr = false) (hp : bR.pr = true)
  (hfz : (bA.rows.map fun r => r.map (D.fzS H (· == kR))) = rows') (hpr : pr' = true -> rows' ≠ [] /\ ∀ r ∈ rows', ∀ d ∈ r, d.sid = []) (hne : kA ≠ kR) (c1 : (fr1.all fun p => !p.2.ids.contains kR) = true) (c2 : (H1.all fun p => p.1 != kR && (p.2.pr || !p.2.ids.contains kR)) = true)
  (hw : wfB ((kA, ⟨rows', bA.esz, bA.et, pr'⟩) :: H1) fr1 = true) (hbk : Qn8 H ((kA, ⟨rows', bA.esz, bA.et, pr'⟩) :: H1) = true) (hk : kR < 1000000 := by decide) : St.le ⟨fr, H⟩ ⟨fr1, (kA, ⟨rows', bA.esz, bA.et, pr'⟩) :: H1⟩ := by
 subst hf hH
 simp only [wfB, Bool.and_eq_true, List.all_eq_true] at hw
 simp only [List.all_eq_true, Bool.not_eq_true', List.contains_eq_mem, decide_eq_false_iff_not] at c1
 simp only [List.all_eq_true, Bool.and_eq_true, Bool.or_eq_true, Bool.not_eq_true', List.contains_eq_mem, decide_eq_false_iff_not, bne_iff_ne, ne_eq] at c2
 have hsome : ∀ j, (lk ((kA, (⟨rows', bA.esz, bA.et, false⟩ : Box)) :: QbI lH H) j).isSome = (lk ((kA, (⟨rows', bA.esz, bA.et, pr'⟩ : Box)) :: QbI lH H) j).isSome := fun j => by
  rw [Qh, Qh]; split <;> rfl
 have hids : ∀ j, j ∈ Box.ids ⟨rows', bA.esz, bA.et, false⟩ -> (lk ((kA, (⟨rows', bA.esz, bA.et, pr'⟩ : Box)) :: QbI lH H) j).isSome = true := fun j hj => by
  cases hc : pr'
  ·rw [hc] at hw; exact hw.2 (kA, ⟨rows', bA.esz, bA.et, false⟩) (by simp) j hj
  ·exfalso
   unfold Box.ids at hj
   simp only [Bool.false_eq_true, if_false] at hj
   obtain ⟨r, hr, hj⟩ := List.mem_flatMap.1 hj
   obtain ⟨d, hd, hj⟩ := List.mem_flatMap.1 hj
   rw [(hpr hc).2 r hr d hd] at hj; cases hj
 have h1 : St.le ⟨fr, H⟩ ⟨Q8 l fr, (kA, ⟨rows', bA.esz, bA.et, false⟩) :: QbI lH H⟩ := by
  refine Qju kR hk (fun t d h => ⟨d, Y0 l fr t d h, QeX fun j hj => ?_⟩) (fun j b h => ?_) (fun t d h j hj => ?_) (fun j b h i hi => ?_) fun j hj hs => ?_
  ·simp only [beq_eq_false_iff_ne, ne_eq]; rintro rfl; exact c1 (t, d) (ZV h) hj
  ·rw [Qh] at h
   split at h
   ·rename_i e; cases h; subst e
    refine ⟨hne, bA, hA, ?_⟩
    unfold Box.fz; rw [if_neg (by rw [hpA]; simp)]
    rw [hfz, hpA]
   ·have := c2 (j, b) (ZV h)
    refine ⟨this.1, b, Qdg lH H j b h, YJ (this.2.imp id fun h3 i hi => ?_)⟩
    simp only [beq_eq_false_iff_ne, ne_eq]; rintro rfl; exact h3 hi
  ·rw [hsome]; exact hw.1 (t, d) (ZV h) j hj
  ·rw [hsome]
   rw [Qh] at h
   split at h
   ·cases h; exact hids i hi
   ·exact hw.2 (j, b) (List.mem_cons_of_mem _ (ZV h)) i hi
  ·rw [hsome]; exact Qgm hbk j hj hs
 cases hc : pr'
 ·exact h1
 ·refine le_trans h1 (le_trans (QgH (k := kA) (by rw [Qh, if_pos rfl]) (hpr hc).1 (hpr hc).2) (QgI ⟨fun _ => rfl, fun j => ?_⟩))
  show lk ((kA, _) :: (kA, _) :: QbI lH H) j = lk ((kA, _) :: QbI lH H) j
  rw [Qh, Qh, Qh]
  split <;> rfl
end Go.Abs
namespace Go.Abs
open Go
theorem Z.{u} {α : Sort u} {a : α} : a = a := rfl
theorem qB : (∀ (p : Prop) [Decidable p], (decide p = true) = p) /\ (∀ (p : Prop) [Decidable p], (decide p = false) ↔ ¬ p) /\ (∀ a b : Bool, ((!a) = b) = (a = !b)) /\ (!true) = false /\ (!false) = true := ⟨fun _ _ => decide_eq_true_eq, fun _ _ => decide_eq_false_iff_not, fun a b => by simp, rfl, rfl⟩
theorem qA : (∀ (p : Prop) [Decidable p], (decide p = true) = p) /\ (∀ (p : Prop) [Decidable p], (decide p = false) ↔ ¬ p) /\ (∀ a b : Bool, ((!a) = b) = (a = !b)) /\ (!true) = false /\ (!false) = true /\ (∀ (α β : Type) (f : α -> β) (l : List α), (l.map f).length = l.length) := ⟨qB.1, qB.2.1, qB.2.2.1, rfl, rfl, fun _ _ _ _ => List.length_map _⟩
theorem qa {p : Prop} [Decidable p] : (decide p = true) = p := decide_eq_true_eq
theorem qb {p : Prop} [Decidable p] : (decide p = false) ↔ ¬ p := decide_eq_false_iff_not
theorem qc {a b : Bool} : ((!a) = b) = (a = !b) := by simp
theorem qd : (!true) = false := rfl
theorem qe : (!false) = true := rfl
section
variable {fr : List (Nat × D)}
theorem kp1 {t0 : Nat} {d0 : D} (h0 : lk fr t0 = some d0) : Q8 [t0] fr = [(t0, d0)] := Qc h0 QP
theorem kp2 {t0 t1 : Nat} {d0 d1 : D} (h0 : lk fr t0 = some d0) (h1 : lk fr t1 = some d1) : Q8 [t0, t1] fr = [(t0, d0), (t1, d1)] := Qc h0 (Qc h1 QP)
theorem kp3 {t0 t1 t2 : Nat} {d0 d1 d2 : D} (h0 : lk fr t0 = some d0) (h1 : lk fr t1 = some d1) (h2 : lk fr t2 = some d2) : Q8 [t0, t1, t2] fr = [(t0, d0), (t1, d1), (t2, d2)] := Qc h0 (Qc h1 (Qc h2 QP))
theorem kp4 {t0 t1 t2 t3 : Nat} {d0 d1 d2 d3 : D} (h0 : lk fr t0 = some d0) (h1 : lk fr t1 = some d1) (h2 : lk fr t2 = some d2) (h3 : lk fr t3 = some d3) : Q8 [t0, t1, t2, t3] fr = [(t0, d0), (t1, d1), (t2, d2), (t3, d3)] := Qc h0 (Qc h1 (Qc h2 (Qc h3 QP)))
theorem kp5 {t0 t1 t2 t3 t4 : Nat} {d0 d1 d2 d3 d4 : D} (h0 : lk fr t0 = some d0) (h1 : lk fr t1 = some d1) (h2 : lk fr t2 = some d2) (h3 : lk fr t3 = some d3) (h4 : lk fr t4 = some d4) : Q8 [t0, t1, t2, t3, t4] fr = [(t0, d0), (t1, d1), (t2, d2), (t3, d3), (t4, d4)] := Qc h0 (Qc h1 (Qc h2 (Qc h3 (Qc h4 QP))))
theorem kp6 {t0 t1 t2 t3 t4 t5 : Nat} {d0 d1 d2 d3 d4 d5 : D} (h0 : lk fr t0 = some d0) (h1 : lk fr t1 = some d1) (h2 : lk fr t2 = some d2) (h3 : lk fr t3 = some d3) (h4 : lk fr t4 = some d4) (h5 : lk fr t5 = some d5) : Q8 [t0, t1, t2, t3, t4, t5] fr = [(t0, d0), (t1, d1), (t2, d2), (t3, d3), (t4, d4), (t5, d5)] := Qc h0 (Qc h1 (Qc h2 (Qc h3 (Qc h4 (Qc h5 QP)))))
theorem kp7 {t0 t1 t2 t3 t4 t5 t6 : Nat} {d0 d1 d2 d3 d4 d5 d6 : D} (h0 : lk fr t0 = some d0) (h1 : lk fr t1 = some d1) (h2 : lk fr t2 = some d2) (h3 : lk fr t3 = some d3) (h4 : lk fr t4 = some d4) (h5 : lk fr t5 = some d5) (h6 : lk fr t6 = some d6) : Q8 [t0, t1, t2, t3, t4, t5, t6] fr = [(t0, d0), (t1, d1), (t2, d2), (t3, d3), (t4, d4), (t5, d5), (t6, d6)] := Qc h0 (Qc h1 (Qc h2 (Qc h3 (Qc h4 (Qc h5 (Qc h6 QP))))))
theorem kp8 {t0 t1 t2 t3 t4 t5 t6 t7 : Nat} {d0 d1 d2 d3 d4 d5 d6 d7 : D} (h0 : lk fr t0 = some d0) (h1 : lk fr t1 = some d1) (h2 : lk fr t2 = some d2) (h3 : lk fr t3 = some d3) (h4 : lk fr t4 = some d4) (h5 : lk fr t5 = some d5) (h6 : lk fr t6 = some d6) (h7 : lk fr t7 = some d7) : Q8 [t0, t1, t2, t3, t4, t5, t6, t7] fr = [(t0, d0), (t1, d1), (t2, d2), (t3, d3), (t4, d4), (t5, d5), (t6, d6), (t7, d7)] := Qc h0 (Qc h1 (Qc h2 (Qc h3 (Qc h4 (Qc h5 (Qc h6 (Qc h7 QP)))))))
theorem kp9 {t0 t1 t2 t3 t4 t5 t6 t7 t8 : Nat} {d0 d1 d2 d3 d4 d5 d6 d7 d8 : D} (h0 : lk fr t0 = some d0) (h1 : lk fr t1 = some d1) (h2 : lk fr t2 = some d2) (h3 : lk fr t3 = some d3) (h4 : lk fr t4 = some d4) (h5 : lk fr t5 = some d5) (h6 : lk fr t6 = some d6) (h7 : lk fr t7 = some d7) (h8 : lk fr t8 = some d8) : Q8 [t0, t1, t2, t3, t4, t5, t6, t7, t8] fr = [(t0, d0), (t1, d1), (t2, d2), (t3, d3), (t4, d4), (t5, d5), (t6, d6), (t7, d7), (t8, d8)] := Qc h0 (Qc h1 (Qc h2 (Qc h3 (Qc h4 (Qc h5 (Qc h6 (Qc h7 (Qc h8 QP))))))))
theorem Qpe {t0 t1 t2 t3 t4 t5 t6 t7 t8 t9 : Nat} {d0 d1 d2 d3 d4 d5 d6 d7 d8 d9 : D} (h0 : lk fr t0 = some d0) (h1 : lk fr t1 = some d1) (h2 : lk fr t2 = some d2) (h3 : lk fr t3 = some d3) (h4 : lk fr t4 = some d4) (h5 : lk fr t5 = some d5) (h6 : lk fr t6 = some d6) (h7 : lk fr t7 = some d7) (h8 : lk fr t8 = some d8) (h9 : lk fr t9 = some d9) : Q8 [t0, t1, t2, t3, t4, t5, t6, t7, t8, t9] fr = [(t0, d0), (t1, d1), (t2, d2), (t3, d3), (t4, d4), (t5, d5), (t6, d6), (t7, d7), (t8, d8), (t9, d9)] := Qc h0 (Qc h1 (Qc h2 (Qc h3 (Qc h4 (Qc h5 (Qc h6 (Qc h7 (Qc h8 (Qc h9 QP)))))))))
theorem kp11 {t0 t1 t2 t3 t4 t5 t6 t7 t8 t9 t10 : Nat} {d0 d1 d2 d3 d4 d5 d6 d7 d8 d9 d10 : D} (h0 : lk fr t0 = some d0) (h1 : lk fr t1 = some d1) (h2 : lk fr t2 = some d2) (h3 : lk fr t3 = some d3) (h4 : lk fr t4 = some d4) (h5 : lk fr t5 = some d5) (h6 : lk fr t6 = some d6) (h7 : lk fr t7 = some d7) (h8 : lk fr t8 = some d8) (h9 : lk fr t9 = some d9) (h10 : lk fr t10 = some d10) : Q8 [t0, t1, t2, t3, t4, t5, t6, t7, t8, t9, t10] fr = [(t0, d0), (t1, d1), (t2, d2), (t3, d3), (t4, d4), (t5, d5), (t6, d6), (t7, d7), (t8, d8), (t9, d9), (t10, d10)] := Qc h0 (Qc h1 (Qc h2 (Qc h3 (Qc h4 (Qc h5 (Qc h6 (Qc h7 (Qc h8 (Qc h9 (Qc h10 QP))))))))))
theorem kp12 {t0 t1 t2 t3 t4 t5 t6 t7 t8 t9 t10 t11 : Nat} {d0 d1 d2 d3 d4 d5 d6 d7 d8 d9 d10 d11 : D} (h0 : lk fr t0 = some d0) (h1 : lk fr t1 = some d1) (h2 : lk fr t2 = some d2) (h3 : lk fr t3 = some d3) (h4 : lk fr t4 = some d4) (h5 : lk fr t5 = some d5) (h6 : lk fr t6 = some d6) (h7 : lk fr t7 = some d7) (h8 : lk fr t8 = some d8) (h9 : lk fr t9 = some d9) (h10 : lk fr t10 = some d10) (h11 : lk fr t11 = some d11) : Q8 [t0, t1, t2, t3, t4, t5, t6, t7, t8, t9, t10, t11] fr = [(t0, d0), (t1, d1), (t2, d2), (t3, d3), (t4, d4), (t5, d5), (t6, d6), (t7, d7), (t8, d8), (t9, d9), (t10, d10), (t11, d11)] := Qc h0 (Qc h1 (Qc h2 (Qc h3 (Qc h4 (Qc h5 (Qc h6 (Qc h7 (Qc h8 (Qc h9 (Qc h10 (Qc h11 QP)))))))))))
theorem kp13 {t0 t1 t2 t3 t4 t5 t6 t7 t8 t9 t10 t11 t12 : Nat} {d0 d1 d2 d3 d4 d5 d6 d7 d8 d9 d10 d11 d12 : D} (h0 : lk fr t0 = some d0) (h1 : lk fr t1 = some d1) (h2 : lk fr t2 = some d2) (h3 : lk fr t3 = some d3) (h4 : lk fr t4 = some d4) (h5 : lk fr t5 = some d5) (h6 : lk fr t6 = some d6) (h7 : lk fr t7 = some d7) (h8 : lk fr t8 = some d8) (h9 : lk fr t9 = some d9) (h10 : lk fr t10 = some d10) (h11 : lk fr t11 = some d11) (h12 : lk fr t12 = some d12) : Q8 [t0, t1, t2, t3, t4, t5, t6, t7, t8, t9, t10, t11, t12] fr = [(t0, d0), (t1, d1), (t2, d2), (t3, d3), (t4, d4), (t5, d5), (t6, d6), (t7, d7), (t8, d8), (t9, d9), (t10, d10), (t11, d11), (t12, d12)] := Qc h0 (Qc h1 (Qc h2 (Qc h3 (Qc h4 (Qc h5 (Qc h6 (Qc h7 (Qc h8 (Qc h9 (Qc h10 (Qc h11 (Qc h12 QP))))))))))))
theorem kp14 {t0 t1 t2 t3 t4 t5 t6 t7 t8 t9 t10 t11 t12 t13 : Nat} {d0 d1 d2 d3 d4 d5 d6 d7 d8 d9 d10 d11 d12 d13 : D} (h0 : lk fr t0 = some d0) (h1 : lk fr t1 = some d1) (h2 : lk fr t2 = some d2) (h3 : lk fr t3 = some d3) (h4 : lk fr t4 = some d4) (h5 : lk fr t5 = some d5) (h6 : lk fr t6 = some d6) (h7 : lk fr t7 = some d7) (h8 : lk fr t8 = some d8) (h9 : lk fr t9 = some d9) (h10 : lk fr t10 = some d10) (h11 : lk fr t11 = some d11) (h12 : lk fr t12 = some d12) (h13 : lk fr t13 = some d13) : Q8 [t0, t1, t2, t3, t4, t5, t6, t7, t8, t9, t10, t11, t12, t13] fr = [(t0, d0), (t1, d1), (t2, d2), (t3, d3), (t4, d4), (t5, d5), (t6, d6), (t7, d7), (t8, d8), (t9, d9), (t10, d10), (t11, d11), (t12, d12), (t13, d13)] := Qc h0 (Qc h1 (Qc h2 (Qc h3 (Qc h4 (Qc h5 (Qc h6 (Qc h7 (Qc h8 (Qc h9 (Qc h10 (Qc h11 (Qc h12 (Qc h13 QP)))))))))))))
theorem kp15 {t0 t1 t2 t3 t4 t5 t6 t7 t8 t9 t10 t11 t12 t13 t14 : Nat} {d0 d1 d2 d3 d4 d5 d6 d7 d8 d9 d10 d11 d12 d13 d14 : D} (h0 : lk fr t0 = some d0) (h1 : lk fr t1 = some d1) (h2 : lk fr t2 = some d2) (h3 : lk fr t3 = some d3) (h4 : lk fr t4 = some d4) (h5 : lk fr t5 = some d5) (h6 : lk fr t6 = some d6) (h7 : lk fr t7 = some d7) (h8 : lk fr t8 = some d8) (h9 : lk fr t9 = some d9) (h10 : lk fr t10 = some d10) (h11 : lk fr t11 = some d11) (h12 : lk fr t12 = some d12) (h13 : lk fr t13 = some d13) (h14 : lk fr t14 = some d14) : Q8 [t0, t1, t2, t3, t4, t5, t6, t7, t8, t9, t10, t11, t12, t13, t14] fr = [(t0, d0), (t1, d1), (t2, d2), (t3, d3), (t4, d4), (t5, d5), (t6, d6), (t7, d7), (t8, d8), (t9, d9), (t10, d10), (t11, d11), (t12, d12), (t13, d13), (t14, d14)] := Qc h0 (Qc h1 (Qc h2 (Qc h3 (Qc h4 (Qc h5 (Qc h6 (Qc h7 (Qc h8 (Qc h9 (Qc h10 (Qc h11 (Qc h12 (Qc h13 (Qc h14 QP))))))))))))))
theorem kp16 {t0 t1 t2 t3 t4 t5 t6 t7 t8 t9 t10 t11 t12 t13 t14 t15 : Nat} {d0 d1 d2 d3 d4 d5 d6 d7 d8 d9 d10 d11 d12 d13 d14 d15 : D} (h0 : lk fr t0 = some d0) (h1 : lk fr t1 = some d1) (h2 : lk fr t2 = some d2) (h3 : lk fr t3 = some d3) (h4 : lk fr t4 = some d4) (h5 : lk fr t5 = some d5) (h6 : lk fr t6 = some d6) (h7 : lk fr t7 = some d7) (h8 : lk fr t8 = some d8) (h9 : lk fr t9 = some d9) (h10 : lk fr t10 = some d10) (h11 : lk fr t11 = some d11) (h12 : lk fr t12 = some d12) (h13 : lk fr t13 = some d13) (h14 : lk fr t14 = some d14) (h15 : lk fr t15 = some d15) : Q8 [t0, t1, t2, t3, t4, t5, t6, t7, t8, t9, t10, t11, t12, t13, t14, t15] fr = [(t0, d0), (t1, d1), (t2, d2), (t3, d3), (t4, d4), (t5, d5), (t6, d6), (t7, d7), (t8, d8), (t9, d9), (t10, d10), (t11, d11), (t12, d12), (t13, d13), (t14, d14), (t15, d15)] := Qc h0 (Qc h1 (Qc h2 (Qc h3 (Qc h4 (Qc h5 (Qc h6 (Qc h7 (Qc h8 (Qc h9 (Qc h10 (Qc h11 (Qc h12 (Qc h13 (Qc h14 (Qc h15 QP)))))))))))))))
theorem kp17 {t0 t1 t2 t3 t4 t5 t6 t7 t8 t9 t10 t11 t12 t13 t14 t15 t16 : Nat} {d0 d1 d2 d3 d4 d5 d6 d7 d8 d9 d10 d11 d12 d13 d14 d15 d16 : D} (h0 : lk fr t0 = some d0) (h1 : lk fr t1 = some d1) (h2 : lk fr t2 = some d2) (h3 : lk fr t3 = some d3) (h4 : lk fr t4 = some d4) (h5 : lk fr t5 = some d5) (h6 : lk fr t6 = some d6) (h7 : lk fr t7 = some d7) (h8 : lk fr t8 = some d8) (h9 : lk fr t9 = some d9) (h10 : lk fr t10 = some d10) (h11 : lk fr t11 = some d11) (h12 : lk fr t12 = some d12) (h13 : lk fr t13 = some d13) (h14 : lk fr t14 = some d14) (h15 : lk fr t15 = some d15) (h16 : lk fr t16 = some d16) : Q8 [t0, t1, t2, t3, t4, t5, t6, t7, t8, t9, t10, t11, t12, t13, t14, t15, t16] fr = [(t0, d0), (t1, d1), (t2, d2), (t3, d3), (t4, d4), (t5, d5), (t6, d6), (t7, d7), (t8, d8), (t9, d9), (t10, d10), (t11, d11), (t12, d12), (t13, d13), (t14, d14), (t15, d15), (t16, d16)] := Qc h0 (Qc h1 (Qc h2 (Qc h3 (Qc h4 (Qc h5 (Qc h6 (Qc h7 (Qc h8 (Qc h9 (Qc h10 (Qc h11 (Qc h12 (Qc h13 (Qc h14 (Qc h15 (Qc h16 QP))))))))))))))))
theorem kp18 {t0 t1 t2 t3 t4 t5 t6 t7 t8 t9 t10 t11 t12 t13 t14 t15 t16 t17 : Nat} {d0 d1 d2 d3 d4 d5 d6 d7 d8 d9 d10 d11 d12 d13 d14 d15 d16 d17 : D} (h0 : lk fr t0 = some d0) (h1 : lk fr t1 = some d1) (h2 : lk fr t2 = some d2) (h3 : lk fr t3 = some d3) (h4 : lk fr t4 = some d4) (h5 : lk fr t5 = some d5) (h6 : lk fr t6 = some d6) (h7 : lk fr t7 = some d7) (h8 : lk fr t8 = some d8) (h9 : lk fr t9 = some d9) (h10 : lk fr t10 = some d10) (h11 : lk fr t11 = some d11) (h12 : lk fr t12 = some d12) (h13 : lk fr t13 = some d13) (h14 : lk fr t14 = some d14) (h15 : lk fr t15 = some d15) (h16 : lk fr t16 = some d16) (h17 : lk fr t17 = some d17) : Q8 [t0, t1, t2, t3, t4, t5, t6, t7, t8, t9, t10, t11, t12, t13, t14, t15, t16, t17] fr = [(t0, d0), (t1, d1), (t2, d2), (t3, d3), (t4, d4), (t5, d5), (t6, d6), (t7, d7), (t8, d8), (t9, d9), (t10, d10), (t11, d11), (t12, d12), (t13, d13), (t14, d14), (t15, d15), (t16, d16), (t17, d17)] := Qc h0 (Qc h1 (Qc h2 (Qc h3 (Qc h4 (Qc h5 (Qc h6 (Qc h7 (Qc h8 (Qc h9 (Qc h10 (Qc h11 (Qc h12 (Qc h13 (Qc h14 (Qc h15 (Qc h16 (Qc h17 QP)))))))))))))))))
theorem kp19 {t0 t1 t2 t3 t4 t5 t6 t7 t8 t9 t10 t11 t12 t13 t14 t15 t16 t17 t18 : Nat} {d0 d1 d2 d3 d4 d5 d6 d7 d8 d9 d10 d11 d12 d13 d14 d15 d16 d17 d18 : D} (h0 : lk fr t0 = some d0) (h1 : lk fr t1 = some d1) (h2 : lk fr t2 = some d2) (h3 : lk fr t3 = some d3) (h4 : lk fr t4 = some d4) (h5 : lk fr t5 = some d5) (h6 : lk fr t6 = some d6) (h7 : lk fr t7 = some d7) (h8 : lk fr t8 = some d8) (h9 : lk fr t9 = some d9) (h10 : lk fr t10 = some d10) (h11 : lk fr t11 = some d11) (h12 : lk fr t12 = some d12) (h13 : lk fr t13 = some d13) (h14 : lk fr t14 = some d14) (h15 : lk fr t15 = some d15) (h16 : lk fr t16 = some d16) (h17 : lk fr t17 = some d17) (h18 : lk fr t18 = some d18) : Q8 [t0, t1, t2, t3, t4, t5, t6, t7, t8, t9, t10, t11, t12, t13, t14, t15, t16, t17, t18] fr = [(t0, d0), (t1, d1), (t2, d2), (t3, d3), (t4, d4), (t5, d5), (t6, d6), (t7, d7), (t8, d8), (t9, d9), (t10, d10), (t11, d11), (t12, d12), (t13, d13), (t14, d14), (t15, d15), (t16, d16), (t17, d17), (t18, d18)] := Qc h0 (Qc h1 (Qc h2 (Qc h3 (Qc h4 (Qc h5 (Qc h6 (Qc h7 (Qc h8 (Qc h9 (Qc h10 (Qc h11 (Qc h12 (Qc h13 (Qc h14 (Qc h15 (Qc h16 (Qc h17 (Qc h18 QP))))))))))))))))))
theorem kp20 {t0 t1 t2 t3 t4 t5 t6 t7 t8 t9 t10 t11 t12 t13 t14 t15 t16 t17 t18 t19 : Nat} {d0 d1 d2 d3 d4 d5 d6 d7 d8 d9 d10 d11 d12 d13 d14 d15 d16 d17 d18 d19 : D} (h0 : lk fr t0 = some d0) (h1 : lk fr t1 = some d1) (h2 : lk fr t2 = some d2) (h3 : lk fr t3 = some d3) (h4 : lk fr t4 = some d4) (h5 : lk fr t5 = some d5) (h6 : lk fr t6 = some d6) (h7 : lk fr t7 = some d7) (h8 : lk fr t8 = some d8) (h9 : lk fr t9 = some d9) (h10 : lk fr t10 = some d10) (h11 : lk fr t11 = some d11) (h12 : lk fr t12 = some d12) (h13 : lk fr t13 = some d13) (h14 : lk fr t14 = some d14) (h15 : lk fr t15 = some d15) (h16 : lk fr t16 = some d16) (h17 : lk fr t17 = some d17) (h18 : lk fr t18 = some d18) (h19 : lk fr t19 = some d19) : Q8 [t0, t1, t2, t3, t4, t5, t6, t7, t8, t9, t10, t11, t12, t13, t14, t15, t16, t17, t18, t19] fr = [(t0, d0), (t1, d1), (t2, d2), (t3, d3), (t4, d4), (t5, d5), (t6, d6), (t7, d7), (t8, d8), (t9, d9), (t10, d10), (t11, d11), (t12, d12), (t13, d13), (t14, d14), (t15, d15), (t16, d16), (t17, d17), (t18, d18), (t19, d19)] := Qc h0 (Qc h1 (Qc h2 (Qc h3 (Qc h4 (Qc h5 (Qc h6 (Qc h7 (Qc h8 (Qc h9 (Qc h10 (Qc h11 (Qc h12 (Qc h13 (Qc h14 (Qc h15 (Qc h16 (Qc h17 (Qc h18 (Qc h19 QP)))))))))))))))))))
theorem kp21 {t0 t1 t2 t3 t4 t5 t6 t7 t8 t9 t10 t11 t12 t13 t14 t15 t16 t17 t18 t19 t20 : Nat} {d0 d1 d2 d3 d4 d5 d6 d7 d8 d9 d10 d11 d12 d13 d14 d15 d16 d17 d18 d19 d20 : D} (h0 : lk fr t0 = some d0) (h1 : lk fr t1 = some d1) (h2 : lk fr t2 = some d2) (h3 : lk fr t3 = some d3) (h4 : lk fr t4 = some d4) (h5 : lk fr t5 = some d5) (h6 : lk fr t6 = some d6) (h7 : lk fr t7 = some d7) (h8 : lk fr t8 = some d8) (h9 : lk fr t9 = some d9) (h10 : lk fr t10 = some d10) (h11 : lk fr t11 = some d11) (h12 : lk fr t12 = some d12) (h13 : lk fr t13 = some d13) (h14 : lk fr t14 = some d14) (h15 : lk fr t15 = some d15) (h16 : lk fr t16 = some d16) (h17 : lk fr t17 = some d17) (h18 : lk fr t18 = some d18) (h19 : lk fr t19 = some d19) (h20 : lk fr t20 = some d20) : Q8 [t0, t1, t2, t3, t4, t5, t6, t7, t8, t9, t10, t11, t12, t13, t14, t15, t16, t17, t18, t19, t20] fr = [(t0, d0), (t1, d1), (t2, d2), (t3, d3), (t4, d4), (t5, d5), (t6, d6), (t7, d7), (t8, d8), (t9, d9), (t10, d10), (t11, d11), (t12, d12), (t13, d13), (t14, d14), (t15, d15), (t16, d16), (t17, d17), (t18, d18), (t19, d19), (t20, d20)] := Qc h0 (Qc h1 (Qc h2 (Qc h3 (Qc h4 (Qc h5 (Qc h6 (Qc h7 (Qc h8 (Qc h9 (Qc h10 (Qc h11 (Qc h12 (Qc h13 (Qc h14 (Qc h15 (Qc h16 (Qc h17 (Qc h18 (Qc h19 (Qc h20 QP))))))))))))))))))))
theorem kp22 {t0 t1 t2 t3 t4 t5 t6 t7 t8 t9 t10 t11 t12 t13 t14 t15 t16 t17 t18 t19 t20 t21 : Nat} {d0 d1 d2 d3 d4 d5 d6 d7 d8 d9 d10 d11 d12 d13 d14 d15 d16 d17 d18 d19 d20 d21 : D} (h0 : lk fr t0 = some d0) (h1 : lk fr t1 = some d1) (h2 : lk fr t2 = some d2) (h3 : lk fr t3 = some d3) (h4 : lk fr t4 = some d4) (h5 : lk fr t5 = some d5) (h6 : lk fr t6 = some d6) (h7 : lk fr t7 = some d7) (h8 : lk fr t8 = some d8) (h9 : lk fr t9 = some d9) (h10 : lk fr t10 = some d10) (h11 : lk fr t11 = some d11) (h12 : lk fr t12 = some d12) (h13 : lk fr t13 = some d13) (h14 : lk fr t14 = some d14) (h15 : lk fr t15 = some d15) (h16 : lk fr t16 = some d16) (h17 : lk fr t17 = some d17) (h18 : lk fr t18 = some d18) (h19 : lk fr t19 = some d19) (h20 : lk fr t20 = some d20) (h21 : lk fr t21 = some d21) : Q8 [t0, t1, t2, t3, t4, t5, t6, t7, t8, t9, t10, t11, t12, t13, t14, t15, t16, t17, t18, t19, t20, t21] fr = [(t0, d0), (t1, d1), (t2, d2), (t3, d3), (t4, d4), (t5, d5), (t6, d6), (t7, d7), (t8, d8), (t9, d9), (t10, d10), (t11, d11), (t12, d12), (t13, d13), (t14, d14), (t15, d15), (t16, d16), (t17, d17), (t18, d18), (t19, d19), (t20, d20), (t21, d21)] := Qc h0 (Qc h1 (Qc h2 (Qc h3 (Qc h4 (Qc h5 (Qc h6 (Qc h7 (Qc h8 (Qc h9 (Qc h10 (Qc h11 (Qc h12 (Qc h13 (Qc h14 (Qc h15 (Qc h16 (Qc h17 (Qc h18 (Qc h19 (Qc h20 (Qc h21 QP)))))))))))))))))))))
theorem kp23 {t0 t1 t2 t3 t4 t5 t6 t7 t8 t9 t10 t11 t12 t13 t14 t15 t16 t17 t18 t19 t20 t21 t22 : Nat} {d0 d1 d2 d3 d4 d5 d6 d7 d8 d9 d10 d11 d12 d13 d14 d15 d16 d17 d18 d19 d20 d21 d22 : D} (h0 : lk fr t0 = some d0) (h1 : lk fr t1 = some d1) (h2 : lk fr t2 = some d2) (h3 : lk fr t3 = some d3) (h4 : lk fr t4 = some d4) (h5 : lk fr t5 = some d5) (h6 : lk fr t6 = some d6) (h7 : lk fr t7 = some d7) (h8 : lk fr t8 = some d8) (h9 : lk fr t9 = some d9) (h10 : lk fr t10 = some d10) (h11 : lk fr t11 = some d11) (h12 : lk fr t12 = some d12) (h13 : lk fr t13 = some d13) (h14 : lk fr t14 = some d14) (h15 : lk fr t15 = some d15) (h16 : lk fr t16 = some d16) (h17 : lk fr t17 = some d17) (h18 : lk fr t18 = some d18) (h19 : lk fr t19 = some d19) (h20 : lk fr t20 = some d20) (h21 : lk fr t21 = some d21) (h22 : lk fr t22 = some d22) : Q8 [t0, t1, t2, t3, t4, t5, t6, t7, t8, t9, t10, t11, t12, t13, t14, t15, t16, t17, t18, t19, t20, t21, t22] fr = [(t0, d0), (t1, d1), (t2, d2), (t3, d3), (t4, d4), (t5, d5), (t6, d6), (t7, d7), (t8, d8), (t9, d9), (t10, d10), (t11, d11), (t12, d12), (t13, d13), (t14, d14), (t15, d15), (t16, d16), (t17, d17), (t18, d18), (t19, d19), (t20, d20), (t21, d21), (t22, d22)] := Qc h0 (Qc h1 (Qc h2 (Qc h3 (Qc h4 (Qc h5 (Qc h6 (Qc h7 (Qc h8 (Qc h9 (Qc h10 (Qc h11 (Qc h12 (Qc h13 (Qc h14 (Qc h15 (Qc h16 (Qc h17 (Qc h18 (Qc h19 (Qc h20 (Qc h21 (Qc h22 QP))))))))))))))))))))))
theorem kp24 {t0 t1 t2 t3 t4 t5 t6 t7 t8 t9 t10 t11 t12 t13 t14 t15 t16 t17 t18 t19 t20 t21 t22 t23 : Nat} {d0 d1 d2 d3 d4 d5 d6 d7 d8 d9 d10 d11 d12 d13 d14 d15 d16 d17 d18 d19 d20 d21 d22 d23 : D} (h0 : lk fr t0 = some d0) (h1 : lk fr t1 = some d1) (h2 : lk fr t2 = some d2) (h3 : lk fr t3 = some d3) (h4 : lk fr t4 = some d4) (h5 : lk fr t5 = some d5) (h6 : lk fr t6 = some d6) (h7 : lk fr t7 = some d7) (h8 : lk fr t8 = some d8) (h9 : lk fr t9 = some d9) (h10 : lk fr t10 = some d10) (h11 : lk fr t11 = some d11) (h12 : lk fr t12 = some d12) (h13 : lk fr t13 = some d13) (h14 : lk fr t14 = some d14) (h15 : lk fr t15 = some d15) (h16 : lk fr t16 = some d16) (h17 : lk fr t17 = some d17) (h18 : lk fr t18 = some d18) (h19 : lk fr t19 = some d19) (h20 : lk fr t20 = some d20) (h21 : lk fr t21 = some d21) (h22 : lk fr t22 = some d22) (h23 : lk fr t23 = some d23) : Q8 [t0, t1, t2, t3, t4, t5, t6, t7, t8, t9, t10, t11, t12, t13, t14, t15, t16, t17, t18, t19, t20, t21, t22, t23] fr = [(t0, d0), (t1, d1), (t2, d2), (t3, d3), (t4, d4), (t5, d5), (t6, d6), (t7, d7), (t8, d8), (t9, d9), (t10, d10), (t11, d11), (t12, d12), (t13, d13), (t14, d14), (t15, d15), (t16, d16), (t17, d17), (t18, d18), (t19, d19), (t20, d20), (t21, d21), (t22, d22), (t23, d23)] := Qc h0 (Qc h1 (Qc h2 (Qc h3 (Qc h4 (Qc h5 (Qc h6 (Qc h7 (Qc h8 (Qc h9 (Qc h10 (Qc h11 (Qc h12 (Qc h13 (Qc h14 (Qc h15 (Qc h16 (Qc h17 (Qc h18 (Qc h19 (Qc h20 (Qc h21 (Qc h22 (Qc h23 QP)))))))))))))))))))))))
end
end Go.Abs
namespace Go.Proofs
open Go Go.Abs
set_option maxRecDepth 100000
abbrev oo (t : Nat) (op : AOp) : AOper := ⟨some t,op,none⟩
abbrev om (t x : Nat) : AOper := ⟨some t,.mov (.s x),none⟩
abbrev oL (t n x : Nat) : AOper := ⟨some t,.load true n (.s x),none⟩
abbrev ol (t n x : Nat) : AOper := ⟨some t,.load false n (.s x),none⟩
abbrev oA (t n x : Nat) : AOper := ⟨some t,.fieldAddr n (.s x),none⟩
abbrev oe (t n x : Nat) : AOper := ⟨some t,.extract n (.s x),none⟩
abbrev oT (t g : Nat) (op : AOp) : AOper := ⟨some t,op,some (g,true)⟩
abbrev oF (t g : Nat) (op : AOp) : AOper := ⟨some t,op,some (g,false)⟩
def tf3 : TFn := ⟨81,[.tmp 12],.seq (.region false [oo 12 (.mov (.c (.bool false)))]) [0,1,2,3,4,5] (.seq (.seq (.region false [om 16 1,oo 17 (.call 6 [(.s 16)]),oo 18 (.un .not (.s 17)),om 19 18,oF 20 19 (.mov (.s 2)),oF 21 19 (.len (.s 20)),oF 22 19 (.bin .gtr false (.s 21) (.c (.int .i64 60))),
 oo 23 (.pick (.s 19) (.c (.bool true)) (.s 22))]) [0,1,2,3,4,5,23] (.cond (.s 23) (.seq (.region false [oo 24 (.call 7 []),om 12 24]) [12] (.ret)) (.skip))) [0,1,2,3,4,5] (.seq (.region false [om 25 0,oo 26 (.call 8 [(.s 25),(.c (.int .i64 4))]),oo 13 (.alloc 28 [(.fsl [])]),
 ⟨none,.store 1 (.s 13) (.s 26),none⟩]) [1,2,3,4,5,13] (.seq (.region true [oL 27 1 13,om 28 2,oo 29 (.call 10 [(.s 28)]),oo 30 (.call 9 [(.s 27),(.s 29)]),om 14 30]) [1,3,4,5,13,14] (.seq (.region false [om 31 3,om 32 14,oo 33 (.len (.s 32)),oo 34 (.call 11 [(.s 31),(.s 33)]),
 om 15 34]) [1,3,4,5,13,14,15] (.seq (.seq (.region false [om 35 5,oo 36 (.call 11 [(.s 35),(.c (.int .i64 3))]),oo 37 (.bin .eql false (.s 36) (.c (.int .i64 0)))]) [1,3,4,13,14,15,37] (.cond (.s 37) (.region false [om 38 14,om 39 15,om 40 14,om 41 15,oo 42 (.indexAddr 1 (.s 40) (.s 41)),
 ol 43 1 42,om 44 4,oo 45 (.buildSlice 1 3 [(.s 44)]),oo 46 (.append 1 3 8 (.s 43) (.s 45)),oo 47 (.indexAddr 1 (.s 38) (.s 39)),⟨none,.store 1 (.s 47) (.s 46),none⟩]) (.region true [om 48 14,om 49 15,oo 50 (.indexAddr 1 (.s 48) (.s 49)),ol 51 1 50,om 52 3,
 oo 53 (.bin .quo false (.s 52) (.c (.int .i64 7))),om 54 14,om 55 15,oo 56 (.indexAddr 1 (.s 54) (.s 55)),ol 57 1 56,oo 58 (.len (.s 57)),oo 59 (.call 11 [(.s 53),(.s 58)]),om 60 4,oo 61 (.indexAddr 1 (.s 51) (.s 59)),⟨none,.store 1 (.s 61) (.s 60),none⟩]))) [1,13,14] (.seq (
 .region true [oL 62 1 13,om 63 1,oo 64 (.call 12 [(.s 62),(.s 63)]),oL 65 1 13,om 66 1,oo 67 (.call 13 [(.s 65),(.s 66)]),oo 68 (.bin .eql true (.s 64) (.s 67)),om 69 68,oT 70 69 (.load true 1 (.s 13)),oT 71 69 (.mov (.s 14)),oT 72 69 (.call 12 [(.s 70),(.s 71)]),oT 73 69 (.load true 1 (.s 13)),
 oT 74 69 (.mov (.s 14)),oT 75 69 (.call 13 [(.s 73),(.s 74)]),oT 76 69 (.bin .eql true (.s 72) (.s 75)),oo 77 (.pick (.s 69) (.s 76) (.c (.bool false))),om 78 77,oT 79 78 (.call 7 []),oo 80 (.pick (.s 78) (.s 79) (.c (.bool false))),om 12 80]) [12] (.ret)))))))⟩
def tf6 : TFn := ⟨23,[.tmp 2],.seq (.region false [oo 2 (.mov (.c (.bool false)))]) [0] (.seq (.seq (.region false [oo 3 (.mov (.c (.int .i64 0)))]) [0,3] (.block 0 (.loop (.seq (.seq (.region false [om 4 3,om 5 0,oo 6 (.len (.s 5)),oo 7 (.bin .lss false (.s 4) (.s 6)),om 8 7,oT 9 8 (.mov (.s 3)),
 oT 10 8 (.bin .lss false (.s 9) (.c (.int .i64 60))),oo 11 (.pick (.s 8) (.s 10) (.c (.bool false)))]) [0,3,11] (.cond (.s 11) (.skip) (.exit 0))) [0,3] (.seq (.block 1 (.seq (.region false [om 14 0,om 15 3,oo 16 (.indexAddr 1 (.s 14) (.s 15)),ol 17 1 16,oo 18 (.len (.s 17)),
 oo 19 (.bin .gtr false (.s 18) (.c (.int .i64 40)))]) [0,3,19] (.cond (.s 19) (.seq (.region false [oo 2 (.mov (.c (.bool false)))]) [2] (.ret)) (.skip)))) [0,3] (.region false [om 12 3,oo 13 (.bin .add false (.s 12) (.c (.int .i64 1))),om 3 13])))))) [0] (.seq (.region false [om 20 0,
 oo 21 (.len (.s 20)),oo 22 (.bin .lss false (.s 21) (.c (.int .i64 60))),om 2 22]) [2] (.ret)))⟩
def tf7 : TFn := ⟨59,[.tmp 0],.seq (.region false [oo 0 (.mov (.c (.bool false)))]) [] (.seq (.region false [oo 5 (.call 23 []),om 1 5]) [1] (.seq (
 .region true [oo 6 (.build [(.int .i64 0),(.int .i64 0),(.int .i64 0),(.str []),(.str []),(.int .i64 0),(.fsl []),(.fsl [])] [(5,1,(.c (.int .i64 (-1))))]),oo 7 (.buildSlice 8 53 [(.s 6)]),oo 8 (.build [(.str []),(.str []),(.fsl [])] [(2,1,(.s 7))]),om 9 1,
 oo 10 (.indexAddr 5 (.s 9) (.c (.int .i64 0))),oL 11 5 10,oo 12 (.build [(.int .i64 0),(.int .i64 0),(.int .i64 0),(.str []),(.str []),(.int .i64 0),(.fsl []),(.fsl [])] [(0,5,(.s 11))]),om 13 1,oo 14 (.indexAddr 5 (.s 13) (.c (.int .i64 1))),oL 15 5 14,
 oo 16 (.build [(.int .i64 0),(.int .i64 0),(.int .i64 0),(.str []),(.str []),(.int .i64 0),(.fsl []),(.fsl [])] [(0,5,(.s 15))]),om 17 1,oo 18 (.indexAddr 5 (.s 17) (.c (.int .i64 3))),oL 19 5 18,
 oo 20 (.build [(.int .i64 0),(.int .i64 0),(.int .i64 0),(.str []),(.str []),(.int .i64 0),(.fsl []),(.fsl [])] [(0,5,(.s 19))]),oo 21 (.buildSlice 8 53 [(.s 12),(.s 16),(.s 20)]),oo 22 (.build [(.str []),(.str []),(.fsl [])] [(0,1,(.c (.str [97,110,116]))),(2,1,(.s 21))]),
 oo 23 (.buildSlice 3 45 [(.s 8),(.s 22)]),oo 24 (.build [(.fsl [])] [(0,1,(.s 23))]),oo 2 (.alloc 28 [(.fsl [])]),⟨none,.store 1 (.s 2) (.s 24),none⟩]) [1,2] (.seq (.region true [oL 25 1 2,om 26 1,oo 27 (.indexAddr 5 (.s 26) (.c (.int .i64 1))),oL 28 5 27,
 oo 29 (.build [(.str []),(.int .i64 0),(.int .i64 0),(.int .i64 0),(.str []),(.str []),(.str []),(.int .u64 0),(.fsl [])] [(0,1,(.c (.str [97,110,116]))),(1,5,(.s 28))]),oo 30 (.buildSlice 9 57 [(.s 29)]),oo 31 (.build [(.str []),(.str []),(.str []),(.fsl [])] [(3,1,(.s 30))]),
 oo 32 (.call 14 [(.s 25),(.s 31)]),om 3 32]) [2,3] (.seq (.region false [oL 33 1 2,oo 34 (.buildSlice 1 9 [(.c (.str [97,110,116]))]),oo 35 (.call 21 [(.s 33),(.s 34)]),om 4 35]) [2,3,4] (.seq (.region false [om 36 3,oo 37 (.buildSlice 1 3 [(.c (.int .i64 0)),(.c (.int .i64 0))]),
 oo 38 (.buildSlice 1 3 [(.c (.int .i64 0)),(.c (.int .i64 4)),(.c (.int .i64 0)),(.c (.int .i64 2))]),oo 39 (.buildSlice 1 22 [(.s 37),(.s 38)]),oo 40 (.call 24 [(.s 36),(.s 39)]),om 41 40,oT 42 41 (.mov (.s 4)),oT 43 41 (.buildSlice 1 3 [(.c (.int .i64 0)),(.c (.int .i64 0))]),
 oT 44 41 (.buildSlice 1 3 [(.c (.int .i64 3)),(.c (.int .i64 2)),(.c (.int .i64 1)),(.c (.int .i64 0))]),oT 45 41 (.buildSlice 1 22 [(.s 43),(.s 44)]),oT 46 41 (.call 24 [(.s 42),(.s 45)]),oo 47 (.pick (.s 41) (.s 46) (.c (.bool false))),om 48 47,oT 49 48 (.mov (.s 3)),
 oT 50 48 (.buildSlice 1 3 [(.c (.int .i64 0)),(.c (.int .i64 2))]),oT 51 48 (.call 19 [(.s 49),(.s 50)]),oT 52 48 (.bin .eql false (.s 51) (.c (.int .i64 2))),oo 53 (.pick (.s 48) (.s 52) (.c (.bool false))),om 54 53,oT 55 54 (.load true 1 (.s 2)),oT 56 54 (.mov (.s 3)),
 oT 57 54 (.call 12 [(.s 55),(.s 56)]),oo 58 (.pick (.s 54) (.s 57) (.c (.bool false))),om 0 58]) [0] (.ret))))))⟩
def tf8 : TFn := ⟨90,[.cell 4 true 1],.seq (.region false [oo 4 (.alloc 28 [(.fsl [])])]) [0,1,4] (.seq (.region false [om 10 0,oo 11 (.build [(.fsl []),(.int .i64 0)] [(0,1,(.s 10))]),oo 12 (.box 68 (.s 11)),om 5 12]) [1,4,5] (.seq (.region false [om 13 5,om 14 1,
 oo 15 (.call 25 [(.s 13),(.s 14)]),om 6 15]) [4,5,6] (.seq (.region true [om 16 6,oo 17 (.indexAddr 3 (.s 16) (.c (.int .i64 0))),oA 18 2 17,ol 19 1 18,om 20 5,om 21 6,oo 22 (.call 26 [(.s 20),(.s 21),(.c (.int .i64 3))]),oo 23 (.indexAddr 8 (.s 19) (.c (.int .i64 0))),oA 24 6 23,
 ⟨none,.store 1 (.s 24) (.s 22),none⟩]) [4,5,6] (.seq (.seq (.region false [oo 7 (.mov (.c (.int .i64 1)))]) [4,5,6,7] (.block 0 (.loop (.seq (.seq (.region false [om 25 7,om 26 6,oo 27 (.len (.s 26)),oo 28 (.bin .lss false (.s 25) (.s 27))]) [4,5,6,7,28] (.cond (.s 28) (.skip) (
 .exit 0))) [4,5,6,7] (.seq (.block 1 (.seq (.region false [oo 8 (.mov (.c (.int .i64 0)))]) [4,5,6,7,8] (.block 2 (.loop (.seq (.seq (.region false [om 31 8,om 32 6,om 33 7,oo 34 (.indexAddr 3 (.s 32) (.s 33)),oA 35 2 34,ol 36 1 35,oo 37 (.len (.s 36)),
 oo 38 (.bin .lss false (.s 31) (.s 37))]) [4,5,6,7,8,38] (.cond (.s 38) (.skip) (.exit 2))) [4,5,6,7,8] (.seq (.block 3 (.seq (.region false [om 41 6,om 42 7,oo 43 (.indexAddr 3 (.s 41) (.s 42)),oA 44 2 43,ol 45 1 44,om 46 8,oo 47 (.indexAddr 8 (.s 45) (.s 46)),om 9 47]) [4,5,6,7,8,9] (.seq (
 .seq (.region false [om 48 6,om 49 7,oo 50 (.indexAddr 3 (.s 48) (.s 49)),oA 51 1 50,ol 52 1 51,oo 53 (.bin .neq false (.s 52) (.c (.str [])))]) [4,5,6,7,8,9,53] (.cond (.s 53) (.region false [om 54 9,om 55 7,oo 56 (.bin .sub false (.s 55) (.c (.int .i64 1))),om 57 9,oo 58 (.nilCheck (.s 57)),
 oA 59 0 58,oL 60 5 59,oo 61 (.call 27 [(.s 60)]),oo 62 (.build [(.int .i64 0),(.fsl []),(.fsl [])] [(0,1,(.s 56)),(1,2,(.s 61))]),oo 63 (.buildSlice 3 77 [(.s 62)]),oo 64 (.buildSlice 1 51 [(.s 63)]),oo 65 (.nilCheck (.s 54)),oA 66 6 65,⟨none,.store 1 (.s 66) (.s 64),none⟩]) (
 .skip))) [4,5,6,7,8,9] (.seq (.region true [om 67 9,om 68 9,oo 69 (.nilCheck (.s 68)),oA 70 6 69,ol 71 1 70,om 72 5,om 73 6,oo 74 (.call 26 [(.s 72),(.s 73),(.c (.int .i64 2))]),oo 75 (.append 1 51 24 (.s 71) (.s 74)),oo 76 (.nilCheck (.s 67)),oA 77 6 76,
 ⟨none,.store 1 (.s 77) (.s 75),none⟩]) [4,5,6,7,8,9] (.seq (.region false [om 78 5,oo 79 (.call 28 [(.s 78),(.c (.int .i64 4))]),oo 80 (.bin .eql false (.s 79) (.c (.int .i64 0)))]) [4,5,6,7,8,9,80] (.cond (.s 80) (.region false [om 81 9,om 82 5,om 83 6,oo 84 (.call 29 [(.s 82),(.s 83)]),
 oo 85 (.buildSlice 3 77 [(.s 84)]),oo 86 (.nilCheck (.s 81)),oA 87 7 86,⟨none,.store 1 (.s 87) (.s 85),none⟩]) (.skip))))))) [4,5,6,7,8] (.region false [om 39 8,oo 40 (.bin .add false (.s 39) (.c (.int .i64 1))),om 8 40]))))))) [4,5,6,7] (.region false [om 29 7,
 oo 30 (.bin .add false (.s 29) (.c (.int .i64 1))),om 7 30])))))) [4,6] (.seq (.region false [om 88 6,oo 89 (.build [(.fsl [])] [(0,1,(.s 88))]),⟨none,.store 1 (.s 4) (.s 89),none⟩]) [4] (.ret))))))⟩
def tf9 : TFn := ⟨78,[.tmp 4],.seq (.region false [oo 2 (.box 28 (.s 0)),oo 3 (.box 36 (.s 1)),oo 4 (.mov (.c (.fsl [])))]) [2,3] (.seq (.region false [oo 5 (.mov (.c (.fsl [])))]) [2,3,5] (.seq (.seq (.region false [oo 6 (.mov (.c (.int .i64 0)))]) [2,3,5,6] (.block 0 (.loop (.seq (.seq (
 .region false [om 11 6,oA 12 0 2,ol 13 1 12,oo 14 (.len (.s 13)),oo 15 (.bin .lss false (.s 11) (.s 14))]) [2,3,5,6,15] (.cond (.s 15) (.skip) (.exit 0))) [2,3,5,6] (.seq (.block 1 (.seq (.region false [oA 18 0 2,ol 19 1 18,om 20 6,oo 21 (.indexAddr 3 (.s 19) (.s 20)),oL 22 3 21,
 oo 7 (.alloc 45 [(.str []),(.str []),(.fsl [])]),⟨none,.store 3 (.s 7) (.s 22),none⟩]) [2,3,5,6,7] (.seq (.region false [oA 23 2 7,ol 24 1 23,oo 25 (.len (.s 24)),oo 26 (.bin .add false (.s 25) (.c (.int .i64 1))),oo 27 (.makeSlice 1 3 8 [(.int .i64 0)] (.s 26) (.s 26)),om 8 27]) [2,3,5,6,7,8] (
 .seq (.region false [oL 28 4 3,oA 29 0 7,ol 30 1 29,oo 31 (.call 17 [(.s 28),(.s 30)]),om 9 31]) [2,3,5,6,7,8,9] (.seq (.seq (.region false [oo 10 (.mov (.c (.int .i64 0)))]) [2,3,5,6,7,8,9,10] (.block 2 (.loop (.seq (.seq (.region false [om 32 10,om 33 8,oo 34 (.len (.s 33)),
 oo 35 (.bin .lss false (.s 32) (.s 34)),om 36 35,oT 37 36 (.mov (.s 6)),oT 38 36 (.bin .gtr false (.s 37) (.c (.int .i64 0))),oo 39 (.pick (.s 36) (.s 38) (.c (.bool false))),om 40 39,oT 41 40 (.fieldAddr 1 (.s 7)),oT 42 40 (.load false 1 (.s 41)),oT 43 40 (.bin .eql false (.s 42) (.c (.str []))),
 oo 44 (.pick (.s 40) (.s 43) (.c (.bool false)))]) [2,3,5,6,7,8,9,10,44] (.cond (.s 44) (.skip) (.exit 2))) [2,3,5,6,7,8,9,10] (.seq (.block 3 (.block 4 (.seq (.region false [om 65 10,oo 66 (.bin .eql false (.s 65) (.c (.int .i64 0))),om 64 66]) [2,3,5,6,7,8,9,10,64] (.cond (.s 64) (.skip) (.seq (
 .region false [om 68 9,oo 69 (.bin .lss false (.s 68) (.c (.int .i64 0))),om 67 69]) [2,3,5,6,7,8,9,10,67] (.cond (.s 67) (.region false [om 70 8,om 71 10,oo 72 (.indexAddr 1 (.s 70) (.s 71)),⟨none,.store 1 (.s 72) (.c (.int .i64 1)),none⟩]) (.region true [om 47 8,om 48 10,oA 49 2 7,ol 50 1 49,
 om 51 10,oo 52 (.bin .sub false (.s 51) (.c (.int .i64 1))),oo 53 (.indexAddr 8 (.s 50) (.s 52)),oA 54 0 53,oL 55 5 54,oA 56 3 3,ol 57 1 56,om 58 9,oo 59 (.indexAddr 9 (.s 57) (.s 58)),oA 60 1 59,oL 61 5 60,oo 62 (.call 30 [(.s 55),(.s 61)]),oo 63 (.indexAddr 1 (.s 47) (.s 48)),
 ⟨none,.store 1 (.s 63) (.s 62),none⟩]))))))) [2,3,5,6,7,8,9,10] (.region false [om 45 10,oo 46 (.bin .add false (.s 45) (.c (.int .i64 1))),om 10 46])))))) [2,3,5,6,8] (.region false [om 73 5,om 74 8,oo 75 (.buildSlice 1 22 [(.s 74)]),oo 76 (.append 1 22 24 (.s 73) (.s 75)),
 om 5 76])))))) [2,3,5,6] (.region false [om 16 6,oo 17 (.bin .add false (.s 16) (.c (.int .i64 1))),om 6 17])))))) [5] (.seq (.region false [om 77 5,om 4 77]) [4] (.ret))))⟩
def tf10 : TFn := ⟨72,[.cell 2 true 4],.seq (.region false [oo 2 (.alloc 36 [(.str []),(.str []),(.str []),(.fsl [])])]) [0,2] (.seq (.region false [om 7 0,oo 8 (.build [(.fsl []),(.int .i64 0)] [(0,1,(.s 7))]),oo 9 (.box 68 (.s 8)),om 3 9]) [2,3] (.seq (.region false [om 10 3,
 oo 11 (.call 28 [(.s 10),(.c (.int .i64 3))]),oo 12 (.call 31 [(.s 11)]),oo 13 (.build [(.str []),(.str []),(.str []),(.fsl [])] [(0,3,(.s 12))]),oo 4 (.alloc 36 [(.str []),(.str []),(.str []),(.fsl [])]),⟨none,.store 4 (.s 4) (.s 13),none⟩]) [2,3,4] (.seq (.seq (
 .region false [oo 5 (.mov (.c (.int .i64 0)))]) [2,3,4,5] (.block 0 (.loop (.seq (.seq (.region false [om 14 5,oo 15 (.bin .lss false (.s 14) (.c (.int .i64 4)))]) [2,3,4,5,15] (.cond (.s 15) (.skip) (.exit 0))) [2,3,4,5] (.seq (.block 1 (.seq (.seq (.region false [om 18 3,
 oo 19 (.call 28 [(.s 18),(.c (.int .i64 3))]),oo 20 (.bin .eql false (.s 19) (.c (.int .i64 0)))]) [2,3,4,5,20] (.cond (.s 20) (.exit 1) (.skip))) [2,3,4,5] (.seq (.region true [oo 21 (.call 20 []),om 22 5,oo 23 (.indexAddr 1 (.s 21) (.s 22)),ol 24 1 23,oo 25 (.call 23 []),om 26 3,
 oo 27 (.call 28 [(.s 26),(.c (.int .i64 4))]),oo 28 (.indexAddr 5 (.s 25) (.s 27)),oL 29 5 28,oo 30 (.buildSlice 1 9 [(.c (.str [109,97,105,110])),(.c (.str [115,105,100,101])),(.c (.str []))]),om 31 3,oo 32 (.call 28 [(.s 31),(.c (.int .i64 3))]),oo 33 (.indexAddr 1 (.s 30) (.s 32)),ol 34 1 33,
 om 35 3,oo 36 (.call 28 [(.s 35),(.c (.int .i64 1073741824))]),oo 37 (.conv .u64 (.s 36)),oo 38 (.build [(.str []),(.int .i64 0),(.int .i64 0),(.int .i64 0),(.str []),(.str []),(.str []),(.int .u64 0),(.fsl [])] [(0,1,(.s 24)),(1,5,(.s 29)),(6,1,(.s 34)),(7,1,(.s 37))]),
 oo 6 (.alloc 57 [(.str []),(.int .i64 0),(.int .i64 0),(.int .i64 0),(.str []),(.str []),(.str []),(.int .u64 0),(.fsl [])]),⟨none,.store 9 (.s 6) (.s 38),none⟩]) [2,3,4,5,6] (.seq (.seq (.region false [oA 39 6 6,ol 40 1 39,oo 41 (.bin .eql false (.s 40) (.c (.str []))),om 42 41,
 oT 43 42 (.mov (.s 3)),oT 44 42 (.call 28 [(.s 43),(.c (.int .i64 9))]),oT 45 42 (.bin .gtr false (.s 44) (.c (.int .i64 0))),oo 46 (.pick (.s 42) (.s 45) (.c (.bool false)))]) [2,3,4,5,6,46] (.cond (.s 46) (.region false [oA 47 7 6,⟨none,.store 1 (.s 47) (.c (.int .u64 0)),none⟩]) (
 .skip))) [2,3,4,5,6] (.seq (.seq (.region false [om 48 3,oo 49 (.call 28 [(.s 48),(.c (.int .i64 4))])]) [2,3,4,5,6,49] (.block 2 (.seq (.region false [oo 51 (.bin .eql false (.s 49) (.c (.int .i64 0))),om 50 51]) [2,3,4,5,6,49,50] (.cond (.s 50) (
 .region false [oo 52 (.buildSlice 1 9 [(.c (.str [100,101,102,97,117,108,116]))]),oA 53 8 6,⟨none,.store 1 (.s 53) (.s 52),none⟩]) (.seq (.region false [oo 55 (.bin .eql false (.s 49) (.c (.int .i64 1))),om 54 55]) [2,3,4,5,6,49,54] (.cond (.s 54) (
 .region false [oo 56 (.buildSlice 1 9 [(.c (.str [100,101,102,97,117,108,116])),(.c (.str [102]))]),oA 57 8 6,⟨none,.store 1 (.s 57) (.s 56),none⟩]) (.seq (.region false [oo 59 (.bin .eql false (.s 49) (.c (.int .i64 2))),om 58 59]) [2,3,4,5,6,58] (.cond (.s 58) (
 .region false [oo 60 (.buildSlice 1 9 [(.c (.str [102])),(.c (.str [100,101,102,97,117,108,116]))]),om 61 3,oo 62 (.call 28 [(.s 61),(.c (.int .i64 2))]),oo 63 (.slice 1 (.s 60) (some (.s 62)) none none),oA 64 8 6,⟨none,.store 1 (.s 64) (.s 63),none⟩]) (.skip))))))))) [2,3,4,5,6] (
 .region false [oA 65 3 4,ol 66 1 65,oL 67 9 6,oo 68 (.buildSlice 9 57 [(.s 67)]),oo 69 (.append 9 57 120 (.s 66) (.s 68)),oA 70 3 4,⟨none,.store 1 (.s 70) (.s 69),none⟩])))))) [2,3,4,5] (.region false [om 16 5,oo 17 (.bin .add false (.s 16) (.c (.int .i64 1))),om 5 17])))))) [2,4] (.seq (
 .region false [oL 71 4 4,⟨none,.store 4 (.s 2) (.s 71),none⟩]) [2] (.ret)))))⟩
def tf11 : TFn := ⟨17,[.tmp 4],.seq (.region false [oo 4 (.mov (.c (.int .i64 0)))]) [0,1] (.seq (.seq (.region false [om 6 1,oo 7 (.bin .lss false (.s 6) (.c (.int .i64 1)))]) [0,1,7] (.cond (.s 7) (.seq (.region false [oo 4 (.mov (.c (.int .i64 0)))]) [4] (.ret)) (.skip))) [0,1] (.seq (
 .region false [om 8 0,om 9 1,oo 10 (.bin .rem false (.s 8) (.s 9)),om 5 10]) [1,5] (.seq (.seq (.region false [om 11 5,oo 12 (.bin .lss false (.s 11) (.c (.int .i64 0)))]) [1,5,12] (.cond (.s 12) (.seq (.region false [om 13 5,om 14 1,oo 15 (.bin .add false (.s 13) (.s 14)),om 4 15]) [4] (.ret)) (
 .skip))) [5] (.seq (.region false [om 16 5,om 4 16]) [4] (.ret)))))⟩
def tf12 : TFn := ⟨9,[.tmp 4],.seq (.region false [oo 2 (.box 28 (.s 0)),oo 4 (.mov (.c (.bool false)))]) [1,2] (.seq (.region false [om 5 1,oA 6 0 2,ol 7 1 6,oo 8 (.call 32 [(.s 5),(.s 7),(.c (.clo 33 []))]),om 4 8]) [4] (.ret))⟩
def tf13 : TFn := ⟨60,[.tmp 4],.seq (.region false [oo 2 (.box 28 (.s 0)),oo 4 (.mov (.c (.bool false)))]) [1,2] (.seq (.seq (.region false [om 7 1,oo 8 (.len (.s 7)),oA 9 0 2,ol 10 1 9,oo 11 (.len (.s 10)),oo 12 (.bin .neq false (.s 8) (.s 11))]) [1,2,12] (.cond (.s 12) (.seq (
 .region false [oo 4 (.mov (.c (.bool false)))]) [4] (.ret)) (.skip))) [1,2] (.seq (.seq (.region false [oo 5 (.mov (.c (.int .i64 0)))]) [1,2,5] (.block 0 (.loop (.seq (.seq (.region false [om 13 5,om 14 1,oo 15 (.len (.s 14)),oo 16 (.bin .lss false (.s 13) (.s 15))]) [1,2,5,16] (.cond (.s 16) (
 .skip) (.exit 0))) [1,2,5] (.seq (.block 1 (.seq (.seq (.region true [om 19 1,om 20 5,oo 21 (.indexAddr 1 (.s 19) (.s 20)),ol 22 1 21,oo 23 (.len (.s 22)),oA 24 0 2,ol 25 1 24,om 26 5,oo 27 (.indexAddr 3 (.s 25) (.s 26)),oA 28 2 27,ol 29 1 28,oo 30 (.len (.s 29)),
 oo 31 (.bin .add false (.s 30) (.c (.int .i64 1))),oo 32 (.bin .neq false (.s 23) (.s 31))]) [1,2,5,32] (.cond (.s 32) (.seq (.region false [oo 4 (.mov (.c (.bool false)))]) [4] (.ret)) (.skip))) [1,2,5] (.seq (.region false [oo 6 (.mov (.c (.int .i64 0)))]) [1,2,5,6] (.block 2 (.loop (.seq (
 .seq (.region false [om 33 6,om 34 1,om 35 5,oo 36 (.indexAddr 1 (.s 34) (.s 35)),ol 37 1 36,oo 38 (.len (.s 37)),oo 39 (.bin .lss false (.s 33) (.s 38))]) [1,2,5,6,39] (.cond (.s 39) (.skip) (.exit 2))) [1,2,5,6] (.seq (.block 3 (.seq (.region false [om 42 1,om 43 5,
 oo 44 (.indexAddr 1 (.s 42) (.s 43)),ol 45 1 44,om 46 6,oo 47 (.indexAddr 1 (.s 45) (.s 46)),ol 48 1 47,oo 49 (.bin .lss false (.s 48) (.c (.int .i64 0))),om 50 49,oF 51 50 (.mov (.s 1)),oF 52 50 (.mov (.s 5)),oF 53 50 (.indexAddr 1 (.s 51) (.s 52)),oF 54 50 (.load false 1 (.s 53)),
 oF 55 50 (.mov (.s 6)),oF 56 50 (.indexAddr 1 (.s 54) (.s 55)),oF 57 50 (.load false 1 (.s 56)),oF 58 50 (.bin .gtr false (.s 57) (.c (.int .i64 1048576))),oo 59 (.pick (.s 50) (.c (.bool true)) (.s 58))]) [1,2,5,6,59] (.cond (.s 59) (.seq (.region false [oo 4 (.mov (.c (.bool false)))]) [4] (
 .ret)) (.skip)))) [1,2,5,6] (.region false [om 40 6,oo 41 (.bin .add false (.s 40) (.c (.int .i64 1))),om 6 41])))))))) [1,2,5] (.region false [om 17 5,oo 18 (.bin .add false (.s 17) (.c (.int .i64 1))),om 5 18])))))) [] (.seq (.region false [oo 4 (.mov (.c (.bool true)))]) [4] (.ret))))⟩
def tf14 : TFn := ⟨12,[.tmp 4],.seq (.region false [oo 2 (.box 28 (.s 0)),oo 3 (.box 36 (.s 1)),oo 4 (.mov (.c (.fsl [])))]) [2,3] (.seq (.region false [oo 5 (.mov (.c (.clo 36 [])))]) [2,3,5] (.seq (.region false [oo 6 (.mov (.c (.clo 37 [])))]) [2,3,5,6] (.seq (.region false [oL 7 1 2,om 8 5,
 om 9 6,oo 10 (.mkfn 39 [(.s 3)]),oo 11 (.call 38 [(.s 7),(.s 8),(.s 9),(.s 10)]),om 4 11]) [4] (.ret))))⟩
def tf17 : TFn := ⟨22,[.tmp 4],.seq (.region false [oo 2 (.box 36 (.s 0)),oo 4 (.mov (.c (.int .i64 0)))]) [1,2] (.seq (.seq (.region false [oo 5 (.mov (.c (.int .i64 0)))]) [1,2,5] (.block 0 (.loop (.seq (.seq (.region false [om 6 5,oA 7 3 2,ol 8 1 7,oo 9 (.len (.s 8)),
 oo 10 (.bin .lss false (.s 6) (.s 9))]) [1,2,5,10] (.cond (.s 10) (.skip) (.exit 0))) [1,2,5] (.seq (.block 1 (.seq (.region false [oA 13 3 2,ol 14 1 13,om 15 5,oo 16 (.indexAddr 9 (.s 14) (.s 15)),oA 17 0 16,ol 18 1 17,om 19 1,oo 20 (.bin .eql false (.s 18) (.s 19))]) [1,2,5,20] (.cond (.s 20) (
 .seq (.region false [om 21 5,om 4 21]) [4] (.ret)) (.skip)))) [1,2,5] (.region false [om 11 5,oo 12 (.bin .add false (.s 11) (.c (.int .i64 1))),om 5 12])))))) [] (.seq (.region false [oo 4 (.mov (.c (.int .i64 (-1))))]) [4] (.ret)))⟩
def tf18 : TFn := ⟨45,[.tmp 4],.seq (.region false [oo 2 (.box 49 (.s 0)),oo 3 (.box 49 (.s 1)),oo 4 (.mov (.c (.int .i64 0)))]) [2,3] (.seq (.seq (.region false [oL 8 5 2,oo 9 (.call 42 [(.s 8)]),oo 10 (.un .not (.s 9)),om 11 10,oF 12 11 (.load true 5 (.s 3)),oF 13 11 (.call 42 [(.s 12)]),
 oF 14 11 (.un .not (.s 13)),oo 15 (.pick (.s 11) (.c (.bool true)) (.s 14))]) [2,3,15] (.cond (.s 15) (.seq (.region false [oo 4 (.mov (.c (.int .i64 0)))]) [4] (.ret)) (.skip))) [2,3] (.seq (.seq (.region false [oA 16 0 2,ol 17 1 16,oA 18 0 3,ol 19 1 18,oo 20 (.call 43 [(.s 17),(.s 19)]),
 om 5 20]) [2,3,5] (.seq (.region false [om 21 5,oo 22 (.bin .neq false (.s 21) (.c (.int .i64 0)))]) [2,3,5,22] (.cond (.s 22) (.seq (.region false [om 23 5,om 4 23]) [4] (.ret)) (.skip)))) [2,3] (.seq (.seq (.region false [oA 24 1 2,ol 25 1 24,oA 26 1 3,ol 27 1 26,
 oo 28 (.call 43 [(.s 25),(.s 27)]),om 6 28]) [2,3,6] (.seq (.region false [om 29 6,oo 30 (.bin .neq false (.s 29) (.c (.int .i64 0)))]) [2,3,6,30] (.cond (.s 30) (.seq (.region false [om 31 6,om 4 31]) [4] (.ret)) (.skip)))) [2,3] (.seq (.seq (.region false [oA 32 2 2,ol 33 1 32,oA 34 2 3,
 ol 35 1 34,oo 36 (.call 43 [(.s 33),(.s 35)]),om 7 36]) [2,3,7] (.seq (.region false [om 37 7,oo 38 (.bin .neq false (.s 37) (.c (.int .i64 0)))]) [2,3,7,38] (.cond (.s 38) (.seq (.region false [om 39 7,om 4 39]) [4] (.ret)) (.skip)))) [2,3] (.seq (.region false [oA 40 3 2,ol 41 1 40,oA 42 3 3,
 ol 43 1 42,oo 44 (.call 44 [(.s 41),(.s 43)]),om 4 44]) [4] (.ret))))))⟩
def tf19 : TFn := ⟨45,[.tmp 4],.seq (.region false [oo 4 (.mov (.c (.int .i64 0)))]) [0,1] (.seq (.region false [oo 5 (.mov (.c (.int .i64 0)))]) [0,1,5] (.seq (.seq (.region false [om 8 1,oo 9 (.len (.s 8)),oo 10 (.mov (.c (.int .i64 0)))]) [0,5,8,9,10] (.block 0 (.loop (.seq (
 .region false [oo 11 (.bin .lss false (.s 10) (.s 9))]) [0,5,8,9,10,11] (.seq (.cond (.s 11) (.skip) (.exit 0)) [0,5,8,9,10] (.seq (.block 1 (.seq (.region false [om 12 10,oo 13 (.indexAddr 1 (.s 8) (.s 10)),ol 14 1 13,om 6 12,om 7 14]) [0,5,6,7,8,9,10] (.seq (.region false [om 15 6,om 16 0,
 oo 17 (.len (.s 16)),oo 18 (.bin .lss false (.s 15) (.s 17)),om 19 18,oT 20 19 (.mov (.s 7)),oT 21 19 (.bin .geq false (.s 20) (.c (.int .i64 (-1)))),oo 22 (.pick (.s 19) (.s 21) (.c (.bool false))),om 23 22,oT 24 23 (.mov (.s 7)),oT 25 23 (.mov (.s 0)),oT 26 23 (.mov (.s 6)),
 oT 27 23 (.indexAddr 1 (.s 25) (.s 26)),oT 28 23 (.load false 1 (.s 27)),oT 29 23 (.len (.s 28)),oT 30 23 (.bin .sub false (.s 29) (.c (.int .i64 1))),oT 31 23 (.bin .lss false (.s 24) (.s 30)),oo 32 (.pick (.s 23) (.s 31) (.c (.bool false)))]) [0,5,6,7,8,9,10,32] (.cond (.s 32) (
 .region false [om 33 5,om 34 0,om 35 6,oo 36 (.indexAddr 1 (.s 34) (.s 35)),ol 37 1 36,om 38 7,oo 39 (.bin .add false (.s 38) (.c (.int .i64 1))),oo 40 (.indexAddr 1 (.s 37) (.s 39)),ol 41 1 40,oo 42 (.bin .add false (.s 33) (.s 41)),om 5 42]) (.skip))))) [0,5,8,9,10] (
 .region false [oo 43 (.bin .add false (.s 10) (.c (.int .i64 1))),om 10 43]))))))) [5] (.seq (.region false [om 44 5,om 4 44]) [4] (.ret))))⟩
def tf20 : TFn := ⟨2,[.tmp 0],.seq (.region false [oo 0 (.mov (.c (.fsl [])))]) [] (.seq (.region false [oo 1 (.buildSlice 1 9 [(.c (.str [97,110,116])),(.c (.str [98,101,101])),(.c (.str [99,111,119])),(.c (.str [100,111,103]))]),om 0 1]) [0] (.ret))⟩
def tf21 : TFn := ⟨12,[.tmp 4],.seq (.region false [oo 2 (.box 28 (.s 0)),oo 3 (.box 55 (.s 1)),oo 4 (.mov (.c (.fsl [])))]) [2,3] (.seq (.region false [oo 7 (.mkfn 45 [(.s 3)]),om 5 7]) [2,5] (.seq (.region false [oo 6 (.mov (.c (.clo 47 [])))]) [2,5,6] (.seq (.region false [oL 8 1 2,om 9 5,
 om 10 6,oo 11 (.call 38 [(.s 8),(.s 9),(.s 10),(.c (.clo 48 []))]),om 4 11]) [4] (.ret))))⟩
def tf23 : TFn := ⟨6,[.tmp 0],.seq (.region false [oo 0 (.mov (.c (.fsl [])))]) [] (.seq (.region false [oo 1 (.build [(.int .i64 0),(.int .i64 0),(.int .i64 0),(.str []),(.str [])] [(0,1,(.c (.int .i64 1)))]),
 oo 2 (.build [(.int .i64 0),(.int .i64 0),(.int .i64 0),(.str []),(.str [])] [(0,1,(.c (.int .i64 1))),(1,1,(.c (.int .i64 2)))]),oo 3 (.build [(.int .i64 0),(.int .i64 0),(.int .i64 0),(.str []),(.str [])] [(0,1,(.c (.int .i64 2))),(3,1,(.c (.str [97,46,49])))]),
 oo 4 (.build [(.int .i64 0),(.int .i64 0),(.int .i64 0),(.str []),(.str [])] [(0,1,(.c (.int .i64 2)))]),oo 5 (.buildSlice 5 49 [(.s 1),(.s 2),(.s 3),(.s 4)]),om 0 5]) [0] (.ret))⟩
def tf24 : TFn := ⟨27,[.tmp 4],.seq (.region false [oo 4 (.mov (.c (.bool false)))]) [0,1] (.seq (.seq (.region false [om 6 0,oo 7 (.len (.s 6)),om 8 1,oo 9 (.len (.s 8)),oo 10 (.bin .neq false (.s 7) (.s 9))]) [0,1,10] (.cond (.s 10) (.seq (.region false [oo 4 (.mov (.c (.bool false)))]) [4] (
 .ret)) (.skip))) [0,1] (.seq (.seq (.region false [oo 5 (.mov (.c (.int .i64 0)))]) [0,1,5] (.block 0 (.loop (.seq (.seq (.region false [om 11 5,om 12 0,oo 13 (.len (.s 12)),oo 14 (.bin .lss false (.s 11) (.s 13))]) [0,1,5,14] (.cond (.s 14) (.skip) (.exit 0))) [0,1,5] (.seq (.block 1 (.seq (
 .region true [om 17 0,om 18 5,oo 19 (.indexAddr 1 (.s 17) (.s 18)),ol 20 1 19,om 21 1,om 22 5,oo 23 (.indexAddr 1 (.s 21) (.s 22)),ol 24 1 23,oo 25 (.call 52 [(.s 20),(.s 24)]),oo 26 (.un .not (.s 25))]) [0,1,5,26] (.cond (.s 26) (.seq (.region false [oo 4 (.mov (.c (.bool false)))]) [4] (.ret)) (
 .skip)))) [0,1,5] (.region false [om 15 5,oo 16 (.bin .add false (.s 15) (.c (.int .i64 1))),om 5 16])))))) [] (.seq (.region false [oo 4 (.mov (.c (.bool true)))]) [4] (.ret))))⟩
def tf25 : TFn := ⟨100,[.tmp 4],.seq (.region false [oo 4 (.mov (.c (.fsl [])))]) [0,1] (.seq (.region false [oo 14 (.buildSlice 1 9 [(.c (.str [97,110,116])),(.c (.str [98,101,101])),(.c (.str [99,111,119])),(.c (.str [100,111,103])),(.c (.str [101,108,107]))]),om 5 14]) [0,1,5] (.seq (
 .region false [oo 15 (.build [(.int .i64 0),(.int .i64 0),(.int .i64 0),(.str []),(.str []),(.int .i64 0),(.fsl []),(.fsl [])] [(5,1,(.c (.int .i64 (-1))))]),oo 16 (.buildSlice 8 53 [(.s 15)]),oo 17 (.build [(.str []),(.str []),(.fsl [])] [(2,1,(.s 16))]),oo 18 (.buildSlice 3 45 [(.s 17)]),
 om 6 18]) [0,1,5,6] (.seq (.region false [oo 19 (.call 23 []),om 7 19]) [0,1,5,6,7] (.seq (.seq (.region false [oo 8 (.mov (.c (.int .i64 0)))]) [0,1,5,6,7,8] (.block 0 (.loop (.seq (.seq (.region false [om 20 8,om 21 0,om 22 1,oo 23 (.call 28 [(.s 21),(.s 22)]),
 oo 24 (.bin .add false (.c (.int .i64 1)) (.s 23)),oo 25 (.bin .lss false (.s 20) (.s 24)),om 26 25,oT 27 26 (.mov (.s 8)),oT 28 26 (.mov (.s 5)),oT 29 26 (.len (.s 28)),oT 30 26 (.bin .lss false (.s 27) (.s 29)),oo 31 (.pick (.s 26) (.s 30) (.c (.bool false)))]) [0,1,5,6,7,8,31] (.cond (.s 31) (
 .skip) (.exit 0))) [0,1,5,6,7,8] (.seq (.block 1 (.seq (.region false [oo 9 (.mov (.c (.fsl [])))]) [0,1,5,6,7,8,9] (.seq (.region false [om 34 0,oo 35 (.call 28 [(.s 34),(.c (.int .i64 16))]),om 10 35]) [0,1,5,6,7,8,9,10] (.seq (.seq (
 .region false [oo 11 (.mov (.c (.int .i64 0)))]) [0,1,5,6,7,8,9,10,11] (.block 2 (.loop (.seq (.seq (.region false [om 36 11,om 37 7,oo 38 (.len (.s 37)),oo 39 (.bin .lss false (.s 36) (.s 38))]) [0,1,5,6,7,8,9,10,11,39] (.cond (.s 39) (.skip) (.exit 2))) [0,1,5,6,7,8,9,10,11] (.seq (.block 3 (
 .seq (.region false [om 42 10,om 43 11,oo 44 (.conv .u64 (.s 43)),oo 45 (.bin .shr false (.s 42) (.s 44)),oo 46 (.bin .and false (.s 45) (.c (.int .i64 1))),oo 47 (.bin .eql false (.s 46) (.c (.int .i64 1)))]) [0,1,5,6,7,8,9,10,11,47] (.cond (.s 47) (.region false [om 48 9,om 49 7,om 50 11,
 oo 51 (.indexAddr 5 (.s 49) (.s 50)),oL 52 5 51,oo 53 (.build [(.int .i64 0),(.int .i64 0),(.int .i64 0),(.str []),(.str []),(.int .i64 0),(.fsl []),(.fsl [])] [(0,5,(.s 52))]),oo 54 (.buildSlice 8 53 [(.s 53)]),oo 55 (.append 8 53 112 (.s 48) (.s 54)),om 9 55]) (.skip)))) [0,1,5,6,7,8,9,10,11] (
 .region false [om 40 11,oo 41 (.bin .add false (.s 40) (.c (.int .i64 1))),om 11 41])))))) [0,1,5,6,7,8,9] (.seq (.region false [om 56 6,om 57 5,om 58 8,oo 59 (.indexAddr 1 (.s 57) (.s 58)),ol 60 1 59,om 61 9,oo 62 (.build [(.str []),(.str []),(.fsl [])] [(0,1,(.s 60)),(2,1,(.s 61))]),
 oo 63 (.buildSlice 3 45 [(.s 62)]),oo 64 (.append 3 45 56 (.s 56) (.s 63)),om 6 64]) [0,1,5,6,7,8,9] (.seq (.region false [om 65 8,oo 66 (.bin .lss false (.s 65) (.c (.int .i64 2))),om 67 66,oT 68 67 (.mov (.s 0)),oT 69 67 (.call 28 [(.s 68),(.c (.int .i64 3))]),
 oT 70 67 (.bin .eql false (.s 69) (.c (.int .i64 0))),oo 71 (.pick (.s 67) (.s 70) (.c (.bool false)))]) [0,1,5,6,7,8,9,71] (.cond (.s 71) (.seq (.region false [oo 12 (.mov (.c (.fsl [])))]) [0,1,5,6,7,8,9,12] (.seq (.seq (.region false [oo 13 (.mov (.c (.int .i64 0)))]) [0,1,5,6,7,8,9,12,13] (
 .block 4 (.loop (.seq (.seq (.region false [om 72 13,om 73 9,oo 74 (.len (.s 73)),oo 75 (.bin .lss false (.s 72) (.s 74))]) [0,1,5,6,7,8,9,12,13,75] (.cond (.s 75) (.skip) (.exit 4))) [0,1,5,6,7,8,9,12,13] (.seq (.block 5 (.seq (.region false [om 78 0,oo 79 (.call 28 [(.s 78),(.c (.int .i64 3))]),
 oo 80 (.bin .gtr false (.s 79) (.c (.int .i64 0)))]) [0,1,5,6,7,8,9,12,13,80] (.cond (.s 80) (.region false [om 81 12,om 82 9,om 83 13,oo 84 (.indexAddr 8 (.s 82) (.s 83)),oA 85 0 84,oL 86 5 85,
 oo 87 (.build [(.int .i64 0),(.int .i64 0),(.int .i64 0),(.str []),(.str []),(.int .i64 0),(.fsl []),(.fsl [])] [(0,5,(.s 86))]),oo 88 (.buildSlice 8 53 [(.s 87)]),oo 89 (.append 8 53 112 (.s 81) (.s 88)),om 12 89]) (.skip)))) [0,1,5,6,7,8,9,12,13] (.region false [om 76 13,
 oo 77 (.bin .add false (.s 76) (.c (.int .i64 1))),om 13 77])))))) [0,1,5,6,7,8,12] (.region false [om 90 6,om 91 5,om 92 8,oo 93 (.indexAddr 1 (.s 91) (.s 92)),ol 94 1 93,om 95 12,oo 96 (.build [(.str []),(.str []),(.fsl [])] [(0,1,(.s 94)),(1,1,(.c (.str [102]))),(2,1,(.s 95))]),
 oo 97 (.buildSlice 3 45 [(.s 96)]),oo 98 (.append 3 45 56 (.s 90) (.s 97)),om 6 98]))) (.skip)))))))) [0,1,5,6,7,8] (.region false [om 32 8,oo 33 (.bin .add false (.s 32) (.c (.int .i64 1))),om 8 33])))))) [6] (.seq (.region false [om 99 6,om 4 99]) [4] (.ret))))))⟩
def tf26 : TFn := ⟨36,[.tmp 6],.seq (.region false [oo 6 (.mov (.c (.fsl [])))]) [0,1,2] (.seq (.region false [oo 7 (.mov (.c (.fsl [])))]) [0,1,2,7] (.seq (.seq (.region false [om 10 0,om 11 2,oo 12 (.bin .add false (.s 11) (.c (.int .i64 1))),oo 13 (.call 28 [(.s 10),(.s 12)]),
 om 8 13]) [0,1,7,8] (.block 0 (.loop (.seq (.seq (.region false [om 14 8,oo 15 (.bin .gtr false (.s 14) (.c (.int .i64 0)))]) [0,1,7,8,15] (.cond (.s 15) (.skip) (.exit 0))) [0,1,7,8] (.seq (.block 1 (.seq (.region false [om 18 0,om 19 1,oo 20 (.call 29 [(.s 18),(.s 19)]),
 oo 21 (.buildSlice 3 77 [(.s 20)]),om 9 21]) [0,1,7,8,9] (.seq (.seq (.region false [om 22 0,oo 23 (.call 28 [(.s 22),(.c (.int .i64 3))]),oo 24 (.bin .eql false (.s 23) (.c (.int .i64 0)))]) [0,1,7,8,9,24] (.cond (.s 24) (.region false [om 25 9,om 26 0,om 27 1,oo 28 (.call 29 [(.s 26),(.s 27)]),
 oo 29 (.buildSlice 3 77 [(.s 28)]),oo 30 (.append 3 77 56 (.s 25) (.s 29)),om 9 30]) (.skip))) [0,1,7,8,9] (.region false [om 31 7,om 32 9,oo 33 (.buildSlice 1 51 [(.s 32)]),oo 34 (.append 1 51 24 (.s 31) (.s 33)),om 7 34])))) [0,1,7,8] (.region false [om 16 8,
 oo 17 (.bin .sub false (.s 16) (.c (.int .i64 1))),om 8 17])))))) [7] (.seq (.region false [om 35 7,om 6 35]) [6] (.ret))))⟩
def tf27 : TFn := ⟨24,[.cell 2 true 2],.seq (.region false [oo 1 (.box 49 (.s 0)),oo 2 (.alloc 74 [(.fsl []),(.fsl [])])]) [1,2] (.seq (.seq (.region false [oL 3 5 1,oo 4 (.call 42 [(.s 3)]),oo 5 (.un .not (.s 4))]) [1,2,5] (.cond (.s 5) (.seq (.region false [oo 6 (.call 53 []),
 ⟨none,.store 2 (.s 2) (.s 6),none⟩]) [2] (.ret)) (.skip))) [1,2] (.seq (.seq (.region false [oA 7 3 1,ol 8 1 7,oo 9 (.bin .neq false (.s 8) (.c (.str [])))]) [1,2,9] (.cond (.s 9) (.seq (.region true [oL 10 5 1,oo 11 (.call 54 [(.s 10)]),oL 12 5 1,oo 13 (.call 55 [(.s 12)]),
 oo 14 (.build [(.int .i64 0),(.int .i64 0),(.int .i64 0),(.int .i64 0),(.str []),(.str []),(.bool false),(.int .i64 0),(.int .i64 0),(.int .i64 0),(.int .i64 0),(.str []),(.str []),(.bool false)] [(0,7,(.s 11)),(7,7,(.s 13))]),oo 15 (.buildSlice 14 99 [(.s 14)]),
 oo 16 (.build [(.fsl []),(.fsl [])] [(1,1,(.s 15))]),⟨none,.store 2 (.s 2) (.s 16),none⟩]) [2] (.ret)) (.skip))) [1,2] (.seq (.region true [oL 17 5 1,oo 18 (.call 56 [(.s 17)]),oL 19 5 1,oo 20 (.call 57 [(.s 19)]),
 oo 21 (.build [(.int .i64 0),(.int .i64 0),(.int .i64 0),(.int .i64 0),(.str []),(.str []),(.bool false),(.int .i64 0),(.int .i64 0),(.int .i64 0),(.int .i64 0),(.str []),(.str []),(.bool false)] [(0,7,(.s 18)),(7,7,(.s 20))]),oo 22 (.buildSlice 14 99 [(.s 21)]),
 oo 23 (.build [(.fsl []),(.fsl [])] [(0,1,(.s 22))]),⟨none,.store 2 (.s 2) (.s 23),none⟩]) [2] (.ret))))⟩
def tf28 : TFn := ⟨24,[.tmp 4],.seq (.region false [oo 4 (.mov (.c (.int .i64 0)))]) [0,1] (.seq (.region false [om 5 0,oo 6 (.nilCheck (.s 5)),oA 7 1 6,ol 8 1 7,oo 9 (.bin .add false (.s 8) (.c (.int .i64 1))),oo 10 (.nilCheck (.s 5)),oA 11 1 10,⟨none,.store 1 (.s 11) (.s 9),none⟩]) [0,1] (.seq (
 .region true [om 12 0,oo 13 (.nilCheck (.s 12)),oA 14 0 13,ol 15 1 14,om 16 0,oo 17 (.nilCheck (.s 16)),oA 18 1 17,ol 19 1 18,oo 20 (.bin .sub false (.s 19) (.c (.int .i64 1))),oo 21 (.call 58 [(.s 15),(.s 20)]),om 22 1,oo 23 (.call 11 [(.s 21),(.s 22)]),om 4 23]) [4] (.ret)))⟩
def tf29 : TFn := ⟨21,[.cell 4 true 3],.seq (.region false [oo 4 (.alloc 77 [(.int .i64 0),(.fsl []),(.fsl [])])]) [0,1,4] (.seq (.region false [om 6 0,om 7 1,oo 8 (.len (.s 7)),oo 9 (.bin .sub false (.s 8) (.c (.int .i64 1))),oo 10 (.call 28 [(.s 6),(.s 9)]),
 oo 11 (.bin .add false (.c (.int .i64 1)) (.s 10)),om 5 11]) [0,1,4,5] (.seq (.region false [om 12 5,om 13 0,om 14 1,om 15 5,oo 16 (.indexAddr 3 (.s 14) (.s 15)),oA 17 2 16,ol 18 1 17,oo 19 (.call 59 [(.s 13),(.s 18)]),
 oo 20 (.build [(.int .i64 0),(.fsl []),(.fsl [])] [(0,1,(.s 12)),(1,2,(.s 19))]),⟨none,.store 3 (.s 4) (.s 20),none⟩]) [4] (.ret)))⟩
def tf30 : TFn := ⟨12,[.tmp 4],.seq (.region false [oo 2 (.box 49 (.s 0)),oo 3 (.box 49 (.s 1)),oo 4 (.mov (.c (.int .i64 0)))]) [2,3] (.seq (.seq (.region false [oL 5 5 2,oL 6 5 3,oo 7 (.call 18 [(.s 5),(.s 6)])]) [7] (.block 0 (.seq (
 .region false [oo 9 (.bin .eql false (.s 7) (.c (.int .i64 0))),om 8 9]) [7,8] (.cond (.s 8) (.seq (.region false [oo 4 (.mov (.c (.int .i64 0)))]) [4] (.ret)) (.seq (.region false [oo 11 (.bin .eql false (.s 7) (.c (.int .i64 1))),om 10 11]) [10] (.cond (.s 10) (.seq (
 .region false [oo 4 (.mov (.c (.int .i64 2)))]) [4] (.ret)) (.skip))))))) [] (.seq (.region false [oo 4 (.mov (.c (.int .i64 4)))]) [4] (.ret)))⟩
def tf31 : TFn := ⟨12,[.cell 2 true 3],.seq (.region false [oo 2 (.alloc 33 [(.str []),(.str []),(.str [])])]) [0,2] (.seq (.region false [oo 3 (.alloc 33 [(.str []),(.str []),(.str [])])]) [0,2,3] (.seq (
 .region false [oo 4 (.buildSlice 1 9 [(.c (.str [])),(.c (.str [108,105,110,117,120])),(.c (.str [112,108,97,110,57]))]),om 5 0,oo 6 (.call 11 [(.s 5),(.c (.int .i64 3))]),oo 7 (.indexAddr 1 (.s 4) (.s 6)),ol 8 1 7,oA 9 0 3,oo 10 (.indexArr 3 1 (.s 9) (.c (.int .i64 0))),
 ⟨none,.store 1 (.s 10) (.s 8),none⟩]) [2,3] (.seq (.region false [oL 11 3 3,⟨none,.store 3 (.s 2) (.s 11),none⟩]) [2] (.ret))))⟩
def tf32 : TFn := ⟨32,[.tmp 6],.seq (.region false [oo 6 (.mov (.c (.bool false)))]) [0,1,2] (.seq (.seq (.region false [om 10 0,oo 11 (.len (.s 10)),om 12 1,oo 13 (.len (.s 12)),oo 14 (.bin .neq false (.s 11) (.s 13))]) [0,1,2,14] (.cond (.s 14) (.seq (
 .region false [oo 6 (.mov (.c (.bool false)))]) [6] (.ret)) (.skip))) [0,1,2] (.seq (.seq (.region false [om 15 0,oo 16 (.len (.s 15)),oo 17 (.mov (.c (.int .i64 0)))]) [1,2,15,16,17] (.block 0 (.loop (.seq (.region false [oo 18 (.bin .lss false (.s 17) (.s 16))]) [1,2,15,16,17,18] (.seq (
 .cond (.s 18) (.skip) (.exit 0)) [1,2,15,16,17] (.seq (.block 1 (.seq (.region false [om 19 17,oo 20 (.indexAddr 1 (.s 15) (.s 17)),ol 21 1 20,om 7 19,om 8 21]) [1,2,7,8,15,16,17] (.seq (.region false [om 22 1,om 23 7,oo 24 (.indexAddr 3 (.s 22) (.s 23)),oL 25 3 24,
 oo 9 (.alloc 45 [(.str []),(.str []),(.fsl [])]),⟨none,.store 3 (.s 9) (.s 25),none⟩]) [1,2,8,9,15,16,17] (.seq (.region false [om 26 2,om 27 8,oL 28 3 9,oo 29 (.callV (.s 26) [(.s 27),(.s 28)]),oo 30 (.un .not (.s 29))]) [1,2,15,16,17,30] (.cond (.s 30) (.seq (
 .region false [oo 6 (.mov (.c (.bool false)))]) [6] (.ret)) (.skip)))))) [1,2,15,16,17] (.region false [oo 31 (.bin .add false (.s 17) (.c (.int .i64 1))),om 17 31]))))))) [] (.seq (.region false [oo 6 (.mov (.c (.bool true)))]) [6] (.ret))))⟩
def tf33 : TFn := ⟨17,[.tmp 4],.seq (.region false [oo 3 (.box 45 (.s 1)),oo 4 (.mov (.c (.bool false)))]) [0,3] (.seq (.region false [om 5 0,oo 6 (.len (.s 5)),oA 7 2 3,ol 8 1 7,oo 9 (.len (.s 8)),oo 10 (.bin .add false (.s 9) (.c (.int .i64 1))),oo 11 (.bin .eql false (.s 6) (.s 10)),om 12 11,
 oT 13 12 (.mov (.s 0)),oT 14 12 (.call 34 [(.s 13),(.c (.clo 35 []))]),oT 15 12 (.un .not (.s 14)),oo 16 (.pick (.s 12) (.s 15) (.c (.bool false))),om 4 16]) [4] (.ret))⟩
def tf34 : TFn := ⟨9,[.tmp 4],.seq (.region false [oo 4 (.mov (.c (.bool false)))]) [0,1] (.seq (.region false [om 5 0,om 6 1,oo 7 (.call 60 [(.s 5),(.s 6)]),oo 8 (.bin .geq false (.s 7) (.c (.int .i64 0))),om 4 8]) [4] (.ret))⟩
def tf35 : TFn := ⟨9,[.tmp 2],.seq (.region false [oo 2 (.mov (.c (.bool false)))]) [0] (.seq (.region false [om 3 0,oo 4 (.bin .lss false (.s 3) (.c (.int .i64 0))),om 5 4,oF 6 5 (.mov (.s 0)),oF 7 5 (.bin .gtr false (.s 6) (.c (.int .i64 1048576))),oo 8 (.pick (.s 5) (.c (.bool true)) (.s 7)),
 om 2 8]) [2] (.ret))⟩
def tf36 : TFn := ⟨3,[.tmp 2],.seq (.region false [oo 1 (.box 45 (.s 0)),oo 2 (.mov (.c (.bool false)))]) [] (.seq (.region false [oo 2 (.mov (.c (.bool true)))]) [2] (.ret))⟩
def tf37 : TFn := ⟨3,[.tmp 2],.seq (.region false [oo 1 (.box 45 (.s 0)),oo 2 (.mov (.c (.int .i64 0)))]) [] (.seq (.region false [oo 2 (.mov (.c (.int .i64 0)))]) [2] (.ret))⟩
def tf38 : TFn := ⟨12,[.tmp 8],.seq (.region false [oo 4 (.box 28 (.s 0)),oo 5 (.box 85 (.s 1)),oo 6 (.box 86 (.s 2)),oo 7 (.box 88 (.s 3)),oo 8 (.mov (.c (.fsl [])))]) [4,5,6,7] (.seq (.region false [oL 9 1 4,oo 10 (.mkfn 62 [(.s 5),(.s 6),(.s 7)]),oo 11 (.call 61 [(.s 9),(.s 10)]),om 8 11]) [8] (
 .ret))⟩
def tf39 : TFn := ⟨30,[.tmp 5],.seq (.region false [oo 3 (.box 45 (.s 0)),oo 5 (.mov (.c (.int .i64 0)))]) [1,2,3] (.seq (.region false [oL 7 4 2,oA 8 0 3,ol 9 1 8,oo 10 (.call 40 [(.s 7),(.s 9)]),om 6 10]) [1,2,3,6] (.seq (.seq (.region false [om 11 6,
 oo 12 (.bin .lss false (.s 11) (.c (.int .i64 0)))]) [1,2,3,6,12] (.cond (.s 12) (.seq (.region false [oo 5 (.mov (.c (.int .i64 1)))]) [5] (.ret)) (.skip))) [1,2,3,6] (.seq (.seq (.region true [oA 13 2 3,ol 14 1 13,om 15 1,oo 16 (.indexAddr 8 (.s 14) (.s 15)),oA 17 0 16,oL 18 5 17,oA 19 3 2,
 ol 20 1 19,om 21 6,oo 22 (.indexAddr 9 (.s 20) (.s 21)),oA 23 1 22,oL 24 5 23,oo 25 (.call 41 [(.s 18),(.s 24)])]) [25] (.block 0 (.seq (.region false [oo 27 (.bin .eql false (.s 25) (.c (.int .i64 0))),om 26 27]) [25,26] (.cond (.s 26) (.seq (.region false [oo 5 (.mov (.c (.int .i64 0)))]) [5] (
 .ret)) (.seq (.region false [oo 29 (.bin .eql false (.s 25) (.c (.int .i64 1))),om 28 29]) [28] (.cond (.s 28) (.seq (.region false [oo 5 (.mov (.c (.int .i64 2)))]) [5] (.ret)) (.skip))))))) [] (.seq (.region false [oo 5 (.mov (.c (.int .i64 4)))]) [5] (.ret)))))⟩
def tf40 : TFn := ⟨9,[.tmp 4],.seq (.region false [oo 2 (.box 36 (.s 0)),oo 3 (.box 9 (.s 1)),oo 4 (.mov (.c (.int .i64 0)))]) [2,3] (.seq (.region false [oA 5 3 2,ol 6 1 5,oo 7 (.mkfn 64 [(.s 3)]),oo 8 (.call 63 [(.s 6),(.s 7)]),om 4 8]) [4] (.ret))⟩
def tf41 : TFn := ⟨86,[.tmp 4],.seq (.region false [oo 2 (.box 49 (.s 0)),oo 3 (.box 49 (.s 1)),oo 4 (.mov (.c (.int .i64 0)))]) [2,3] (.seq (.seq (.region true [oL 10 5 2,oo 11 (.call 65 [(.s 10)]),oo 12 (.un .not (.s 11)),om 13 12,oF 14 13 (.load true 5 (.s 3)),oF 15 13 (.call 65 [(.s 14)]),
 oF 16 13 (.un .not (.s 15)),oo 17 (.pick (.s 13) (.c (.bool true)) (.s 16)),om 18 17,oF 19 18 (.load true 5 (.s 2)),oF 20 18 (.call 66 [(.s 19)]),oF 21 18 (.load true 5 (.s 3)),oF 22 18 (.call 66 [(.s 21)]),oF 23 18 (.eqs false [0,0,0,2,2] (.s 20) (.s 22)),
 oo 24 (.pick (.s 18) (.c (.bool true)) (.s 23))]) [2,3,24] (.cond (.s 24) (.seq (.region false [oo 4 (.mov (.c (.int .i64 0)))]) [4] (.ret)) (.skip))) [2,3] (.seq (.seq (.region true [oA 25 0 2,ol 26 1 25,oA 27 0 3,ol 28 1 27,oo 29 (.call 68 [(.s 26),(.s 28)]),oA 30 1 2,ol 31 1 30,oA 32 1 3,
 ol 33 1 32,oo 34 (.call 68 [(.s 31),(.s 33)]),oA 35 2 2,ol 36 1 35,oA 37 2 3,ol 38 1 37,oo 39 (.call 68 [(.s 36),(.s 38)]),oo 40 (.buildSlice 1 3 [(.s 29),(.s 34),(.s 39)]),oo 41 (.call 67 [(.s 40)]),om 5 41]) [2,3,5] (.seq (.region false [om 42 5,
 oo 43 (.bin .neq false (.s 42) (.c (.int .i64 0)))]) [2,3,5,43] (.cond (.s 43) (.seq (.region false [om 44 5,om 4 44]) [4] (.ret)) (.skip)))) [2,3] (.seq (.seq (.region false [oA 45 3 2,ol 46 1 45,oo 47 (.bin .eql false (.s 46) (.c (.str [])))]) [2,3,47] (.cond (.s 47) (.seq (
 .region false [oo 4 (.mov (.c (.int .i64 1)))]) [4] (.ret)) (.skip))) [2,3] (.seq (.seq (.region false [oA 48 3 3,ol 49 1 48,oo 50 (.bin .eql false (.s 49) (.c (.str [])))]) [2,3,50] (.cond (.s 50) (.seq (.region false [oo 4 (.mov (.c (.int .i64 (-1))))]) [4] (.ret)) (.skip))) [2,3] (.seq (
 .region true [oA 51 3 2,ol 52 1 51,oo 53 (.call 69 [(.s 52),(.c (.int .u8 46))]),oA 54 3 3,ol 55 1 54,oo 56 (.call 69 [(.s 55),(.c (.int .u8 46))]),om 6 53,om 7 56]) [6,7] (.seq (.seq (.region false [oo 8 (.mov (.c (.int .i64 0)))]) [6,7,8] (.block 0 (.loop (.seq (.seq (.region false [om 57 8,
 om 58 6,oo 59 (.len (.s 58)),oo 60 (.bin .lss false (.s 57) (.s 59)),om 61 60,oT 62 61 (.mov (.s 8)),oT 63 61 (.mov (.s 7)),oT 64 61 (.len (.s 63)),oT 65 61 (.bin .lss false (.s 62) (.s 64)),oo 66 (.pick (.s 61) (.s 65) (.c (.bool false)))]) [6,7,8,66] (.cond (.s 66) (.skip) (.exit 0))) [6,7,8] (
 .seq (.block 1 (.seq (.region true [om 69 6,om 70 8,oo 71 (.indexAddr 1 (.s 69) (.s 70)),ol 72 1 71,om 73 7,om 74 8,oo 75 (.indexAddr 1 (.s 73) (.s 74)),ol 76 1 75,oo 77 (.call 70 [(.s 72),(.s 76)]),om 9 77]) [6,7,8,9] (.seq (.region false [om 78 9,
 oo 79 (.bin .neq false (.s 78) (.c (.int .i64 0)))]) [6,7,8,9,79] (.cond (.s 79) (.seq (.region false [om 80 9,om 4 80]) [4] (.ret)) (.skip))))) [6,7,8] (.region false [om 67 8,oo 68 (.bin .add false (.s 67) (.c (.int .i64 1))),om 8 68])))))) [6,7] (.seq (.region false [om 81 6,
 oo 82 (.len (.s 81)),om 83 7,oo 84 (.len (.s 83)),oo 85 (.call 68 [(.s 82),(.s 84)]),om 4 85]) [4] (.ret))))))))⟩
def tf42 : TFn := ⟨26,[.tmp 2],.seq (.region false [oo 1 (.box 49 (.s 0)),oo 2 (.mov (.c (.bool false)))]) [1] (.seq (.region false [oA 3 0 1,ol 4 1 3,oo 5 (.call 71 [(.s 4)]),om 6 5,oT 7 6 (.fieldAddr 1 (.s 1)),oT 8 6 (.load false 1 (.s 7)),oT 9 6 (.call 71 [(.s 8)]),
 oo 10 (.pick (.s 6) (.s 9) (.c (.bool false))),om 11 10,oT 12 11 (.fieldAddr 2 (.s 1)),oT 13 11 (.load false 1 (.s 12)),oT 14 11 (.call 71 [(.s 13)]),oo 15 (.pick (.s 11) (.s 14) (.c (.bool false))),om 16 15,oT 17 16 (.fieldAddr 3 (.s 1)),oT 18 16 (.load false 1 (.s 17)),
 oT 19 16 (.call 72 [(.s 18),(.c (.bool true))]),oo 20 (.pick (.s 16) (.s 19) (.c (.bool false))),om 21 20,oT 22 21 (.fieldAddr 4 (.s 1)),oT 23 21 (.load false 1 (.s 22)),oT 24 21 (.call 72 [(.s 23),(.c (.bool false))]),oo 25 (.pick (.s 21) (.s 24) (.c (.bool false))),om 2 25]) [2] (.ret))⟩
def tf43 : TFn := ⟨13,[.tmp 4],.seq (.region false [oo 4 (.mov (.c (.int .i64 0)))]) [0,1] (.seq (.block 0 (.seq (.region false [om 6 0,om 7 1,oo 8 (.bin .lss false (.s 6) (.s 7)),om 5 8]) [0,1,5] (.cond (.s 5) (.seq (.region false [oo 4 (.mov (.c (.int .i64 (-1))))]) [4] (.ret)) (.seq (
 .region false [om 10 0,om 11 1,oo 12 (.bin .gtr false (.s 10) (.s 11)),om 9 12]) [9] (.cond (.s 9) (.seq (.region false [oo 4 (.mov (.c (.int .i64 1)))]) [4] (.ret)) (.skip)))))) [] (.seq (.region false [oo 4 (.mov (.c (.int .i64 0)))]) [4] (.ret)))⟩
def tf44 : TFn := ⟨52,[.tmp 4],.seq (.region false [oo 4 (.mov (.c (.int .i64 0)))]) [0,1] (.seq (.block 0 (.seq (.region false [om 10 0,om 11 1,oo 12 (.bin .eql false (.s 10) (.s 11)),om 9 12]) [0,1,9] (.cond (.s 9) (.seq (.region false [oo 4 (.mov (.c (.int .i64 0)))]) [4] (.ret)) (.seq (
 .region false [om 14 0,oo 15 (.bin .eql false (.s 14) (.c (.str []))),om 13 15]) [0,1,13] (.cond (.s 13) (.seq (.region false [oo 4 (.mov (.c (.int .i64 1)))]) [4] (.ret)) (.seq (.region false [om 17 1,oo 18 (.bin .eql false (.s 17) (.c (.str []))),om 16 18]) [0,1,16] (.cond (.s 16) (.seq (
 .region false [oo 4 (.mov (.c (.int .i64 (-1))))]) [4] (.ret)) (.skip)))))))) [0,1] (.seq (.region false [om 19 0,oo 20 (.call 73 [(.s 19),(.c (.int .u8 46))]),om 21 1,oo 22 (.call 73 [(.s 21),(.c (.int .u8 46))]),om 5 20,om 6 22]) [5,6] (.seq (.seq (
 .region false [oo 7 (.mov (.c (.int .i64 0)))]) [5,6,7] (.block 1 (.loop (.seq (.seq (.region false [om 23 7,om 24 5,oo 25 (.len (.s 24)),oo 26 (.bin .lss false (.s 23) (.s 25)),om 27 26,oT 28 27 (.mov (.s 7)),oT 29 27 (.mov (.s 6)),oT 30 27 (.len (.s 29)),
 oT 31 27 (.bin .lss false (.s 28) (.s 30)),oo 32 (.pick (.s 27) (.s 31) (.c (.bool false)))]) [5,6,7,32] (.cond (.s 32) (.skip) (.exit 1))) [5,6,7] (.seq (.block 2 (.seq (.region true [om 35 5,om 36 7,oo 37 (.indexAddr 1 (.s 35) (.s 36)),ol 38 1 37,om 39 6,om 40 7,
 oo 41 (.indexAddr 1 (.s 39) (.s 40)),ol 42 1 41,oo 43 (.call 74 [(.s 38),(.s 42)]),om 8 43]) [5,6,7,8] (.seq (.region false [om 44 8,oo 45 (.bin .neq false (.s 44) (.c (.int .i64 0)))]) [5,6,7,8,45] (.cond (.s 45) (.seq (.region false [om 46 8,om 4 46]) [4] (.ret)) (.skip))))) [5,6,7] (
 .region false [om 33 7,oo 34 (.bin .add false (.s 33) (.c (.int .i64 1))),om 7 34])))))) [5,6] (.seq (.region false [om 47 5,oo 48 (.len (.s 47)),om 49 6,oo 50 (.len (.s 49)),oo 51 (.call 43 [(.s 48),(.s 50)]),om 4 51]) [4] (.ret)))))⟩
def tf45 : TFn := ⟨8,[.tmp 3],.seq (.region false [oo 2 (.box 45 (.s 0)),oo 3 (.mov (.c (.bool false)))]) [1,2] (.seq (.region false [ol 4 1 1,oA 5 0 2,ol 6 1 5,oo 7 (.call 46 [(.s 4),(.s 6)]),om 3 7]) [3] (.ret))⟩
def tf46 : TFn := ⟨9,[.tmp 4],.seq (.region false [oo 4 (.mov (.c (.bool false)))]) [0,1] (.seq (.region false [om 5 0,om 6 1,oo 7 (.call 75 [(.s 5),(.s 6)]),oo 8 (.bin .geq false (.s 7) (.c (.int .i64 0))),om 4 8]) [4] (.ret))⟩
def tf47 : TFn := ⟨6,[.tmp 2],.seq (.region false [oo 1 (.box 45 (.s 0)),oo 2 (.mov (.c (.int .i64 0)))]) [1] (.seq (.region false [oA 3 2 1,ol 4 1 3,oo 5 (.len (.s 4)),om 2 5]) [2] (.ret))⟩
def tf48 : TFn := ⟨11,[.tmp 4],.seq (.region false [oo 2 (.box 45 (.s 0)),oo 4 (.mov (.c (.int .i64 0)))]) [1,2] (.seq (.region false [oA 5 2 2,ol 6 1 5,oo 7 (.len (.s 6)),oo 8 (.bin .sub false (.s 7) (.c (.int .i64 1))),om 9 1,oo 10 (.bin .sub false (.s 8) (.s 9)),om 4 10]) [4] (.ret))⟩
def tf52 : TFn := ⟨26,[.tmp 4],.seq (.region false [oo 4 (.mov (.c (.bool false)))]) [0,1] (.seq (.seq (.region false [om 6 0,oo 7 (.len (.s 6)),om 8 1,oo 9 (.len (.s 8)),oo 10 (.bin .neq false (.s 7) (.s 9))]) [0,1,10] (.cond (.s 10) (.seq (.region false [oo 4 (.mov (.c (.bool false)))]) [4] (
 .ret)) (.skip))) [0,1] (.seq (.seq (.region false [oo 5 (.mov (.c (.int .i64 0)))]) [0,1,5] (.block 0 (.loop (.seq (.seq (.region false [om 11 5,om 12 0,oo 13 (.len (.s 12)),oo 14 (.bin .lss false (.s 11) (.s 13))]) [0,1,5,14] (.cond (.s 14) (.skip) (.exit 0))) [0,1,5] (.seq (.block 1 (.seq (
 .region true [om 17 0,om 18 5,oo 19 (.indexAddr 1 (.s 17) (.s 18)),ol 20 1 19,om 21 1,om 22 5,oo 23 (.indexAddr 1 (.s 21) (.s 22)),ol 24 1 23,oo 25 (.bin .neq false (.s 20) (.s 24))]) [0,1,5,25] (.cond (.s 25) (.seq (.region false [oo 4 (.mov (.c (.bool false)))]) [4] (.ret)) (.skip)))) [0,1,5] (
 .region false [om 15 5,oo 16 (.bin .add false (.s 15) (.c (.int .i64 1))),om 5 16])))))) [] (.seq (.region false [oo 4 (.mov (.c (.bool true)))]) [4] (.ret))))⟩
def tf53 : TFn := ⟨2,[.cell 0 true 2],.seq (.region false [oo 0 (.alloc 74 [(.fsl []),(.fsl [])])]) [0] (.seq (.region false [oo 1 (.build [(.fsl []),(.fsl [])] []),⟨none,.store 2 (.s 0) (.s 1),none⟩]) [0] (.ret))⟩
def tf54 : TFn := ⟨6,[.cell 2 true 7],.seq (.region false [oo 1 (.box 49 (.s 0)),oo 2 (.alloc 96 [(.int .i64 0),(.int .i64 0),(.int .i64 0),(.int .i64 0),(.str []),(.str []),(.bool false)])]) [1,2] (.seq (.region false [oL 3 5 1,oo 4 (.call 76 [(.s 3)]),
 oo 5 (.build [(.int .i64 0),(.int .i64 0),(.int .i64 0),(.int .i64 0),(.str []),(.str []),(.bool false)] [(1,5,(.s 4))]),⟨none,.store 7 (.s 2) (.s 5),none⟩]) [2] (.ret))⟩
def tf55 : TFn := ⟨6,[.cell 2 true 7],.seq (.region false [oo 1 (.box 49 (.s 0)),oo 2 (.alloc 96 [(.int .i64 0),(.int .i64 0),(.int .i64 0),(.int .i64 0),(.str []),(.str []),(.bool false)])]) [1,2] (.seq (.region false [oL 3 5 1,oo 4 (.call 76 [(.s 3)]),
 oo 5 (.build [(.int .i64 0),(.int .i64 0),(.int .i64 0),(.int .i64 0),(.str []),(.str []),(.bool false)] [(1,5,(.s 4)),(6,1,(.c (.bool true)))]),⟨none,.store 7 (.s 2) (.s 5),none⟩]) [2] (.ret))⟩
def tf56 : TFn := ⟨14,[.cell 2 true 7],.seq (.region false [oo 1 (.box 49 (.s 0)),oo 2 (.alloc 96 [(.int .i64 0),(.int .i64 0),(.int .i64 0),(.int .i64 0),(.str []),(.str []),(.bool false)])]) [1,2] (.seq (.seq (.region false [oL 3 5 1,oo 4 (.call 77 [(.s 3)])]) [1,2,4] (.cond (.s 4) (.seq (
 .region false [oo 5 (.call 78 []),⟨none,.store 7 (.s 2) (.s 5),none⟩]) [2] (.ret)) (.skip))) [1,2] (.seq (.region false [oA 6 0 1,ol 7 1 6,oA 8 1 1,ol 9 1 8,oA 10 2 1,ol 11 1 10,
 oo 12 (.build [(.int .i64 0),(.int .i64 0),(.int .i64 0),(.str []),(.str [])] [(0,1,(.s 7)),(1,1,(.s 9)),(2,1,(.s 11))]),oo 13 (.call 54 [(.s 12)]),⟨none,.store 7 (.s 2) (.s 13),none⟩]) [2] (.ret)))⟩
def tf57 : TFn := ⟨21,[.cell 2 true 7],.seq (.region false [oo 1 (.box 49 (.s 0)),oo 2 (.alloc 96 [(.int .i64 0),(.int .i64 0),(.int .i64 0),(.int .i64 0),(.str []),(.str []),(.bool false)])]) [1,2] (.seq (.region false [oA 6 0 1,ol 7 1 6,oA 8 1 1,ol 9 1 8,oA 10 2 1,ol 11 1 10,
 oo 12 (.build [(.int .i64 0),(.int .i64 0),(.int .i64 0),(.str []),(.str [])] [(0,1,(.s 7)),(1,1,(.s 9)),(2,1,(.s 11))]),oo 13 (.call 79 [(.s 12)]),om 5 13,oe 14 0 5,oe 15 1 5,oo 3 (.alloc 49 [(.int .i64 0),(.int .i64 0),(.int .i64 0),(.str []),(.str [])]),⟨none,.store 5 (.s 3) (.s 14),none⟩,
 om 4 15]) [2,3,4] (.seq (.seq (.region false [om 16 4,oo 17 (.un .not (.s 16))]) [2,3,17] (.cond (.s 17) (.seq (.region false [oo 18 (.call 80 []),⟨none,.store 7 (.s 2) (.s 18),none⟩]) [2] (.ret)) (.skip))) [2,3] (.seq (.region false [oL 19 5 3,oo 20 (.call 54 [(.s 19)]),
 ⟨none,.store 7 (.s 2) (.s 20),none⟩]) [2] (.ret))))⟩
def tf58 : TFn := ⟨19,[.tmp 4],.seq (.region false [oo 4 (.mov (.c (.int .i64 0)))]) [0,1] (.seq (.seq (.region false [om 5 1,oo 6 (.bin .lss false (.s 5) (.c (.int .i64 0))),om 7 6,oF 8 7 (.mov (.s 1)),oF 9 7 (.mov (.s 0)),oF 10 7 (.len (.s 9)),oF 11 7 (.bin .geq false (.s 8) (.s 10)),
 oo 12 (.pick (.s 7) (.c (.bool true)) (.s 11))]) [0,1,12] (.cond (.s 12) (.seq (.region false [om 13 1,oo 14 (.bin .rem false (.s 13) (.c (.int .i64 3))),om 4 14]) [4] (.ret)) (.skip))) [0,1] (.seq (.region false [om 15 0,om 16 1,oo 17 (.indexAddr 1 (.s 15) (.s 16)),ol 18 1 17,om 4 18]) [4] (
 .ret)))⟩
def tf59 : TFn := ⟨41,[.cell 4 true 2],.seq (.region false [oo 4 (.alloc 74 [(.fsl []),(.fsl [])])]) [0,1,4] (.seq (.region false [om 8 0,oo 9 (.call 28 [(.s 8),(.c (.int .i64 8))]),om 5 9]) [0,1,4,5] (.seq (.region false [oo 10 (.call 53 []),oo 6 (.alloc 74 [(.fsl []),(.fsl [])]),
 ⟨none,.store 2 (.s 6) (.s 10),none⟩]) [0,1,4,5,6] (.seq (.seq (.region false [oo 7 (.mov (.c (.int .i64 0)))]) [0,1,4,5,6,7] (.block 0 (.loop (.seq (.seq (.region false [om 11 7,om 12 1,oo 13 (.len (.s 12)),oo 14 (.bin .lss false (.s 11) (.s 13))]) [0,1,4,5,6,7,14] (.cond (.s 14) (.skip) (
 .exit 0))) [0,1,4,5,6,7] (.seq (.block 1 (.seq (.region false [om 17 5,om 18 7,oo 19 (.conv .u64 (.s 18)),oo 20 (.bin .shr false (.s 17) (.s 19)),oo 21 (.bin .and false (.s 20) (.c (.int .i64 1))),oo 22 (.bin .eql false (.s 21) (.c (.int .i64 1)))]) [0,1,4,5,6,7,22] (.cond (.s 22) (
 .region true [oL 23 2 6,om 24 1,om 25 7,oo 26 (.indexAddr 8 (.s 24) (.s 25)),oA 27 0 26,oL 28 5 27,oo 29 (.call 27 [(.s 28)]),oo 30 (.call 81 [(.s 23),(.s 29)]),⟨none,.store 2 (.s 6) (.s 30),none⟩]) (.skip)))) [0,1,4,5,6,7] (.region false [om 15 7,
 oo 16 (.bin .add false (.s 15) (.c (.int .i64 1))),om 7 16])))))) [0,4,6] (.seq (.seq (.region false [om 31 0,oo 32 (.call 28 [(.s 31),(.c (.int .i64 6))])]) [4,6,32] (.block 2 (.seq (.region false [oo 34 (.bin .eql false (.s 32) (.c (.int .i64 0))),om 33 34]) [4,6,32,33] (.cond (.s 33) (.seq (
 .region false [oo 35 (.call 82 []),⟨none,.store 2 (.s 4) (.s 35),none⟩]) [4] (.ret)) (.seq (.region false [oo 37 (.bin .eql false (.s 32) (.c (.int .i64 1))),om 36 37]) [4,6,36] (.cond (.s 36) (.seq (.region false [oL 38 2 6,oo 39 (.call 83 [(.s 38)]),⟨none,.store 2 (.s 4) (.s 39),none⟩]) [4] (
 .ret)) (.skip))))))) [4,6] (.seq (.region false [oL 40 2 6,⟨none,.store 2 (.s 4) (.s 40),none⟩]) [4] (.ret))))))⟩
def tf60 : TFn := ⟨19,[.tmp 4],.seq (.region false [oo 4 (.mov (.c (.int .i64 0)))]) [0,1] (.seq (.seq (.region false [om 6 0,oo 7 (.len (.s 6)),oo 8 (.mov (.c (.int .i64 0)))]) [0,1,7,8] (.block 0 (.loop (.seq (.region false [oo 9 (.bin .lss false (.s 8) (.s 7))]) [0,1,7,8,9] (.seq (.cond (.s 9) (
 .skip) (.exit 0)) [0,1,7,8] (.seq (.block 1 (.seq (.region false [om 10 8,om 5 10]) [0,1,5,7,8] (.seq (.region false [om 11 1,om 12 0,om 13 5,oo 14 (.indexAddr 1 (.s 12) (.s 13)),ol 15 1 14,oo 16 (.callV (.s 11) [(.s 15)])]) [0,1,5,7,8,16] (.cond (.s 16) (.seq (.region false [om 17 5,
 om 4 17]) [4] (.ret)) (.skip))))) [0,1,7,8] (.region false [oo 18 (.bin .add false (.s 8) (.c (.int .i64 1))),om 8 18]))))))) [] (.seq (.region false [oo 4 (.mov (.c (.int .i64 (-1))))]) [4] (.ret)))⟩
def tf61 : TFn := ⟨25,[.tmp 4],.seq (.region false [oo 2 (.box 28 (.s 0)),oo 4 (.mov (.c (.fsl [])))]) [1,2] (.seq (.region false [oo 5 (.mov (.c (.fsl [])))]) [1,2,5] (.seq (.seq (.region false [oA 8 0 2,ol 9 1 8,oo 10 (.len (.s 9)),oo 11 (.mov (.c (.int .i64 0)))]) [1,5,9,10,11] (.block 0 (
 .loop (.seq (.region false [oo 12 (.bin .lss false (.s 11) (.s 10))]) [1,5,9,10,11,12] (.seq (.cond (.s 12) (.skip) (.exit 0)) [1,5,9,10,11] (.seq (.block 1 (.seq (.region false [om 13 11,oo 14 (.indexAddr 3 (.s 9) (.s 11)),oL 15 3 14,oo 7 (.alloc 45 [(.str []),(.str []),(.fsl [])]),om 6 13,
 ⟨none,.store 3 (.s 7) (.s 15),none⟩]) [1,5,6,7,9,10,11] (.region false [om 16 5,om 17 1,om 18 6,oL 19 3 7,oo 20 (.callV (.s 17) [(.s 18),(.s 19)]),oo 21 (.buildSlice 1 22 [(.s 20)]),oo 22 (.append 1 22 24 (.s 16) (.s 21)),om 5 22]))) [1,5,9,10,11] (
 .region false [oo 23 (.bin .add false (.s 11) (.c (.int .i64 1))),om 11 23]))))))) [5] (.seq (.region false [om 24 5,om 4 24]) [4] (.ret))))⟩
def tf62 : TFn := ⟨50,[.tmp 7],.seq (.region false [oo 6 (.box 45 (.s 1)),oo 7 (.mov (.c (.fsl [])))]) [0,2,3,4,6] (.seq (.region false [oA 10 2 6,ol 11 1 10,oo 12 (.len (.s 11)),oo 13 (.bin .add false (.s 12) (.c (.int .i64 1))),oo 14 (.makeSlice 1 3 8 [(.int .i64 0)] (.s 13) (.s 13)),
 om 8 14]) [0,2,3,4,6,8] (.seq (.seq (.region false [om 15 0,oo 16 (.bin .eql false (.s 15) (.c (.int .i64 0))),om 17 16,oF 18 17 (.fieldAddr 1 (.s 6)),oF 19 17 (.load false 1 (.s 18)),oF 20 17 (.bin .neq false (.s 19) (.c (.str []))),oo 21 (.pick (.s 17) (.c (.bool true)) (.s 20)),om 22 21,
 oF 23 22 (.load false 1 (.s 2)),oF 24 22 (.load true 3 (.s 6)),oF 25 22 (.callV (.s 23) [(.s 24)]),oF 26 22 (.un .not (.s 25)),oo 27 (.pick (.s 22) (.c (.bool true)) (.s 26))]) [3,4,6,8,27] (.cond (.s 27) (.seq (.region false [om 28 8,om 7 28]) [7] (.ret)) (.skip))) [3,4,6,8] (.seq (
 .region false [om 29 8,ol 30 1 3,oL 31 3 6,oo 32 (.callV (.s 30) [(.s 31)]),oo 33 (.indexAddr 1 (.s 29) (.c (.int .i64 0))),⟨none,.store 1 (.s 33) (.s 32),none⟩]) [4,6,8] (.seq (.seq (.region false [oA 34 2 6,ol 35 1 34,oo 36 (.len (.s 35)),oo 37 (.mov (.c (.int .i64 0)))]) [4,6,8,36,37] (
 .block 0 (.loop (.seq (.region false [oo 38 (.bin .lss false (.s 37) (.s 36))]) [4,6,8,36,37,38] (.seq (.cond (.s 38) (.skip) (.exit 0)) [4,6,8,36,37] (.seq (.block 1 (.seq (.region false [om 39 37,om 9 39]) [4,6,8,9,36,37] (.region false [om 40 8,om 41 9,
 oo 42 (.bin .add false (.s 41) (.c (.int .i64 1))),ol 43 1 4,oL 44 3 6,om 45 9,oo 46 (.callV (.s 43) [(.s 44),(.s 45)]),oo 47 (.indexAddr 1 (.s 40) (.s 42)),⟨none,.store 1 (.s 47) (.s 46),none⟩]))) [4,6,8,36,37] (.region false [oo 48 (.bin .add false (.s 37) (.c (.int .i64 1))),
 om 37 48]))))))) [8] (.seq (.region false [om 49 8,om 7 49]) [7] (.ret))))))⟩
def tf63 : TFn := ⟨19,[.tmp 4],.seq (.region false [oo 4 (.mov (.c (.int .i64 0)))]) [0,1] (.seq (.seq (.region false [om 6 0,oo 7 (.len (.s 6)),oo 8 (.mov (.c (.int .i64 0)))]) [0,1,7,8] (.block 0 (.loop (.seq (.region false [oo 9 (.bin .lss false (.s 8) (.s 7))]) [0,1,7,8,9] (.seq (.cond (.s 9) (
 .skip) (.exit 0)) [0,1,7,8] (.seq (.block 1 (.seq (.region false [om 10 8,om 5 10]) [0,1,5,7,8] (.seq (.region false [om 11 1,om 12 0,om 13 5,oo 14 (.indexAddr 9 (.s 12) (.s 13)),oL 15 9 14,oo 16 (.callV (.s 11) [(.s 15)])]) [0,1,5,7,8,16] (.cond (.s 16) (.seq (.region false [om 17 5,
 om 4 17]) [4] (.ret)) (.skip))))) [0,1,7,8] (.region false [oo 18 (.bin .add false (.s 8) (.c (.int .i64 1))),om 8 18]))))))) [] (.seq (.region false [oo 4 (.mov (.c (.int .i64 (-1))))]) [4] (.ret)))⟩
def tf64 : TFn := ⟨8,[.tmp 3],.seq (.region false [oo 2 (.box 57 (.s 0)),oo 3 (.mov (.c (.bool false)))]) [1,2] (.seq (.region false [oA 4 0 2,ol 5 1 4,ol 6 1 1,oo 7 (.bin .eql false (.s 5) (.s 6)),om 3 7]) [3] (.ret))⟩
def tf65 : TFn := ⟨36,[.tmp 2],.seq (.region false [oo 1 (.box 49 (.s 0)),oo 2 (.mov (.c (.bool false)))]) [1] (.seq (.region false [oA 3 0 1,ol 4 1 3,oo 5 (.call 84 [(.s 4)]),om 6 5,oT 7 6 (.fieldAddr 1 (.s 1)),oT 8 6 (.load false 1 (.s 7)),oT 9 6 (.call 84 [(.s 8)]),
 oo 10 (.pick (.s 6) (.s 9) (.c (.bool false))),om 11 10,oT 12 11 (.fieldAddr 2 (.s 1)),oT 13 11 (.load false 1 (.s 12)),oT 14 11 (.call 84 [(.s 13)]),oo 15 (.pick (.s 11) (.s 14) (.c (.bool false))),om 16 15,oT 17 16 (.fieldAddr 3 (.s 1)),oT 18 16 (.load false 1 (.s 17)),
 oT 19 16 (.bin .eql false (.s 18) (.c (.str []))),oT 20 16 (.mov (.s 19)),oF 21 20 (.fieldAddr 3 (.s 1)),oF 22 20 (.load false 1 (.s 21)),oF 23 20 (.call 85 [(.s 22)]),oT 24 16 (.pick (.s 20) (.c (.bool true)) (.s 23)),oo 25 (.pick (.s 16) (.s 24) (.c (.bool false))),om 26 25,
 oT 27 26 (.fieldAddr 4 (.s 1)),oT 28 26 (.load false 1 (.s 27)),oT 29 26 (.bin .eql false (.s 28) (.c (.str []))),oT 30 26 (.mov (.s 29)),oF 31 30 (.fieldAddr 4 (.s 1)),oF 32 30 (.load false 1 (.s 31)),oF 33 30 (.call 86 [(.s 32)]),oT 34 26 (.pick (.s 30) (.c (.bool true)) (.s 33)),
 oo 35 (.pick (.s 26) (.s 34) (.c (.bool false))),om 2 35]) [2] (.ret))⟩
def tf66 : TFn := ⟨5,[.cell 2 true 5],.seq (.region false [oo 1 (.box 49 (.s 0)),oo 2 (.alloc 49 [(.int .i64 0),(.int .i64 0),(.int .i64 0),(.str []),(.str [])])]) [1,2] (.seq (.region false [oA 3 4 1,⟨none,.store 1 (.s 3) (.c (.str [])),none⟩]) [1,2] (.seq (.region false [oL 4 5 1,
 ⟨none,.store 5 (.s 2) (.s 4),none⟩]) [2] (.ret)))⟩
def tf67 : TFn := ⟨18,[.tmp 2],.seq (.region false [oo 2 (.mov (.c (.int .i64 0)))]) [0] (.seq (.region false [oo 3 (.mov (.c (.int .i64 0)))]) [0,3] (.seq (.seq (.region false [om 6 0,oo 7 (.len (.s 6)),oo 8 (.mov (.c (.int .i64 0)))]) [3,6,7,8] (.block 0 (.loop (.seq (
 .region false [oo 9 (.bin .lss false (.s 8) (.s 7))]) [3,6,7,8,9] (.seq (.cond (.s 9) (.skip) (.exit 0)) [3,6,7,8] (.seq (.block 1 (.seq (.region false [oo 10 (.indexAddr 1 (.s 6) (.s 8)),ol 11 1 10,om 5 11]) [3,5,6,7,8] (.seq (.region false [om 12 5,om 13 3,
 oo 14 (.bin .neq false (.s 12) (.s 13))]) [3,5,6,7,8,14] (.cond (.s 14) (.seq (.region false [om 15 5,om 2 15]) [2] (.ret)) (.skip))))) [3,6,7,8] (.region false [oo 16 (.bin .add false (.s 8) (.c (.int .i64 1))),om 8 16]))))))) [3] (.seq (.region false [om 17 3,om 2 17]) [2] (.ret))))⟩
def tf68 : TFn := ⟨20,[.tmp 4],.seq (.region false [oo 4 (.mov (.c (.int .i64 0)))]) [0,1] (.seq (.region false [om 7 0,oo 8 (.call 87 [(.s 7)]),om 5 8]) [0,1,5] (.seq (.region false [om 9 1,oo 10 (.call 87 [(.s 9)]),om 6 10]) [0,1,5,6] (.seq (.seq (.region false [om 11 5]) [0,1,6,11] (
 .cond (.s 11) (.seq (.seq (.region false [om 12 6]) [12] (.cond (.s 12) (.seq (.region false [oo 4 (.mov (.c (.int .i64 0)))]) [4] (.ret)) (.skip))) [] (.seq (.region false [oo 4 (.mov (.c (.int .i64 (-1))))]) [4] (.ret))) (.skip))) [0,1,6] (.seq (.seq (.region false [om 13 6]) [0,1,13] (
 .cond (.s 13) (.seq (.region false [oo 4 (.mov (.c (.int .i64 1)))]) [4] (.ret)) (.skip))) [0,1] (.seq (.seq (.region false [om 14 0,om 15 1,oo 16 (.bin .lss false (.s 14) (.s 15))]) [0,1,16] (.cond (.s 16) (.seq (.region false [oo 4 (.mov (.c (.int .i64 (-1))))]) [4] (.ret)) (.skip))) [0,1] (
 .seq (.seq (.region false [om 17 0,om 18 1,oo 19 (.bin .gtr false (.s 17) (.s 18))]) [19] (.cond (.s 19) (.seq (.region false [oo 4 (.mov (.c (.int .i64 1)))]) [4] (.ret)) (.skip))) [] (.seq (.region false [oo 4 (.mov (.c (.int .i64 0)))]) [4] (.ret))))))))⟩
def tf69 : TFn := ⟨34,[.tmp 4],.seq (.region false [oo 4 (.mov (.c (.fsl [])))]) [0,1] (.seq (.region false [oo 5 (.mov (.c (.fsl [])))]) [0,1,5] (.seq (.region false [oo 6 (.mov (.c (.int .i64 0)))]) [0,1,5,6] (.seq (.seq (.region false [om 8 0,oo 9 (.lenStr (.s 8)),
 oo 10 (.mov (.c (.int .i64 0)))]) [0,1,5,6,9,10] (.block 0 (.loop (.seq (.region false [oo 11 (.bin .lss false (.s 10) (.s 9))]) [0,1,5,6,9,10,11] (.seq (.cond (.s 11) (.skip) (.exit 0)) [0,1,5,6,9,10] (.seq (.block 1 (.seq (.region false [om 12 10,om 7 12]) [0,1,5,6,7,9,10] (.seq (
 .region false [om 13 0,om 14 7,oo 15 (.indexStr (.s 13) (.s 14)),om 16 1,oo 17 (.bin .eql false (.s 15) (.s 16))]) [0,1,5,6,7,9,10,17] (.cond (.s 17) (.seq (.region false [om 18 5,om 19 0,om 20 6,om 21 7,oo 22 (.sliceStr (.s 19) (some (.s 20)) (some (.s 21))),oo 23 (.buildSlice 1 9 [(.s 22)]),
 oo 24 (.append 1 9 16 (.s 18) (.s 23)),om 5 24]) [0,1,5,7,9,10] (.region false [om 25 7,oo 26 (.bin .add false (.s 25) (.c (.int .i64 1))),om 6 26])) (.skip))))) [0,1,5,6,9,10] (.region false [oo 27 (.bin .add false (.s 10) (.c (.int .i64 1))),om 10 27]))))))) [0,5,6] (.seq (
 .region false [om 28 5,om 29 0,om 30 6,oo 31 (.sliceStr (.s 29) (some (.s 30)) none),oo 32 (.buildSlice 1 9 [(.s 31)]),oo 33 (.append 1 9 16 (.s 28) (.s 32)),om 4 33]) [4] (.ret)))))⟩
def tf70 : TFn := ⟨39,[.tmp 4],.seq (.region false [oo 4 (.mov (.c (.int .i64 0)))]) [0,1] (.seq (.region false [om 11 0,oo 12 (.call 88 [(.s 11)]),om 13 1,oo 14 (.call 88 [(.s 13)]),om 5 12,om 6 14]) [0,1,5,6] (.seq (.seq (.region false [om 15 5,om 16 15,oT 17 16 (.mov (.s 6)),
 oo 18 (.pick (.s 16) (.s 17) (.c (.bool false)))]) [0,1,5,6,18] (.cond (.s 18) (.seq (.region false [om 20 0,oo 21 (.call 89 [(.s 20)]),om 19 21,oe 22 0 19,oe 23 1 19,om 7 22,om 8 23]) [1,7] (.seq (.region false [om 25 1,oo 26 (.call 89 [(.s 25)]),om 24 26,oe 27 0 24,oe 28 1 24,om 9 27,
 om 10 28]) [7,9] (.seq (.region false [om 29 7,om 30 9,oo 31 (.call 68 [(.s 29),(.s 30)]),om 4 31]) [4] (.ret)))) (.skip))) [0,1,5,6] (.seq (.seq (.region false [om 32 5,om 33 6,oo 34 (.bin .neq true (.s 32) (.s 33))]) [0,1,5,34] (.cond (.s 34) (.seq (.seq (.region false [om 35 5]) [35] (
 .cond (.s 35) (.seq (.region false [oo 4 (.mov (.c (.int .i64 (-1))))]) [4] (.ret)) (.skip))) [] (.seq (.region false [oo 4 (.mov (.c (.int .i64 1)))]) [4] (.ret))) (.skip))) [0,1] (.seq (.region false [om 36 0,om 37 1,oo 38 (.call 90 [(.s 36),(.s 37)]),om 4 38]) [4] (.ret)))))⟩
def tf71 : TFn := ⟨9,[.tmp 2],.seq (.region false [oo 2 (.mov (.c (.bool false)))]) [0] (.seq (.region false [om 3 0,oo 4 (.bin .geq false (.s 3) (.c (.int .i64 0))),om 5 4,oT 6 5 (.mov (.s 0)),oT 7 5 (.bin .leq false (.s 6) (.c (.int .i64 9999))),oo 8 (.pick (.s 5) (.s 7) (.c (.bool false))),
 om 2 8]) [2] (.ret))⟩
def tf72 : TFn := ⟨48,[.tmp 4],.seq (.region false [oo 4 (.mov (.c (.bool false)))]) [0,1] (.seq (.seq (.region false [om 9 0,oo 10 (.bin .eql false (.s 9) (.c (.str [])))]) [0,1,10] (.cond (.s 10) (.seq (.region false [oo 4 (.mov (.c (.bool true)))]) [4] (.ret)) (.skip))) [0,1] (.seq (
 .region false [om 11 0,oo 12 (.call 73 [(.s 11),(.c (.int .u8 46))]),om 5 12]) [1,5] (.seq (.seq (.region false [om 13 5,oo 14 (.len (.s 13)),oo 15 (.bin .gtr false (.s 14) (.c (.int .i64 4)))]) [1,5,15] (.cond (.s 15) (.seq (.region false [oo 4 (.mov (.c (.bool false)))]) [4] (.ret)) (
 .skip))) [1,5] (.seq (.seq (.region false [oo 6 (.mov (.c (.int .i64 0)))]) [1,5,6] (.block 0 (.loop (.seq (.seq (.region false [om 16 6,om 17 5,oo 18 (.len (.s 17)),oo 19 (.bin .lss false (.s 16) (.s 18))]) [1,5,6,19] (.cond (.s 19) (.skip) (.exit 0))) [1,5,6] (.seq (.block 1 (.seq (.seq (
 .region false [om 22 5,om 23 6,oo 24 (.indexAddr 1 (.s 22) (.s 23)),ol 25 1 24,oo 26 (.call 91 [(.s 25)]),oo 27 (.un .not (.s 26))]) [1,5,6,27] (.cond (.s 27) (.seq (.region false [oo 4 (.mov (.c (.bool false)))]) [4] (.ret)) (.skip))) [1,5,6] (.seq (.region false [om 29 5,om 30 6,
 oo 31 (.indexAddr 1 (.s 29) (.s 30)),ol 32 1 31,oo 33 (.call 92 [(.s 32)]),om 28 33,oe 34 0 28,oe 35 1 28,om 7 34,om 8 35]) [1,5,6,8] (.seq (.region false [om 36 1,om 37 36,oT 38 37 (.mov (.s 5)),oT 39 37 (.mov (.s 6)),oT 40 37 (.indexAddr 1 (.s 38) (.s 39)),oT 41 37 (.load false 1 (.s 40)),
 oT 42 37 (.call 93 [(.s 41)]),oo 43 (.pick (.s 37) (.s 42) (.c (.bool false))),om 44 43,oT 45 44 (.mov (.s 8)),oT 46 44 (.un .not (.s 45)),oo 47 (.pick (.s 44) (.s 46) (.c (.bool false)))]) [1,5,6,47] (.cond (.s 47) (.seq (.region false [oo 4 (.mov (.c (.bool false)))]) [4] (.ret)) (
 .skip)))))) [1,5,6] (.region false [om 20 6,oo 21 (.bin .add false (.s 20) (.c (.int .i64 1))),om 6 21])))))) [] (.seq (.region false [oo 4 (.mov (.c (.bool true)))]) [4] (.ret))))))⟩
def tf73 : TFn := ⟨34,[.tmp 4],.seq (.region false [oo 4 (.mov (.c (.fsl [])))]) [0,1] (.seq (.region false [oo 5 (.mov (.c (.fsl [])))]) [0,1,5] (.seq (.region false [oo 6 (.mov (.c (.int .i64 0)))]) [0,1,5,6] (.seq (.seq (.region false [oo 7 (.mov (.c (.int .i64 0)))]) [0,1,5,6,7] (.block 0 (
 .loop (.seq (.seq (.region false [om 8 7,om 9 0,oo 10 (.lenStr (.s 9)),oo 11 (.bin .lss false (.s 8) (.s 10))]) [0,1,5,6,7,11] (.cond (.s 11) (.skip) (.exit 0))) [0,1,5,6,7] (.seq (.block 1 (.seq (.region false [om 14 0,om 15 7,oo 16 (.indexStr (.s 14) (.s 15)),om 17 1,
 oo 18 (.bin .eql false (.s 16) (.s 17))]) [0,1,5,6,7,18] (.cond (.s 18) (.seq (.region false [om 19 5,om 20 0,om 21 6,om 22 7,oo 23 (.sliceStr (.s 20) (some (.s 21)) (some (.s 22))),oo 24 (.buildSlice 1 9 [(.s 23)]),oo 25 (.append 1 9 16 (.s 19) (.s 24)),om 5 25]) [0,1,5,7] (
 .region false [om 26 7,oo 27 (.bin .add false (.s 26) (.c (.int .i64 1))),om 6 27])) (.skip)))) [0,1,5,6,7] (.region false [om 12 7,oo 13 (.bin .add false (.s 12) (.c (.int .i64 1))),om 7 13])))))) [0,5,6] (.seq (.region false [om 28 5,om 29 0,om 30 6,oo 31 (.sliceStr (.s 29) (some (.s 30)) none),
 oo 32 (.buildSlice 1 9 [(.s 31)]),oo 33 (.append 1 9 16 (.s 28) (.s 32)),om 4 33]) [4] (.ret)))))⟩
def tf74 : TFn := ⟨40,[.tmp 4],.seq (.region false [oo 4 (.mov (.c (.int .i64 0)))]) [0,1] (.seq (.region false [om 11 0,oo 12 (.call 93 [(.s 11)]),om 13 1,oo 14 (.call 93 [(.s 13)]),om 5 12,om 6 14]) [0,1,5,6] (.seq (.block 0 (.seq (.region false [om 16 5,om 17 16,oT 18 17 (.mov (.s 6)),
 oo 19 (.pick (.s 17) (.s 18) (.c (.bool false))),om 15 19]) [0,1,5,6,15] (.cond (.s 15) (.seq (.region false [om 21 0,oo 22 (.call 92 [(.s 21)]),om 20 22,oe 23 0 20,oe 24 1 20,om 7 23,om 8 24]) [1,7] (.seq (.region false [om 26 1,oo 27 (.call 92 [(.s 26)]),om 25 27,oe 28 0 25,oe 29 1 25,om 9 28,
 om 10 29]) [7,9] (.seq (.region false [om 30 7,om 31 9,oo 32 (.call 43 [(.s 30),(.s 31)]),om 4 32]) [4] (.ret)))) (.seq (.region false [om 34 5,om 33 34]) [0,1,6,33] (.cond (.s 33) (.seq (.region false [oo 4 (.mov (.c (.int .i64 (-1))))]) [4] (.ret)) (.seq (.region false [om 36 6,
 om 35 36]) [0,1,35] (.cond (.s 35) (.seq (.region false [oo 4 (.mov (.c (.int .i64 1)))]) [4] (.ret)) (.skip)))))))) [0,1] (.seq (.region false [om 37 0,om 38 1,oo 39 (.call 94 [(.s 37),(.s 38)]),om 4 39]) [4] (.ret))))⟩
def tf75 : TFn := ⟨19,[.tmp 4],.seq (.region false [oo 4 (.mov (.c (.int .i64 0)))]) [0,1] (.seq (.seq (.region false [om 6 0,oo 7 (.len (.s 6)),oo 8 (.mov (.c (.int .i64 0)))]) [0,1,7,8] (.block 0 (.loop (.seq (.region false [oo 9 (.bin .lss false (.s 8) (.s 7))]) [0,1,7,8,9] (.seq (.cond (.s 9) (
 .skip) (.exit 0)) [0,1,7,8] (.seq (.block 1 (.seq (.region false [om 10 8,om 5 10]) [0,1,5,7,8] (.seq (.region false [om 11 1,om 12 0,om 13 5,oo 14 (.indexAddr 1 (.s 12) (.s 13)),ol 15 1 14,oo 16 (.bin .eql false (.s 11) (.s 15))]) [0,1,5,7,8,16] (.cond (.s 16) (.seq (.region false [om 17 5,
 om 4 17]) [4] (.ret)) (.skip))))) [0,1,7,8] (.region false [oo 18 (.bin .add false (.s 8) (.c (.int .i64 1))),om 8 18]))))))) [] (.seq (.region false [oo 4 (.mov (.c (.int .i64 (-1))))]) [4] (.ret)))⟩
def tf76 : TFn := ⟨5,[.cell 2 true 5],.seq (.region false [oo 1 (.box 49 (.s 0)),oo 2 (.alloc 49 [(.int .i64 0),(.int .i64 0),(.int .i64 0),(.str []),(.str [])])]) [1,2] (.seq (.region false [oA 3 4 1,⟨none,.store 1 (.s 3) (.c (.str [])),none⟩]) [1,2] (.seq (.region false [oL 4 5 1,
 ⟨none,.store 5 (.s 2) (.s 4),none⟩]) [2] (.ret)))⟩
def tf77 : TFn := ⟨16,[.tmp 2],.seq (.region false [oo 1 (.box 49 (.s 0)),oo 2 (.mov (.c (.bool false)))]) [1] (.seq (.region false [oA 3 0 1,ol 4 1 3,oo 5 (.bin .eql false (.s 4) (.c (.int .i64 0))),om 6 5,oT 7 6 (.fieldAddr 1 (.s 1)),oT 8 6 (.load false 1 (.s 7)),
 oT 9 6 (.bin .eql false (.s 8) (.c (.int .i64 0))),oo 10 (.pick (.s 6) (.s 9) (.c (.bool false))),om 11 10,oT 12 11 (.fieldAddr 2 (.s 1)),oT 13 11 (.load false 1 (.s 12)),oT 14 11 (.bin .eql false (.s 13) (.c (.int .i64 0))),oo 15 (.pick (.s 11) (.s 14) (.c (.bool false))),om 2 15]) [2] (.ret))⟩
def tf78 : TFn := ⟨2,[.cell 0 true 7],.seq (.region false [oo 0 (.alloc 96 [(.int .i64 0),(.int .i64 0),(.int .i64 0),(.int .i64 0),(.str []),(.str []),(.bool false)])]) [0] (.seq (
 .region false [oo 1 (.build [(.int .i64 0),(.int .i64 0),(.int .i64 0),(.int .i64 0),(.str []),(.str []),(.bool false)] [(0,1,(.c (.int .i64 (-1))))]),⟨none,.store 7 (.s 0) (.s 1),none⟩]) [0] (.ret))⟩
def tf79 : TFn := ⟨34,[.cell 2 true 5,.tmp 3],.seq (.region false [oo 1 (.box 49 (.s 0)),oo 2 (.alloc 49 [(.int .i64 0),(.int .i64 0),(.int .i64 0),(.str []),(.str [])]),oo 3 (.mov (.c (.bool false)))]) [1,2] (.seq (.seq (.region false [oL 7 5 1,oo 8 (.call 42 [(.s 7)]),
 oo 9 (.un .not (.s 8))]) [1,2,9] (.cond (.s 9) (.seq (.region false [oo 10 (.build [(.int .i64 0),(.int .i64 0),(.int .i64 0),(.str []),(.str [])] []),⟨none,.store 5 (.s 2) (.s 10),none⟩,oo 3 (.mov (.c (.bool false)))]) [2,3] (.ret)) (.skip))) [1,2] (.seq (.seq (.region false [oA 11 3 1,
 ol 12 1 11,oo 13 (.bin .neq false (.s 12) (.c (.str [])))]) [1,2,13] (.cond (.s 13) (.seq (.region false [oA 14 0 1,ol 15 1 14,oA 16 1 1,ol 17 1 16,oA 18 2 1,ol 19 1 18,oo 20 (.build [(.int .i64 0),(.int .i64 0),(.int .i64 0),(.str []),(.str [])] [(0,1,(.s 15)),(1,1,(.s 17)),(2,1,(.s 19))]),
 ⟨none,.store 5 (.s 2) (.s 20),none⟩,oo 3 (.mov (.c (.bool true)))]) [2,3] (.ret)) (.skip))) [1,2] (.seq (.seq (.region false [oo 4 (.mov (.c (.int .i64 2)))]) [1,2,4] (.block 0 (.loop (.seq (.seq (.region false [om 21 4,oo 22 (.bin .geq false (.s 21) (.c (.int .i64 0)))]) [1,2,4,22] (
 .cond (.s 22) (.skip) (.exit 0))) [1,2,4] (.seq (.block 1 (.seq (.region false [oL 26 5 1,om 27 4,oo 28 (.call 95 [(.s 26),(.s 27)]),om 25 28,oe 29 0 25,oe 30 1 25,oo 5 (.alloc 49 [(.int .i64 0),(.int .i64 0),(.int .i64 0),(.str []),(.str [])]),⟨none,.store 5 (.s 5) (.s 29),none⟩,
 om 6 30]) [1,2,4,5,6] (.seq (.region false [om 31 6]) [1,2,4,5,31] (.cond (.s 31) (.seq (.region false [oL 32 5 5,⟨none,.store 5 (.s 2) (.s 32),none⟩,oo 3 (.mov (.c (.bool true)))]) [2,3] (.ret)) (.skip))))) [1,2,4] (.region false [om 23 4,oo 24 (.bin .sub false (.s 23) (.c (.int .i64 1))),
 om 4 24])))))) [2] (.seq (.region false [oo 33 (.build [(.int .i64 0),(.int .i64 0),(.int .i64 0),(.str []),(.str [])] []),⟨none,.store 5 (.s 2) (.s 33),none⟩,oo 3 (.mov (.c (.bool false)))]) [2,3] (.ret)))))⟩
def tf80 : TFn := ⟨2,[.cell 0 true 7],.seq (.region false [oo 0 (.alloc 96 [(.int .i64 0),(.int .i64 0),(.int .i64 0),(.int .i64 0),(.str []),(.str []),(.bool false)])]) [0] (.seq (
 .region false [oo 1 (.build [(.int .i64 0),(.int .i64 0),(.int .i64 0),(.int .i64 0),(.str []),(.str []),(.bool false)] [(0,1,(.c (.int .i64 1)))]),⟨none,.store 7 (.s 0) (.s 1),none⟩]) [0] (.ret))⟩
def tf81 : TFn := ⟨25,[.cell 4 true 2],.seq (.region false [oo 2 (.box 74 (.s 0)),oo 3 (.box 74 (.s 1)),oo 4 (.alloc 74 [(.fsl []),(.fsl [])])]) [2,3,4] (.seq (.seq (.region false [oL 5 2 2,oo 6 (.call 96 [(.s 5)]),oo 7 (.un .not (.s 6)),om 8 7,oF 9 8 (.load true 2 (.s 3)),
 oF 10 8 (.call 96 [(.s 9)]),oF 11 8 (.un .not (.s 10)),oo 12 (.pick (.s 8) (.c (.bool true)) (.s 11))]) [2,3,4,12] (.cond (.s 12) (.seq (.region false [oo 13 (.call 53 []),⟨none,.store 2 (.s 4) (.s 13),none⟩]) [4] (.ret)) (.skip))) [2,3,4] (.seq (.region true [oA 14 0 2,ol 15 1 14,oA 16 0 3,
 ol 17 1 16,oo 18 (.call 97 [(.s 15),(.s 17)]),oA 19 1 2,ol 20 1 19,oA 21 1 3,ol 22 1 21,oo 23 (.call 97 [(.s 20),(.s 22)]),oo 24 (.build [(.fsl []),(.fsl [])] [(0,1,(.s 18)),(1,1,(.s 23))]),⟨none,.store 2 (.s 4) (.s 24),none⟩]) [4] (.ret)))⟩
def tf82 : TFn := ⟨4,[.cell 0 true 2],.seq (.region false [oo 0 (.alloc 74 [(.fsl []),(.fsl [])])]) [0] (.seq (.region false [oo 1 (.call 98 []),oo 2 (.call 98 []),oo 3 (.build [(.fsl []),(.fsl [])] [(0,1,(.s 1)),(1,1,(.s 2))]),⟨none,.store 2 (.s 0) (.s 3),none⟩]) [0] (.ret))⟩
def tf83 : TFn := ⟨14,[.cell 2 true 2],.seq (.region false [oo 1 (.box 74 (.s 0)),oo 2 (.alloc 74 [(.fsl []),(.fsl [])])]) [1,2] (.seq (.seq (.region false [oL 3 2 1,oo 4 (.call 96 [(.s 3)]),oo 5 (.un .not (.s 4))]) [1,2,5] (.cond (.s 5) (.seq (.region false [oo 6 (.call 53 []),
 ⟨none,.store 2 (.s 2) (.s 6),none⟩]) [2] (.ret)) (.skip))) [1,2] (.seq (.region true [oA 7 0 1,ol 8 1 7,oo 9 (.call 99 [(.s 8)]),oA 10 1 1,ol 11 1 10,oo 12 (.call 99 [(.s 11)]),oo 13 (.build [(.fsl []),(.fsl [])] [(0,1,(.s 9)),(1,1,(.s 12))]),⟨none,.store 2 (.s 2) (.s 13),none⟩]) [2] (.ret)))⟩
def tf84 : TFn := ⟨9,[.tmp 2],.seq (.region false [oo 2 (.mov (.c (.bool false)))]) [0] (.seq (.region false [om 3 0,oo 4 (.bin .geq false (.s 3) (.c (.int .i64 0))),om 5 4,oT 6 5 (.mov (.s 0)),oT 7 5 (.bin .leq false (.s 6) (.c (.int .i64 9999))),oo 8 (.pick (.s 5) (.s 7) (.c (.bool false))),
 om 2 8]) [2] (.ret))⟩
def tf85 : TFn := ⟨29,[.tmp 2],.seq (.region false [oo 2 (.mov (.c (.bool false)))]) [0] (.seq (.seq (.region false [om 7 0,oo 8 (.call 86 [(.s 7)]),oo 9 (.un .not (.s 8))]) [0,9] (.cond (.s 9) (.seq (.region false [oo 2 (.mov (.c (.bool false)))]) [2] (.ret)) (.skip))) [0] (.seq (.seq (
 .region false [om 10 0,oo 11 (.call 69 [(.s 10),(.c (.int .u8 46))]),oo 12 (.len (.s 11)),oo 13 (.mov (.c (.int .i64 0)))]) [11,12,13] (.block 0 (.loop (.seq (.region false [oo 14 (.bin .lss false (.s 13) (.s 12))]) [11,12,13,14] (.seq (.cond (.s 14) (.skip) (.exit 0)) [11,12,13] (.seq (.block 1 (
 .seq (.region false [oo 15 (.indexAddr 1 (.s 11) (.s 13)),ol 16 1 15,om 4 16]) [4,11,12,13] (.seq (.region false [om 18 4,oo 19 (.call 89 [(.s 18)]),om 17 19,oe 20 0 17,oe 21 1 17,om 5 20,om 6 21]) [4,6,11,12,13] (.seq (.region false [om 22 4,oo 23 (.call 88 [(.s 22)]),om 24 23,
 oT 25 24 (.mov (.s 6)),oT 26 24 (.un .not (.s 25)),oo 27 (.pick (.s 24) (.s 26) (.c (.bool false)))]) [11,12,13,27] (.cond (.s 27) (.seq (.region false [oo 2 (.mov (.c (.bool false)))]) [2] (.ret)) (.skip)))))) [11,12,13] (.region false [oo 28 (.bin .add false (.s 13) (.c (.int .i64 1))),
 om 13 28]))))))) [] (.seq (.region false [oo 2 (.mov (.c (.bool true)))]) [2] (.ret))))⟩
def tf86 : TFn := ⟨52,[.tmp 2],.seq (.region false [oo 2 (.mov (.c (.bool false)))]) [0] (.scope (.seq (.region false [om 9 0,oo 10 (.call 69 [(.s 9),(.c (.int .u8 46))]),om 3 10]) [3] (.seq (.region false [om 11 3,oo 12 (.len (.s 11)),oo 13 (.bin .leq false (.s 12) (.c (.int .i64 4))),
 om 4 13]) [3,4] (.seq (.skip) [3,4] (.seq (.seq (.region false [om 14 3,oo 15 (.len (.s 14)),oo 16 (.mov (.c (.int .i64 0)))]) [4,14,15,16] (.block 0 (.loop (.seq (.region false [oo 17 (.bin .lss false (.s 16) (.s 15))]) [4,14,15,16,17] (.seq (.cond (.s 17) (.skip) (.exit 0)) [4,14,15,16] (.seq (
 .block 1 (.seq (.region false [oo 18 (.indexAddr 1 (.s 14) (.s 16)),ol 19 1 18,om 6 19]) [4,6,14,15,16] (.seq (.seq (.region false [om 20 6,oo 21 (.bin .eql false (.s 20) (.c (.str []))),om 22 21,oF 23 22 (.mov (.s 6)),oF 24 22 (.lenStr (.s 23)),
 oF 25 22 (.bin .gtr false (.s 24) (.c (.int .i64 8))),oo 26 (.pick (.s 22) (.c (.bool true)) (.s 25))]) [4,6,14,15,16,26] (.cond (.s 26) (.seq (.region false [oo 4 (.mov (.c (.bool false)))]) [4] (.exit 0)) (.skip))) [4,6,14,15,16] (.seq (.region false [om 27 6,
 oo 28 (.range (.s 27))]) [4,14,15,16,28] (.block 2 (.loop (.seq (.region false [oo 29 (.next (.s 28)),oe 30 0 29]) [4,14,15,16,28,29,30] (.seq (.cond (.s 30) (.skip) (.exit 2)) [4,14,15,16,28,29] (.block 3 (.seq (.region false [oe 31 2 29,om 8 31]) [4,8,14,15,16,28] (.seq (.region false [om 32 8,
 oo 33 (.bin .lss false (.s 32) (.c (.int .i32 97))),om 34 33,oF 35 34 (.mov (.s 8)),oF 36 34 (.bin .gtr false (.s 35) (.c (.int .i32 122))),oo 37 (.pick (.s 34) (.c (.bool true)) (.s 36)),om 38 37,oT 39 38 (.mov (.s 8)),oT 40 38 (.bin .lss false (.s 39) (.c (.int .i32 48))),
 oT 41 38 (.mov (.s 40)),oF 42 41 (.mov (.s 8)),oF 43 41 (.bin .gtr false (.s 42) (.c (.int .i32 57))),oT 44 38 (.pick (.s 41) (.c (.bool true)) (.s 43)),oo 45 (.pick (.s 38) (.s 44) (.c (.bool false))),om 46 45,oT 47 46 (.mov (.s 8)),oT 48 46 (.bin .neq false (.s 47) (.c (.int .i32 45))),
 oo 49 (.pick (.s 46) (.s 48) (.c (.bool false)))]) [4,14,15,16,28,49] (.cond (.s 49) (.seq (.region false [oo 4 (.mov (.c (.bool false)))]) [4] (.exit 0)) (.skip))))))))))))) [4,14,15,16] (.region false [oo 50 (.bin .add false (.s 16) (.c (.int .i64 1))),om 16 50]))))))) [4] (.seq (
 .region false [om 51 4,om 2 51]) [2] (.ret)))))))⟩
def tf87 : TFn := ⟨6,[.tmp 2],.seq (.region false [oo 2 (.mov (.c (.bool false)))]) [0] (.seq (.region false [om 3 0,om 4 0,oo 5 (.bin .neq false (.s 3) (.s 4)),om 2 5]) [2] (.ret))⟩
def tf88 : TFn := ⟨22,[.tmp 2],.seq (.region false [oo 2 (.mov (.c (.bool false)))]) [0] (.seq (.seq (.region false [om 4 0,oo 5 (.lenStr (.s 4)),oo 6 (.mov (.c (.int .i64 0)))]) [0,5,6] (.block 0 (.loop (.seq (.region false [oo 7 (.bin .lss false (.s 6) (.s 5))]) [0,5,6,7] (.seq (.cond (.s 7) (
 .skip) (.exit 0)) [0,5,6] (.seq (.block 1 (.seq (.region false [om 8 6,om 3 8]) [0,3,5,6] (.seq (.region false [om 9 0,om 10 3,oo 11 (.indexStr (.s 9) (.s 10)),oo 12 (.bin .lss false (.s 11) (.c (.int .u8 48))),om 13 12,oF 14 13 (.mov (.s 0)),oF 15 13 (.mov (.s 3)),
 oF 16 13 (.indexStr (.s 14) (.s 15)),oF 17 13 (.bin .gtr false (.s 16) (.c (.int .u8 57))),oo 18 (.pick (.s 13) (.c (.bool true)) (.s 17))]) [0,5,6,18] (.cond (.s 18) (.seq (.region false [oo 2 (.mov (.c (.bool false)))]) [2] (.ret)) (.skip))))) [0,5,6] (
 .region false [oo 19 (.bin .add false (.s 6) (.c (.int .i64 1))),om 6 19]))))))) [0] (.seq (.region false [om 20 0,oo 21 (.bin .neq false (.s 20) (.c (.str []))),om 2 21]) [2] (.ret)))⟩
def tf89 : TFn := ⟨45,[.tmp 2,.tmp 3],.seq (.region false [oo 2 (.mov (.c (.int .i64 0))),oo 3 (.mov (.c (.bool false)))]) [0] (.seq (.seq (.region false [om 7 0,oo 8 (.bin .eql false (.s 7) (.c (.str []))),om 9 8,oF 10 9 (.mov (.s 0)),oF 11 9 (.lenStr (.s 10)),
 oF 12 9 (.bin .gtr false (.s 11) (.c (.int .i64 4))),oo 13 (.pick (.s 9) (.c (.bool true)) (.s 12)),om 14 13,oF 15 14 (.mov (.s 0)),oF 16 14 (.indexStr (.s 15) (.c (.int .i64 0))),oF 17 14 (.bin .eql false (.s 16) (.c (.int .u8 48))),oF 18 14 (.mov (.s 17)),oT 19 18 (.mov (.s 0)),
 oT 20 18 (.lenStr (.s 19)),oT 21 18 (.bin .gtr false (.s 20) (.c (.int .i64 1))),oF 22 14 (.pick (.s 18) (.s 21) (.c (.bool false))),oo 23 (.pick (.s 14) (.c (.bool true)) (.s 22))]) [0,23] (.cond (.s 23) (.seq (.region false [oo 2 (.mov (.c (.int .i64 0))),oo 3 (.mov (.c (.bool false)))]) [2,3] (
 .ret)) (.skip))) [0] (.seq (.region false [oo 4 (.mov (.c (.int .i64 0)))]) [0,4] (.seq (.seq (.region false [om 24 0,oo 25 (.range (.s 24))]) [4,25] (.block 0 (.loop (.seq (.region false [oo 26 (.next (.s 25)),oe 27 0 26]) [4,25,26,27] (.seq (.cond (.s 27) (.skip) (.exit 0)) [4,25,26] (.block 1 (
 .seq (.region false [oe 28 2 26,om 6 28]) [4,6,25] (.block 2 (.seq (.region false [om 30 6,oo 31 (.bin .geq false (.s 30) (.c (.int .i32 48))),om 32 31,oT 33 32 (.mov (.s 6)),oT 34 32 (.bin .leq false (.s 33) (.c (.int .i32 57))),oo 35 (.pick (.s 32) (.s 34) (.c (.bool false))),
 om 29 35]) [4,6,25,29] (.cond (.s 29) (.region false [om 36 4,oo 37 (.bin .mul false (.c (.int .i64 10)) (.s 36)),om 38 6,oo 39 (.bin .sub false (.s 38) (.c (.int .i32 48))),oo 40 (.conv .i64 (.s 39)),oo 41 (.bin .add false (.s 37) (.s 40)),om 4 41]) (.seq (
 .region false [oo 2 (.mov (.c (.int .i64 0))),oo 3 (.mov (.c (.bool false)))]) [2,3] (.ret)))))))))))) [4] (.seq (.region false [om 42 4,om 43 4,oo 44 (.bin .leq false (.s 43) (.c (.int .i64 9999))),om 2 42,om 3 44]) [2,3] (.ret)))))⟩
def tf90 : TFn := ⟨20,[.tmp 4],.seq (.region false [oo 4 (.mov (.c (.int .i64 0)))]) [0,1] (.seq (.region false [om 7 0,oo 8 (.call 100 [(.s 7)]),om 5 8]) [0,1,5] (.seq (.region false [om 9 1,oo 10 (.call 100 [(.s 9)]),om 6 10]) [0,1,5,6] (.seq (.seq (.region false [om 11 5]) [0,1,6,11] (
 .cond (.s 11) (.seq (.seq (.region false [om 12 6]) [12] (.cond (.s 12) (.seq (.region false [oo 4 (.mov (.c (.int .i64 0)))]) [4] (.ret)) (.skip))) [] (.seq (.region false [oo 4 (.mov (.c (.int .i64 (-1))))]) [4] (.ret))) (.skip))) [0,1,6] (.seq (.seq (.region false [om 13 6]) [0,1,13] (
 .cond (.s 13) (.seq (.region false [oo 4 (.mov (.c (.int .i64 1)))]) [4] (.ret)) (.skip))) [0,1] (.seq (.seq (.region false [om 14 0,om 15 1,oo 16 (.bin .lss false (.s 14) (.s 15))]) [0,1,16] (.cond (.s 16) (.seq (.region false [oo 4 (.mov (.c (.int .i64 (-1))))]) [4] (.ret)) (.skip))) [0,1] (
 .seq (.seq (.region false [om 17 0,om 18 1,oo 19 (.bin .gtr false (.s 17) (.s 18))]) [19] (.cond (.s 19) (.seq (.region false [oo 4 (.mov (.c (.int .i64 1)))]) [4] (.ret)) (.skip))) [] (.seq (.region false [oo 4 (.mov (.c (.int .i64 0)))]) [4] (.ret))))))))⟩
def tf91 : TFn := ⟨40,[.tmp 2],.seq (.region false [oo 2 (.mov (.c (.bool false)))]) [0] (.seq (.seq (.region false [om 5 0,oo 6 (.lenStr (.s 5)),oo 7 (.bin .lss false (.s 6) (.c (.int .i64 1))),om 8 7,oF 9 8 (.mov (.s 0)),oF 10 8 (.lenStr (.s 9)),
 oF 11 8 (.bin .gtr false (.s 10) (.c (.int .i64 8))),oo 12 (.pick (.s 8) (.c (.bool true)) (.s 11))]) [0,12] (.cond (.s 12) (.seq (.region false [oo 2 (.mov (.c (.bool false)))]) [2] (.ret)) (.skip))) [0] (.seq (.seq (.region false [oo 3 (.mov (.c (.int .i64 0)))]) [0,3] (.block 0 (.loop (.seq (
 .seq (.region false [om 13 3,om 14 0,oo 15 (.lenStr (.s 14)),oo 16 (.bin .lss false (.s 13) (.s 15))]) [0,3,16] (.cond (.s 16) (.skip) (.exit 0))) [0,3] (.seq (.block 1 (.seq (.region false [om 19 0,om 20 3,oo 21 (.indexStr (.s 19) (.s 20)),om 4 21]) [0,3,4] (.seq (.region false [om 22 4,
 oo 23 (.bin .lss false (.s 22) (.c (.int .u8 97))),om 24 23,oF 25 24 (.mov (.s 4)),oF 26 24 (.bin .gtr false (.s 25) (.c (.int .u8 122))),oo 27 (.pick (.s 24) (.c (.bool true)) (.s 26)),om 28 27,oT 29 28 (.mov (.s 4)),oT 30 28 (.bin .lss false (.s 29) (.c (.int .u8 48))),oT 31 28 (.mov (.s 30)),
 oF 32 31 (.mov (.s 4)),oF 33 31 (.bin .gtr false (.s 32) (.c (.int .u8 57))),oT 34 28 (.pick (.s 31) (.c (.bool true)) (.s 33)),oo 35 (.pick (.s 28) (.s 34) (.c (.bool false))),om 36 35,oT 37 36 (.mov (.s 4)),oT 38 36 (.bin .neq false (.s 37) (.c (.int .u8 45))),
 oo 39 (.pick (.s 36) (.s 38) (.c (.bool false)))]) [0,3,39] (.cond (.s 39) (.seq (.region false [oo 2 (.mov (.c (.bool false)))]) [2] (.ret)) (.skip))))) [0,3] (.region false [om 17 3,oo 18 (.bin .add false (.s 17) (.c (.int .i64 1))),om 3 18])))))) [] (.seq (
 .region false [oo 2 (.mov (.c (.bool true)))]) [2] (.ret))))⟩
def tf92 : TFn := ⟨46,[.tmp 2,.tmp 3],.seq (.region false [oo 2 (.mov (.c (.int .i64 0))),oo 3 (.mov (.c (.bool false)))]) [0] (.seq (.seq (.region false [om 6 0,oo 7 (.lenStr (.s 6)),oo 8 (.bin .lss false (.s 7) (.c (.int .i64 1))),om 9 8,oF 10 9 (.mov (.s 0)),oF 11 9 (.lenStr (.s 10)),
 oF 12 9 (.bin .gtr false (.s 11) (.c (.int .i64 9))),oo 13 (.pick (.s 9) (.c (.bool true)) (.s 12)),om 14 13,oF 15 14 (.mov (.s 0)),oF 16 14 (.lenStr (.s 15)),oF 17 14 (.bin .gtr false (.s 16) (.c (.int .i64 1))),oF 18 14 (.mov (.s 17)),oT 19 18 (.mov (.s 0)),
 oT 20 18 (.indexStr (.s 19) (.c (.int .i64 0))),oT 21 18 (.bin .eql false (.s 20) (.c (.int .u8 48))),oF 22 14 (.pick (.s 18) (.s 21) (.c (.bool false))),oo 23 (.pick (.s 14) (.c (.bool true)) (.s 22))]) [0,23] (.cond (.s 23) (.seq (.region false [oo 2 (.mov (.c (.int .i64 0))),
 oo 3 (.mov (.c (.bool false)))]) [2,3] (.ret)) (.skip))) [0] (.seq (.region false [oo 4 (.mov (.c (.int .i64 0)))]) [0,4] (.seq (.seq (.region false [oo 5 (.mov (.c (.int .i64 0)))]) [0,4,5] (.block 0 (.loop (.seq (.seq (.region false [om 24 5,om 25 0,oo 26 (.lenStr (.s 25)),
 oo 27 (.bin .lss false (.s 24) (.s 26))]) [0,4,5,27] (.cond (.s 27) (.skip) (.exit 0))) [0,4,5] (.seq (.block 1 (.seq (.seq (.region false [om 30 0,om 31 5,oo 32 (.indexStr (.s 30) (.s 31)),oo 33 (.call 101 [(.s 32)]),oo 34 (.un .not (.s 33))]) [0,4,5,34] (.cond (.s 34) (.seq (
 .region false [oo 2 (.mov (.c (.int .i64 0))),oo 3 (.mov (.c (.bool false)))]) [2,3] (.ret)) (.skip))) [0,4,5] (.region false [om 35 4,oo 36 (.bin .mul false (.s 35) (.c (.int .i64 10))),om 37 0,om 38 5,oo 39 (.indexStr (.s 37) (.s 38)),oo 40 (.bin .sub false (.s 39) (.c (.int .u8 48))),
 oo 41 (.conv .i64 (.s 40)),oo 42 (.bin .add false (.s 36) (.s 41)),om 4 42]))) [0,4,5] (.region false [om 28 5,oo 29 (.bin .add false (.s 28) (.c (.int .i64 1))),om 5 29])))))) [4] (.seq (.seq (.region false [om 43 4,oo 44 (.bin .gtr false (.s 43) (.c (.int .i64 9999)))]) [4,44] (.cond (.s 44) (
 .seq (.region false [oo 2 (.mov (.c (.int .i64 0))),oo 3 (.mov (.c (.bool false)))]) [2,3] (.ret)) (.skip))) [4] (.seq (.region false [om 45 4,om 2 45,oo 3 (.mov (.c (.bool true)))]) [2,3] (.ret))))))⟩
def tf93 : TFn := ⟨23,[.tmp 2],.seq (.region false [oo 2 (.mov (.c (.bool false)))]) [0] (.seq (.seq (.region false [oo 3 (.mov (.c (.int .i64 0)))]) [0,3] (.block 0 (.loop (.seq (.seq (.region false [om 4 3,om 5 0,oo 6 (.lenStr (.s 5)),oo 7 (.bin .lss false (.s 4) (.s 6))]) [0,3,7] (.cond (.s 7) (
 .skip) (.exit 0))) [0,3] (.seq (.block 1 (.seq (.region false [om 10 0,om 11 3,oo 12 (.indexStr (.s 10) (.s 11)),oo 13 (.bin .lss false (.s 12) (.c (.int .u8 48))),om 14 13,oF 15 14 (.mov (.s 0)),oF 16 14 (.mov (.s 3)),oF 17 14 (.indexStr (.s 15) (.s 16)),
 oF 18 14 (.bin .gtr false (.s 17) (.c (.int .u8 57))),oo 19 (.pick (.s 14) (.c (.bool true)) (.s 18))]) [0,3,19] (.cond (.s 19) (.seq (.region false [oo 2 (.mov (.c (.bool false)))]) [2] (.ret)) (.skip)))) [0,3] (.region false [om 8 3,oo 9 (.bin .add false (.s 8) (.c (.int .i64 1))),
 om 3 9])))))) [0] (.seq (.region false [om 20 0,oo 21 (.lenStr (.s 20)),oo 22 (.bin .gtr false (.s 21) (.c (.int .i64 0))),om 2 22]) [2] (.ret)))⟩
def tf94 : TFn := ⟨13,[.tmp 4],.seq (.region false [oo 4 (.mov (.c (.int .i64 0)))]) [0,1] (.seq (.block 0 (.seq (.region false [om 6 0,om 7 1,oo 8 (.bin .lss false (.s 6) (.s 7)),om 5 8]) [0,1,5] (.cond (.s 5) (.seq (.region false [oo 4 (.mov (.c (.int .i64 (-1))))]) [4] (.ret)) (.seq (
 .region false [om 10 0,om 11 1,oo 12 (.bin .gtr false (.s 10) (.s 11)),om 9 12]) [9] (.cond (.s 9) (.seq (.region false [oo 4 (.mov (.c (.int .i64 1)))]) [4] (.ret)) (.skip)))))) [] (.seq (.region false [oo 4 (.mov (.c (.int .i64 0)))]) [4] (.ret)))⟩
def tf95 : TFn := ⟨47,[.cell 4 true 5,.tmp 5],.seq (.region false [oo 2 (.box 49 (.s 0)),oo 4 (.alloc 49 [(.int .i64 0),(.int .i64 0),(.int .i64 0),(.str []),(.str [])]),oo 5 (.mov (.c (.bool false)))]) [1,2,4] (.seq (.seq (.region false [oL 7 5 2,oo 8 (.call 42 [(.s 7)]),oo 9 (.un .not (.s 8)),
 om 10 9,oF 11 10 (.mov (.s 1)),oF 12 10 (.bin .lss false (.s 11) (.c (.int .i64 0))),oo 13 (.pick (.s 10) (.c (.bool true)) (.s 12)),om 14 13,oF 15 14 (.mov (.s 1)),oF 16 14 (.bin .gtr false (.s 15) (.c (.int .i64 2))),oo 17 (.pick (.s 14) (.c (.bool true)) (.s 16))]) [1,2,4,17] (.cond (.s 17) (
 .seq (.region false [oo 18 (.build [(.int .i64 0),(.int .i64 0),(.int .i64 0),(.str []),(.str [])] []),⟨none,.store 5 (.s 4) (.s 18),none⟩,oo 5 (.mov (.c (.bool false)))]) [4,5] (.ret)) (.skip))) [1,2,4] (.seq (
 .region false [oo 6 (.alloc 49 [(.int .i64 0),(.int .i64 0),(.int .i64 0),(.str []),(.str [])])]) [1,2,4,6] (.seq (.seq (.region false [om 19 1]) [2,4,6,19] (.block 0 (.seq (.region false [oo 29 (.bin .eql false (.s 19) (.c (.int .i64 0))),om 28 29]) [2,4,6,19,28] (.cond (.s 28) (
 .region false [oA 30 0 2,ol 31 1 30,oo 32 (.bin .add false (.s 31) (.c (.int .i64 1))),oo 33 (.build [(.int .i64 0),(.int .i64 0),(.int .i64 0),(.str []),(.str [])] [(0,1,(.s 32))]),⟨none,.store 5 (.s 6) (.s 33),none⟩]) (.seq (.region false [oo 35 (.bin .eql false (.s 19) (.c (.int .i64 1))),
 om 34 35]) [2,4,6,34] (.cond (.s 34) (.region false [oA 36 0 2,ol 37 1 36,oA 38 1 2,ol 39 1 38,oo 40 (.bin .add false (.s 39) (.c (.int .i64 1))),oo 41 (.build [(.int .i64 0),(.int .i64 0),(.int .i64 0),(.str []),(.str [])] [(0,1,(.s 37)),(1,1,(.s 40))]),⟨none,.store 5 (.s 6) (.s 41),none⟩]) (
 .region false [oA 20 0 2,ol 21 1 20,oA 22 1 2,ol 23 1 22,oA 24 2 2,ol 25 1 24,oo 26 (.bin .add false (.s 25) (.c (.int .i64 1))),oo 27 (.build [(.int .i64 0),(.int .i64 0),(.int .i64 0),(.str []),(.str [])] [(0,1,(.s 21)),(1,1,(.s 23)),(2,1,(.s 26))]),
 ⟨none,.store 5 (.s 6) (.s 27),none⟩]))))))) [4,6] (.seq (.seq (.region false [oL 42 5 6,oo 43 (.call 42 [(.s 42)]),oo 44 (.un .not (.s 43))]) [4,6,44] (.cond (.s 44) (.seq (.region false [oo 45 (.build [(.int .i64 0),(.int .i64 0),(.int .i64 0),(.str []),(.str [])] []),
 ⟨none,.store 5 (.s 4) (.s 45),none⟩,oo 5 (.mov (.c (.bool false)))]) [4,5] (.ret)) (.skip))) [4,6] (.seq (.region false [oL 46 5 6,⟨none,.store 5 (.s 4) (.s 46),none⟩,oo 5 (.mov (.c (.bool true)))]) [4,5] (.ret))))))⟩
def tf96 : TFn := ⟨39,[.tmp 2],.seq (.region false [oo 1 (.box 74 (.s 0)),oo 2 (.mov (.c (.bool false)))]) [1] (.seq (.seq (.region false [oA 4 0 1,ol 5 1 4,oo 6 (.call 102 [(.s 5)]),oo 7 (.un .not (.s 6)),om 8 7,oF 9 8 (.fieldAddr 1 (.s 1)),oF 10 8 (.load false 1 (.s 9)),
 oF 11 8 (.call 102 [(.s 10)]),oF 12 8 (.un .not (.s 11)),oo 13 (.pick (.s 8) (.c (.bool true)) (.s 12))]) [1,13] (.cond (.s 13) (.seq (.region false [oo 2 (.mov (.c (.bool false)))]) [2] (.ret)) (.skip))) [1] (.seq (.seq (.region false [oo 3 (.mov (.c (.int .i64 0)))]) [1,3] (.block 0 (.loop (
 .seq (.seq (.region false [om 14 3,oA 15 0 1,ol 16 1 15,oo 17 (.len (.s 16)),oo 18 (.bin .lss false (.s 14) (.s 17))]) [1,3,18] (.cond (.s 18) (.skip) (.exit 0))) [1,3] (.seq (.block 1 (.seq (.region false [oA 21 0 1,ol 22 1 21,om 23 3,oo 24 (.indexAddr 14 (.s 22) (.s 23)),oA 25 0 24,oL 26 7 25,
 oo 27 (.call 103 [(.s 26)]),oo 28 (.un .not (.s 27)),om 29 28,oF 30 29 (.fieldAddr 0 (.s 1)),oF 31 29 (.load false 1 (.s 30)),oF 32 29 (.mov (.s 3)),oF 33 29 (.indexAddr 14 (.s 31) (.s 32)),oF 34 29 (.fieldAddr 7 (.s 33)),oF 35 29 (.load true 7 (.s 34)),oF 36 29 (.call 103 [(.s 35)]),
 oF 37 29 (.un .not (.s 36)),oo 38 (.pick (.s 29) (.c (.bool true)) (.s 37))]) [1,3,38] (.cond (.s 38) (.seq (.region false [oo 2 (.mov (.c (.bool false)))]) [2] (.ret)) (.skip)))) [1,3] (.region false [om 19 3,oo 20 (.bin .add false (.s 19) (.c (.int .i64 1))),om 3 20])))))) [] (.seq (
 .region false [oo 2 (.mov (.c (.bool true)))]) [2] (.ret))))⟩
def tf97 : TFn := ⟨24,[.tmp 4],.seq (.region false [oo 4 (.mov (.c (.fsl [])))]) [0,1] (.seq (.seq (.region false [om 7 0,oo 8 (.call 102 [(.s 7)]),oo 9 (.un .not (.s 8)),om 10 9,oF 11 10 (.mov (.s 1)),oF 12 10 (.call 102 [(.s 11)]),oF 13 10 (.un .not (.s 12)),
 oo 14 (.pick (.s 10) (.c (.bool true)) (.s 13))]) [0,1,14] (.cond (.s 14) (.seq (.region false [oo 4 (.mov (.c (.fsl [])))]) [4] (.ret)) (.skip))) [0,1] (.seq (.region false [om 16 0,oo 17 (.append 14 99 144 (.c (.fsl [])) (.s 16)),om 18 1,oo 19 (.append 14 99 144 (.s 17) (.s 18)),
 oo 20 (.call 104 [(.s 19)]),om 15 20,oe 21 0 15,oe 22 1 15,om 5 21,om 6 22]) [5] (.seq (.region false [om 23 5,om 4 23]) [4] (.ret))))⟩
def tf98 : TFn := ⟨5,[.tmp 0],.seq (.region false [oo 0 (.mov (.c (.fsl [])))]) [] (.seq (.region false [oo 1 (.call 78 []),oo 2 (.call 80 []),
 oo 3 (.build [(.int .i64 0),(.int .i64 0),(.int .i64 0),(.int .i64 0),(.str []),(.str []),(.bool false),(.int .i64 0),(.int .i64 0),(.int .i64 0),(.int .i64 0),(.str []),(.str []),(.bool false)] [(0,7,(.s 1)),(7,7,(.s 2))]),oo 4 (.buildSlice 14 99 [(.s 3)]),om 0 4]) [0] (.ret))⟩
def tf99 : TFn := ⟨42,[.tmp 2],.seq (.region false [oo 2 (.mov (.c (.fsl [])))]) [0] (.seq (.seq (.region false [om 6 0,oo 7 (.call 102 [(.s 6)]),oo 8 (.un .not (.s 7))]) [0,8] (.cond (.s 8) (.seq (.region false [oo 2 (.mov (.c (.fsl [])))]) [2] (.ret)) (.skip))) [0] (.seq (
 .region false [oo 3 (.mov (.c (.fsl [])))]) [0,3] (.seq (.region false [om 9 0,oo 10 (.call 105 [(.s 9)]),om 4 10]) [0,3,4] (.seq (.seq (.region false [oo 5 (.mov (.c (.int .i64 0)))]) [0,3,4,5] (.block 0 (.loop (.seq (.seq (.region false [om 11 5,
 oo 12 (.bin .add false (.s 11) (.c (.int .i64 1))),om 13 4,oo 14 (.len (.s 13)),oo 15 (.bin .lss false (.s 12) (.s 14))]) [0,3,4,5,15] (.cond (.s 15) (.skip) (.exit 0))) [0,3,4,5] (.seq (.block 1 (.seq (.region true [om 18 0,om 19 4,om 20 5,oo 21 (.indexAddr 7 (.s 19) (.s 20)),oL 22 7 21,om 23 4,
 om 24 5,oo 25 (.bin .add false (.s 24) (.c (.int .i64 1))),oo 26 (.indexAddr 7 (.s 23) (.s 25)),oL 27 7 26,oo 28 (.call 106 [(.s 18),(.s 22),(.s 27)]),oo 29 (.un .not (.s 28))]) [0,3,4,5,29] (.cond (.s 29) (.region true [om 30 3,om 31 4,om 32 5,oo 33 (.indexAddr 7 (.s 31) (.s 32)),oL 34 7 33,
 om 35 4,om 36 5,oo 37 (.bin .add false (.s 36) (.c (.int .i64 1))),oo 38 (.indexAddr 7 (.s 35) (.s 37)),oL 39 7 38,oo 40 (.call 107 [(.s 30),(.s 34),(.s 39)]),om 3 40]) (.skip)))) [0,3,4,5] (.region false [om 16 5,oo 17 (.bin .add false (.s 16) (.c (.int .i64 1))),om 5 17])))))) [3] (.seq (
 .region false [om 41 3,om 2 41]) [2] (.ret))))))⟩
def tf100 : TFn := ⟨6,[.tmp 2],.seq (.region false [oo 2 (.mov (.c (.bool false)))]) [0] (.seq (.region false [om 3 0,om 4 0,oo 5 (.bin .neq false (.s 3) (.s 4)),om 2 5]) [2] (.ret))⟩
def tf101 : TFn := ⟨9,[.tmp 2],.seq (.region false [oo 2 (.mov (.c (.bool false)))]) [0] (.seq (.region false [om 3 0,oo 4 (.bin .geq false (.s 3) (.c (.int .u8 48))),om 5 4,oT 6 5 (.mov (.s 0)),oT 7 5 (.bin .leq false (.s 6) (.c (.int .u8 57))),oo 8 (.pick (.s 5) (.s 7) (.c (.bool false))),
 om 2 8]) [2] (.ret))⟩
def tf102 : TFn := ⟨35,[.tmp 2],.seq (.region false [oo 2 (.mov (.c (.bool false)))]) [0] (.seq (.seq (.region false [oo 3 (.mov (.c (.int .i64 0)))]) [0,3] (.block 0 (.loop (.seq (.seq (.region false [om 4 3,om 5 0,oo 6 (.len (.s 5)),oo 7 (.bin .lss false (.s 4) (.s 6))]) [0,3,7] (.cond (.s 7) (
 .skip) (.exit 0))) [0,3] (.seq (.block 1 (.seq (.region true [om 10 0,om 11 3,oo 12 (.indexAddr 14 (.s 10) (.s 11)),oL 13 14 12,oo 14 (.call 108 [(.s 13)]),oo 15 (.un .not (.s 14)),om 16 15,oF 17 16 (.mov (.s 3)),oF 18 16 (.bin .gtr false (.s 17) (.c (.int .i64 0))),oF 19 16 (.mov (.s 18)),
 oT 20 19 (.mov (.s 0)),oT 21 19 (.mov (.s 3)),oT 22 19 (.bin .sub false (.s 21) (.c (.int .i64 1))),oT 23 19 (.indexAddr 14 (.s 20) (.s 22)),oT 24 19 (.fieldAddr 7 (.s 23)),oT 25 19 (.load true 7 (.s 24)),oT 26 19 (.mov (.s 0)),oT 27 19 (.mov (.s 3)),oT 28 19 (.indexAddr 14 (.s 26) (.s 27)),
 oT 29 19 (.fieldAddr 0 (.s 28)),oT 30 19 (.load true 7 (.s 29)),oT 31 19 (.call 109 [(.s 25),(.s 30)]),oT 32 19 (.bin .geq false (.s 31) (.c (.int .i64 0))),oF 33 16 (.pick (.s 19) (.s 32) (.c (.bool false))),oo 34 (.pick (.s 16) (.c (.bool true)) (.s 33))]) [0,3,34] (.cond (.s 34) (.seq (
 .region false [oo 2 (.mov (.c (.bool false)))]) [2] (.ret)) (.skip)))) [0,3] (.region false [om 8 3,oo 9 (.bin .add false (.s 8) (.c (.int .i64 1))),om 3 9])))))) [] (.seq (.region false [oo 2 (.mov (.c (.bool true)))]) [2] (.ret)))⟩
def tf103 : TFn := ⟨23,[.tmp 2],.seq (.region false [oo 1 (.box 96 (.s 0)),oo 2 (.mov (.c (.bool false)))]) [1] (.seq (.region false [oA 3 0 1,ol 4 1 3,oo 5 (.bin .neq false (.s 4) (.c (.int .i64 0))),om 6 5,oF 7 6 (.fieldAddr 6 (.s 1)),oF 8 6 (.load false 1 (.s 7)),oF 9 6 (.un .not (.s 8)),
 oF 10 6 (.mov (.s 9)),oT 11 10 (.fieldAddr 1 (.s 1)),oT 12 10 (.fieldAddr 3 (.s 11)),oT 13 10 (.load false 1 (.s 12)),oT 14 10 (.bin .eql false (.s 13) (.c (.str []))),oF 15 6 (.pick (.s 10) (.s 14) (.c (.bool false))),oF 16 6 (.mov (.s 15)),oT 17 16 (.fieldAddr 1 (.s 1)),
 oT 18 16 (.load true 5 (.s 17)),oT 19 16 (.call 77 [(.s 18)]),oT 20 16 (.un .not (.s 19)),oF 21 6 (.pick (.s 16) (.s 20) (.c (.bool false))),oo 22 (.pick (.s 6) (.c (.bool true)) (.s 21)),om 2 22]) [2] (.ret))⟩
def tf104 : TFn := ⟨52,[.tmp 2,.tmp 3],.seq (.region false [oo 2 (.mov (.c (.fsl []))),oo 3 (.mov (.c (.bool false)))]) [0] (.seq (.seq (.region false [oo 4 (.mov (.c (.int .i64 0)))]) [0,4] (.block 0 (.loop (.seq (.seq (.region false [om 8 4,om 9 0,oo 10 (.len (.s 9)),
 oo 11 (.bin .lss false (.s 8) (.s 10))]) [0,4,11] (.cond (.s 11) (.skip) (.exit 0))) [0,4] (.seq (.block 1 (.seq (.region false [om 14 0,om 15 4,oo 16 (.indexAddr 14 (.s 14) (.s 15)),oL 17 14 16,oo 18 (.call 108 [(.s 17)]),oo 19 (.un .not (.s 18))]) [0,4,19] (.cond (.s 19) (.seq (
 .region false [oo 2 (.mov (.c (.fsl []))),oo 3 (.mov (.c (.bool false)))]) [2,3] (.ret)) (.skip)))) [0,4] (.region false [om 12 4,oo 13 (.bin .add false (.s 12) (.c (.int .i64 1))),om 4 13])))))) [0] (.seq (.region false [oo 5 (.mov (.c (.fsl [])))]) [0,5] (.seq (.region false [om 20 0,
 oo 21 (.call 105 [(.s 20)]),om 6 21]) [0,5,6] (.seq (.seq (.region false [oo 7 (.mov (.c (.int .i64 0)))]) [0,5,6,7] (.block 2 (.loop (.seq (.seq (.region false [om 22 7,oo 23 (.bin .add false (.s 22) (.c (.int .i64 1))),om 24 6,oo 25 (.len (.s 24)),
 oo 26 (.bin .lss false (.s 23) (.s 25))]) [0,5,6,7,26] (.cond (.s 26) (.skip) (.exit 2))) [0,5,6,7] (.seq (.block 3 (.seq (.region true [om 29 0,om 30 6,om 31 7,oo 32 (.indexAddr 7 (.s 30) (.s 31)),oL 33 7 32,om 34 6,om 35 7,oo 36 (.bin .add false (.s 35) (.c (.int .i64 1))),
 oo 37 (.indexAddr 7 (.s 34) (.s 36)),oL 38 7 37,oo 39 (.call 106 [(.s 29),(.s 33),(.s 38)])]) [0,5,6,7,39] (.cond (.s 39) (.region true [om 40 5,om 41 6,om 42 7,oo 43 (.indexAddr 7 (.s 41) (.s 42)),oL 44 7 43,om 45 6,om 46 7,oo 47 (.bin .add false (.s 46) (.c (.int .i64 1))),
 oo 48 (.indexAddr 7 (.s 45) (.s 47)),oL 49 7 48,oo 50 (.call 107 [(.s 40),(.s 44),(.s 49)]),om 5 50]) (.skip)))) [0,5,6,7] (.region false [om 27 7,oo 28 (.bin .add false (.s 27) (.c (.int .i64 1))),om 7 28])))))) [5] (.seq (.region false [om 51 5,om 2 51,oo 3 (.mov (.c (.bool true)))]) [2,3] (
 .ret))))))⟩
def tf105 : TFn := ⟨28,[.tmp 2],.seq (.region false [oo 2 (.mov (.c (.fsl [])))]) [0] (.seq (.region false [oo 5 (.call 78 []),oo 6 (.call 80 []),oo 7 (.buildSlice 7 96 [(.s 5),(.s 6)]),om 3 7]) [0,3] (.seq (.seq (.region false [oo 4 (.mov (.c (.int .i64 0)))]) [0,3,4] (.block 0 (.loop (.seq (
 .seq (.region false [om 8 4,om 9 0,oo 10 (.len (.s 9)),oo 11 (.bin .lss false (.s 8) (.s 10))]) [0,3,4,11] (.cond (.s 11) (.skip) (.exit 0))) [0,3,4] (.seq (.block 1 (.region true [om 14 3,om 15 0,om 16 4,oo 17 (.indexAddr 14 (.s 15) (.s 16)),oA 18 0 17,oL 19 7 18,
 oo 20 (.call 110 [(.s 14),(.s 19)]),om 21 0,om 22 4,oo 23 (.indexAddr 14 (.s 21) (.s 22)),oA 24 7 23,oL 25 7 24,oo 26 (.call 110 [(.s 20),(.s 25)]),om 3 26])) [0,3,4] (.region false [om 12 4,oo 13 (.bin .add false (.s 12) (.c (.int .i64 1))),om 4 13])))))) [3] (.seq (.region false [om 27 3,
 om 2 27]) [2] (.ret))))⟩
def tf106 : TFn := ⟨32,[.tmp 6],.seq (.region false [oo 4 (.box 96 (.s 1)),oo 5 (.box 96 (.s 2)),oo 6 (.mov (.c (.bool false)))]) [0,4,5] (.seq (.seq (.region false [oo 7 (.mov (.c (.int .i64 0)))]) [0,4,5,7] (.block 0 (.loop (.seq (.seq (.region false [om 8 7,om 9 0,oo 10 (.len (.s 9)),
 oo 11 (.bin .lss false (.s 8) (.s 10))]) [0,4,5,7,11] (.cond (.s 11) (.skip) (.exit 0))) [0,4,5,7] (.seq (.block 1 (.seq (.region true [om 14 0,om 15 7,oo 16 (.indexAddr 14 (.s 14) (.s 15)),oA 17 0 16,oL 18 7 17,oL 19 7 4,oo 20 (.call 109 [(.s 18),(.s 19)]),
 oo 21 (.bin .leq false (.s 20) (.c (.int .i64 0))),om 22 21,oT 23 22 (.load true 7 (.s 5)),oT 24 22 (.mov (.s 0)),oT 25 22 (.mov (.s 7)),oT 26 22 (.indexAddr 14 (.s 24) (.s 25)),oT 27 22 (.fieldAddr 7 (.s 26)),oT 28 22 (.load true 7 (.s 27)),oT 29 22 (.call 109 [(.s 23),(.s 28)]),
 oT 30 22 (.bin .leq false (.s 29) (.c (.int .i64 0))),oo 31 (.pick (.s 22) (.s 30) (.c (.bool false)))]) [0,4,5,7,31] (.cond (.s 31) (.seq (.region false [oo 6 (.mov (.c (.bool true)))]) [6] (.ret)) (.skip)))) [0,4,5,7] (.region false [om 12 7,oo 13 (.bin .add false (.s 12) (.c (.int .i64 1))),
 om 7 13])))))) [] (.seq (.region false [oo 6 (.mov (.c (.bool false)))]) [6] (.ret)))⟩
def tf107 : TFn := ⟨35,[.tmp 6],.seq (.region false [oo 4 (.box 96 (.s 1)),oo 5 (.box 96 (.s 2)),oo 6 (.mov (.c (.fsl [])))]) [0,4,5] (.seq (.seq (.region false [om 8 0,oo 9 (.len (.s 8)),oo 10 (.bin .sub false (.s 9) (.c (.int .i64 1))),om 7 10]) [0,4,5,7] (.seq (.region true [om 11 7,
 oo 12 (.bin .geq false (.s 11) (.c (.int .i64 0))),om 13 12,oT 14 13 (.mov (.s 0)),oT 15 13 (.mov (.s 7)),oT 16 13 (.indexAddr 14 (.s 14) (.s 15)),oT 17 13 (.fieldAddr 7 (.s 16)),oT 18 13 (.load true 7 (.s 17)),oT 19 13 (.load true 7 (.s 4)),oT 20 13 (.call 109 [(.s 18),(.s 19)]),
 oT 21 13 (.bin .eql false (.s 20) (.c (.int .i64 0))),oo 22 (.pick (.s 13) (.s 21) (.c (.bool false)))]) [0,4,5,7,22] (.cond (.s 22) (.seq (.region false [om 23 0,om 24 7,oL 25 7 5,oo 26 (.indexAddr 14 (.s 23) (.s 24)),oA 27 7 26,⟨none,.store 7 (.s 27) (.s 25),none⟩]) [0] (.seq (
 .region false [om 28 0,om 6 28]) [6] (.ret))) (.skip)))) [0,4,5] (.seq (.region false [om 29 0,oL 30 7 4,oL 31 7 5,
 oo 32 (.build [(.int .i64 0),(.int .i64 0),(.int .i64 0),(.int .i64 0),(.str []),(.str []),(.bool false),(.int .i64 0),(.int .i64 0),(.int .i64 0),(.int .i64 0),(.str []),(.str []),(.bool false)] [(0,7,(.s 30)),(7,7,(.s 31))]),oo 33 (.buildSlice 14 99 [(.s 32)]),
 oo 34 (.append 14 99 144 (.s 29) (.s 33)),om 6 34]) [6] (.ret)))⟩
def tf108 : TFn := ⟨19,[.tmp 2],.seq (.region false [oo 1 (.box 99 (.s 0)),oo 2 (.mov (.c (.bool false)))]) [1] (.seq (.region false [oA 3 0 1,oL 4 7 3,oo 5 (.call 111 [(.s 4)]),om 6 5,oT 7 6 (.fieldAddr 7 (.s 1)),oT 8 6 (.load true 7 (.s 7)),oT 9 6 (.call 111 [(.s 8)]),
 oo 10 (.pick (.s 6) (.s 9) (.c (.bool false))),om 11 10,oT 12 11 (.fieldAddr 0 (.s 1)),oT 13 11 (.load true 7 (.s 12)),oT 14 11 (.fieldAddr 7 (.s 1)),oT 15 11 (.load true 7 (.s 14)),oT 16 11 (.call 109 [(.s 13),(.s 15)]),oT 17 11 (.bin .lss false (.s 16) (.c (.int .i64 0))),
 oo 18 (.pick (.s 11) (.s 17) (.c (.bool false))),om 2 18]) [2] (.ret))⟩
def tf109 : TFn := ⟨46,[.tmp 4],.seq (.region false [oo 2 (.box 96 (.s 0)),oo 3 (.box 96 (.s 1)),oo 4 (.mov (.c (.int .i64 0)))]) [2,3] (.seq (.seq (.region false [oL 6 7 2,oo 7 (.call 111 [(.s 6)]),oo 8 (.un .not (.s 7)),om 9 8,oF 10 9 (.load true 7 (.s 3)),oF 11 9 (.call 111 [(.s 10)]),
 oF 12 9 (.un .not (.s 11)),oo 13 (.pick (.s 9) (.c (.bool true)) (.s 12))]) [2,3,13] (.cond (.s 13) (.seq (.region false [oo 4 (.mov (.c (.int .i64 0)))]) [4] (.ret)) (.skip))) [2,3] (.seq (.seq (.region false [oA 14 0 2,ol 15 1 14,oA 16 0 3,ol 17 1 16,oo 18 (.bin .neq false (.s 15) (.s 17)),
 om 19 18,oF 20 19 (.fieldAddr 0 (.s 2)),oF 21 19 (.load false 1 (.s 20)),oF 22 19 (.bin .neq false (.s 21) (.c (.int .i64 0))),oo 23 (.pick (.s 19) (.c (.bool true)) (.s 22))]) [2,3,23] (.cond (.s 23) (.seq (.region false [oA 24 0 2,ol 25 1 24,oA 26 0 3,ol 27 1 26,
 oo 28 (.call 43 [(.s 25),(.s 27)]),om 4 28]) [4] (.ret)) (.skip))) [2,3] (.seq (.seq (.region false [oA 29 1 2,oL 30 5 29,oA 31 1 3,oL 32 5 31,oo 33 (.call 18 [(.s 30),(.s 32)]),om 5 33]) [2,3,5] (.seq (.region false [om 34 5,oo 35 (.bin .neq false (.s 34) (.c (.int .i64 0)))]) [2,3,5,35] (
 .cond (.s 35) (.seq (.region false [om 36 5,om 4 36]) [4] (.ret)) (.skip)))) [2,3] (.seq (.block 0 (.seq (.region false [oA 38 6 2,ol 39 1 38,oA 40 6 3,ol 41 1 40,oo 42 (.bin .eql true (.s 39) (.s 41)),om 37 42]) [3,37] (.cond (.s 37) (.seq (.region false [oo 4 (.mov (.c (.int .i64 0)))]) [4] (
 .ret)) (.seq (.region false [oA 44 6 3,ol 45 1 44,om 43 45]) [43] (.cond (.s 43) (.seq (.region false [oo 4 (.mov (.c (.int .i64 (-1))))]) [4] (.ret)) (.skip)))))) [] (.seq (.region false [oo 4 (.mov (.c (.int .i64 1)))]) [4] (.ret))))))⟩
def tf110 : TFn := ⟨46,[.tmp 4],.seq (.region false [oo 3 (.box 96 (.s 1)),oo 4 (.mov (.c (.fsl [])))]) [0,3] (.seq (.region false [oo 5 (.mov (.c (.int .i64 0)))]) [0,3,5] (.seq (.block 0 (.loop (.seq (.seq (.region true [om 6 5,om 7 0,oo 8 (.len (.s 7)),oo 9 (.bin .lss false (.s 6) (.s 8)),
 om 10 9,oT 11 10 (.mov (.s 0)),oT 12 10 (.mov (.s 5)),oT 13 10 (.indexAddr 7 (.s 11) (.s 12)),oT 14 10 (.load true 7 (.s 13)),oT 15 10 (.load true 7 (.s 3)),oT 16 10 (.call 109 [(.s 14),(.s 15)]),oT 17 10 (.bin .lss false (.s 16) (.c (.int .i64 0))),
 oo 18 (.pick (.s 10) (.s 17) (.c (.bool false)))]) [0,3,5,18] (.cond (.s 18) (.skip) (.exit 0))) [0,3,5] (.block 1 (.region false [om 19 5,oo 20 (.bin .add false (.s 19) (.c (.int .i64 1))),om 5 20]))))) [0,3,5] (.seq (.seq (.region true [om 21 5,om 22 0,oo 23 (.len (.s 22)),
 oo 24 (.bin .lss false (.s 21) (.s 23)),om 25 24,oT 26 25 (.mov (.s 0)),oT 27 25 (.mov (.s 5)),oT 28 25 (.indexAddr 7 (.s 26) (.s 27)),oT 29 25 (.load true 7 (.s 28)),oT 30 25 (.load true 7 (.s 3)),oT 31 25 (.call 109 [(.s 29),(.s 30)]),oT 32 25 (.bin .eql false (.s 31) (.c (.int .i64 0))),
 oo 33 (.pick (.s 25) (.s 32) (.c (.bool false)))]) [0,3,5,33] (.cond (.s 33) (.seq (.region false [om 34 0,om 4 34]) [4] (.ret)) (.skip))) [0,3,5] (.seq (.region true [om 35 0,om 36 5,oo 37 (.slice 7 (.s 35) none (some (.s 36)) none),oo 38 (.append 7 96 72 (.c (.fsl [])) (.s 37)),oL 39 7 3,
 oo 40 (.buildSlice 7 96 [(.s 39)]),oo 41 (.append 7 96 72 (.s 38) (.s 40)),om 42 0,om 43 5,oo 44 (.slice 7 (.s 42) (some (.s 43)) none none),oo 45 (.append 7 96 72 (.s 41) (.s 44)),om 4 45]) [4] (.ret)))))⟩
def tf111 : TFn := ⟨34,[.tmp 2],.seq (.region false [oo 1 (.box 96 (.s 0)),oo 2 (.mov (.c (.bool false)))]) [1] (.seq (.seq (.region false [oA 3 0 1,ol 4 1 3,oo 5 (.bin .eql false (.s 4) (.c (.int .i64 0)))]) [1,5] (.cond (.s 5) (.seq (.region false [oA 6 1 1,oL 7 5 6,oo 8 (.call 42 [(.s 7)]),
 om 9 8,oT 10 9 (.fieldAddr 1 (.s 1)),oT 11 9 (.fieldAddr 4 (.s 10)),oT 12 9 (.load false 1 (.s 11)),oT 13 9 (.bin .eql false (.s 12) (.c (.str []))),oo 14 (.pick (.s 9) (.s 13) (.c (.bool false))),om 2 14]) [2] (.ret)) (.skip))) [1] (.seq (.region false [oA 15 0 1,ol 16 1 15,
 oo 17 (.bin .eql false (.s 16) (.c (.int .i64 (-1)))),om 18 17,oF 19 18 (.fieldAddr 0 (.s 1)),oF 20 18 (.load false 1 (.s 19)),oF 21 18 (.bin .eql false (.s 20) (.c (.int .i64 1))),oo 22 (.pick (.s 18) (.c (.bool true)) (.s 21)),om 23 22,oT 24 23 (.fieldAddr 1 (.s 1)),
 oT 25 23 (.load true 5 (.s 24)),oT 26 23 (.build [(.int .i64 0),(.int .i64 0),(.int .i64 0),(.str []),(.str [])] []),oT 27 23 (.eqs false [0,0,0,2,2] (.s 25) (.s 26)),oo 28 (.pick (.s 23) (.s 27) (.c (.bool false))),om 29 28,oT 30 29 (.fieldAddr 6 (.s 1)),oT 31 29 (.load false 1 (.s 30)),
 oT 32 29 (.un .not (.s 31)),oo 33 (.pick (.s 29) (.s 32) (.c (.bool false))),om 2 33]) [2] (.ret)))⟩
theorem tp3 : QJ Try.prog Try.f3 = some tf3.erase := by kernel_rfl
theorem tp6 : QJ Try.prog Try.f6 = some tf6.erase := by kernel_rfl
theorem tp7 : QJ Try.prog Try.f7 = some tf7.erase := by kernel_rfl
theorem tp8 : QJ Try.prog Try.f8 = some tf8.erase := by kernel_rfl
theorem tp9 : QJ Try.prog Try.f9 = some tf9.erase := by kernel_rfl
theorem QpZ : QJ Try.prog Try.f10 = some tf10.erase := by kernel_rfl
theorem Qp0 : QJ Try.prog Try.f11 = some tf11.erase := by kernel_rfl
theorem Qp1 : QJ Try.prog Try.f12 = some tf12.erase := by kernel_rfl
theorem Qp2 : QJ Try.prog Try.f13 = some tf13.erase := by kernel_rfl
theorem Qp3 : QJ Try.prog Try.f14 = some tf14.erase := by kernel_rfl
theorem Qp4 : QJ Try.prog Try.f17 = some tf17.erase := by kernel_rfl
theorem Qp5 : QJ Try.prog Try.f18 = some tf18.erase := by kernel_rfl
theorem Qp6 : QJ Try.prog Try.f19 = some tf19.erase := by kernel_rfl
theorem Qp7 : QJ Try.prog Try.f20 = some tf20.erase := by kernel_rfl
theorem Qp8 : QJ Try.prog Try.f21 = some tf21.erase := by kernel_rfl
theorem Qp9 : QJ Try.prog Try.f23 = some tf23.erase := by kernel_rfl
theorem Qqa : QJ Try.prog Try.f24 = some tf24.erase := by kernel_rfl
theorem Qqb : QJ Try.prog Try.f25 = some tf25.erase := by kernel_rfl
theorem Qqc : QJ Try.prog Try.f26 = some tf26.erase := by kernel_rfl
theorem Qqd : QJ Try.prog Try.f27 = some tf27.erase := by kernel_rfl
theorem Qqe : QJ Try.prog Try.f28 = some tf28.erase := by kernel_rfl
theorem Qqf : QJ Try.prog Try.f29 = some tf29.erase := by kernel_rfl
theorem Qqg : QJ Try.prog Try.f30 = some tf30.erase := by kernel_rfl
theorem Qqh : QJ Try.prog Try.f31 = some tf31.erase := by kernel_rfl
theorem Qqi : QJ Try.prog Try.f32 = some tf32.erase := by kernel_rfl
theorem Qqj : QJ Try.prog Try.f33 = some tf33.erase := by kernel_rfl
theorem Qqk : QJ Try.prog Try.f34 = some tf34.erase := by kernel_rfl
theorem Qql : QJ Try.prog Try.f35 = some tf35.erase := by kernel_rfl
theorem Qqm : QJ Try.prog Try.f36 = some tf36.erase := by kernel_rfl
theorem Qqn : QJ Try.prog Try.f37 = some tf37.erase := by kernel_rfl
theorem Qqo : QJ Try.prog Try.f38 = some tf38.erase := by kernel_rfl
theorem Qqp : QJ Try.prog Try.f39 = some tf39.erase := by kernel_rfl
theorem Qqq : QJ Try.prog Try.f40 = some tf40.erase := by kernel_rfl
theorem Qqr : QJ Try.prog Try.f41 = some tf41.erase := by kernel_rfl
theorem Qqs : QJ Try.prog Try.f42 = some tf42.erase := by kernel_rfl
theorem Qqt : QJ Try.prog Try.f43 = some tf43.erase := by kernel_rfl
theorem Qqu : QJ Try.prog Try.f44 = some tf44.erase := by kernel_rfl
theorem Qqv : QJ Try.prog Try.f45 = some tf45.erase := by kernel_rfl
theorem Qqw : QJ Try.prog Try.f46 = some tf46.erase := by kernel_rfl
theorem Qqx : QJ Try.prog Try.f47 = some tf47.erase := by kernel_rfl
theorem Qqy : QJ Try.prog Try.f48 = some tf48.erase := by kernel_rfl
theorem Qqz : QJ Try.prog Try.f52 = some tf52.erase := by kernel_rfl
theorem QqA : QJ Try.prog Try.f53 = some tf53.erase := by kernel_rfl
theorem QqB : QJ Try.prog Try.f54 = some tf54.erase := by kernel_rfl
theorem QqC : QJ Try.prog Try.f55 = some tf55.erase := by kernel_rfl
theorem QqD : QJ Try.prog Try.f56 = some tf56.erase := by kernel_rfl
theorem QqE : QJ Try.prog Try.f57 = some tf57.erase := by kernel_rfl
theorem QqF : QJ Try.prog Try.f58 = some tf58.erase := by kernel_rfl
theorem QqG : QJ Try.prog Try.f59 = some tf59.erase := by kernel_rfl
theorem QqH : QJ Try.prog Try.f60 = some tf60.erase := by kernel_rfl
theorem QqI : QJ Try.prog Try.f61 = some tf61.erase := by kernel_rfl
theorem QqJ : QJ Try.prog Try.f62 = some tf62.erase := by kernel_rfl
theorem QqK : QJ Try.prog Try.f63 = some tf63.erase := by kernel_rfl
theorem QqL : QJ Try.prog Try.f64 = some tf64.erase := by kernel_rfl
theorem QqM : QJ Try.prog Try.f65 = some tf65.erase := by kernel_rfl
theorem QqN : QJ Try.prog Try.f66 = some tf66.erase := by kernel_rfl
theorem QqO : QJ Try.prog Try.f67 = some tf67.erase := by kernel_rfl
theorem QqP : QJ Try.prog Try.f68 = some tf68.erase := by kernel_rfl
theorem QqQ : QJ Try.prog Try.f69 = some tf69.erase := by kernel_rfl
theorem QqR : QJ Try.prog Try.f70 = some tf70.erase := by kernel_rfl
theorem QqS : QJ Try.prog Try.f71 = some tf71.erase := by kernel_rfl
theorem QqT : QJ Try.prog Try.f72 = some tf72.erase := by kernel_rfl
theorem QqU : QJ Try.prog Try.f73 = some tf73.erase := by kernel_rfl
theorem QqV : QJ Try.prog Try.f74 = some tf74.erase := by kernel_rfl
theorem QqW : QJ Try.prog Try.f75 = some tf75.erase := by kernel_rfl
theorem QqX : QJ Try.prog Try.f76 = some tf76.erase := by kernel_rfl
theorem QqY : QJ Try.prog Try.f77 = some tf77.erase := by kernel_rfl
theorem QqZ : QJ Try.prog Try.f78 = some tf78.erase := by kernel_rfl
theorem Qq0 : QJ Try.prog Try.f79 = some tf79.erase := by kernel_rfl
theorem Qq1 : QJ Try.prog Try.f80 = some tf80.erase := by kernel_rfl
theorem Qq2 : QJ Try.prog Try.f81 = some tf81.erase := by kernel_rfl
theorem Qq3 : QJ Try.prog Try.f82 = some tf82.erase := by kernel_rfl
theorem Qq4 : QJ Try.prog Try.f83 = some tf83.erase := by kernel_rfl
theorem Qq5 : QJ Try.prog Try.f84 = some tf84.erase := by kernel_rfl
theorem Qq6 : QJ Try.prog Try.f85 = some tf85.erase := by kernel_rfl
theorem Qq7 : QJ Try.prog Try.f86 = some tf86.erase := by kernel_rfl
theorem Qq8 : QJ Try.prog Try.f87 = some tf87.erase := by kernel_rfl
theorem Qq9 : QJ Try.prog Try.f88 = some tf88.erase := by kernel_rfl
theorem Qra : QJ Try.prog Try.f89 = some tf89.erase := by kernel_rfl
theorem Qrb : QJ Try.prog Try.f90 = some tf90.erase := by kernel_rfl
theorem Qrc : QJ Try.prog Try.f91 = some tf91.erase := by kernel_rfl
theorem Qrd : QJ Try.prog Try.f92 = some tf92.erase := by kernel_rfl
theorem Qre : QJ Try.prog Try.f93 = some tf93.erase := by kernel_rfl
theorem Qrf : QJ Try.prog Try.f94 = some tf94.erase := by kernel_rfl
theorem Qrg : QJ Try.prog Try.f95 = some tf95.erase := by kernel_rfl
theorem Qrh : QJ Try.prog Try.f96 = some tf96.erase := by kernel_rfl
theorem Qri : QJ Try.prog Try.f97 = some tf97.erase := by kernel_rfl
theorem Qrj : QJ Try.prog Try.f98 = some tf98.erase := by kernel_rfl
theorem Qrk : QJ Try.prog Try.f99 = some tf99.erase := by kernel_rfl
theorem QpB : QJ Try.prog Try.f100 = some tf100.erase := by kernel_rfl
theorem QpC : QJ Try.prog Try.f101 = some tf101.erase := by kernel_rfl
theorem QpD : QJ Try.prog Try.f102 = some tf102.erase := by kernel_rfl
theorem QpE : QJ Try.prog Try.f103 = some tf103.erase := by kernel_rfl
theorem QpF : QJ Try.prog Try.f104 = some tf104.erase := by kernel_rfl
theorem QpG : QJ Try.prog Try.f105 = some tf105.erase := by kernel_rfl
theorem QpH : QJ Try.prog Try.f106 = some tf106.erase := by kernel_rfl
theorem QpI : QJ Try.prog Try.f107 = some tf107.erase := by kernel_rfl
theorem QpJ : QJ Try.prog Try.f108 = some tf108.erase := by kernel_rfl
theorem QpK : QJ Try.prog Try.f109 = some tf109.erase := by kernel_rfl
theorem QpL : QJ Try.prog Try.f110 = some tf110.erase := by kernel_rfl
theorem QpM : QJ Try.prog Try.f111 = some tf111.erase := by kernel_rfl
theorem Z2 : Try.prog.follows .mixedOrders = true := by kernel_rfl
end Go.Proofs
namespace M3
open Go Go.Abs
def QfF (n : Int) : Bool := decide (0 <= n) && decide (n <= 9999)
def ZW (m n : Int) : Int := if m < n then -1 else if n < m then 1 else 0
def Ym (c : UInt8) : Bool := decide (48 <= c.toNat) && decide (c.toNat <= 57)
def Y7 (s : List UInt8) : Bool := s.all Ym && !decide (s = [])
theorem Qb8 {s : List UInt8} {i : Nat} (h : i < s.length) (hd : Ym s[i] = false) : Y7 s = false := by
 have : s.all Ym = false := by
  rw [Bool.eq_false_iff]
  intro ha
  rw [List.all_eq_true] at ha
  rw [ha _ (List.getElem_mem h)] at hd
  cases hd
 rw [Y7, this]; rfl
theorem Qfi {s : List UInt8} {i : Nat} (hi : s.length <= i) (h : (s.take i).all Ym = true) : Y7 s = !decide (s = []) := by
 rw [List.take_of_length_le hi] at h
 rw [Y7, h]; rfl
def Qfe (v n : Int) : Int := if v.tmod n < 0 then v.tmod n + n else v.tmod n
def dInts (l : List Int) : D := .sl (l.map fun x => [.int .i64 x])
theorem Qmi {v n : Int} (h : 0 < n) : 0 <= Qfe v n := by
 unfold Qfe
 have h1 := Int.tmod_lt_of_pos v h
 have h2 := Int.lt_tmod_of_pos v h
 split <;> omega
theorem Qmh {v n : Int} (h : 0 < n) : Qfe v n < n := by
 unfold Qfe
 have h1 := Int.tmod_lt_of_pos v h
 split <;> omega
end M3
namespace M3
open Go Go.Abs
def QaI (c : Int) : List UInt8 -> List UInt8 -> List (List UInt8)
 | [], cur => [cur]
 | x :: xs, cur => if (x.toNat : Int) = c then cur :: QaI c xs [] else QaI c xs (cur ++ [x])
def Q7 (s : List UInt8) (c : Int) : List (List UInt8) := QaI c s []
def Yf (l : List (List UInt8)) : List (List D) := l.map fun x => [.str x]
def SplitI (s : List UInt8) (c : Int) (i k : Nat) (acc : List (List UInt8)) : Prop :=
 i <= s.length /\ k <= i /\ acc.length <= i /\ Q7 s c = acc ++ QaI c (s.drop i) ((s.take i).drop k)
theorem SplitI.zero {s : List UInt8} {c : Int} : SplitI s c 0 0 [] := ⟨Nat.zero_le _, Nat.le_refl _, Nat.le_refl _, by simp [Q7]⟩
theorem SplitI.hit {s : List UInt8} {c : Int} {i k : Nat} {acc : List (List UInt8)} (h : SplitI s c i k acc) (hi : i < s.length) (he : ((s[i]).toNat : Int) = c) : SplitI s c (i + 1) (i + 1) (acc ++ [(s.take i).drop k]) := by
 obtain ⟨h1, h2, h3, h4⟩ := h
 refine ⟨hi, Nat.le_refl _, by simp; omega, ?_⟩
 rw [List.drop_eq_getElem_cons hi] at h4
 simp only [QaI, he, if_true] at h4
 rw [h4, List.append_assoc]
 simp
theorem SplitI.miss {s : List UInt8} {c : Int} {i k : Nat} {acc : List (List UInt8)} (h : SplitI s c i k acc) (hi : i < s.length) (he : ¬ ((s[i]).toNat : Int) = c) : SplitI s c (i + 1) k acc := by
 obtain ⟨h1, h2, h3, h4⟩ := h
 refine ⟨hi, by omega, by omega, ?_⟩
 rw [List.drop_eq_getElem_cons hi] at h4
 simp only [QaI, he, if_false] at h4
 rw [h4, List.take_succ_eq_append_getElem hi, List.drop_append_of_le_length (by simp; omega)]
theorem SplitI.done {s : List UInt8} {c : Int} {i k : Nat} {acc : List (List UInt8)} (h : SplitI s c i k acc) (hi : s.length <= i) : Q7 s c = acc ++ [s.drop k] := by
 obtain ⟨h1, h2, h3, h4⟩ := h
 rw [h4, List.drop_eq_nil_of_le hi, List.take_of_length_le hi]
 rfl
end M3
namespace M3
open Go Go.Abs
def Qbo (a b : List UInt8) : Int := if Op.bytesLess a b = true then -1 else if a = b then 0 else 1
def XG (c : Int) : Bool := decide (48 <= c) && decide (c <= 57)
def ZP (c : UInt8) : Bool := (decide (97 <= c.toNat) && decide (c.toNat <= 122)) || (decide (48 <= c.toNat) && decide (c.toNat <= 57)) || decide (c.toNat = 45)
def Qbv (s : List UInt8) : Bool := decide (1 <= s.length) && decide (s.length <= 8) && s.all ZP
def val (s : List UInt8) : Nat := s.foldl (fun n c => 10 * n + (c.toNat - 48)) 0
def Ye (s : List UInt8) : Int × Bool :=
 if s.length < 1 \/ 9 < s.length \/ (1 < s.length /\ s.head? = some 48) \/ s.all Ym = false \/ 9999 < val s then (0, false) else ((val s : Int), true)
def QfJ (a b : List UInt8) : Int :=
 if Y7 a = true /\ Y7 b = true then ZW (Ye a).1 (Ye b).1
 else if Y7 a = true then -1 else if Y7 b = true then 1 else Qbo a b
def QjC : List (List UInt8) -> List (List UInt8) -> Int
 | [], [] => 0
 | [], _ :: _ => -1
 | _ :: _, [] => 1
 | a :: l, b :: m => if QfJ a b ≠ 0 then QfJ a b else QjC l m
def QcJ (a b : List UInt8) : Int := if a = b then 0 else if a = [] then 1 else if b = [] then -1 else QjC (Q7 a 46) (Q7 b 46)
def Qcn (pre : Bool) (t : List UInt8) : Bool := Qbv t && !(pre && Y7 t && !(Ye t).2)
def QaD (s : List UInt8) (pre : Bool) : Bool := decide (s = []) || (decide ((Q7 s 46).length <= 4) && (Q7 s 46).all (Qcn pre))
def Qbu (a b c : Int) (p q : List UInt8) : Bool := QfF a && QfF b && QfF c && QaD p true && QaD q false
def QcI (a b c : Int) (p q : List UInt8) (a' b' c' : Int) (p' q' : List UInt8) : Int :=
 if Qbu a b c p q = false \/ Qbu a' b' c' p' q' = false then 0
 else if ZW a a' ≠ 0 then ZW a a' else if ZW b b' ≠ 0 then ZW b b' else if ZW c c' ≠ 0 then ZW c c' else QcJ p p'
theorem Yh {α : Type} {s : List α} {p : α -> Bool} {i : Nat} (h : i < s.length) (hd : p s[i] = false) : s.all p = false := by
 rw [Bool.eq_false_iff]
 intro ha
 rw [List.all_eq_true] at ha
 rw [ha _ (List.getElem_mem h)] at hd
 cases hd
theorem Xa {α : Type} {s : List α} {p : α -> Bool} {i : Nat} (hi : s.length <= i) (h : (s.take i).all p = true) : s.all p = true := by rwa [List.take_of_length_le hi] at h
theorem Qeq {s : List UInt8} {i : Nat} (h : i < s.length) : val (s.take (i + 1)) = 10 * val (s.take i) + (s[i].toNat - 48) := by
 rw [List.take_succ_eq_append_getElem h]; simp only [val, List.foldl_append, List.foldl_cons, List.foldl_nil]
theorem Qly : ∀ {s : List UInt8}, s.all Ym = true -> val s < 10 ^ s.length := by
 intro s
 rw [<- List.reverse_reverse s]
 generalize s.reverse = r
 induction r with
 | nil => intro _; decide
 | cons c r ih =>
  intro h
  rw [List.reverse_cons, List.all_append, Bool.and_eq_true] at h
  have h1 := ih h.1
  have h2 : Ym c = true := by simpa using h.2
  simp only [Ym, Bool.and_eq_true, decide_eq_true_eq] at h2
  rw [List.reverse_cons]
  simp only [val, List.foldl_append, List.foldl_cons, List.foldl_nil, List.length_append, List.length_cons, List.length_nil] at h1 ⊢
  rw [Nat.pow_succ]
  omega
theorem QhV {l m : List (List UInt8)} {i : Nat} (h1 : i < l.length) (h2 : i < m.length) (h : QfJ l[i] m[i] = 0) : QjC (l.drop i) (m.drop i) = QjC (l.drop (i + 1)) (m.drop (i + 1)) := by
 rw [List.drop_eq_getElem_cons h1, List.drop_eq_getElem_cons h2]
 simp [QjC, h]
theorem Yu {l m : List (List UInt8)} {i : Nat} (h1 : i < l.length) (h2 : i < m.length) (h : QfJ l[i] m[i] ≠ 0) : QjC (l.drop i) (m.drop i) = QfJ l[i] m[i] := by
 rw [List.drop_eq_getElem_cons h1, List.drop_eq_getElem_cons h2]
 simp [QjC, h]
theorem Yt {l m : List (List UInt8)} {i : Nat} (hl : i <= l.length) (hm : i <= m.length) (h : l.length <= i \/ m.length <= i) : QjC (l.drop i) (m.drop i) = ZW l.length m.length := by
 rcases Nat.lt_or_ge i l.length with h1 | h1 <;> rcases Nat.lt_or_ge i m.length with h2 | h2
 ·omega
 ·rw [List.drop_eq_getElem_cons h1, List.drop_eq_nil_of_le h2]
  simp only [QjC, ZW]
  rw [if_neg (by omega), if_pos (by omega)]
 ·rw [List.drop_eq_getElem_cons h2, List.drop_eq_nil_of_le h1]
  simp only [QjC, ZW]
  rw [if_pos (by omega)]
 ·rw [List.drop_eq_nil_of_le h1, List.drop_eq_nil_of_le h2]
  simp only [QjC, ZW]
  rw [if_neg (by omega), if_neg (by omega)]
end M3
namespace M3
end M3
namespace M3
theorem QoH {s : List UInt8} (h : 0 < s.length) (e : ((s[0]).toNat : Int) = 48) : s.head? = some 48 := by
 cases s with
 | nil => simp at h
 | cons x r =>
  simp only [List.getElem_cons_zero] at e
  have : x = 48 := UInt8.toNat_inj.1 (by simpa using (by omega : x.toNat = 48))
  simp [this]
theorem QgF {s : List UInt8} (h : 0 < s.length) (e : ¬ ((s[0]).toNat : Int) = 48) : s.head? ≠ some 48 := by
 cases s with
 | nil => simp at h
 | cons x r =>
  simp only [List.getElem_cons_zero] at e
  intro hh
  simp at hh
  subst hh
  exact e rfl
theorem Qfh {s : List UInt8} {i : Nat} (h : ¬ (s.length < 1 \/ 9 < s.length \/ (1 < s.length /\ s.head? = some 48))) (hi : s.length <= i) (ha : (s.take i).all Ym = true) (hv : val (s.take i) <= 9999) : Ye s = ((val (s.take i) : Int), true) := by
 have h1 := Xa hi ha
 rw [List.take_of_length_le hi] at hv ⊢
 rw [Ye, if_neg]
 rintro (q | q | q | q | q)
 ·exact h (.inl q)
 ·exact h (.inr (.inl q))
 ·exact h (.inr (.inr q))
 ·rw [h1] at q; cases q
 ·omega
theorem QdP {s : List UInt8} {i : Nat} (hi : s.length <= i) (hv : 9999 < val (s.take i)) : Ye s = (0, false) := by
 rw [List.take_of_length_le hi] at hv
 rw [Ye, if_pos (.inr (.inr (.inr (.inr hv))))]
theorem Xn {s : List UInt8} {i : Nat} (h : i < s.length) (hd : Ym s[i] = false) : Ye s = (0, false) := by
 rw [Ye, if_pos (.inr (.inr (.inr (.inl (Yh h hd)))))]
theorem QdQ {s : List UInt8} (h : s.length < 1 \/ 9 < s.length) : Ye s = (0, false) := by
 rw [Ye, if_pos (by rcases h with h | h; exact .inl h; exact .inr (.inl h))]
theorem YH {s : List UInt8} (h : 1 < s.length) (e : ((s[0]).toNat : Int) = 48) : Ye s = (0, false) := by
 rw [Ye, if_pos (.inr (.inr (.inl ⟨h, QoH (by omega) e⟩)))]
end M3
namespace M3
open Go Go.Abs
theorem Qo (l : List (List UInt8)) : (Yf l).length = l.length := by simp [Yf]
theorem Y6 {l : List (List UInt8)} {i : Nat} (h : i < l.length) : (Yf l)[((i : Nat) : Int).toNat]? = some [.str l[i]] := by simp [Yf, h]
theorem Qbj {c : Int} : ∀ (s cur : List UInt8), (QaI c s cur).length <= s.length + 1 /\ ∀ x ∈ QaI c s cur, x.length <= s.length + cur.length
 | [], cur => by simp [QaI]
 | x :: xs, cur => by
  simp only [QaI]
  split
  ·obtain ⟨h1, h2⟩ := Qbj (c := c) xs []
   refine ⟨by simp; omega, fun y hy => ?_⟩
   rcases List.mem_cons.1 hy with rfl | hy
   ·simp <;> omega
   ·have := h2 y hy; simp at this ⊢; omega
  ·obtain ⟨h1, h2⟩ := Qbj (c := c) xs (cur ++ [x])
   refine ⟨by simp; omega, fun y hy => ?_⟩
   have := h2 y hy; simp at this ⊢; omega
theorem Qdw {s : List UInt8} {c : Int} : (Q7 s c).length <= s.length + 1 := (Qbj s []).1
theorem X3 {s : List UInt8} {c : Int} {i : Nat} (h : i < (Q7 s c).length) (hl : s.length <= 1000000) : ((Q7 s c)[i]).length <= 1000000 := by
 have := (Qbj (c := c) s []).2 _ (List.getElem_mem h)
 simp only [List.length_nil, Nat.add_zero] at this
 exact Nat.le_trans this hl
end M3
namespace M3
open Go Go.Abs
theorem Qdk {s : List UInt8} {pre : Bool} {i : Nat} (hs : s ≠ []) (h : i < (Q7 s 46).length) (hd : Qcn pre (Q7 s 46)[i] = false) : QaD s pre = false := by
 rw [QaD, Yh h hd]; simp [hs]
theorem QbQ {s : List UInt8} {pre : Bool} {i : Nat} (h4 : (Q7 s 46).length <= 4) (hi : (Q7 s 46).length <= i) (h : ((Q7 s 46).take i).all (Qcn pre) = true) : QaD s pre = true := by
 rw [QaD, Xa hi h]; simp [h4]
def Yr : List Int -> Int
 | [] => 0
 | x :: r => if x ≠ 0 then x else Yr r
theorem QeU {l : List Int} {i : Nat} (h : i < l.length) (e : ¬ l[i] = 0) : Yr (l.drop i) = l[i] := by
 rw [List.drop_eq_getElem_cons h]; simp [Yr, e]
theorem QhF {l : List Int} {i : Nat} (h : i < l.length) (e : l[i] = 0) : Yr (l.drop i) = Yr (l.drop (i + 1)) := by
 rw [List.drop_eq_getElem_cons h]; simp [Yr, e]
end M3
namespace M3
open Go Go.Abs
structure Cu where
 e : Int
 a : Int
 b : Int
 c : Int
 p : List UInt8
 q : List UInt8
 f : Bool
def Qd8 (e a b c : Int) (p q : List UInt8) (f : Bool) : Bool :=
 if e = 0 then Qbu a b c p q && decide (q = [])
 else (decide (e = -1) || decide (e = 1)) && (decide (a = 0) && (decide (b = 0) && (decide (c = 0) && (decide (p = []) && (decide (q = []) && true))))) && !f
def Qbc (e a b c : Int) (p q : List UInt8) (f : Bool) (e' a' b' c' : Int) (p' q' : List UInt8) (f' : Bool) : Int :=
 if Qd8 e a b c p q f = false \/ Qd8 e' a' b' c' p' q' f' = false then 0
 else if e ≠ e' \/ e ≠ 0 then ZW e e'
 else if QcI a b c p q a' b' c' p' q' ≠ 0 then QcI a b c p q a' b' c' p' q'
 else if f = f' then 0 else if f' = true then -1 else 1
end M3
namespace M3
def QhW (e a b c : Int) (p q : List UInt8) (f : Bool) (e' a' b' c' : Int) (p' q' : List UInt8) (f' : Bool) : Bool :=
 Qd8 e a b c p q f && Qd8 e' a' b' c' p' q' f' && decide (Qbc e a b c p q f e' a' b' c' p' q' f' < 0)
end M3
namespace M3
open Go Go.Abs
theorem Qat {s : List UInt8} (h : s = [] \/ 4 < s.length) : Ye s = (0, false) := by
 rcases h with rfl | h
 ·rfl
 ·unfold Ye
  split
  ·rfl
  ·rename_i hn
   exfalso
   apply hn
   by_cases h1 : s.head? = some 48
   ·exact .inr (.inr (.inl ⟨by omega, h1⟩))
   ·cases hd : s.all Ym with
    | false => exact .inr (.inr (.inr (.inl rfl)))
    | true =>
     refine .inr (.inr (.inr (.inr ?_)))
     cases s with
     | nil => simp at h
     | cons x r =>
      simp only [List.all_cons, Bool.and_eq_true, Ym, decide_eq_true_eq] at hd
      simp only [List.head?_cons, Option.some.injEq] at h1
      have hx : 1 <= x.toNat - 48 := by
       have : x.toNat ≠ 48 := fun e => h1 (UInt8.toNat_inj.1 (by simpa using e))
       omega
      have key : ∀ (r : List UInt8) (n : Nat), n * 10 ^ r.length <= r.foldl (fun n c => 10 * n + (c.toNat - 48)) n := by
       intro r
       induction r with
       | nil => intro n; simp
       | cons c r ih =>
        intro n
        simp only [List.foldl_cons, List.length_cons]
        refine Nat.le_trans ?_ (ih _)
        rw [Nat.pow_succ, <- Nat.mul_assoc, Nat.mul_right_comm]
        exact Nat.mul_le_mul_right _ (by omega)
      have h2 := key r (10 * 0 + (x.toNat - 48))
      have h3 : 10 ^ 4 <= 10 ^ r.length := Nat.pow_le_pow_right (by omega) (by simp at h; omega)
      have h4 : 10 ^ r.length <= (10 * 0 + (x.toNat - 48)) * 10 ^ r.length := Nat.le_mul_of_pos_left _ (by omega)
      show 9999 < (x :: r).foldl (fun n c => 10 * n + (c.toNat - 48)) 0
      simp only [List.foldl_cons]
      omega
theorem QbS {s : List UInt8} {i : Nat} (h : ¬ (s = [] \/ 4 < s.length \/ (1 < s.length /\ s.head? = some 48))) (hi : s.length <= i) (ha : (s.take i).all Ym = true) : Ye s = ((val (s.take i) : Int), true) := by
 have h1 := Xa hi ha
 have hv := Qly h1
 have h4 : s.length <= 4 := Nat.le_of_not_lt fun q => h (.inr (.inl q))
 have hp : 10 ^ s.length <= 10 ^ 4 := Nat.pow_le_pow_right (by omega) h4
 refine Qfh ?_ hi ha ?_
 ·rintro (q | q | q)
  ·exact h (.inl (List.eq_nil_of_length_eq_zero (by omega)))
  ·omega
  ·exact h (.inr (.inr q))
 ·rw [List.take_of_length_le hi]; omega
end M3
namespace M3
open Go Go.Abs
def Qcx (s : List UInt8) : Bool := decide ((Q7 s 46).length <= 4) && (Q7 s 46).all Qbv
theorem QnF {t : List UInt8} (h0 : ¬ t = []) (h8 : t.length <= 8) (h : t.all ZP = true) : Qbv t = true := by
 have : 1 <= t.length := List.length_pos_iff.2 h0
 simp [Qbv, h, h8, this]
theorem Xm {t : List UInt8} (h : t = [] \/ 8 < t.length) : Qbv t = false := by
 rcases h with rfl | h
 ·rfl
 ·simp [Qbv]; omega
theorem Xl {t : List UInt8} (h : t.all ZP = false) : Qbv t = false := by simp [Qbv, h]
theorem ZR {s : List UInt8} {i : Nat} (h : i < (Q7 s 46).length) (hd : Qbv (Q7 s 46)[i] = false) : Qcx s = false := by
 rw [Qcx, Yh h hd, Bool.and_false]
theorem YR {s : List UInt8} {i : Nat} (hi : (Q7 s 46).length <= i) (h : ((Q7 s 46).take i).all Qbv = true) : Qcx s = decide ((Q7 s 46).length <= 4) := by
 rw [Qcx, Xa hi h, Bool.and_true]
theorem YO (s : List UInt8) : QaD s false = (decide (s = []) || Qcx s) := by
 have : Qcn false = Qbv := by funext t; simp [Qcn]
 rw [QaD, Qcx, this]
end M3
namespace M3
open Go Go.Abs
def Qd9 (t : List UInt8) : Bool := !(Y7 t && !(Ye t).2)
def QfK (s : List UInt8) : Bool := Qcx s && (Q7 s 46).all Qd9
theorem QiK {s : List UInt8} {i : Nat} (h : i < (Q7 s 46).length) (hd : Qd9 (Q7 s 46)[i] = false) : QfK s = false := by
 rw [QfK, Yh h hd, Bool.and_false]
theorem QgW {s : List UInt8} {i : Nat} (h1 : Qcx s = true) (hi : (Q7 s 46).length <= i) (h : ((Q7 s 46).take i).all Qd9 = true) : QfK s = true := by
 rw [QfK, Xa hi h, h1]; rfl
theorem Xe (s : List UInt8) : QaD s true = (decide (s = []) || QfK s) := by
 have : Qcn true = fun t => Qbv t && Qd9 t := by funext t; simp [Qcn, Qd9]
 rw [QaD, QfK, Qcx, this, Bool.and_assoc]
 congr 2
 induction (Q7 s 46) with
 | nil => rfl
 | cons x xs ih => simp only [List.all_cons, ih]; cases Qbv x <;> cases Qd9 x <;> simp
theorem Qf5 {a b : Int} : ZW a b = 0 ↔ a = b := by unfold ZW; (repeat' split) <;> omega
theorem Qc5 {a b c : Int} {p q : List UInt8} {a' b' c' : Int} {p' q' : List UInt8} (h1 : Qbu a b c p q = true) (h2 : Qbu a' b' c' p' q' = true)
  (h : (decide (a = a') && (decide (b = b') && (decide (c = c') && (decide (p = p') && (decide (([] : List UInt8) = []) && true))))) = true) : QcI a b c p q a' b' c' p' q' = 0 := by
 simp only [Bool.and_eq_true, decide_eq_true_eq, and_true] at h
 obtain ⟨rfl, rfl, rfl, rfl⟩ := h
 have e : ∀ x, ZW x x = 0 := fun x => Qf5.2 rfl
 simp [QcI, h1, h2, e, QcJ]
theorem Qa1 {a b c : Int} {p q : List UInt8} {a' b' c' : Int} {p' q' : List UInt8} (h1 : Qbu a b c p q = true) (h2 : Qbu a' b' c' p' q' = true)
  (h : ¬ Yr [ZW a a', ZW b b', ZW c c'] = 0) : Yr [ZW a a', ZW b b', ZW c c'] = QcI a b c p q a' b' c' p' q' := by
 simp only [Yr, QcI, h1, h2] at h ⊢
 simp only [Bool.true_eq_false, or_self, if_false]
 repeat' split
 all_goals first | rfl | (exfalso; simp_all)
theorem QeN {a b c : Int} {p q : List UInt8} {a' b' c' : Int} {p' q' : List UInt8} (h1 : Qbu a b c p q = true) (h2 : Qbu a' b' c' p' q' = true) (h : Yr [ZW a a', ZW b b', ZW c c'] = 0) :
  QcI a b c p q a' b' c' p' q' = QcJ p p' := by
 simp only [Yr] at h
 simp only [QcI, h1, h2, Bool.true_eq_false, or_self, if_false]
 repeat' split
 all_goals first | rfl | (exfalso; simp_all)
theorem QmF {a b c : Int} {p : List UInt8} {a' b' c' : Int} {p' : List UInt8} (h : (decide (a = a') && (decide (b = b') && (decide (c = c') && (decide (p = p') && (decide (([] : List UInt8) = []) && true))))) = false)
  (h0 : Yr [ZW a a', ZW b b', ZW c c'] = 0) : p ≠ p' := by
 rintro rfl
 have e : ZW a a' = 0 /\ ZW b b' = 0 /\ ZW c c' = 0 := by
  simp only [Yr] at h0
  revert h0
  repeat' split
  all_goals simp_all
 simp only [Qf5] at e
 simp [e] at h
theorem XY {a b c : Int} {p q : List UInt8} {a' b' c' : Int} {p' q' : List UInt8} (h1 : Qbu a b c p q = true) (h2 : Qbu a' b' c' p' q' = true)
  (h : (decide (a = a') && (decide (b = b') && (decide (c = c') && (decide (p = p') && (decide (([] : List UInt8) = []) && true))))) = false)
  (h0 : Yr [ZW a a', ZW b b', ZW c c'] = 0) (hp : p = []) : QcI a b c p q a' b' c' p' q' = 1 := by
 rw [QeN h1 h2 h0, QcJ, if_neg (QmF h h0), if_pos hp]
theorem XZ {a b c : Int} {p q : List UInt8} {a' b' c' : Int} {p' q' : List UInt8} (h1 : Qbu a b c p q = true) (h2 : Qbu a' b' c' p' q' = true)
  (h0 : Yr [ZW a a', ZW b b', ZW c c'] = 0) (hp : ¬ p = []) (hp' : p' = []) : QcI a b c p q a' b' c' p' q' = -1 := by
 have : p ≠ p' := fun e => hp (e.trans hp')
 rw [QeN h1 h2 h0, QcJ, if_neg this, if_neg hp, if_pos hp']
theorem Qnq {a b c : Int} {p q : List UInt8} {a' b' c' : Int} {p' q' : List UInt8} (h1 : Qbu a b c p q = true) (h2 : Qbu a' b' c' p' q' = true)
  (h : (decide (a = a') && (decide (b = b') && (decide (c = c') && (decide (p = p') && (decide (([] : List UInt8) = []) && true))))) = false)
  (h0 : Yr [ZW a a', ZW b b', ZW c c'] = 0) (hp : ¬ p = []) (hp' : ¬ p' = []) : QcI a b c p q a' b' c' p' q' = QjC ((Q7 p 46).drop 0) ((Q7 p' 46).drop 0) := by
 rw [QeN h1 h2 h0, QcJ, if_neg (QmF h h0), if_neg hp, if_neg hp']; rfl
end M3
namespace M3
open Go Go.Abs
end M3
namespace Go.Proofs
open Go Go.Abs M3
set_option linter.unusedVariables false
set_option linter.unusedSimpArgs false
theorem Qay {n : Int} : Ok Try.prog 84 [.int .i64 n] (.bool (QfF n)) := by
 refine Ok.ofT Z2 Try.func84 Qq5 (Nat.le_of_ble_eq_true Z) ?_
 show TW _ _ tf84.body _ _
 refine Qe fun K hK => Qa Z (hK _ _ (Qb (kp1 Z) ?_))
 refine Qe fun K hK => Qa Z (Qke Z Z (Qa Z ?_))
 refine QB (g := 5) Z (fun h1 => ?_) (fun h1 => ?_)
 ·try rw [h1]
  try simp only [qB] at h1
  refine Ql Z (Qa Z (Ql Z (QlK Z Z (Qn Z Z (Qa Z (hK _ _ (Qb (kp1 Z) ?_)))))))
  refine Qt (Qp Z ?_)
  (repeat clear hK K); simp_all [QfF] <;> omega
 ·try rw [h1]
  try simp only [qB] at h1
  refine QA Z (QA Z (Qn Z Z (Qa Z (hK _ _ (Qb (kp1 Z) ?_)))))
  refine Qt (Qp Z ?_)
  (repeat clear hK K); simp_all [QfF] <;> omega
theorem Xh {n : Int} : Ok Try.prog 71 [.int .i64 n] (.bool (QfF n)) := by
 refine Ok.ofT Z2 Try.func71 QqS (Nat.le_of_ble_eq_true Z) ?_
 show TW _ _ tf71.body _ _
 refine Qe fun K hK => Qa Z (hK _ _ (Qb (kp1 Z) ?_))
 refine Qe fun K hK => Qa Z (Qke Z Z (Qa Z ?_))
 refine QB (g := 5) Z (fun h1 => ?_) (fun h1 => ?_)
 ·try rw [h1]
  try simp only [qB] at h1
  refine Ql Z (Qa Z (Ql Z (QlK Z Z (Qn Z Z (Qa Z (hK _ _ (Qb (kp1 Z) ?_)))))))
  refine Qt (Qp Z ?_)
  (repeat clear hK K); simp_all [QfF] <;> omega
 ·try rw [h1]
  try simp only [qB] at h1
  refine QA Z (QA Z (Qn Z Z (Qa Z (hK _ _ (Qb (kp1 Z) ?_)))))
  refine Qt (Qp Z ?_)
  (repeat clear hK K); simp_all [QfF] <;> omega
theorem Qby {n : Int} : Ok Try.prog 87 [.int .i64 n] (.bool false) := by
 refine Ok.ofT Z2 Try.func87 Qq8 (Nat.le_of_ble_eq_true Z) ?_
 show TW _ _ tf87.body _ _
 refine Qe fun K hK => Qa Z (hK _ _ (Qb (kp1 Z) ?_))
 refine Qe fun K hK => Qa Z (Qa Z (Xf Z Z (Qa Z (hK _ _ (Qb (kp1 Z) ?_)))))
 refine Qt (Qp Z ?_)
 (repeat clear hK K); simp_all
theorem Zz {m n : Int} : Ok Try.prog 43 [.int .i64 m, .int .i64 n] (.int .i64 (ZW m n)) := by
 refine Ok.ofT Z2 Try.func43 Qqt (Nat.le_of_ble_eq_true Z) ?_
 show TW _ _ tf43.body _ _
 refine Qe fun K hK => Qa Z (hK _ _ (Qb (kp2 Z Z) ?_))
 refine QE ?_ -- 0
 refine QG (Qe fun K hK => Qa Z (Qa Z (Yx Z Z (Qa Z (hK _ _ (Qb (kp3 Z Z Z) ?_))))))
 refine Qy Z (fun h1 => ?_) (fun h1 => ?_)
 ·try rw [h1]
  try simp only [qB] at h1
  refine Qe fun K hK => Qa Z (hK _ _ (Qb (kp1 Z) ?_))
  refine Qt (Qq (Qi (Qv Z ?_)))
  (repeat clear hK K); simp_all [ZW] <;> omega
 ·try rw [h1]
  try simp only [qB] at h1
  refine Qe fun K hK => Qa Z (Qa Z (Qcp Z Z (Qa Z (hK _ _ (Qb (kp1 Z) ?_)))))
  refine Qy Z (fun h2 => ?_) (fun h2 => ?_)
  ·try rw [h2]
   try simp only [qB] at h2
   refine Qe fun K hK => Qa Z (hK _ _ (Qb (kp1 Z) ?_))
   refine Qt (Qq (Qi (Qv Z ?_)))
   (repeat clear hK K); simp_all [ZW] <;> omega
  ·try rw [h2]
   try simp only [qB] at h2
   refine Qu (Qg (Qd (QP) (Qe fun K hK => Qa Z (hK _ _ (Qb (kp1 Z) ?_)))))
   refine Qt (Qv Z ?_)
   (repeat clear hK K); simp_all [ZW] <;> omega
theorem Z4 {m n : Int} : Ok Try.prog 68 [.int .i64 m, .int .i64 n] (.int .i64 (ZW m n)) := by
 refine Ok.ofT Z2 Try.func68 QqP (Nat.le_of_ble_eq_true Z) ?_
 show TW _ _ tf68.body _ _
 refine Qe fun K hK => Qa Z (hK _ _ (Qb (kp2 Z Z) ?_))
 refine Qe fun K hK => Qa Z (QC (Qby) Z Z (.inr Z) (Qa Z (hK _ _ (Qb (kp3 Z Z Z) ?_))))
 refine Qe fun K hK => Qa Z (QC (Qby) Z Z (.inr Z) (Qa Z (hK _ _ (Qb (kp4 Z Z Z Z) ?_))))
 refine QE ?_ -- 0
 refine Qe fun K hK => Qa Z (hK _ _ (Qb (kp4 Z Z Z Z) ?_))
 refine Qy Z (fun h1 => ?_) (fun h1 => ?_)
 ·try rw [h1]
  try simp only [qB] at h1
  refine QE ?_ -- 1
  refine Qe fun K hK => Qa Z (hK _ _ (Qb (kp1 Z) ?_))
  refine Qy Z (fun h2 => ?_) (fun h2 => ?_)
  ·try rw [h2]
   try simp only [qB] at h2
   refine Qe fun K hK => Qa Z (hK _ _ (Qb (kp1 Z) ?_))
   refine Qt (Qi (Qi (Qv Z ?_)))
   (repeat clear hK K); simp_all [ZW] <;> omega
  ·try rw [h2]
   try simp only [qB] at h2
   refine Qu (Qd (QP) (Qe fun K hK => Qa Z (hK _ _ (Qb (kp1 Z) ?_))))
   refine Qt (Qi (Qv Z ?_))
   (repeat clear hK K); simp_all [ZW] <;> omega
 ·try rw [h1]
  try simp only [qB] at h1
  refine Qu (Qd (kp3 Z Z Z) ?_)
  refine QE ?_ -- 2
  refine Qe fun K hK => Qa Z (hK _ _ (Qb (kp3 Z Z Z) ?_))
  refine Qy Z (fun h3 => ?_) (fun h3 => ?_)
  ·try rw [h3]
   try simp only [qB] at h3
   refine Qe fun K hK => Qa Z (hK _ _ (Qb (kp1 Z) ?_))
   refine Qt (Qi (Qv Z ?_))
   (repeat clear hK K); simp_all [ZW] <;> omega
  ·try rw [h3]
   try simp only [qB] at h3
   refine Qu (Qd (kp2 Z Z) ?_)
   refine QE ?_ -- 3
   refine Qe fun K hK => Qa Z (Qa Z (Yx Z Z (hK _ _ (Qb (kp3 Z Z Z) ?_))))
   refine Qy Z (fun h4 => ?_) (fun h4 => ?_)
   ·try rw [h4]
    try simp only [qB] at h4
    refine Qe fun K hK => Qa Z (hK _ _ (Qb (kp1 Z) ?_))
    refine Qt (Qi (Qv Z ?_))
    (repeat clear hK K); simp_all [ZW] <;> omega
   ·try rw [h4]
    try simp only [qB] at h4
    refine Qu (Qd (kp2 Z Z) ?_)
    refine QE ?_ -- 4
    refine Qe fun K hK => Qa Z (Qa Z (Qcp Z Z (hK _ _ (Qb (kp1 Z) ?_))))
    refine Qy Z (fun h5 => ?_) (fun h5 => ?_)
    ·try rw [h5]
     try simp only [qB] at h5
     refine Qe fun K hK => Qa Z (hK _ _ (Qb (kp1 Z) ?_))
     refine Qt (Qi (Qv Z ?_))
     (repeat clear hK K); simp_all [ZW] <;> omega
    ·try rw [h5]
     try simp only [qB] at h5
     refine Qu (Qd (QP) (Qe fun K hK => Qa Z (hK _ _ (Qb (kp1 Z) ?_))))
     refine Qt (Qv Z ?_)
     (repeat clear hK K); simp_all [ZW] <;> omega
theorem Xv {s : List UInt8} (hl : s.length <= 1000000) : Ok Try.prog 88 [.str s] (.bool (Y7 s)) := by
 refine Ok.ofT Z2 Try.func88 Qq9 (Nat.le_of_ble_eq_true Z) ?_
 show TW _ _ tf88.body _ _
 refine Qe fun K hK => Qa Z (hK _ _ (Qb (kp1 Z) ?_))
 refine QE ?_ -- 0
 refine Qe fun K hK => Qa Z (Yp Z (Qa Z (hK _ _ (Qb (kp3 Z Z Z) ?_))))
 refine QG ?_
 refine ZL (ι := Nat) (fun i => ⟨[(0, .str s), (5, .int .i64 s.length), (6, .int .i64 i)], []⟩) (fun i => i <= s.length /\ (s.take i).all Ym = true) (fun i => s.length - i) 0 ?_ ?_ ?_
 ·exact QU (kp3 rfl rfl rfl)
 ·exact ⟨Nat.zero_le _, rfl⟩
 intro i hI
 try dsimp only
 refine Qe fun K hK => Yx Z Z (hK _ _ (Qb (kp4 Z Z Z Z) ?_))
 refine QE ?_ -- 1
 refine Qy Z (fun h1 => ?_) (fun h1 => ?_)
 ·try rw [h1]
  try simp only [qB] at h1
  refine Qu (Qd (kp3 Z Z Z) ?_)
  refine QE ?_ -- 2
  refine QG (Qe fun K hK => Qa Z (Qa Z (hK _ _ (Qb (kp4 Z Z Z Z) ?_))))
  refine Qe fun K hK => Qa Z (Qa Z (Yg Z Z (by omega) (XT (by omega)) (Yx Z Z (Qa Z ?_))))
  refine QB (g := 13) Z (fun h2 => ?_) (fun h2 => ?_)
  ·try rw [h2]
   try simp only [qB] at h2
   refine QA Z (QA Z (QA Z (QA Z (Qn Z Z (hK _ _ (Qb (kp4 Z Z Z Z) ?_))))))
   refine ZG Z (Qe fun K hK => Qa Z (hK _ _ (Qb (kp1 Z) ?_)))
   refine Qt (Qq (Qi (Q1 (Qq (Qi (Qp Z ?_))))))
   exact (Qb8 (i := i) (by omega) (by simp [Ym]; omega)).symm
  ·try rw [h2]
   try simp only [qB] at h2
   refine Ql Z (Qa Z (Ql Z (Qa Z (Ql Z (Yg Z Z (by omega) (XT (by omega)) (Ql Z (Qcp Z Z (Qn Z Z (hK _ _ (Qb (kp4 Z Z Z Z) ?_))))))))))
   refine Qy Z (fun h3 => ?_) (fun h3 => ?_)
   ·try rw [h3]
    try simp only [qB] at h3
    refine Qe fun K hK => Qa Z (hK _ _ (Qb (kp1 Z) ?_))
    refine Qt (Qq (Qi (Q1 (Qq (Qi (Qp Z ?_))))))
    exact (Qb8 (i := i) (by omega) (by simp [Ym]; omega)).symm
   ·try rw [h3]
    try simp only [qB] at h3
    refine Qu (Qg (Qd (kp3 Z Z Z) (Q4 fun K hK => Zc Z Z (by first | exact Qr (by omega) (by omega) | exact QH (by omega) (by omega) | exact QO (by omega) (by omega) | rfl) (Qa Z (hK _ ?_)))))
    refine Qj (i + 1) ?_ ?_ ?_
    ·exact QU (kp3 rfl rfl rfl)
    ·exact ⟨by omega, Zh (by omega) hI.2 (by simp [Ym]; omega)⟩
    ·first | omega | (simp only; omega) | (dsimp only; omega)
 ·try rw [h1]
  try simp only [qB] at h1
  refine Zk (QI (Qw (QD (Qd (kp1 Z) (Qe fun K hK => Qa Z (Qhj Z Z (Qa Z (hK _ _ (Qb (kp1 Z) ?_)))))))))
  refine Qt (Qp Z ?_)
  exact (Qfi (i := i) (by omega) hI.2).symm
theorem YY {s : List UInt8} {c : Int} (hl : s.length <= 1000000) : Ok Try.prog 73 [.str s, .int .u8 c] (.sl (Yf (Q7 s c))) := by
 refine Ok.ofT Z2 Try.func73 QqU (Nat.le_of_ble_eq_true Z) ?_
 show TW _ _ tf73.body _ _
 refine Qe fun K hK => Qa Z (hK _ _ (Qb (kp2 Z Z) ?_))
 refine Qe fun K hK => Qa Z (hK _ _ (Qb (kp3 Z Z Z) ?_))
 refine Qe fun K hK => Qa Z (hK _ _ (Qb (kp4 Z Z Z Z) ?_))
 refine QE ?_ -- 0
 refine Qe fun K hK => Qa Z (hK _ _ (Qb (kp5 Z Z Z Z Z) ?_))
 refine QG ?_
 refine ZL (ι := Nat × Nat × List (List UInt8)) (fun ⟨i, k, acc⟩ => ⟨[(0, .str s), (1, .int .u8 c), (5, .osl 25 acc.length), (6, .int .i64 k), (7, .int .i64 i)], [(25, ⟨Yf acc, 1, 9, true⟩)]⟩) (fun ⟨i, k, acc⟩ => SplitI s c i k acc) (fun ⟨i, k, acc⟩ => s.length - i) (0, 0, []) ?_ ?_ ?_
 ·exact le_trans (XF 5 25 1 9 rfl rfl) (Zg (l := [0, 1, 5, 6, 7]) (lH := [25]) (kp5 rfl rfl rfl rfl rfl) (Qf rfl Qs) rfl rfl rfl)
 ·exact SplitI.zero
 intro ⟨i, k, acc⟩ hI
 have hI1 := hI.1
 have hI2 := hI.2.1
 have hI3 := hI.2.2.1
 try dsimp only
 refine QE ?_ -- 1
 refine Qe fun K hK => Qa Z (Qa Z (Yp Z (Yx Z Z (hK _ _ (Qb (kp6 Z Z Z Z Z Z) ?_)))))
 refine Qy Z (fun h1 => ?_) (fun h1 => ?_)
 ·try rw [h1]
  try simp only [qB] at h1
  refine Qu (Qd (kp5 Z Z Z Z Z) ?_)
  refine QE ?_ -- 2
  refine QG (Qe fun K hK => Qa Z (Qa Z (Yg Z Z (by omega) (XT (by omega)) (Qa Z (YI Z Z (hK _ _ (Qb (kp6 Z Z Z Z Z Z) ?_)))))))
  refine Qy Z (fun h2 => ?_) (fun h2 => ?_)
  ·try rw [h2]
   try simp only [qB] at h2
   refine Qe fun K hK => Qa Z (Qa Z (Qa Z (Qa Z (Qb0 Z Z Z (by omega) (by omega) (by omega) Z (QL Z Z (QaK Z Z (fun _ h => Qau Z Z Z h) Z (by simp [Yf]) Z Z Z (by simp; omega) (by simp; omega) (Qa Z (hK _ _ (Qb (kp4 Z Z Z Z) ?_)))))))))
   refine Q4 fun K hK => Qa Z (Zc Z Z (by first | exact Qr (by omega) (by omega) | exact QH (by omega) (by omega) | exact QO (by omega) (by omega) | rfl) (Qa Z (hK _ ?_)))
   refine Qg (Qd (kp5 Z Z Z Z Z) (Q4 fun K hK => Qa Z (Zc Z Z (by first | exact Qr (by omega) (by omega) | exact QH (by omega) (by omega) | exact QO (by omega) (by omega) | rfl) (Qa Z (hK _ ?_)))))
   refine Qj (i + 1, i + 1, acc ++ [(s.take i).drop k]) ?_ ?_ ?_
   ·exact Zg (l := [0, 1, 5, 6, 7]) (lH := [25]) (kp5 rfl rfl rfl rfl rfl) (Qf rfl Qs) (by simp [Yf, D.scrub]) (by simp [Yf, Box.scrub]) rfl
   ·exact hI.hit (by omega) (by assumption)
   ·show s.length - (i + 1) < s.length - i; omega
  ·try rw [h2]
   try simp only [qB] at h2
   refine Qu (Qg (Qd (kp5 Z Z Z Z Z) (Q4 fun K hK => Qa Z (Zc Z Z (by first | exact Qr (by omega) (by omega) | exact QH (by omega) (by omega) | exact QO (by omega) (by omega) | rfl) (Qa Z (hK _ ?_))))))
   refine Qj (i + 1, k, acc) ?_ ?_ ?_
   ·exact Zg (l := [0, 1, 5, 6, 7]) (lH := [25]) (kp5 rfl rfl rfl rfl rfl) (Qf rfl Qs) (by simp [Yf, D.scrub]) (by simp [Yf, Box.scrub]) rfl
   ·exact hI.miss (by omega) (by assumption)
   ·show s.length - (i + 1) < s.length - i; omega
 ·try rw [h1]
  try simp only [qB] at h1
  refine Zk (QI (Qw (QD (Qd (kp3 Z Z Z) (Qe fun K hK => Qa Z (Qa Z (Qa Z (Qb0 Z Z Z (by omega) (by omega) (by omega) Z (QL Z Z (QaK Z Z (fun _ h => Qau Z Z Z h) Z (by simp [Yf]) Z Z Z (by simp; omega) (by simp; omega) ?_))))))))))
  refine Qa Z (hK _ _ (Qb (kp1 Z) ?_))
  refine Qt (ZS Z ?_)
  rw [hI.done (by omega)]; simp [Qai, D.fz, D.fzS, Qdz, lk, D.can, D.canS, Yf]
theorem XW {s : List UInt8} {c : Int} (hl : s.length <= 1000000) : Ok Try.prog 69 [.str s, .int .u8 c] (.sl (Yf (Q7 s c))) := by
 refine Ok.ofT Z2 Try.func69 QqQ (Nat.le_of_ble_eq_true Z) ?_
 show TW _ _ tf69.body _ _
 refine Qe fun K hK => Qa Z (hK _ _ (Qb (kp2 Z Z) ?_))
 refine Qe fun K hK => Qa Z (hK _ _ (Qb (kp3 Z Z Z) ?_))
 refine Qe fun K hK => Qa Z (hK _ _ (Qb (kp4 Z Z Z Z) ?_))
 refine QE ?_ -- 0
 refine Qe fun K hK => Qa Z (Yp Z (Qa Z (hK _ _ (Qb (kp6 Z Z Z Z Z Z) ?_))))
 refine QG ?_
 refine ZL (ι := Nat × Nat × List (List UInt8)) (fun ⟨i, k, acc⟩ => ⟨[(0, .str s), (1, .int .u8 c), (5, .osl 24 acc.length), (6, .int .i64 k), (9, .int .i64 s.length), (10, .int .i64 i)], [(24, ⟨Yf acc, 1, 9, true⟩)]⟩) (fun ⟨i, k, acc⟩ => SplitI s c i k acc) (fun ⟨i, k, acc⟩ => s.length - i) (0, 0, []) ?_ ?_ ?_
 ·exact le_trans (XF 5 24 1 9 rfl rfl) (Zg (l := [0, 1, 5, 6, 9, 10]) (lH := [24]) (kp6 rfl rfl rfl rfl rfl rfl) (Qf rfl Qs) rfl rfl rfl)
 ·exact SplitI.zero
 intro ⟨i, k, acc⟩ hI
 have hI1 := hI.1
 have hI2 := hI.2.1
 have hI3 := hI.2.2.1
 try dsimp only
 refine Qe fun K hK => Yx Z Z (hK _ _ (Qb (kp7 Z Z Z Z Z Z Z) ?_))
 refine QE ?_ -- 1
 refine Qy Z (fun h1 => ?_) (fun h1 => ?_)
 ·try rw [h1]
  try simp only [qB] at h1
  refine Qu (Qd (kp6 Z Z Z Z Z Z) ?_)
  refine QE ?_ -- 2
  refine QG (Qe fun K hK => Qa Z (Qa Z (hK _ _ (Qb (kp7 Z Z Z Z Z Z Z) ?_))))
  refine Qe fun K hK => Qa Z (Qa Z (Yg Z Z (by omega) (XT (by omega)) (Qa Z (YI Z Z (hK _ _ (Qb (kp8 Z Z Z Z Z Z Z Z) ?_))))))
  refine Qy Z (fun h2 => ?_) (fun h2 => ?_)
  ·try rw [h2]
   try simp only [qB] at h2
   refine Qe fun K hK => Qa Z (Qa Z (Qa Z (Qa Z (Qb0 Z Z Z (by omega) (by omega) (by omega) Z (QL Z Z (QaK Z Z (fun _ h => Qau Z Z Z h) Z (by simp [Yf]) Z Z Z (by simp; omega) (by simp; omega) (Qa Z (hK _ _ (Qb (kp6 Z Z Z Z Z Z) ?_)))))))))
   refine Q4 fun K hK => Qa Z (Zc Z Z (by first | exact Qr (by omega) (by omega) | exact QH (by omega) (by omega) | exact QO (by omega) (by omega) | rfl) (Qa Z (hK _ ?_)))
   refine Qg (Qd (kp6 Z Z Z Z Z Z) (Q4 fun K hK => Zc Z Z (by first | exact Qr (by omega) (by omega) | exact QH (by omega) (by omega) | exact QO (by omega) (by omega) | rfl) (Qa Z (hK _ ?_))))
   refine Qj (i + 1, i + 1, acc ++ [(s.take i).drop k]) ?_ ?_ ?_
   ·exact Zg (l := [0, 1, 5, 6, 9, 10]) (lH := [24]) (kp6 rfl rfl rfl rfl rfl rfl) (Qf rfl Qs) (by simp [Yf, D.scrub]) (by simp [Yf, Box.scrub]) rfl
   ·exact hI.hit (by omega) (by assumption)
   ·show s.length - (i + 1) < s.length - i; omega
  ·try rw [h2]
   try simp only [qB] at h2
   refine Qu (Qg (Qd (kp6 Z Z Z Z Z Z) (Q4 fun K hK => Zc Z Z (by first | exact Qr (by omega) (by omega) | exact QH (by omega) (by omega) | exact QO (by omega) (by omega) | rfl) (Qa Z (hK _ ?_)))))
   refine Qj (i + 1, k, acc) ?_ ?_ ?_
   ·exact Zg (l := [0, 1, 5, 6, 9, 10]) (lH := [24]) (kp6 rfl rfl rfl rfl rfl rfl) (Qf rfl Qs) (by simp [Yf, D.scrub]) (by simp [Yf, Box.scrub]) rfl
   ·exact hI.miss (by omega) (by assumption)
   ·show s.length - (i + 1) < s.length - i; omega
 ·try rw [h1]
  try simp only [qB] at h1
  refine Zk (QI (Qw (QD (Qd (kp3 Z Z Z) (Qe fun K hK => Qa Z (Qa Z (Qa Z (Qb0 Z Z Z (by omega) (by omega) (by omega) Z (QL Z Z (QaK Z Z (fun _ h => Qau Z Z Z h) Z (by simp [Yf]) Z Z Z (by simp; omega) (by simp; omega) ?_))))))))))
  refine Qa Z (hK _ _ (Qb (kp1 Z) ?_))
  refine Qt (ZS Z ?_)
  rw [hI.done (by omega)]; simp [Qai, D.fz, D.fzS, Qdz, lk, D.can, D.canS, Yf]
end Go.Proofs
namespace Go.Proofs
open Go Go.Abs M3
set_option linter.unusedVariables false
set_option linter.unusedSimpArgs false
theorem Qan {s : List UInt8} : Ok Try.prog 100 [.str s] (.bool false) := by
 refine Ok.ofT Z2 Try.func100 QpB (Nat.le_of_ble_eq_true Z) ?_
 show TW _ _ tf100.body _ _
 refine Qe fun K hK => Qa Z (hK _ _ (Qb (kp1 Z) ?_))
 refine Qe fun K hK => Qa Z (Qa Z (Qhj Z Z (Qa Z (hK _ _ (Qb (kp1 Z) ?_)))))
 refine Qt (Qp Z ?_)
 simp
theorem XN {a b : List UInt8} : Ok Try.prog 90 [.str a, .str b] (.int .i64 (Qbo a b)) := by
 refine Ok.ofT Z2 Try.func90 Qrb (Nat.le_of_ble_eq_true Z) ?_
 show TW _ _ tf90.body _ _
 refine Qe fun K hK => Qa Z (hK _ _ (Qb (kp2 Z Z) ?_))
 refine Qe fun K hK => Qa Z (QC (Qan) Z Z (.inr Z) (Qa Z (hK _ _ (Qb (kp3 Z Z Z) ?_))))
 refine Qe fun K hK => Qa Z (QC (Qan) Z Z (.inr Z) (Qa Z (hK _ _ (Qb (kp4 Z Z Z Z) ?_))))
 refine QE ?_ -- 0
 refine Qe fun K hK => Qa Z (hK _ _ (Qb (kp4 Z Z Z Z) ?_))
 refine Qy Z (fun h1 => ?_) (fun h1 => ?_)
 ·try rw [h1]
  try simp only [qB] at h1
  refine QE ?_ -- 1
  refine Qe fun K hK => Qa Z (hK _ _ (Qb (kp1 Z) ?_))
  refine Qy Z (fun h2 => ?_) (fun h2 => ?_)
  ·try rw [h2]
   try simp only [qB] at h2
   refine Qe fun K hK => Qa Z (hK _ _ (Qb (kp1 Z) ?_))
   refine Qt (Qi (Qi (Qv Z ?_)))
   (repeat clear hK K); simp_all [Qbo]
  ·try rw [h2]
   try simp only [qB] at h2
   refine Qu (Qd (QP) (Qe fun K hK => Qa Z (hK _ _ (Qb (kp1 Z) ?_))))
   refine Qt (Qi (Qv Z ?_))
   (repeat clear hK K); simp_all [Qbo]
 ·try rw [h1]
  try simp only [qB] at h1
  refine Qu (Qd (kp3 Z Z Z) ?_)
  refine QE ?_ -- 2
  refine Qe fun K hK => Qa Z (hK _ _ (Qb (kp3 Z Z Z) ?_))
  refine Qy Z (fun h3 => ?_) (fun h3 => ?_)
  ·try rw [h3]
   try simp only [qB] at h3
   refine Qe fun K hK => Qa Z (hK _ _ (Qb (kp1 Z) ?_))
   refine Qt (Qi (Qv Z ?_))
   (repeat clear hK K); simp_all [Qbo]
  ·try rw [h3]
   try simp only [qB] at h3
   refine Qu (Qd (kp2 Z Z) ?_)
   refine QE ?_ -- 3
   refine Qe fun K hK => Qa Z (Qa Z (Qop Z Z (hK _ _ (Qb (kp3 Z Z Z) ?_))))
   refine Qy Z (fun h4 => ?_) (fun h4 => ?_)
   ·try rw [h4]
    try simp only [qB] at h4
    refine Qe fun K hK => Qa Z (hK _ _ (Qb (kp1 Z) ?_))
    refine Qt (Qi (Qv Z ?_))
    (repeat clear hK K); simp_all [Qbo]
   ·try rw [h4]
    try simp only [qB] at h4
    refine Qu (Qd (kp2 Z Z) ?_)
    refine QE ?_ -- 4
    refine Qe fun K hK => Qa Z (Qa Z (Qoo Z Z (hK _ _ (Qb (kp1 Z) ?_))))
    refine Qy Z (fun h5 => ?_) (fun h5 => ?_)
    ·try rw [h5]
     try simp only [qB] at h5
     refine Qe fun K hK => Qa Z (hK _ _ (Qb (kp1 Z) ?_))
     refine Qt (Qi (Qv Z ?_))
     (repeat clear hK K); simp_all [Qbo]
    ·try rw [h5]
     try simp only [qB] at h5
     refine Qu (Qd (QP) (Qe fun K hK => Qa Z (hK _ _ (Qb (kp1 Z) ?_))))
     refine Qt (Qv Z ?_)
     (repeat clear hK K); simp_all [Qbo]
theorem Qck {a b : List UInt8} : Ok Try.prog 94 [.str a, .str b] (.int .i64 (Qbo a b)) := by
 refine Ok.ofT Z2 Try.func94 Qrf (Nat.le_of_ble_eq_true Z) ?_
 show TW _ _ tf94.body _ _
 refine Qe fun K hK => Qa Z (hK _ _ (Qb (kp2 Z Z) ?_))
 refine QE ?_ -- 0
 refine QG (Qe fun K hK => Qa Z (Qa Z (Qop Z Z (Qa Z (hK _ _ (Qb (kp3 Z Z Z) ?_))))))
 refine Qy Z (fun h1 => ?_) (fun h1 => ?_)
 ·try rw [h1]
  try simp only [qB] at h1
  refine Qe fun K hK => Qa Z (hK _ _ (Qb (kp1 Z) ?_))
  refine Qt (Qq (Qi (Qv Z ?_)))
  (repeat clear hK K); simp_all [Qbo]
 ·try rw [h1]
  try simp only [qB] at h1
  refine Qe fun K hK => Qa Z (Qa Z (Qoo Z Z (Qa Z (hK _ _ (Qb (kp1 Z) ?_)))))
  refine Qy Z (fun h2 => ?_) (fun h2 => ?_)
  ·try rw [h2]
   try simp only [qB] at h2
   refine Qe fun K hK => Qa Z (hK _ _ (Qb (kp1 Z) ?_))
   refine Qt (Qq (Qi (Qv Z ?_)))
   (repeat clear hK K); simp_all [Qbo]
  ·try rw [h2]
   try simp only [qB] at h2
   refine Qu (Qg (Qd (QP) (Qe fun K hK => Qa Z (hK _ _ (Qb (kp1 Z) ?_)))))
   refine Qt (Qv Z ?_)
   (repeat clear hK K); simp_all [Qbo]
theorem Qcj {c : Int} : Ok Try.prog 101 [.int .u8 c] (.bool (XG c)) := by
 refine Ok.ofT Z2 Try.func101 QpC (Nat.le_of_ble_eq_true Z) ?_
 show TW _ _ tf101.body _ _
 refine Qe fun K hK => Qa Z (hK _ _ (Qb (kp1 Z) ?_))
 refine Qe fun K hK => Qa Z (Qke Z Z (Qa Z ?_))
 refine QB (g := 5) Z (fun h1 => ?_) (fun h1 => ?_)
 ·try rw [h1]
  try simp only [qB] at h1
  refine Ql Z (Qa Z (Ql Z (QlK Z Z (Qn Z Z (Qa Z (hK _ _ (Qb (kp1 Z) ?_)))))))
  refine Qt (Qp Z ?_)
  (repeat clear hK K); simp_all [XG] <;> omega
 ·try rw [h1]
  try simp only [qB] at h1
  refine QA Z (QA Z (Qn Z Z (Qa Z (hK _ _ (Qb (kp1 Z) ?_)))))
  refine Qt (Qp Z ?_)
  (repeat clear hK K); simp_all [XG] <;> omega
theorem YC {s : List UInt8} (hl : s.length <= 1000000) : Ok Try.prog 93 [.str s] (.bool (Y7 s)) := by
 refine Ok.ofT Z2 Try.func93 Qre (Nat.le_of_ble_eq_true Z) ?_
 show TW _ _ tf93.body _ _
 refine Qe fun K hK => Qa Z (hK _ _ (Qb (kp1 Z) ?_))
 refine QE ?_ -- 0
 refine Qe fun K hK => Qa Z (hK _ _ (Qb (kp2 Z Z) ?_))
 refine QG ?_
 refine ZL (ι := Nat) (fun i => ⟨[(0, .str s), (3, .int .i64 i)], []⟩) (fun i => i <= s.length /\ (s.take i).all Ym = true) (fun i => s.length - i) 0 ?_ ?_ ?_
 ·exact QU (kp2 rfl rfl)
 ·exact ⟨Nat.zero_le _, rfl⟩
 intro i hI
 try dsimp only
 refine QE ?_ -- 1
 refine Qe fun K hK => Qa Z (Qa Z (Yp Z (Yx Z Z (hK _ _ (Qb (kp3 Z Z Z) ?_)))))
 refine Qy Z (fun h1 => ?_) (fun h1 => ?_)
 ·try rw [h1]
  try simp only [qB] at h1
  refine Qu (Qd (kp2 Z Z) ?_)
  refine QE ?_ -- 2
  refine QG (Qe fun K hK => Qa Z (Qa Z (Yg Z Z (by omega) (XT (by omega)) (Yx Z Z (Qa Z ?_)))))
  refine QB (g := 14) Z (fun h2 => ?_) (fun h2 => ?_)
  ·try rw [h2]
   try simp only [qB] at h2
   refine QA Z (QA Z (QA Z (QA Z (Qn Z Z (hK _ _ (Qb (kp3 Z Z Z) ?_))))))
   refine ZG Z (Qe fun K hK => Qa Z (hK _ _ (Qb (kp1 Z) ?_)))
   refine Qt (Qq (Qi (Q1 (Qq (Qi (Qp Z ?_))))))
   exact (Qb8 (i := i) (by omega) (by simp [Ym]; omega)).symm
  ·try rw [h2]
   try simp only [qB] at h2
   refine Ql Z (Qa Z (Ql Z (Qa Z (Ql Z (Yg Z Z (by omega) (XT (by omega)) (Ql Z (Qcp Z Z (Qn Z Z (hK _ _ (Qb (kp3 Z Z Z) ?_))))))))))
   refine Qy Z (fun h3 => ?_) (fun h3 => ?_)
   ·try rw [h3]
    try simp only [qB] at h3
    refine Qe fun K hK => Qa Z (hK _ _ (Qb (kp1 Z) ?_))
    refine Qt (Qq (Qi (Q1 (Qq (Qi (Qp Z ?_))))))
    exact (Qb8 (i := i) (by omega) (by simp [Ym]; omega)).symm
   ·try rw [h3]
    try simp only [qB] at h3
    refine Qu (Qg (Qd (kp2 Z Z) (Q4 fun K hK => Qa Z (Zc Z Z (by first | exact Qr (by omega) (by omega) | exact QH (by omega) (by omega) | exact QO (by omega) (by omega) | rfl) (Qa Z (hK _ ?_))))))
    refine Qj (i + 1) ?_ ?_ ?_
    ·exact QU (kp2 rfl rfl)
    ·exact ⟨by omega, Zh (by omega) hI.2 (by simp [Ym]; omega)⟩
    ·first | omega | (simp only; omega) | (dsimp only; omega)
 ·try rw [h1]
  try simp only [qB] at h1
  refine Zk (QI (Qw (QD (Qd (kp1 Z) (Qe fun K hK => Qa Z (Yp Z (Qcp Z Z (Qa Z (hK _ _ (Qb (kp1 Z) ?_))))))))))
  refine Qt (Qp Z ?_)
  rw [Qfi (i := i) (by omega) hI.2]; cases s <;> simp
theorem QcY {s : List UInt8} (hl : s.length <= 1000000) : Ok Try.prog 91 [.str s] (.bool (Qbv s)) := by
 refine Ok.ofT Z2 Try.func91 Qrc (Nat.le_of_ble_eq_true Z) ?_
 show TW _ _ tf91.body _ _
 refine Qe fun K hK => Qa Z (hK _ _ (Qb (kp1 Z) ?_))
 refine QE ?_ -- 0
 refine Qe fun K hK => Qa Z (Yp Z (Yx Z Z (Qa Z ?_)))
 refine QB (g := 8) Z (fun h1 => ?_) (fun h1 => ?_)
 ·try rw [h1]
  try simp only [qB] at h1
  refine QA Z (QA Z (QA Z (Qn Z Z (hK _ _ (Qb (kp2 Z Z) ?_)))))
  refine ZG Z (Qe fun K hK => Qa Z (hK _ _ (Qb (kp1 Z) ?_)))
  refine Qt (Qi (Qp Z ?_))
  first | (have hz := Xa (p := ZP) (s := s) (i := i) (by omega) hI.2; simp [Qbv, hz]; omega) | (have hz := Yh (p := ZP) (s := s) (i := i) (by omega) (by simp [ZP]; omega); simp [Qbv, hz]; done) | (simp [Qbv]; omega)
 ·try rw [h1]
  try simp only [qB] at h1
  refine Ql Z (Qa Z (Ql Z (Yp Z (Ql Z (Qcp Z Z (Qn Z Z (hK _ _ (Qb (kp2 Z Z) ?_))))))))
  refine Qy Z (fun h2 => ?_) (fun h2 => ?_)
  ·try rw [h2]
   try simp only [qB] at h2
   refine Qe fun K hK => Qa Z (hK _ _ (Qb (kp1 Z) ?_))
   refine Qt (Qi (Qp Z ?_))
   first | (have hz := Xa (p := ZP) (s := s) (i := i) (by omega) hI.2; simp [Qbv, hz]; omega) | (have hz := Yh (p := ZP) (s := s) (i := i) (by omega) (by simp [ZP]; omega); simp [Qbv, hz]; done) | (simp [Qbv]; omega)
  ·try rw [h2]
   try simp only [qB] at h2
   refine Qu (Qd (kp1 Z) ?_)
   refine QE ?_ -- 1
   refine Qe fun K hK => Qa Z (hK _ _ (Qb (kp2 Z Z) ?_))
   refine QG ?_
   refine ZL (ι := Nat) (fun i => ⟨[(0, .str s), (3, .int .i64 i)], []⟩) (fun i => i <= s.length /\ (s.take i).all ZP = true) (fun i => s.length - i) 0 ?_ ?_ ?_
   ·exact QU (kp2 rfl rfl)
   ·exact ⟨Nat.zero_le _, rfl⟩
   intro i hI
   try dsimp only
   refine QE ?_ -- 2
   refine Qe fun K hK => Qa Z (Qa Z (Yp Z (Yx Z Z (hK _ _ (Qb (kp3 Z Z Z) ?_)))))
   refine Qy Z (fun h3 => ?_) (fun h3 => ?_)
   ·try rw [h3]
    try simp only [qB] at h3
    refine Qu (Qd (kp2 Z Z) ?_)
    refine QE ?_ -- 3
    refine QG (Qe fun K hK => Qa Z (Qa Z (Yg Z Z (by omega) (XT (by omega)) (Qa Z (hK _ _ (Qb (kp3 Z Z Z) ?_))))))
    refine Qe fun K hK => Qa Z (Yx Z Z (Qa Z ?_))
    refine QB (g := 24) Z (fun h4 => ?_) (fun h4 => ?_)
    ·try rw [h4]
     try simp only [qB] at h4
     refine QA Z (QA Z (Qn Z Z (Qa Z (Ql Z (Qa Z (Ql Z (Yx Z Z (Ql Z (Qa Z ?_)))))))))
     refine QB (g := 31) Z (fun h5 => ?_) (fun h5 => ?_)
     ·try rw [h5]
      try simp only [qB] at h5
      refine QA Z (QA Z (Ql Z (Qn Z Z (Qn Z Z (Qa Z (Ql Z (Qa Z (Ql Z (Xf Z Z (Qn Z Z (hK _ _ (Qb (kp3 Z Z Z) ?_))))))))))))
      refine Qy Z (fun h6 => ?_) (fun h6 => ?_)
      ·try rw [h6]
       try simp only [qB] at h6
       refine Qe fun K hK => Qa Z (hK _ _ (Qb (kp1 Z) ?_))
       refine Qt (Qq (Qi (Q1 (Qq (Qi (Qp Z ?_))))))
       first | (have hz := Xa (p := ZP) (s := s) (i := i) (by omega) hI.2; simp [Qbv, hz]; omega) | (have hz := Yh (p := ZP) (s := s) (i := i) (by omega) (by simp [ZP]; omega); simp [Qbv, hz]; done) | (simp [Qbv]; omega)
      ·try rw [h6]
       try simp only [qB] at h6
       refine Qu (Qg (Qd (kp2 Z Z) (Q4 fun K hK => Qa Z (Zc Z Z (by first | exact Qr (by omega) (by omega) | exact QH (by omega) (by omega) | exact QO (by omega) (by omega) | rfl) (Qa Z (hK _ ?_))))))
       refine Qj (i + 1) ?_ ?_ ?_
       ·exact QU (kp2 rfl rfl)
       ·exact ⟨by omega, Zh (by omega) hI.2 (by simp [ZP]; omega)⟩
       ·first | omega | (simp only; omega) | (dsimp only; omega)
     ·try rw [h5]
      try simp only [qB] at h5
      refine Ql Z (Qa Z (Ql Z (Qcp Z Z (Ql Z (Qn Z Z (Qn Z Z (Qa Z ?_)))))))
      refine QB (g := 36) Z (fun h7 => ?_) (fun h7 => ?_)
      ·try rw [h7]
       try simp only [qB] at h7
       refine Ql Z (Qa Z (Ql Z (Xf Z Z (Qn Z Z (hK _ _ (Qb (kp3 Z Z Z) ?_))))))
       refine Qy Z (fun h8 => ?_) (fun h8 => ?_)
       ·try rw [h8]
        try simp only [qB] at h8
        refine Qe fun K hK => Qa Z (hK _ _ (Qb (kp1 Z) ?_))
        refine Qt (Qq (Qi (Q1 (Qq (Qi (Qp Z ?_))))))
        first | (have hz := Xa (p := ZP) (s := s) (i := i) (by omega) hI.2; simp [Qbv, hz]; omega) | (have hz := Yh (p := ZP) (s := s) (i := i) (by omega) (by simp [ZP]; omega); simp [Qbv, hz]; done) | (simp [Qbv]; omega)
       ·try rw [h8]
        try simp only [qB] at h8
        refine Qu (Qg (Qd (kp2 Z Z) (Q4 fun K hK => Qa Z (Zc Z Z (by first | exact Qr (by omega) (by omega) | exact QH (by omega) (by omega) | exact QO (by omega) (by omega) | rfl) (Qa Z (hK _ ?_))))))
        refine Qj (i + 1) ?_ ?_ ?_
        ·exact QU (kp2 rfl rfl)
        ·exact ⟨by omega, Zh (by omega) hI.2 (by simp [ZP]; omega)⟩
        ·first | omega | (simp only; omega) | (dsimp only; omega)
      ·try rw [h7]
       try simp only [qB] at h7
       refine QA Z (QA Z (Qn Z Z (hK _ _ (Qb (kp3 Z Z Z) ?_))))
       refine Zy Z (Qu (Qg (Qd (kp2 Z Z) (Q4 fun K hK => Qa Z (Zc Z Z (by first | exact Qr (by omega) (by omega) | exact QH (by omega) (by omega) | exact QO (by omega) (by omega) | rfl) (Qa Z (hK _ ?_)))))))
       refine Qj (i + 1) ?_ ?_ ?_
       ·exact QU (kp2 rfl rfl)
       ·exact ⟨by omega, Zh (by omega) hI.2 (by simp [ZP]; omega)⟩
       ·first | omega | (simp only; omega) | (dsimp only; omega)
    ·try rw [h4]
     try simp only [qB] at h4
     refine Ql Z (Qa Z (Ql Z (Qcp Z Z (Qn Z Z (Qa Z ?_)))))
     refine QB (g := 28) Z (fun h9 => ?_) (fun h9 => ?_)
     ·try rw [h9]
      try simp only [qB] at h9
      refine Ql Z (Qa Z (Ql Z (Yx Z Z (Ql Z (Qa Z ?_)))))
      refine QB (g := 31) Z (fun h10 => ?_) (fun h10 => ?_)
      ·try rw [h10]
       try simp only [qB] at h10
       refine QA Z (QA Z (Ql Z (Qn Z Z (Qn Z Z (Qa Z (Ql Z (Qa Z (Ql Z (Xf Z Z (Qn Z Z (hK _ _ (Qb (kp3 Z Z Z) ?_))))))))))))
       refine Qy Z (fun h11 => ?_) (fun h11 => ?_)
       ·try rw [h11]
        try simp only [qB] at h11
        refine Qe fun K hK => Qa Z (hK _ _ (Qb (kp1 Z) ?_))
        refine Qt (Qq (Qi (Q1 (Qq (Qi (Qp Z ?_))))))
        first | (have hz := Xa (p := ZP) (s := s) (i := i) (by omega) hI.2; simp [Qbv, hz]; omega) | (have hz := Yh (p := ZP) (s := s) (i := i) (by omega) (by simp [ZP]; omega); simp [Qbv, hz]; done) | (simp [Qbv]; omega)
       ·try rw [h11]
        try simp only [qB] at h11
        refine Qu (Qg (Qd (kp2 Z Z) (Q4 fun K hK => Qa Z (Zc Z Z (by first | exact Qr (by omega) (by omega) | exact QH (by omega) (by omega) | exact QO (by omega) (by omega) | rfl) (Qa Z (hK _ ?_))))))
        refine Qj (i + 1) ?_ ?_ ?_
        ·exact QU (kp2 rfl rfl)
        ·exact ⟨by omega, Zh (by omega) hI.2 (by simp [ZP]; omega)⟩
        ·first | omega | (simp only; omega) | (dsimp only; omega)
      ·try rw [h10]
       try simp only [qB] at h10
       refine Ql Z (Qa Z (Ql Z (Qcp Z Z (Ql Z (Qn Z Z (Qn Z Z (Qa Z ?_)))))))
       refine QB (g := 36) Z (fun h12 => ?_) (fun h12 => ?_)
       ·try rw [h12]
        try simp only [qB] at h12
        refine Ql Z (Qa Z (Ql Z (Xf Z Z (Qn Z Z (hK _ _ (Qb (kp3 Z Z Z) ?_))))))
        refine Qy Z (fun h13 => ?_) (fun h13 => ?_)
        ·try rw [h13]
         try simp only [qB] at h13
         refine Qe fun K hK => Qa Z (hK _ _ (Qb (kp1 Z) ?_))
         refine Qt (Qq (Qi (Q1 (Qq (Qi (Qp Z ?_))))))
         first | (have hz := Xa (p := ZP) (s := s) (i := i) (by omega) hI.2; simp [Qbv, hz]; omega) | (have hz := Yh (p := ZP) (s := s) (i := i) (by omega) (by simp [ZP]; omega); simp [Qbv, hz]; done) | (simp [Qbv]; omega)
        ·try rw [h13]
         try simp only [qB] at h13
         refine Qu (Qg (Qd (kp2 Z Z) (Q4 fun K hK => Qa Z (Zc Z Z (by first | exact Qr (by omega) (by omega) | exact QH (by omega) (by omega) | exact QO (by omega) (by omega) | rfl) (Qa Z (hK _ ?_))))))
         refine Qj (i + 1) ?_ ?_ ?_
         ·exact QU (kp2 rfl rfl)
         ·exact ⟨by omega, Zh (by omega) hI.2 (by simp [ZP]; omega)⟩
         ·first | omega | (simp only; omega) | (dsimp only; omega)
       ·try rw [h12]
        try simp only [qB] at h12
        refine QA Z (QA Z (Qn Z Z (hK _ _ (Qb (kp3 Z Z Z) ?_))))
        refine Zy Z (Qu (Qg (Qd (kp2 Z Z) (Q4 fun K hK => Qa Z (Zc Z Z (by first | exact Qr (by omega) (by omega) | exact QH (by omega) (by omega) | exact QO (by omega) (by omega) | rfl) (Qa Z (hK _ ?_)))))))
        refine Qj (i + 1) ?_ ?_ ?_
        ·exact QU (kp2 rfl rfl)
        ·exact ⟨by omega, Zh (by omega) hI.2 (by simp [ZP]; omega)⟩
        ·first | omega | (simp only; omega) | (dsimp only; omega)
     ·try rw [h9]
      try simp only [qB] at h9
      refine QA Z (QA Z (QA Z (Q0 Z (Q0 Z (QA Z (Qn Z Z (Qa Z (QA Z (QA Z (Qn Z Z (hK _ _ (Qb (kp3 Z Z Z) ?_))))))))))))
      refine Zy Z (Qu (Qg (Qd (kp2 Z Z) (Q4 fun K hK => Qa Z (Zc Z Z (by first | exact Qr (by omega) (by omega) | exact QH (by omega) (by omega) | exact QO (by omega) (by omega) | rfl) (Qa Z (hK _ ?_)))))))
      refine Qj (i + 1) ?_ ?_ ?_
      ·exact QU (kp2 rfl rfl)
      ·exact ⟨by omega, Zh (by omega) hI.2 (by simp [ZP]; omega)⟩
      ·first | omega | (simp only; omega) | (dsimp only; omega)
   ·try rw [h3]
    try simp only [qB] at h3
    refine Zk (QI (Qw (QD (Qd (QP) (Qe fun K hK => Qa Z (hK _ _ (Qb (kp1 Z) ?_)))))))
    refine Qt (Qp Z ?_)
    first | (have hz := Xa (p := ZP) (s := s) (i := i) (by omega) hI.2; simp [Qbv, hz]; omega) | (have hz := Yh (p := ZP) (s := s) (i := i) (by omega) (by simp [ZP]; omega); simp [Qbv, hz]; done) | (simp [Qbv]; omega)
theorem Qcr {a b c : Int} {p q : List UInt8} : Ok Try.prog 66 [.agg [.int .i64 a, .int .i64 b, .int .i64 c, .str p, .str q]] (.agg [.int .i64 a, .int .i64 b, .int .i64 c, .str p, .str []]) := by
 refine Ok.ofT Z2 Try.func66 QqN (Nat.le_of_ble_eq_true Z) ?_
 show TW _ _ tf66.body _ _
 refine Qe fun K hK => ZK Z Z Z (ZF Z (hK _ _ (Qb (kp2 Z Z) ?_)))
 refine Qe fun K hK => Qm Z Z (QS Z Z Z Z Z Z Z Z (hK _ _ (Qb (kp2 Z Z) ?_)))
 refine Qe fun K hK => QM (cs := [_, _, _, _, _]) Z Z Z Z (QS Z Z Z Z Z Z Z Z (hK _ _ (Qb (kp1 Z) ?_)))
 refine Qt (ZA (cs := [_, _, _, _, _]) Z Z Z Z ?_)
 exact rfl
theorem YL {s : List UInt8} (hl : s.length <= 1000000) : Ok Try.prog 92 [.str s] (.tup [.int .i64 (Ye s).1, .bool (Ye s).2]) := by
 refine Ok.ofT Z2 Try.func92 Qrd (Nat.le_of_ble_eq_true Z) ?_
 show TW _ _ tf92.body _ _
 refine Qe fun K hK => Qa Z (Qa Z (hK _ _ (Qb (kp1 Z) ?_)))
 refine Qhm (ι := Unit) (fun _u => ⟨[(0, .str s)], []⟩) (fun _u => ¬ (s.length < 1 \/ 9 < s.length \/ (1 < s.length /\ s.head? = some 48))) ?_ ?_
 ·skip
  refine Qe fun K hK => Qa Z (Yp Z (Yx Z Z (Qa Z ?_)))
  refine QB (g := 9) Z (fun h1 => ?_) (fun h1 => ?_)
  ·try rw [h1]
   try simp only [qB, XG, Bool.and_eq_true, Bool.and_eq_false_iff] at h1
   refine QA Z (QA Z (QA Z (Qn Z Z (Qa Z (QA Z (QA Z (QA Z (QA Z (Q0 Z (Q0 Z (Q0 Z ?_)))))))))))
   refine QA Z (Qn Z Z (hK _ _ (Qb (kp2 Z Z) ?_)))
   refine ZG Z (Qe fun K hK => Qa Z (Qa Z (hK _ _ (Qb (kp2 Z Z) ?_))))
   refine Qt (Qb5 (ZT Z Z ?_))
   first | (rw [QdQ (s := s) (by omega)]; exact ⟨rfl, rfl⟩) | (rw [YH (s := s) (by omega) (by assumption)]; exact ⟨rfl, rfl⟩) | (rw [Xn (s := s) (i := i) (by omega) (by simp [Ym]; omega)]; exact ⟨rfl, rfl⟩) | (rw [QdP (s := s) (i := i) (by omega) (by omega)]; exact ⟨rfl, rfl⟩) | (rw [Qfh (s := s) (i := i) hJ (by omega) hI.2.1 (by omega)]; exact ⟨rfl, rfl⟩)
  ·try rw [h1]
   try simp only [qB, XG, Bool.and_eq_true, Bool.and_eq_false_iff] at h1
   refine Ql Z (Qa Z (Ql Z (Yp Z (Ql Z (Qcp Z Z (Qn Z Z (Qa Z ?_)))))))
   refine QB (g := 14) Z (fun h2 => ?_) (fun h2 => ?_)
   ·try rw [h2]
    try simp only [qB, XG, Bool.and_eq_true, Bool.and_eq_false_iff] at h2
    refine QA Z (QA Z (QA Z (QA Z (Q0 Z (Q0 Z (Q0 Z (QA Z (Qn Z Z (hK _ _ (Qb (kp2 Z Z) ?_))))))))))
    refine ZG Z (Qe fun K hK => Qa Z (Qa Z (hK _ _ (Qb (kp2 Z Z) ?_))))
    refine Qt (Qb5 (ZT Z Z ?_))
    first | (rw [QdQ (s := s) (by omega)]; exact ⟨rfl, rfl⟩) | (rw [YH (s := s) (by omega) (by assumption)]; exact ⟨rfl, rfl⟩) | (rw [Xn (s := s) (i := i) (by omega) (by simp [Ym]; omega)]; exact ⟨rfl, rfl⟩) | (rw [QdP (s := s) (i := i) (by omega) (by omega)]; exact ⟨rfl, rfl⟩) | (rw [Qfh (s := s) (i := i) hJ (by omega) hI.2.1 (by omega)]; exact ⟨rfl, rfl⟩)
   ·try rw [h2]
    try simp only [qB, XG, Bool.and_eq_true, Bool.and_eq_false_iff] at h2
    refine Ql Z (Qa Z (Ql Z (Yp Z (Ql Z (Qcp Z Z (Ql Z (Qa Z ?_)))))))
    refine QB (g := 18) Z (fun h3 => ?_) (fun h3 => ?_)
    ·try rw [h3]
     try simp only [qB, XG, Bool.and_eq_true, Bool.and_eq_false_iff] at h3
     refine Ql Z (Qa Z (Ql Z (Yg Z Z (by omega) (XT (i := 0) (by omega)) (Ql Z (YI Z Z (Ql Z (Qn Z Z (Qn Z Z (hK _ _ (Qb (kp2 Z Z) ?_))))))))))
     refine Qy Z (fun h4 => ?_) (fun h4 => ?_)
     ·try rw [h4]
      try simp only [qB, XG, Bool.and_eq_true, Bool.and_eq_false_iff] at h4
      refine Qe fun K hK => Qa Z (Qa Z (hK _ _ (Qb (kp2 Z Z) ?_)))
      refine Qt (Qb5 (ZT Z Z ?_))
      first | (rw [QdQ (s := s) (by omega)]; exact ⟨rfl, rfl⟩) | (rw [YH (s := s) (by omega) (by assumption)]; exact ⟨rfl, rfl⟩) | (rw [Xn (s := s) (i := i) (by omega) (by simp [Ym]; omega)]; exact ⟨rfl, rfl⟩) | (rw [QdP (s := s) (i := i) (by omega) (by omega)]; exact ⟨rfl, rfl⟩) | (rw [Qfh (s := s) (i := i) hJ (by omega) hI.2.1 (by omega)]; exact ⟨rfl, rfl⟩)
     ·try rw [h4]
      try simp only [qB, XG, Bool.and_eq_true, Bool.and_eq_false_iff] at h4
      refine Qu ?_
      refine Zw () ?_ ?_
      ·exact QU (kp1 rfl)
      ·rintro (q | q | q) <;> first | omega | exact QgF (s := s) (by omega) (by assumption) q.2
    ·try rw [h3]
     try simp only [qB, XG, Bool.and_eq_true, Bool.and_eq_false_iff] at h3
     refine QA Z (QA Z (QA Z (Ql Z (Qn Z Z (Qn Z Z (hK _ _ (Qb (kp2 Z Z) ?_)))))))
     refine Zy Z (Qu ?_)
     refine Zw () ?_ ?_
     ·exact QU (kp1 rfl)
     ·rintro (q | q | q) <;> first | omega | exact QgF (s := s) (by omega) (by assumption) q.2
 intro _u hJ
 try dsimp only
 refine Qe fun K hK => Qa Z (hK _ _ (Qb (kp2 Z Z) ?_))
 refine QE ?_ -- 1
 refine Qe fun K hK => Qa Z (hK _ _ (Qb (kp3 Z Z Z) ?_))
 refine QG ?_
 refine ZL (ι := Nat) (fun i => ⟨[(0, .str s), (4, .int .i64 (val (s.take i))), (5, .int .i64 i)], []⟩) (fun i => i <= s.length /\ (s.take i).all Ym = true /\ s.length <= 9) (fun i => s.length - i) 0 ?_ ?_ ?_
 ·first | exact QU (kp3 rfl rfl rfl) | exact Zg (l := [0, 4, 5]) (kp3 rfl rfl rfl) Qs (by rw [Qeq (by omega)]; simp; omega) rfl rfl
 ·exact ⟨Nat.zero_le _, rfl, by omega⟩
 intro i hI
 have hv := Qly (s := s.take i) hI.2.1
 have hp : 10 ^ (s.take i).length <= 10 ^ 9 := Nat.pow_le_pow_right (by omega) (by simp; omega)
 try dsimp only
 refine QE ?_ -- 2
 refine Qe fun K hK => Qa Z (Qa Z (Yp Z (Yx Z Z (hK _ _ (Qb (kp4 Z Z Z Z) ?_)))))
 refine Qy Z (fun h5 => ?_) (fun h5 => ?_)
 ·try rw [h5]
  try simp only [qB, XG, Bool.and_eq_true, Bool.and_eq_false_iff] at h5
  refine Qu (Qd (kp3 Z Z Z) ?_)
  refine QE ?_ -- 3
  refine QG ?_
  refine QE ?_ -- 4
  refine Qe fun K hK => Qa Z (Qa Z (Yg Z Z (by omega) (XT (by omega)) (QC (Qcj) Z Z (.inr Z) (Yl Z (hK _ _ (Qb (kp4 Z Z Z Z) ?_))))))
  refine Qy Z (fun h6 => ?_) (fun h6 => ?_)
  ·try rw [h6]
   try simp only [qB, XG, Bool.and_eq_true, Bool.and_eq_false_iff] at h6
   refine Qe fun K hK => Qa Z (Qa Z (hK _ _ (Qb (kp2 Z Z) ?_)))
   refine Qt (Qi (Qq (Qi (Q1 (Qq (Qi (ZT Z Z ?_)))))))
   first | (rw [QdQ (s := s) (by omega)]; exact ⟨rfl, rfl⟩) | (rw [YH (s := s) (by omega) (by assumption)]; exact ⟨rfl, rfl⟩) | (rw [Xn (s := s) (i := i) (by omega) (by simp [Ym]; omega)]; exact ⟨rfl, rfl⟩) | (rw [QdP (s := s) (i := i) (by omega) (by omega)]; exact ⟨rfl, rfl⟩) | (rw [Qfh (s := s) (i := i) hJ (by omega) hI.2.1 (by omega)]; exact ⟨rfl, rfl⟩)
  ·try rw [h6]
   try simp only [qB, XG, Bool.and_eq_true, Bool.and_eq_false_iff] at h6
   refine Qu (Qd (kp3 Z Z Z) (Q4 fun K hK => Qa Z (Qm6 Z Z (by first | exact Qr (by omega) (by omega) | exact QH (by omega) (by omega) | exact QO (by omega) (by omega) | rfl) (Qa Z (Qa Z (Yg Z Z (by omega) (XT (by omega)) (QcQ Z Z (by first | exact Qr (by omega) (by omega) | exact QH (by omega) (by omega) | exact QO (by omega) (by omega) | rfl) (QfN Z (by first | exact Qr (by omega) (by omega) | exact QH (by omega) (by omega) | exact QO (by omega) (by omega) | rfl) (Zc Z Z (by first | exact Qr (by omega) (by omega) | exact QH (by omega) (by omega) | exact QO (by omega) (by omega) | rfl) (Qa Z ?_))))))))))
   refine hK _ ?_
   refine Qg (Qd (kp3 Z Z Z) (Q4 fun K hK => Qa Z (Zc Z Z (by first | exact Qr (by omega) (by omega) | exact QH (by omega) (by omega) | exact QO (by omega) (by omega) | rfl) (Qa Z (hK _ ?_)))))
   refine Qj (i + 1) ?_ ?_ ?_
   ·first | exact QU (kp3 rfl rfl rfl) | exact Zg (l := [0, 4, 5]) (kp3 rfl rfl rfl) Qs (by rw [Qeq (by omega)]; simp; omega) rfl rfl
   ·exact ⟨by omega, Zh (by omega) hI.2.1 (by simp [Ym]; omega), hI.2.2⟩
   ·first | omega | (simp only; omega) | (dsimp only; omega)
 ·try rw [h5]
  try simp only [qB, XG, Bool.and_eq_true, Bool.and_eq_false_iff] at h5
  refine Zk (QI (Qw (QD (Qd (kp1 Z) ?_))))
  refine QE ?_ -- 5
  refine Qe fun K hK => Qa Z (Qcp Z Z (hK _ _ (Qb (kp2 Z Z) ?_)))
  refine Qy Z (fun h7 => ?_) (fun h7 => ?_)
  ·try rw [h7]
   try simp only [qB, XG, Bool.and_eq_true, Bool.and_eq_false_iff] at h7
   refine Qe fun K hK => Qa Z (Qa Z (hK _ _ (Qb (kp2 Z Z) ?_)))
   refine Qt (Qi (ZT Z Z ?_))
   first | (rw [QdQ (s := s) (by omega)]; exact ⟨rfl, rfl⟩) | (rw [YH (s := s) (by omega) (by assumption)]; exact ⟨rfl, rfl⟩) | (rw [Xn (s := s) (i := i) (by omega) (by simp [Ym]; omega)]; exact ⟨rfl, rfl⟩) | (rw [QdP (s := s) (i := i) (by omega) (by omega)]; exact ⟨rfl, rfl⟩) | (rw [Qfh (s := s) (i := i) hJ (by omega) hI.2.1 (by omega)]; exact ⟨rfl, rfl⟩)
  ·try rw [h7]
   try simp only [qB, XG, Bool.and_eq_true, Bool.and_eq_false_iff] at h7
   refine Qu (Qd (kp1 Z) (Qe fun K hK => Qa Z (Qa Z (Qa Z (hK _ _ (Qb (kp2 Z Z) ?_))))))
   refine Qt (ZT Z Z ?_)
   first | (rw [QdQ (s := s) (by omega)]; exact ⟨rfl, rfl⟩) | (rw [YH (s := s) (by omega) (by assumption)]; exact ⟨rfl, rfl⟩) | (rw [Xn (s := s) (i := i) (by omega) (by simp [Ym]; omega)]; exact ⟨rfl, rfl⟩) | (rw [QdP (s := s) (i := i) (by omega) (by omega)]; exact ⟨rfl, rfl⟩) | (rw [Qfh (s := s) (i := i) hJ (by omega) hI.2.1 (by omega)]; exact ⟨rfl, rfl⟩)
end Go.Proofs
namespace Go.Proofs
open Go Go.Abs M3
set_option linter.unusedVariables false
set_option linter.unusedSimpArgs false
theorem QcX {a b : List UInt8} (ha : a.length <= 1000000) (hb : b.length <= 1000000) : Ok Try.prog 74 [.str a, .str b] (.int .i64 (QfJ a b)) := by
 refine Ok.ofT Z2 Try.func74 QqV (Nat.le_of_ble_eq_true Z) ?_
 show TW _ _ tf74.body _ _
 refine Qe fun K hK => Qa Z (hK _ _ (Qb (kp2 Z Z) ?_))
 refine Qe fun K hK => Qa Z (QC (YC (by omega)) Z Z (.inr Z) (Qa Z (QC (YC (by omega)) Z Z (.inr Z) (Qa Z (Qa Z (hK _ _ (Qb (kp4 Z Z Z Z) ?_)))))))
 refine QE ?_ -- 0
 refine QG (Qe fun K hK => Qa Z (Qa Z ?_))
 refine QB (g := 17) Z (fun h1 => ?_) (fun h1 => ?_)
 ·try rw [h1]
  try simp only [qB] at h1
  refine Ql Z (Qa Z (Qn Z Z (Qa Z (hK _ _ (Qb (kp5 Z Z Z Z Z) ?_)))))
  refine Qy Z (fun h2 => ?_) (fun h2 => ?_)
  ·try rw [h2]
   try simp only [qB] at h2
   refine Qe fun K hK => Qa Z (QC (YL (by omega)) Z Z (.inr Z) (Qa Z (Zi Z Z (Zi Z Z (Qa Z (Qa Z (hK _ _ (Qb (kp2 Z Z) ?_))))))))
   refine Qe fun K hK => Qa Z (QC (YL (by omega)) Z Z (.inr Z) (Qa Z (Zi Z Z (Zi Z Z (Qa Z (Qa Z (hK _ _ (Qb (kp2 Z Z) ?_))))))))
   refine Qe fun K hK => Qa Z (Qa Z (QC (Zz) Z Z (.inr Z) (Qa Z (hK _ _ (Qb (kp1 Z) ?_)))))
   refine Qt (Qq (Qi (Qv Z ?_)))
   simp [QfJ, h1, h2]
  ·try rw [h2]
   try simp only [qB] at h2
   refine Qe fun K hK => Qa Z (Qa Z (hK _ _ (Qb (kp4 Z Z Z Z) ?_)))
   refine ZG Z (Qe fun K hK => Qa Z (hK _ _ (Qb (kp1 Z) ?_)))
   refine Qt (Qq (Qi (Qv Z ?_)))
   simp [QfJ, h1, h2]
 ·try rw [h1]
  try simp only [qB] at h1
  refine QA Z (Qn Z Z (Qa Z (hK _ _ (Qb (kp5 Z Z Z Z Z) ?_))))
  refine Zy Z (Qe fun K hK => Qa Z (Qa Z (hK _ _ (Qb (kp4 Z Z Z Z) ?_))))
  refine Zy Z (Qe fun K hK => Qa Z (Qa Z (hK _ _ (Qb (kp3 Z Z Z) ?_))))
  refine Qy Z (fun h3 => ?_) (fun h3 => ?_)
  ·try rw [h3]
   try simp only [qB] at h3
   refine Qe fun K hK => Qa Z (hK _ _ (Qb (kp1 Z) ?_))
   refine Qt (Qq (Qi (Qv Z ?_)))
   simp [QfJ, h1, h3]
  ·try rw [h3]
   try simp only [qB] at h3
   refine Qu (Qg (Qd (kp2 Z Z) (Qe fun K hK => Qa Z (Qa Z (QC (Qck) Z Z (.inr Z) (Qa Z (hK _ _ (Qb (kp1 Z) ?_))))))))
   refine Qt (Qv Z ?_)
   simp [QfJ, h1, h3]
theorem QcE {a b : List UInt8} (ha : a.length <= 1000000) (hb : b.length <= 1000000) : Ok Try.prog 44 [.str a, .str b] (.int .i64 (QcJ a b)) := by
 refine Ok.ofT Z2 Try.func44 Qqu (Nat.le_of_ble_eq_true Z) ?_
 show TW _ _ tf44.body _ _
 refine Qe fun K hK => Qa Z (hK _ _ (Qb (kp2 Z Z) ?_))
 refine QE ?_ -- 0
 refine QG (Qe fun K hK => Qa Z (Qa Z (Qbq Z Z (Qa Z (hK _ _ (Qb (kp3 Z Z Z) ?_))))))
 refine Qy Z (fun h1 => ?_) (fun h1 => ?_)
 ·try rw [h1]
  try simp only [qB, Qo] at h1
  refine Qe fun K hK => Qa Z (hK _ _ (Qb (kp1 Z) ?_))
  refine Qt (Qq (Qi (Qv Z ?_)))
  (repeat clear hK K); first | (simp_all [QcJ]; done) | (rw [hI.2.2, Yu (by omega) (by omega) (by assumption)]) | (rw [hI.2.2, Yt (by omega) (by omega) (by omega)]; simp [Qo])
 ·try rw [h1]
  try simp only [qB, Qo] at h1
  refine Qe fun K hK => Qa Z (Qbq Z Z (Qa Z (hK _ _ (Qb (kp3 Z Z Z) ?_))))
  refine Qy Z (fun h2 => ?_) (fun h2 => ?_)
  ·try rw [h2]
   try simp only [qB, Qo] at h2
   refine Qe fun K hK => Qa Z (hK _ _ (Qb (kp1 Z) ?_))
   refine Qt (Qq (Qi (Qv Z ?_)))
   (repeat clear hK K); first | (simp_all [QcJ]; done) | (rw [hI.2.2, Yu (by omega) (by omega) (by assumption)]) | (rw [hI.2.2, Yt (by omega) (by omega) (by omega)]; simp [Qo])
  ·try rw [h2]
   try simp only [qB, Qo] at h2
   refine Qe fun K hK => Qa Z (Qbq Z Z (Qa Z (hK _ _ (Qb (kp3 Z Z Z) ?_))))
   refine Qy Z (fun h3 => ?_) (fun h3 => ?_)
   ·try rw [h3]
    try simp only [qB, Qo] at h3
    refine Qe fun K hK => Qa Z (hK _ _ (Qb (kp1 Z) ?_))
    refine Qt (Qq (Qi (Qv Z ?_)))
    (repeat clear hK K); first | (simp_all [QcJ]; done) | (rw [hI.2.2, Yu (by omega) (by omega) (by assumption)]) | (rw [hI.2.2, Yt (by omega) (by omega) (by omega)]; simp [Qo])
   ·try rw [h3]
    try simp only [qB, Qo] at h3
    refine Qu (Qg (Qd (kp2 Z Z) (Qe fun K hK => Qa Z (QC (YY (by omega)) Z Z (.inl Z) (Qa Z (QC (YY (by omega)) Z Z (.inl Z) (Qa Z (Qa Z (hK _ _ (Qb (kp2 Z Z) ?_))))))))))
    refine QE ?_ -- 1
    refine Qe fun K hK => Qa Z (hK _ _ (Qb (kp3 Z Z Z) ?_))
    refine QG ?_
    refine ZL (ι := Nat) (fun i => ⟨[(5, .sl (Yf (Q7 a 46))), (6, .sl (Yf (Q7 b 46))), (7, .int .i64 i)], []⟩) (fun i => i <= (Q7 a 46).length /\ i <= (Q7 b 46).length /\ QcJ a b = QjC ((Q7 a 46).drop i) ((Q7 b 46).drop i)) (fun i => (Q7 a 46).length - i) 0 ?_ ?_ ?_
    ·exact QU (kp3 rfl rfl rfl)
    ·exact ⟨Nat.zero_le _, Nat.zero_le _, by simp_all [QcJ]⟩
    intro i hI
    have sl := Qdw (s := a) (c := 46)
    try dsimp only
    refine QE ?_ -- 2
    refine Qe fun K hK => Qa Z (Qa Z (QY Z Z (Yx Z Z (Qa Z ?_))))
    refine QB (g := 27) Z (fun h4 => ?_) (fun h4 => ?_)
    ·try rw [h4]
     try simp only [qB, Qo] at h4
     refine Ql Z (Qa Z (Ql Z (Qa Z (Ql Z (QY Z Z (Ql Z (Yx Z Z (Qn Z Z (hK _ _ (Qb (kp4 Z Z Z Z) ?_))))))))))
     refine Qy Z (fun h5 => ?_) (fun h5 => ?_)
     ·try rw [h5]
      try simp only [qB, Qo] at h5
      refine Qu (Qd (kp3 Z Z Z) ?_)
      refine QE ?_ -- 3
      refine QG (Qe fun K hK => Qa Z (Qa Z (QN Z Z Z (by omega) (Y6 (by omega)) Z (Zq (ds0 := [1, 0]) Z Z Z Z Z (Qa Z (Qa Z (QN Z Z Z (by omega) (Y6 (by omega)) Z (Zq (ds0 := [1, 0]) Z Z Z Z Z (Zd (ds0 := [0]) (QcX (X3 (by omega) ha) (X3 (by omega) hb)) Z Z (.inr Z) Z Z (Qa Z ?_))))))))))
      refine hK _ _ (Qb (kp4 Z Z Z Z) ?_)
      refine Qe fun K hK => Qa Z (Xf Z Z (hK _ _ (Qb (kp5 Z Z Z Z Z) ?_)))
      refine Qy Z (fun h6 => ?_) (fun h6 => ?_)
      ·try rw [h6]
       try simp only [qB, Qo] at h6
       refine Qe fun K hK => Qa Z (Qa Z (hK _ _ (Qb (kp1 Z) ?_)))
       refine Qt (Qq (Qi (Q1 (Qq (Qi (Qv Z ?_))))))
       (repeat clear hK K); first | (simp_all [QcJ]; done) | (rw [hI.2.2, Yu (by omega) (by omega) (by assumption)]) | (rw [hI.2.2, Yt (by omega) (by omega) (by omega)]; simp [Qo])
      ·try rw [h6]
       try simp only [qB, Qo] at h6
       refine Qu (Qg (Qd (kp3 Z Z Z) (Q4 fun K hK => Qa Z (Zc Z Z (by first | exact Qr (by omega) (by omega) | exact QH (by omega) (by omega) | exact QO (by omega) (by omega) | rfl) (Qa Z (hK _ ?_))))))
       refine Qj (i + 1) ?_ ?_ ?_
       ·exact QU (kp3 rfl rfl rfl)
       ·exact ⟨by omega, by omega, by rw [hI.2.2, QhV (by omega) (by omega) (by assumption)]⟩
       ·first | omega | (simp only; omega) | (dsimp only; omega)
     ·try rw [h5]
      try simp only [qB, Qo] at h5
      refine Zk (QI (Qw (QD (Qd (kp2 Z Z) (Qe fun K hK => Qa Z (QY Z Z (Qa Z (QY Z Z (QC (Zz) Z Z (.inr Z) (Qa Z ?_))))))))))
      refine hK _ _ (Qb (kp1 Z) ?_)
      refine Qt (Qv Z ?_)
      (repeat clear hK K); first | (simp_all [QcJ]; done) | (rw [hI.2.2, Yu (by omega) (by omega) (by assumption)]) | (rw [hI.2.2, Yt (by omega) (by omega) (by omega)]; simp [Qo])
    ·try rw [h4]
     try simp only [qB, Qo] at h4
     refine QA Z (QA Z (QA Z (QA Z (Qn Z Z (hK _ _ (Qb (kp4 Z Z Z Z) ?_))))))
     refine Zy Z (Zk (QI (Qw (QD (Qd (kp2 Z Z) (Qe fun K hK => Qa Z (QY Z Z (Qa Z (QY Z Z (QC (Zz) Z Z (.inr Z) ?_))))))))))
     refine Qa Z (hK _ _ (Qb (kp1 Z) ?_))
     refine Qt (Qv Z ?_)
     (repeat clear hK K); first | (simp_all [QcJ]; done) | (rw [hI.2.2, Yu (by omega) (by omega) (by assumption)]) | (rw [hI.2.2, Yt (by omega) (by omega) (by omega)]; simp [Qo])
theorem X7 {s : List UInt8} {pre : Bool} (hl : s.length <= 1000000) : Ok Try.prog 72 [.str s, .bool pre] (.bool (QaD s pre)) := by
 refine Ok.ofT Z2 Try.func72 QqT (Nat.le_of_ble_eq_true Z) ?_
 show TW _ _ tf72.body _ _
 refine Qe fun K hK => Qa Z (hK _ _ (Qb (kp2 Z Z) ?_))
 refine QE ?_ -- 0
 refine Qe fun K hK => Qa Z (Qbq Z Z (hK _ _ (Qb (kp3 Z Z Z) ?_)))
 refine Qy Z (fun h1 => ?_) (fun h1 => ?_)
 ·try rw [h1]
  try simp only [qB, Qo] at h1
  refine Qe fun K hK => Qa Z (hK _ _ (Qb (kp1 Z) ?_))
  refine Qt (Qi (Qp Z ?_))
  (repeat clear hK K); first | (simp_all [QaD]; done) | (simp [QaD, h1]; omega) | exact (Qdk (i := i) (by assumption) (by omega) (by simp [Qcn, h1])).symm | exact (QbQ (i := i) (by omega) (by omega) hI.2).symm
 ·try rw [h1]
  try simp only [qB, Qo] at h1
  refine Qu (Qd (kp2 Z Z) (Qe fun K hK => Qa Z (QC (YY (by omega)) Z Z (.inl Z) (Qa Z (hK _ _ (Qb (kp2 Z Z) ?_))))))
  refine QE ?_ -- 1
  refine Qe fun K hK => Qa Z (QY Z Z (Qcp Z Z (hK _ _ (Qb (kp3 Z Z Z) ?_))))
  refine Qy Z (fun h2 => ?_) (fun h2 => ?_)
  ·try rw [h2]
   try simp only [qB, Qo] at h2
   refine Qe fun K hK => Qa Z (hK _ _ (Qb (kp1 Z) ?_))
   refine Qt (Qi (Qp Z ?_))
   (repeat clear hK K); first | (simp_all [QaD]; done) | (simp [QaD, h1, h2]; omega) | exact (Qdk (i := i) (by assumption) (by omega) (by simp [Qcn, h1, h2])).symm | exact (QbQ (i := i) (by omega) (by omega) hI.2).symm
  ·try rw [h2]
   try simp only [qB, Qo] at h2
   refine Qu (Qd (kp2 Z Z) ?_)
   refine QE ?_ -- 2
   refine Qe fun K hK => Qa Z (hK _ _ (Qb (kp3 Z Z Z) ?_))
   refine QG ?_
   refine ZL (ι := Nat) (fun i => ⟨[(1, .bool pre), (5, .sl (Yf (Q7 s 46))), (6, .int .i64 i)], []⟩) (fun i => i <= (Q7 s 46).length /\ ((Q7 s 46).take i).all (Qcn pre) = true) (fun i => (Q7 s 46).length - i) 0 ?_ ?_ ?_
   ·first | exact QU (kp3 rfl rfl rfl) | exact Zg (l := [1, 5, 6]) (kp3 rfl rfl rfl) Qs (by simp [h1, h2]) rfl rfl
   ·exact ⟨Nat.zero_le _, rfl⟩
   intro i hI
   try dsimp only
   refine QE ?_ -- 3
   refine Qe fun K hK => Qa Z (Qa Z (QY Z Z (Yx Z Z (hK _ _ (Qb (kp4 Z Z Z Z) ?_)))))
   refine Qy Z (fun h3 => ?_) (fun h3 => ?_)
   ·try rw [h3]
    try simp only [qB, Qo] at h3
    refine Qu (Qd (kp3 Z Z Z) ?_)
    refine QE ?_ -- 4
    refine QG ?_
    refine QE ?_ -- 5
    refine Qe fun K hK => Qa Z (Qa Z (QN Z Z Z (by omega) (Y6 (by omega)) Z (QF Z Z Z (QC (QcY (X3 (by omega) hl)) Z Z (.inr Z) (Yl Z (hK _ _ (Qb (kp4 Z Z Z Z) ?_)))))))
    refine Qy Z (fun h4 => ?_) (fun h4 => ?_)
    ·try rw [h4]
     try simp only [qB, Qo] at h4
     refine Qe fun K hK => Qa Z (hK _ _ (Qb (kp1 Z) ?_))
     refine Qt (Qi (Qq (Qi (Q1 (Qq (Qi (Qp Z ?_)))))))
     (repeat clear hK K); first | (simp_all [QaD]; done) | (simp [QaD, h1, h2, h3, h4]; omega) | exact (Qdk (i := i) (by assumption) (by omega) (by simp [Qcn, h1, h2, h3, h4])).symm | exact (QbQ (i := i) (by omega) (by omega) hI.2).symm
    ·try rw [h4]
     try simp only [qB, Qo] at h4
     refine Qu (Qd (kp3 Z Z Z) (Qe fun K hK => Qa Z (Qa Z (QN Z Z Z (by omega) (Y6 (by omega)) Z (QF Z Z Z (QC (YL (X3 (by omega) hl)) Z Z (.inr Z) (Qa Z (Zi Z Z (Zi Z Z (Qa Z ?_))))))))))
     refine Qa Z (hK _ _ (Qb (kp4 Z Z Z Z) ?_))
     refine Qe fun K hK => Qa Z (Qa Z ?_)
     refine QB (g := 37) Z (fun h5 => ?_) (fun h5 => ?_)
     ·try rw [h5]
      try simp only [qB, Qo] at h5
      refine Ql Z (Qa Z (Ql Z (Qa Z (Ql Z (QN Z Z Z (by omega) (Y6 (by omega)) Z (Ql Z (QF Z Z Z (Ql Z (QC (YC (X3 (by omega) hl)) Z Z (.inr Z) (Qn Z Z (Qa Z ?_)))))))))))
      refine QB (g := 44) Z (fun h6 => ?_) (fun h6 => ?_)
      ·try rw [h6]
       try simp only [qB, Qo] at h6
       refine Ql Z (Qa Z (Ql Z (Yl Z (Qn Z Z (hK _ _ (Qb (kp4 Z Z Z Z) ?_))))))
       refine Qy Z (fun h7 => ?_) (fun h7 => ?_)
       ·try rw [h7]
        try simp only [qB, Qo] at h7
        refine Qe fun K hK => Qa Z (hK _ _ (Qb (kp1 Z) ?_))
        refine Qt (Qq (Qi (Q1 (Qq (Qi (Qp Z ?_))))))
        (repeat clear hK K); first | (simp_all [QaD]; done) | (simp [QaD, h1, h2, h3, h4, h5, h6, h7]; omega) | exact (Qdk (i := i) (by assumption) (by omega) (by simp [Qcn, h1, h2, h3, h4, h5, h6, h7])).symm | exact (QbQ (i := i) (by omega) (by omega) hI.2).symm
       ·try rw [h7]
        try simp only [qB, Qo] at h7
        refine Qu (Qg (Qd (kp3 Z Z Z) (Q4 fun K hK => Qa Z (Zc Z Z (by first | exact Qr (by omega) (by omega) | exact QH (by omega) (by omega) | exact QO (by omega) (by omega) | rfl) (Qa Z (hK _ ?_))))))
        refine Qj (i + 1) ?_ ?_ ?_
        ·first | exact QU (kp3 rfl rfl rfl) | exact Zg (l := [1, 5, 6]) (kp3 rfl rfl rfl) Qs (by simp [h1, h2, h3, h4, h5, h6, h7]) rfl rfl
        ·exact ⟨by omega, Zh (by omega) hI.2 (by simp [Qcn, h1, h2, h3, h4, h5, h6, h7])⟩
        ·first | omega | (simp only; omega) | (dsimp only; omega)
      ·try rw [h6]
       try simp only [qB, Qo] at h6
       refine QA Z (QA Z (Qn Z Z (hK _ _ (Qb (kp4 Z Z Z Z) ?_))))
       refine Zy Z (Qu (Qg (Qd (kp3 Z Z Z) (Q4 fun K hK => Qa Z (Zc Z Z (by first | exact Qr (by omega) (by omega) | exact QH (by omega) (by omega) | exact QO (by omega) (by omega) | rfl) (Qa Z (hK _ ?_)))))))
       refine Qj (i + 1) ?_ ?_ ?_
       ·first | exact QU (kp3 rfl rfl rfl) | exact Zg (l := [1, 5, 6]) (kp3 rfl rfl rfl) Qs (by simp [h1, h2, h3, h4, h5, h6]) rfl rfl
       ·exact ⟨by omega, Zh (by omega) hI.2 (by simp [Qcn, h1, h2, h3, h4, h5, h6])⟩
       ·first | omega | (simp only; omega) | (dsimp only; omega)
     ·try rw [h5]
      try simp only [qB, Qo] at h5
      refine QA Z (QA Z (QA Z (QA Z (QA Z (Qn Z Z (Qa Z (QA Z (QA Z (Qn Z Z (hK _ _ (Qb (kp4 Z Z Z Z) ?_)))))))))))
      refine Zy Z (Qu (Qg (Qd (kp3 Z Z Z) (Q4 fun K hK => Qa Z (Zc Z Z (by first | exact Qr (by omega) (by omega) | exact QH (by omega) (by omega) | exact QO (by omega) (by omega) | rfl) (Qa Z (hK _ ?_)))))))
      refine Qj (i + 1) ?_ ?_ ?_
      ·first | exact QU (kp3 rfl rfl rfl) | exact Zg (l := [1, 5, 6]) (kp3 rfl rfl rfl) Qs (by simp [h1, h2, h3, h4, h5]) rfl rfl
      ·exact ⟨by omega, Zh (by omega) hI.2 (by simp [Qcn, h1, h2, h3, h4, h5])⟩
      ·first | omega | (simp only; omega) | (dsimp only; omega)
   ·try rw [h3]
    try simp only [qB, Qo] at h3
    refine Zk (QI (Qw (QD (Qd (QP) (Qe fun K hK => Qa Z (hK _ _ (Qb (kp1 Z) ?_)))))))
    refine Qt (Qp Z ?_)
    (repeat clear hK K); first | (simp_all [QaD]; done) | (simp [QaD, h1, h2, h3]; omega) | exact (Qdk (i := i) (by assumption) (by omega) (by simp [Qcn, h1, h2, h3])).symm | exact (QbQ (i := i) (by omega) (by omega) hI.2).symm
theorem Zx {a b c : Int} {p q : List UInt8} (hp : p.length <= 1000000) (hq : q.length <= 1000000) : Ok Try.prog 42 [.agg [.int .i64 a, .int .i64 b, .int .i64 c, .str p, .str q]] (.bool (Qbu a b c p q)) := by
 refine Ok.ofT Z2 Try.func42 Qqs (Nat.le_of_ble_eq_true Z) ?_
 show TW _ _ tf42.body _ _
 refine Qe fun K hK => ZK Z Z Z (Qa Z (hK _ _ (Qb (kp1 Z) ?_)))
 refine Qe fun K hK => Qm Z Z (QF Z Z Z (QC (Xh) Z Z (.inr Z) (Qa Z ?_)))
 refine QB (g := 6) Z (fun h1 => ?_) (fun h1 => ?_)
 ·try rw [h1]
  try simp only [qB] at h1
  refine Ql Z (Qm Z Z (Ql Z (QF Z Z Z (Ql Z (QC (Xh) Z Z (.inr Z) (Qn Z Z (Qa Z ?_)))))))
  refine QB (g := 11) Z (fun h2 => ?_) (fun h2 => ?_)
  ·try rw [h2]
   try simp only [qB] at h2
   refine Ql Z (Qm Z Z (Ql Z (QF Z Z Z (Ql Z (QC (Xh) Z Z (.inr Z) (Qn Z Z (Qa Z ?_)))))))
   refine QB (g := 16) Z (fun h3 => ?_) (fun h3 => ?_)
   ·try rw [h3]
    try simp only [qB] at h3
    refine Ql Z (Qm Z Z (Ql Z (QF Z Z Z (Ql Z (QC (X7 (by omega)) Z Z (.inr Z) (Qn Z Z (Qa Z ?_)))))))
    refine QB (g := 21) Z (fun h4 => ?_) (fun h4 => ?_)
    ·try rw [h4]
     try simp only [qB] at h4
     refine Ql Z (Qm Z Z (Ql Z (QF Z Z Z (Ql Z (QC (X7 (by omega)) Z Z (.inr Z) (Qn Z Z (Qa Z (hK _ _ (Qb (kp1 Z) ?_)))))))))
     refine Qt (Qp Z ?_)
     simp [Qbu, h1, h2, h3, h4]
    ·try rw [h4]
     try simp only [qB] at h4
     refine QA Z (QA Z (QA Z (Qn Z Z (Qa Z (hK _ _ (Qb (kp1 Z) ?_))))))
     refine Qt (Qp Z ?_)
     simp [Qbu, h1, h2, h3, h4]
   ·try rw [h3]
    try simp only [qB] at h3
    refine QA Z (QA Z (QA Z (Qn Z Z (Qa Z (QA Z (QA Z (QA Z (Qn Z Z (Qa Z (hK _ _ (Qb (kp1 Z) ?_)))))))))))
    refine Qt (Qp Z ?_)
    simp [Qbu, h1, h2, h3]
  ·try rw [h2]
   try simp only [qB] at h2
   refine QA Z (QA Z (QA Z (Qn Z Z (Qa Z (QA Z (QA Z (QA Z (Qn Z Z (Qa Z (QA Z (QA Z ?_)))))))))))
   refine QA Z (Qn Z Z (Qa Z (hK _ _ (Qb (kp1 Z) ?_))))
   refine Qt (Qp Z ?_)
   simp [Qbu, h1, h2]
 ·try rw [h1]
  try simp only [qB] at h1
  refine QA Z (QA Z (QA Z (Qn Z Z (Qa Z (QA Z (QA Z (QA Z (Qn Z Z (Qa Z (QA Z (QA Z ?_)))))))))))
  refine QA Z (Qn Z Z (Qa Z (QA Z (QA Z (QA Z (Qn Z Z (Qa Z (hK _ _ (Qb (kp1 Z) ?_)))))))))
  refine Qt (Qp Z ?_)
  simp [Qbu, h1]
theorem Qhs {l : List Int} (hl : l.length <= 1000000) : Ok Try.prog 67 [dInts l] (.int .i64 (Yr l)) := by
 refine Ok.ofT Z2 Try.func67 QqO (Nat.le_of_ble_eq_true Z) ?_
 show TW _ _ tf67.body _ _
 refine Qe fun K hK => Qa Z (hK _ _ (Qb (kp1 Z) ?_))
 refine Qe fun K hK => Qa Z (hK _ _ (Qb (kp2 Z Z) ?_))
 refine QE ?_ -- 0
 refine Qe fun K hK => Qa Z (QY Z Z (Qa Z (hK _ _ (Qb (kp4 Z Z Z Z) ?_))))
 refine QG ?_
 refine ZL (ι := Nat) (fun i => ⟨[(3, .int .i64 0), (6, dInts l), (7, .int .i64 l.length), (8, .int .i64 i)], []⟩) (fun i => i <= l.length /\ Yr l = Yr (l.drop i)) (fun i => l.length - i) 0 ?_ ?_ ?_
 ·exact Zg (l := [3, 6, 7, 8]) (kp4 rfl rfl rfl rfl) Qs (by simp [dInts]) rfl rfl
 ·exact ⟨Nat.zero_le _, rfl⟩
 intro i hI
 try dsimp only
 refine Qe fun K hK => Yx Z Z (hK _ _ (Qb (kp5 Z Z Z Z Z) ?_))
 refine QE ?_ -- 1
 refine Qy Z (fun h1 => ?_) (fun h1 => ?_)
 ·try rw [h1]
  try simp only [qB] at h1
  refine Qu (Qd (kp4 Z Z Z Z) ?_)
  refine QE ?_ -- 2
  refine QG (Qe fun K hK => QN Z Z Z (by omega) (Zf (by omega)) Z (QF Z Z Z (Qa Z (hK _ _ (Qb (kp5 Z Z Z Z Z) ?_)))))
  refine Qe fun K hK => Qa Z (Qa Z (Xf Z Z (hK _ _ (Qb (kp6 Z Z Z Z Z Z) ?_))))
  refine Qy Z (fun h2 => ?_) (fun h2 => ?_)
  ·try rw [h2]
   try simp only [qB] at h2
   refine Qe fun K hK => Qa Z (Qa Z (hK _ _ (Qb (kp1 Z) ?_)))
   refine Qt (Qq (Qi (Q1 (Qq (Qi (Qv Z ?_))))))
   first | (rw [hI.2, QeU (by omega) (by assumption)]) | (rw [hI.2, List.drop_eq_nil_of_le (by omega)]; rfl)
  ·try rw [h2]
   try simp only [qB] at h2
   refine Qu (Qg (Qd (kp4 Z Z Z Z) (Q4 fun K hK => Zc Z Z (by first | exact Qr (by omega) (by omega) | exact QH (by omega) (by omega) | exact QO (by omega) (by omega) | rfl) (Qa Z (hK _ ?_)))))
   refine Qj (i + 1) ?_ ?_ ?_
   ·exact QU (kp4 rfl rfl rfl rfl)
   ·exact ⟨by omega, by rw [hI.2, QhF (by omega) (by assumption)]⟩
   ·first | omega | (simp only; omega) | (dsimp only; omega)
 ·try rw [h1]
  try simp only [qB] at h1
  refine Zk (QI (Qw (QD (Qd (kp1 Z) (Qe fun K hK => Qa Z (Qa Z (hK _ _ (Qb (kp1 Z) ?_))))))))
  refine Qt (Qv Z ?_)
  first | (rw [hI.2, QeU (by omega) (by assumption)]) | (rw [hI.2, List.drop_eq_nil_of_le (by omega)]; rfl)
end Go.Proofs
namespace Go.Proofs
open Go Go.Abs M3
set_option linter.unusedVariables false
set_option linter.unusedSimpArgs false
theorem Xs {a b c : Int} {p q : List UInt8} (hp : p.length <= 1000000) (hq : q.length <= 1000000) {a' b' c' : Int} {p' q' : List UInt8} (hp' : p'.length <= 1000000) (hq' : q'.length <= 1000000) : Ok Try.prog 18 [.agg [.int .i64 a, .int .i64 b, .int .i64 c, .str p, .str q], .agg [.int .i64 a', .int .i64 b', .int .i64 c', .str p', .str q']] (.int .i64 (QcI a b c p q a' b' c' p' q')) := by
 refine Ok.ofT Z2 Try.func18 Qp5 (Nat.le_of_ble_eq_true Z) ?_
 show TW _ _ tf18.body _ _
 refine Qe fun K hK => ZK Z Z Z (ZK Z Z Z (Qa Z (hK _ _ (Qb (kp2 Z Z) ?_))))
 refine QE ?_ -- 0
 refine Qe fun K hK => QM (cs := [_, _, _, _, _]) Z Z Z Z (QC (Zx (by omega) (by omega)) Z Z (.inr Z) (Yl Z (Qa Z ?_)))
 refine QB (g := 11) Z (fun h1 => ?_) (fun h1 => ?_)
 ·try rw [h1]
  try simp only [qB] at h1
  refine QA Z (QA Z (QA Z (Qn Z Z (hK _ _ (Qb (kp3 Z Z Z) ?_)))))
  refine ZG Z (Qe fun K hK => Qa Z (hK _ _ (Qb (kp1 Z) ?_)))
  refine Qt (Qi (Qv Z ?_))
  simp [QcI, h1]
 ·try rw [h1]
  try simp only [qB] at h1
  refine Ql Z (QM (cs := [_, _, _, _, _]) Z Z Z Z (Ql Z (QC (Zx (by omega) (by omega)) Z Z (.inr Z) (Ql Z (Yl Z (Qn Z Z (hK _ _ (Qb (kp3 Z Z Z) ?_))))))))
  refine Qy Z (fun h2 => ?_) (fun h2 => ?_)
  ·try rw [h2]
   try simp only [qB] at h2
   refine Qe fun K hK => Qa Z (hK _ _ (Qb (kp1 Z) ?_))
   refine Qt (Qi (Qv Z ?_))
   simp [QcI, h1, h2]
  ·try rw [h2]
   try simp only [qB] at h2
   refine Qu (Qd (kp2 Z Z) ?_)
   refine QE ?_ -- 1
   refine Qe fun K hK => Qm Z Z (QF Z Z Z (Qm Z Z (QF Z Z Z (QC (Zz) Z Z (.inr Z) (Qa Z (hK _ _ (Qb (kp3 Z Z Z) ?_)))))))
   refine Qe fun K hK => Qa Z (Xf Z Z (hK _ _ (Qb (kp4 Z Z Z Z) ?_)))
   refine Qy Z (fun h3 => ?_) (fun h3 => ?_)
   ·try rw [h3]
    try simp only [qB] at h3
    refine Qe fun K hK => Qa Z (Qa Z (hK _ _ (Qb (kp1 Z) ?_)))
    refine Qt (Qi (Qv Z ?_))
    simp [QcI, h1, h2, h3]
   ·try rw [h3]
    try simp only [qB] at h3
    refine Qu (Qd (kp2 Z Z) ?_)
    refine QE ?_ -- 2
    refine Qe fun K hK => Qm Z Z (QF Z Z Z (Qm Z Z (QF Z Z Z (QC (Zz) Z Z (.inr Z) (Qa Z (hK _ _ (Qb (kp3 Z Z Z) ?_)))))))
    refine Qe fun K hK => Qa Z (Xf Z Z (hK _ _ (Qb (kp4 Z Z Z Z) ?_)))
    refine Qy Z (fun h4 => ?_) (fun h4 => ?_)
    ·try rw [h4]
     try simp only [qB] at h4
     refine Qe fun K hK => Qa Z (Qa Z (hK _ _ (Qb (kp1 Z) ?_)))
     refine Qt (Qi (Qv Z ?_))
     simp [QcI, h1, h2, h3, h4]
    ·try rw [h4]
     try simp only [qB] at h4
     refine Qu (Qd (kp2 Z Z) ?_)
     refine QE ?_ -- 3
     refine Qe fun K hK => Qm Z Z (QF Z Z Z (Qm Z Z (QF Z Z Z (QC (Zz) Z Z (.inr Z) (Qa Z (hK _ _ (Qb (kp3 Z Z Z) ?_)))))))
     refine Qe fun K hK => Qa Z (Xf Z Z (hK _ _ (Qb (kp4 Z Z Z Z) ?_)))
     refine Qy Z (fun h5 => ?_) (fun h5 => ?_)
     ·try rw [h5]
      try simp only [qB] at h5
      refine Qe fun K hK => Qa Z (Qa Z (hK _ _ (Qb (kp1 Z) ?_)))
      refine Qt (Qi (Qv Z ?_))
      simp [QcI, h1, h2, h3, h4, h5]
     ·try rw [h5]
      try simp only [qB] at h5
      refine Qu (Qd (kp2 Z Z) (Qe fun K hK => Qm Z Z (QF Z Z Z (Qm Z Z (QF Z Z Z (QC (QcE (by omega) (by omega)) Z Z (.inr Z) (Qa Z (hK _ _ (Qb (kp1 Z) ?_)))))))))
      refine Qt (Qv Z ?_)
      simp [QcI, h1, h2, h3, h4, h5]
theorem YG {e a b c : Int} {p q : List UInt8} {f : Bool} (hp : p.length <= 1000000) (hq : q.length <= 1000000) : Ok Try.prog 111 [.agg [.int .i64 e, .int .i64 a, .int .i64 b, .int .i64 c, .str p, .str q, .bool f]] (.bool (Qd8 e a b c p q f)) := by
 refine Ok.ofT Z2 Try.func111 QpM (Nat.le_of_ble_eq_true Z) ?_
 show TW _ _ tf111.body _ _
 refine Qe fun K hK => ZK Z Z Z (Qa Z (hK _ _ (Qb (kp1 Z) ?_)))
 refine QE ?_ -- 0
 refine Qe fun K hK => Qm Z Z (QF Z Z Z (YI Z Z (hK _ _ (Qb (kp2 Z Z) ?_))))
 refine Qy Z (fun h1 => ?_) (fun h1 => ?_)
 ·try rw [h1]
  try simp only [qB] at h1
  refine Qe fun K hK => Qm Z Z (QM (cs := [_, _, _, _, _]) Z Z Z Z (QC (Zx (by omega) (by omega)) Z Z (.inr Z) (Qa Z ?_)))
  refine QB (g := 9) Z (fun h2 => ?_) (fun h2 => ?_)
  ·try rw [h2]
   try simp only [qB] at h2
   refine Ql Z (Qm Z Z (Ql Z (Qm Z Z (Ql Z (QF Z Z Z (Ql Z (Qbq Z Z (Qn Z Z (Qa Z (hK _ _ (Qb (kp1 Z) ?_)))))))))))
   refine Qt (Qi (Qp Z ?_))
   (repeat clear hK K); simp_all [Qd8]
  ·try rw [h2]
   try simp only [qB] at h2
   refine QA Z (QA Z (QA Z (QA Z (Qn Z Z (Qa Z (hK _ _ (Qb (kp1 Z) ?_)))))))
   refine Qt (Qi (Qp Z ?_))
   (repeat clear hK K); simp_all [Qd8]
 ·try rw [h1]
  try simp only [qB] at h1
  refine Qu (Qd (kp1 Z) (Qe fun K hK => Qm Z Z (QF Z Z Z (YI Z Z (Qa Z ?_)))))
  refine QB (g := 18) Z (fun h3 => ?_) (fun h3 => ?_)
  ·try rw [h3]
   try simp only [qB] at h3
   refine QA Z (QA Z (QA Z (Qn Z Z (Qa Z (Ql Z (Qm Z Z (Ql Z (QM (cs := [_, _, _, _, _]) Z Z Z Z (Ql Z (Q3 Z Z (Ql Z ?_)))))))))))
   refine Qki Z Z Z (Qn Z Z (Qa Z ?_))
   refine QB (g := 29) Z (fun h4 => ?_) (fun h4 => ?_)
   ·try rw [h4]
    try simp only [qB] at h4
    refine Ql Z (Qm Z Z (Ql Z (QF Z Z Z (Ql Z (Yl Z (Qn Z Z (Qa Z (hK _ _ (Qb (kp1 Z) ?_)))))))))
    refine Qt (Qp Z ?_)
    (repeat clear hK K); simp_all [Qd8]
   ·try rw [h4]
    try simp only [qB] at h4
    refine QA Z (QA Z (QA Z (Qn Z Z (Qa Z (hK _ _ (Qb (kp1 Z) ?_))))))
    refine Qt (Qp Z ?_)
    (repeat clear hK K); simp_all [Qd8]
  ·try rw [h3]
   try simp only [qB] at h3
   refine Ql Z (Qm Z Z (Ql Z (QF Z Z Z (Ql Z (YI Z Z (Qn Z Z (Qa Z ?_)))))))
   refine QB (g := 23) Z (fun h5 => ?_) (fun h5 => ?_)
   ·try rw [h5]
    try simp only [qB] at h5
    refine Ql Z (Qm Z Z (Ql Z (QM (cs := [_, _, _, _, _]) Z Z Z Z (Ql Z (Q3 Z Z (Ql Z (Qki Z Z Z (Qn Z Z (Qa Z ?_)))))))))
    refine QB (g := 29) Z (fun h6 => ?_) (fun h6 => ?_)
    ·try rw [h6]
     try simp only [qB] at h6
     refine Ql Z (Qm Z Z (Ql Z (QF Z Z Z (Ql Z (Yl Z (Qn Z Z (Qa Z (hK _ _ (Qb (kp1 Z) ?_)))))))))
     refine Qt (Qp Z ?_)
     (repeat clear hK K); simp_all [Qd8]
    ·try rw [h6]
     try simp only [qB] at h6
     refine QA Z (QA Z (QA Z (Qn Z Z (Qa Z (hK _ _ (Qb (kp1 Z) ?_))))))
     refine Qt (Qp Z ?_)
     (repeat clear hK K); simp_all [Qd8]
   ·try rw [h5]
    try simp only [qB] at h5
    refine QA Z (QA Z (QA Z (QA Z (Qn Z Z (Qa Z (QA Z (QA Z (QA Z (Qn Z Z (Qa Z (hK _ _ (Qb (kp1 Z) ?_))))))))))))
    refine Qt (Qp Z ?_)
    (repeat clear hK K); simp_all [Qd8]
theorem Zv {e a b c : Int} {p q : List UInt8} {f : Bool} (hp : p.length <= 1000000) (hq : q.length <= 1000000) {e' a' b' c' : Int} {p' q' : List UInt8} {f' : Bool} (hp' : p'.length <= 1000000) (hq' : q'.length <= 1000000) : Ok Try.prog 109 [.agg [.int .i64 e, .int .i64 a, .int .i64 b, .int .i64 c, .str p, .str q, .bool f], .agg [.int .i64 e', .int .i64 a', .int .i64 b', .int .i64 c', .str p', .str q', .bool f']] (.int .i64 (Qbc e a b c p q f e' a' b' c' p' q' f')) := by
 refine Ok.ofT Z2 Try.func109 QpK (Nat.le_of_ble_eq_true Z) ?_
 show TW _ _ tf109.body _ _
 refine Qe fun K hK => ZK Z Z Z (ZK Z Z Z (Qa Z (hK _ _ (Qb (kp2 Z Z) ?_))))
 refine QE ?_ -- 0
 refine Qe fun K hK => QM (cs := [_, _, _, _, _, _, _]) Z Z Z Z (QC (YG (by omega) (by omega)) Z Z (.inr Z) (Yl Z (Qa Z ?_)))
 refine QB (g := 9) Z (fun h1 => ?_) (fun h1 => ?_)
 ·try rw [h1]
  try simp only [qB] at h1
  refine QA Z (QA Z (QA Z (Qn Z Z (hK _ _ (Qb (kp3 Z Z Z) ?_)))))
  refine ZG Z (Qe fun K hK => Qa Z (hK _ _ (Qb (kp1 Z) ?_)))
  refine Qt (Qi (Qv Z ?_))
  (repeat clear hK K); first | (simp [Qbc, h1]; done) | (simp_all [Qbc]; done)
 ·try rw [h1]
  try simp only [qB] at h1
  refine Ql Z (QM (cs := [_, _, _, _, _, _, _]) Z Z Z Z (Ql Z (QC (YG (by omega) (by omega)) Z Z (.inr Z) (Ql Z (Yl Z (Qn Z Z (hK _ _ (Qb (kp3 Z Z Z) ?_))))))))
  refine Qy Z (fun h2 => ?_) (fun h2 => ?_)
  ·try rw [h2]
   try simp only [qB] at h2
   refine Qe fun K hK => Qa Z (hK _ _ (Qb (kp1 Z) ?_))
   refine Qt (Qi (Qv Z ?_))
   (repeat clear hK K); first | (simp [Qbc, h1, h2]; done) | (simp_all [Qbc]; done)
  ·try rw [h2]
   try simp only [qB] at h2
   refine Qu (Qd (kp2 Z Z) ?_)
   refine QE ?_ -- 1
   refine Qe fun K hK => Qm Z Z (QF Z Z Z (Qm Z Z (QF Z Z Z ?_)))
   first | refine Xf rfl rfl ?_ | refine Qhj rfl rfl ?_
   refine Qa Z ?_
   refine QB (g := 19) Z (fun h3 => ?_) (fun h3 => ?_)
   ·try rw [h3]
    try simp only [qB] at h3
    refine QA Z (QA Z (QA Z (Qn Z Z (hK _ _ (Qb (kp3 Z Z Z) ?_)))))
    refine ZG Z (Qe fun K hK => Qm Z Z (QF Z Z Z (Qm Z Z (QF Z Z Z (QC (Zz) Z Z (.inr Z) (Qa Z (hK _ _ (Qb (kp1 Z) ?_))))))))
    refine Qt (Qi (Qv Z ?_))
    (repeat clear hK K); first | (simp [Qbc, h1, h2, h3]; done) | (simp_all [Qbc]; done)
   ·try rw [h3]
    try simp only [qB] at h3
    refine Ql Z (Qm Z Z (Ql Z (QF Z Z Z (Ql Z (Xf Z Z (Qn Z Z (hK _ _ (Qb (kp3 Z Z Z) ?_))))))))
    refine Qy Z (fun h4 => ?_) (fun h4 => ?_)
    ·try rw [h4]
     try simp only [qB] at h4
     refine Qe fun K hK => Qm Z Z (QF Z Z Z (Qm Z Z (QF Z Z Z (QC (Zz) Z Z (.inr Z) (Qa Z (hK _ _ (Qb (kp1 Z) ?_)))))))
     refine Qt (Qi (Qv Z ?_))
     (repeat clear hK K); first | (simp [Qbc, h1, h2, h3, h4]; done) | (simp_all [Qbc]; done)
    ·try rw [h4]
     try simp only [qB] at h4
     refine Qu (Qd (kp2 Z Z) ?_)
     refine QE ?_ -- 2
     refine Qe fun K hK => Qm Z Z (QM (cs := [_, _, _, _, _]) Z Z Z Z (Qm Z Z (QM (cs := [_, _, _, _, _]) Z Z Z Z (QC (Xs (by omega) (by omega) (by omega) (by omega)) Z Z (.inr Z) (Qa Z (hK _ _ (Qb (kp3 Z Z Z) ?_)))))))
     refine Qe fun K hK => Qa Z (Xf Z Z (hK _ _ (Qb (kp4 Z Z Z Z) ?_)))
     refine Qy Z (fun h5 => ?_) (fun h5 => ?_)
     ·try rw [h5]
      try simp only [qB] at h5
      refine Qe fun K hK => Qa Z (Qa Z (hK _ _ (Qb (kp1 Z) ?_)))
      refine Qt (Qi (Qv Z ?_))
      (repeat clear hK K); first | (simp [Qbc, h1, h2, h3, h4, h5]; done) | (simp_all [Qbc]; done)
     ·try rw [h5]
      try simp only [qB] at h5
      refine Qu (Qd (kp2 Z Z) ?_)
      refine QE ?_ -- 3
      refine QG (Qe fun K hK => Qm Z Z (QF Z Z Z (Qm Z Z (QF Z Z Z (Qm5 Z Z (Qa Z (hK _ _ (Qb (kp2 Z Z) ?_))))))))
      refine Qy Z (fun h6 => ?_) (fun h6 => ?_)
      ·try rw [h6]
       try simp only [qB] at h6
       refine Qe fun K hK => Qa Z (hK _ _ (Qb (kp1 Z) ?_))
       refine Qt (Qq (Qi (Qv Z ?_)))
       (repeat clear hK K); first | (simp [Qbc, h1, h2, h3, h4, h5, h6]; done) | (simp_all [Qbc]; done)
      ·try rw [h6]
       try simp only [qB] at h6
       refine Qe fun K hK => Qm Z Z (QF Z Z Z (Qa Z (hK _ _ (Qb (kp1 Z) ?_))))
       refine Qy Z (fun h7 => ?_) (fun h7 => ?_)
       ·try rw [h7]
        try simp only [qB] at h7
        refine Qe fun K hK => Qa Z (hK _ _ (Qb (kp1 Z) ?_))
        refine Qt (Qq (Qi (Qv Z ?_)))
        (repeat clear hK K); first | (simp [Qbc, h1, h2, h3, h4, h5, h6, h7]; done) | (simp_all [Qbc]; done)
       ·try rw [h7]
        try simp only [qB] at h7
        refine Qu (Qg (Qd (QP) (Qe fun K hK => Qa Z (hK _ _ (Qb (kp1 Z) ?_)))))
        refine Qt (Qv Z ?_)
        (repeat clear hK K); first | (simp [Qbc, h1, h2, h3, h4, h5, h6, h7]; done) | (simp_all [Qbc]; done)
theorem Xt {e a b c : Int} {p q : List UInt8} {f : Bool} (hp : p.length <= 1000000) (hq : q.length <= 1000000) {e' a' b' c' : Int} {p' q' : List UInt8} {f' : Bool} (hp' : p'.length <= 1000000) (hq' : q'.length <= 1000000) : Ok Try.prog 108 [.agg [.int .i64 e, .int .i64 a, .int .i64 b, .int .i64 c, .str p, .str q, .bool f, .int .i64 e', .int .i64 a', .int .i64 b', .int .i64 c', .str p', .str q', .bool f']] (.bool (QhW e a b c p q f e' a' b' c' p' q' f')) := by
 refine Ok.ofT Z2 Try.func108 QpJ (Nat.le_of_ble_eq_true Z) ?_
 show TW _ _ tf108.body _ _
 refine Qe fun K hK => ZK Z Z Z (Qa Z (hK _ _ (Qb (kp1 Z) ?_)))
 refine Qe fun K hK => Qm Z Z (QM (cs := [_, _, _, _, _, _, _]) Z Z Z Z (QC (YG (by omega) (by omega)) Z Z (.inr Z) (Qa Z ?_)))
 refine QB (g := 6) Z (fun h1 => ?_) (fun h1 => ?_)
 ·try rw [h1]
  try simp only [qB] at h1
  refine Ql Z (Qm Z Z (Ql Z (QM (cs := [_, _, _, _, _, _, _]) Z Z Z Z (Ql Z (QC (YG (by omega) (by omega)) Z Z (.inr Z) (Qn Z Z (Qa Z ?_)))))))
  refine QB (g := 11) Z (fun h2 => ?_) (fun h2 => ?_)
  ·try rw [h2]
   try simp only [qB] at h2
   refine Ql Z (Qm Z Z (Ql Z (QM (cs := [_, _, _, _, _, _, _]) Z Z Z Z (Ql Z (Qm Z Z (Ql Z (QM (cs := [_, _, _, _, _, _, _]) Z Z Z Z (Ql Z (QC (Zv (by omega) (by omega) (by omega) (by omega)) Z Z (.inr Z) (Ql Z (Yx Z Z ?_)))))))))))
   refine Qn Z Z (Qa Z (hK _ _ (Qb (kp1 Z) ?_)))
   refine Qt (Qp Z ?_)
   (repeat clear hK K); first | (simp [QhW, h1, h2]; done) | (simp_all [QhW]; done)
  ·try rw [h2]
   try simp only [qB] at h2
   refine QA Z (QA Z (QA Z (QA Z (QA Z (QA Z (Qn Z Z (Qa Z (hK _ _ (Qb (kp1 Z) ?_)))))))))
   refine Qt (Qp Z ?_)
   (repeat clear hK K); first | (simp [QhW, h1, h2]; done) | (simp_all [QhW]; done)
 ·try rw [h1]
  try simp only [qB] at h1
  refine QA Z (QA Z (QA Z (Qn Z Z (Qa Z (QA Z (QA Z (QA Z (QA Z (QA Z (QA Z (Qn Z Z ?_)))))))))))
  refine Qa Z (hK _ _ (Qb (kp1 Z) ?_))
  refine Qt (Qp Z ?_)
  (repeat clear hK K); first | (simp [QhW, h1]; done) | (simp_all [QhW]; done)
end Go.Proofs
