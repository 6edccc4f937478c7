/- Part 6 of the means of the proof: a verified abstract evaluator, the prepared functions, and contracts of functions. It states nothing of the claim by itself. -/
import Derived.Test.YtipflpdlbjckbaaB5
set_option linter.unusedSimpArgs false
set_option linter.unusedVariables false
namespace Go.Proofs
open Go Go.Abs M3
set_option linter.unusedVariables false
set_option linter.unusedSimpArgs false

theorem g_compare {x y : Cu} (h : cGood x) (g : cGood y) : Ok Try.prog 13 [.agg [.int .i64 x.e, .int .i64 x.a, .int .i64 x.b, .int .i64 x.c, .str x.p, .str x.q, .bool x.f], .agg [.int .i64 y.e, .int .i64 y.a, .int .i64 y.b, .int .i64 y.c, .str y.p, .str y.q, .bool y.f]] (.int .i64 (mInts (cN x) (cN y))) := by
  have hc := c_cut_Compare (e := x.e) (a := x.a) (b := x.b) (c := x.c) (p := x.p) (q := x.q) (f := x.f) (e' := y.e) (a' := y.a) (b' := y.b) (c' := y.c) (p' := y.p) (q' := y.q) (f' := y.f) h.len.1 h.len.2 g.len.1 g.len.2
  rw [cmp_c h g] at hc
  exact hc

theorem g_ahead {x : Cu} (h : cGood x) {a b c : Int} {p q : List UInt8} (v : vGood a b c p q) : Ok Try.prog 15 [.agg [.int .i64 x.e, .int .i64 x.a, .int .i64 x.b, .int .i64 x.c, .str x.p, .str x.q, .bool x.f], .agg [.int .i64 a, .int .i64 b, .int .i64 c, .str p, .str q]] (.bool (decide (cN x ≤ 2 * vkey a b c p))) := by
  have hc := c_cut_Ahead (e := x.e) (a := x.a) (b := x.b) (c := x.c) (p := x.p) (q := x.q) (f := x.f) (a' := a) (b' := b) (c' := c) (p' := p) (q' := q) h.len.1 h.len.2 v.len.1 v.len.2
  rw [ahead_c h v] at hc
  exact hc

theorem g_span {x y : Cu} (h : cGood x) (g : cGood y) : Ok Try.prog 17 [.agg [.int .i64 x.e, .int .i64 x.a, .int .i64 x.b, .int .i64 x.c, .str x.p, .str x.q, .bool x.f, .int .i64 y.e, .int .i64 y.a, .int .i64 y.b, .int .i64 y.c, .str y.p, .str y.q, .bool y.f]] (.bool (decide (cN x < cN y))) := by
  have hc := c_cut_SpanMay (e := x.e) (a := x.a) (b := x.b) (c := x.c) (p := x.p) (q := x.q) (f := x.f) (e' := y.e) (a' := y.a) (b' := y.b) (c' := y.c) (p' := y.p) (q' := y.q) (f' := y.f) h.len.1 h.len.2 g.len.1 g.len.2
  rw [span_c h g] at hc
  exact hc

theorem g_holds {x y : Cu} (h : cGood x) (g : cGood y) {a b c : Int} {p q : List UInt8} (v : vGood a b c p q) : Ok Try.prog 19 [.agg [.int .i64 x.e, .int .i64 x.a, .int .i64 x.b, .int .i64 x.c, .str x.p, .str x.q, .bool x.f, .int .i64 y.e, .int .i64 y.a, .int .i64 y.b, .int .i64 y.c, .str y.p, .str y.q, .bool y.f], .agg [.int .i64 a, .int .i64 b, .int .i64 c, .str p, .str q]] (.bool (decide (cN x ≤ 2 * vkey a b c p) && !decide (cN y ≤ 2 * vkey a b c p))) := by
  have hc := c_cut_Holds (e := x.e) (a := x.a) (b := x.b) (c := x.c) (p := x.p) (q := x.q) (f := x.f) (e' := y.e) (a' := y.a) (b' := y.b) (c' := y.c) (p' := y.p) (q' := y.q) (f' := y.f) (x := a) (y := b) (z := c) (r := p) (s := q) h.len.1 h.len.2 g.len.1 g.len.2 v.len.1 v.len.2
  rw [holds_c h g v] at hc
  exact hc

theorem g_vcmp {a b c : Int} {p q : List UInt8} (v : vGood a b c p q) {a' b' c' : Int} {p' q' : List UInt8} (v' : vGood a' b' c' p' q') : Ok Try.prog 24 [.agg [.int .i64 a, .int .i64 b, .int .i64 c, .str p, .str q], .agg [.int .i64 a', .int .i64 b', .int .i64 c', .str p', .str q']] (.int .i64 (mInts (vkey a b c p) (vkey a' b' c' p'))) := by
  have hc := c_version_Compare (a := a) (b := b) (c := c) (a' := a') (b' := b') (c' := c') v.len.1 v.len.2 v'.len.1 v'.len.2
  rw [cmp_v v v'] at hc
  exact hc

theorem c_linchpinlaw3_CutOrder {l : List Int} (hv : ∀ x ∈ l, -9223372036854775808 ≤ x ∧ x ≤ 9223372036854775807) : Ok Try.prog 5 [dInts l] (.bool true) := by
  refine Ok.ofT tfol Try.func5 tp5 (Nat.le_of_ble_eq_true rfl) ?_
  show TW _ _ tf5.body _ _
  have lo := cN_lo (cGood.of l 0)
  have hi := cN_hi (cGood.of l 0)
  refine R_seq fun K hK => ?_
  refine R_mov rfl ?_
  refine hK _ _ (TW_keep (keep_cons rfl (keep_nil)) ?_)
  clear hK K
  refine R_seq fun K hK => ?_
  refine R_mov rfl ?_
  refine R_call (c_linchpinlaw0_Cut (by omega) (by omega) hv) rfl rfl (.inl rfl) ?_
  refine R_mov rfl ?_
  refine R_call (c_linchpinlaw0_Cut (by omega) (by omega) hv) rfl rfl (.inl rfl) ?_
  refine R_mov rfl ?_
  refine R_call (c_linchpinlaw0_Cut (by omega) (by omega) hv) rfl rfl (.inl rfl) ?_
  refine R_alloc rfl ?_
  refine R_alloc rfl ?_
  refine R_alloc rfl ?_
  refine R_store rfl rfl rfl rfl rfl rfl rfl rfl ?_
  refine R_store rfl rfl rfl rfl rfl rfl rfl rfl ?_
  refine R_store rfl rfl rfl rfl rfl rfl rfl rfl ?_
  refine hK _ _ (TW_keep (keep_cons rfl (keep_cons rfl (keep_cons rfl (keep_nil)))) ?_)
  clear hK K
  refine R_seq fun K hK => ?_
  refine R_loadAD (cs := [_, _, _, _, _, _, _]) rfl rfl rfl rfl rfl ?_
  refine R_loadAD (cs := [_, _, _, _, _, _, _]) rfl rfl rfl rfl rfl ?_
  refine R_callD (g_compare (cGood.of l _) (cGood.of l _)) rfl rfl (.inr rfl) rfl ?_
  refine R_loadAD (cs := [_, _, _, _, _, _, _]) rfl rfl rfl rfl rfl ?_
  refine R_loadAD (cs := [_, _, _, _, _, _, _]) rfl rfl rfl rfl rfl ?_
  refine R_callD (g_compare (cGood.of l _) (cGood.of l _)) rfl rfl (.inr rfl) rfl ?_
  refine R_loadAD (cs := [_, _, _, _, _, _, _]) rfl rfl rfl rfl rfl ?_
  refine R_loadAD (cs := [_, _, _, _, _, _, _]) rfl rfl rfl rfl rfl ?_
  refine R_callD (g_compare (cGood.of l _) (cGood.of l _)) rfl rfl (.inr rfl) rfl ?_
  refine R_mov rfl ?_
  refine R_mov rfl ?_
  refine R_mov rfl ?_
  refine hK _ _ (TW_keep (keep_cons rfl (keep_cons rfl (keep_cons rfl (keep_cons rfl (keep_cons rfl (keep_nil)))))) ?_)
  clear hK K
  refine R_seq fun K hK => ?_
  refine R_mov rfl ?_
  refine R_gt rfl rfl ?_
  refine R_mov rfl ?_
  refine G_split (g := 28) rfl (fun h1 => ?_) (fun h1 => ?_)
  · try rw [h1]
    try simp only [decide_eq_true_eq, decide_eq_false_iff_not, Bool.not_eq_eq_eq_not, Bool.not_true, Bool.not_false, mInts_lt, mInts_gt, mInts_le, mInts_zero] at h1
    refine G_no rfl ?_
    refine G_no rfl ?_
    refine R_pick rfl rfl ?_
    refine R_mov rfl ?_
    refine G_no rfl ?_
    refine G_no rfl ?_
    refine G_no rfl ?_
    refine G_undef rfl ?_
    refine G_undef rfl ?_
    refine G_undef rfl ?_
    refine G_undef rfl ?_
    refine G_undef rfl ?_
    refine G_undef rfl ?_
    refine G_undef rfl ?_
    refine G_undef rfl ?_
    refine G_undef rfl ?_
    refine G_no rfl ?_
    refine R_pick rfl rfl ?_
    refine R_mov rfl ?_
    refine hK _ _ (TW_keep (keep_cons rfl (keep_cons rfl (keep_cons rfl (keep_cons rfl (keep_nil))))) ?_)
    clear hK K
    refine R_seq fun K hK => ?_
    refine R_build rfl rfl ?_
    refine R_loadA (cs := [_, _, _, _, _, _, _]) rfl rfl rfl rfl ?_
    refine R_call (g_compare (x := ⟨-1, 0, 0, 0, [], [], false⟩) cGood.lo (cGood.of l _)) rfl rfl (.inr rfl) ?_
    refine R_le rfl rfl ?_
    refine R_mov rfl ?_
    refine G_split (g := 51) rfl (fun h2 => ?_) (fun h2 => ?_)
    · try rw [h2]
      try simp only [decide_eq_true_eq, decide_eq_false_iff_not, Bool.not_eq_eq_eq_not, Bool.not_true, Bool.not_false, mInts_lt, mInts_gt, mInts_le, mInts_zero] at h2
      refine G_yes rfl ?_
      refine R_loadA (cs := [_, _, _, _, _, _, _]) rfl rfl rfl rfl ?_
      refine G_yes rfl ?_
      refine R_build rfl rfl ?_
      refine G_yes rfl ?_
      refine R_call (g_compare (y := ⟨1, 0, 0, 0, [], [], false⟩) (cGood.of l _) cGood.hi) rfl rfl (.inr rfl) ?_
      refine G_yes rfl ?_
      refine R_le rfl rfl ?_
      refine R_pick rfl rfl ?_
      refine R_mov rfl ?_
      refine hK _ _ (TW_keep (keep_cons rfl (keep_cons rfl (keep_cons rfl (keep_cons rfl (keep_cons rfl (keep_nil)))))) ?_)
      clear hK K
      refine R_seq fun K hK => ?_
      refine R_call (c_linchpinlaw3_awake) rfl rfl (.inr rfl) ?_
      refine R_mov rfl ?_
      refine G_yes rfl ?_
      refine R_loadA (cs := [_, _, _, _, _, _, _]) rfl rfl rfl rfl ?_
      refine G_yes rfl ?_
      refine R_loadA (cs := [_, _, _, _, _, _, _]) rfl rfl rfl rfl ?_
      refine G_yes rfl ?_
      refine R_call (g_compare (cGood.of l _) (cGood.of l _)) rfl rfl (.inr rfl) ?_
      refine G_yes rfl ?_
      refine R_mov rfl ?_
      refine G_yes rfl ?_
      refine R_neg rfl (by have bd := mInts_bd (m := cN (cu l 0)) (n := cN (cu l 6)); exact wrap_i64 (by omega) (by omega)) ?_
      refine G_yes rfl ?_
      refine R_eqI rfl rfl ?_
      refine R_pick rfl rfl ?_
      refine R_mov rfl ?_
      refine G_split (g := 66) rfl (fun h3 => ?_) (fun h3 => ?_)
      · try rw [h3]
        try simp only [decide_eq_true_eq, decide_eq_false_iff_not, Bool.not_eq_eq_eq_not, Bool.not_true, Bool.not_false, mInts_lt, mInts_gt, mInts_le, mInts_zero] at h3
        refine G_yes rfl ?_
        refine R_mov rfl ?_
        refine R_pick rfl rfl ?_
        refine R_mov rfl ?_
        refine G_yes rfl ?_
        refine R_mov rfl ?_
        refine R_pick rfl rfl ?_
        refine R_mov rfl ?_
        refine G_split (g := 72) rfl (fun h4 => ?_) (fun h4 => ?_)
        · try rw [h4]
          try simp only [decide_eq_true_eq, decide_eq_false_iff_not, Bool.not_eq_eq_eq_not, Bool.not_true, Bool.not_false, mInts_lt, mInts_gt, mInts_le, mInts_zero] at h4
          refine G_yes rfl ?_
          refine R_mov rfl ?_
          refine G_yes rfl ?_
          refine R_eqI rfl rfl ?_
          refine G_yes rfl ?_
          refine R_loadA (cs := [_, _, _, _, _, _, _]) rfl rfl rfl rfl ?_
          refine G_yes rfl ?_
          refine R_loadA (cs := [_, _, _, _, _, _, _]) rfl rfl rfl rfl ?_
          refine G_yes rfl ?_
          refine R_eqsE rfl rfl rfl ?_
          refine G_yes rfl ?_
          refine R_eqB rfl rfl ?_
          refine R_pick rfl rfl ?_
          refine R_mov rfl ?_
          refine hK _ _ (TW_keep (keep_cons rfl (keep_nil)) ?_)
          clear hK K
          refine T_ret ?_
          refine post_retB rfl ?_
          first | rfl | (exfalso; first | omega | exact absurd mInts_neg (by assumption)) | exact decide_eq_true (Eq.trans (decide_eq_decide.2 mInts_zero) (cN_eq (cGood.of l 0) (cGood.of l 6)).symm) | (simp only [← Bool.decide_and, ← Bool.decide_or, ← decide_not, decide_eq_decide, decide_eq_true_eq, decide_eq_false_iff_not, false_eq_decide_iff, true_eq_decide_iff, Bool.not_eq_true, Bool.and_eq_true, Bool.not_eq_true, not_true_eq_false, not_false_eq_true] at *; omega) | (simp only [← Bool.decide_and, ← Bool.decide_or, ← decide_not, decide_eq_decide, decide_eq_true_eq, decide_eq_false_iff_not, false_eq_decide_iff, true_eq_decide_iff, Bool.not_eq_true, Bool.and_eq_true, Bool.not_eq_true, not_true_eq_false, not_false_eq_true] at *; done)
        · try rw [h4]
          try simp only [decide_eq_true_eq, decide_eq_false_iff_not, Bool.not_eq_eq_eq_not, Bool.not_true, Bool.not_false, mInts_lt, mInts_gt, mInts_le, mInts_zero] at h4
          refine G_no rfl ?_
          refine G_no rfl ?_
          refine G_no rfl ?_
          refine G_no rfl ?_
          refine G_no rfl ?_
          refine G_no rfl ?_
          refine R_pick rfl rfl ?_
          refine R_mov rfl ?_
          refine hK _ _ (TW_keep (keep_cons rfl (keep_nil)) ?_)
          clear hK K
          refine T_ret ?_
          refine post_retB rfl ?_
          first | rfl | (exfalso; first | omega | exact absurd mInts_neg (by assumption)) | exact decide_eq_true (Eq.trans (decide_eq_decide.2 mInts_zero) (cN_eq (cGood.of l 0) (cGood.of l 6)).symm) | (simp only [← Bool.decide_and, ← Bool.decide_or, ← decide_not, decide_eq_decide, decide_eq_true_eq, decide_eq_false_iff_not, false_eq_decide_iff, true_eq_decide_iff, Bool.not_eq_true, Bool.and_eq_true, Bool.not_eq_true, not_true_eq_false, not_false_eq_true] at *; omega) | (simp only [← Bool.decide_and, ← Bool.decide_or, ← decide_not, decide_eq_decide, decide_eq_true_eq, decide_eq_false_iff_not, false_eq_decide_iff, true_eq_decide_iff, Bool.not_eq_true, Bool.and_eq_true, Bool.not_eq_true, not_true_eq_false, not_false_eq_true] at *; done)
      · try rw [h3]
        try simp only [decide_eq_true_eq, decide_eq_false_iff_not, Bool.not_eq_eq_eq_not, Bool.not_true, Bool.not_false, mInts_lt, mInts_gt, mInts_le, mInts_zero] at h3
        refine G_no rfl ?_
        refine R_pick rfl rfl ?_
        refine R_mov rfl ?_
        refine G_no rfl ?_
        refine R_pick rfl rfl ?_
        refine R_mov rfl ?_
        refine G_no rfl ?_
        refine G_no rfl ?_
        refine G_no rfl ?_
        refine G_no rfl ?_
        refine G_no rfl ?_
        refine G_no rfl ?_
        refine R_pick rfl rfl ?_
        refine R_mov rfl ?_
        refine hK _ _ (TW_keep (keep_cons rfl (keep_nil)) ?_)
        clear hK K
        refine T_ret ?_
        refine post_retB rfl ?_
        first | rfl | (exfalso; first | omega | exact absurd mInts_neg (by assumption)) | exact decide_eq_true (Eq.trans (decide_eq_decide.2 mInts_zero) (cN_eq (cGood.of l 0) (cGood.of l 6)).symm) | (simp only [← Bool.decide_and, ← Bool.decide_or, ← decide_not, decide_eq_decide, decide_eq_true_eq, decide_eq_false_iff_not, false_eq_decide_iff, true_eq_decide_iff, Bool.not_eq_true, Bool.and_eq_true, Bool.not_eq_true, not_true_eq_false, not_false_eq_true] at *; omega) | (simp only [← Bool.decide_and, ← Bool.decide_or, ← decide_not, decide_eq_decide, decide_eq_true_eq, decide_eq_false_iff_not, false_eq_decide_iff, true_eq_decide_iff, Bool.not_eq_true, Bool.and_eq_true, Bool.not_eq_true, not_true_eq_false, not_false_eq_true] at *; done)
    · try rw [h2]
      try simp only [decide_eq_true_eq, decide_eq_false_iff_not, Bool.not_eq_eq_eq_not, Bool.not_true, Bool.not_false, mInts_lt, mInts_gt, mInts_le, mInts_zero] at h2
      refine G_no rfl ?_
      refine G_no rfl ?_
      refine G_no rfl ?_
      refine G_no rfl ?_
      refine R_pick rfl rfl ?_
      refine R_mov rfl ?_
      refine hK _ _ (TW_keep (keep_cons rfl (keep_cons rfl (keep_cons rfl (keep_cons rfl (keep_cons rfl (keep_nil)))))) ?_)
      clear hK K
      refine R_seq fun K hK => ?_
      refine R_call (c_linchpinlaw3_awake) rfl rfl (.inr rfl) ?_
      refine R_mov rfl ?_
      refine G_yes rfl ?_
      refine R_loadA (cs := [_, _, _, _, _, _, _]) rfl rfl rfl rfl ?_
      refine G_yes rfl ?_
      refine R_loadA (cs := [_, _, _, _, _, _, _]) rfl rfl rfl rfl ?_
      refine G_yes rfl ?_
      refine R_call (g_compare (cGood.of l _) (cGood.of l _)) rfl rfl (.inr rfl) ?_
      refine G_yes rfl ?_
      refine R_mov rfl ?_
      refine G_yes rfl ?_
      refine R_neg rfl (by have bd := mInts_bd (m := cN (cu l 0)) (n := cN (cu l 6)); exact wrap_i64 (by omega) (by omega)) ?_
      refine G_yes rfl ?_
      refine R_eqI rfl rfl ?_
      refine R_pick rfl rfl ?_
      refine R_mov rfl ?_
      refine G_split (g := 66) rfl (fun h5 => ?_) (fun h5 => ?_)
      · try rw [h5]
        try simp only [decide_eq_true_eq, decide_eq_false_iff_not, Bool.not_eq_eq_eq_not, Bool.not_true, Bool.not_false, mInts_lt, mInts_gt, mInts_le, mInts_zero] at h5
        refine G_yes rfl ?_
        refine R_mov rfl ?_
        refine R_pick rfl rfl ?_
        refine R_mov rfl ?_
        refine G_yes rfl ?_
        refine R_mov rfl ?_
        refine R_pick rfl rfl ?_
        refine R_mov rfl ?_
        refine G_no rfl ?_
        refine G_no rfl ?_
        refine G_no rfl ?_
        refine G_no rfl ?_
        refine G_no rfl ?_
        refine G_no rfl ?_
        refine R_pick rfl rfl ?_
        refine R_mov rfl ?_
        refine hK _ _ (TW_keep (keep_cons rfl (keep_nil)) ?_)
        clear hK K
        refine T_ret ?_
        refine post_retB rfl ?_
        first | rfl | (exfalso; first | omega | exact absurd mInts_neg (by assumption)) | exact decide_eq_true (Eq.trans (decide_eq_decide.2 mInts_zero) (cN_eq (cGood.of l 0) (cGood.of l 6)).symm) | (simp only [← Bool.decide_and, ← Bool.decide_or, ← decide_not, decide_eq_decide, decide_eq_true_eq, decide_eq_false_iff_not, false_eq_decide_iff, true_eq_decide_iff, Bool.not_eq_true, Bool.and_eq_true, Bool.not_eq_true, not_true_eq_false, not_false_eq_true] at *; omega) | (simp only [← Bool.decide_and, ← Bool.decide_or, ← decide_not, decide_eq_decide, decide_eq_true_eq, decide_eq_false_iff_not, false_eq_decide_iff, true_eq_decide_iff, Bool.not_eq_true, Bool.and_eq_true, Bool.not_eq_true, not_true_eq_false, not_false_eq_true] at *; done)
      · try rw [h5]
        try simp only [decide_eq_true_eq, decide_eq_false_iff_not, Bool.not_eq_eq_eq_not, Bool.not_true, Bool.not_false, mInts_lt, mInts_gt, mInts_le, mInts_zero] at h5
        refine G_no rfl ?_
        refine R_pick rfl rfl ?_
        refine R_mov rfl ?_
        refine G_no rfl ?_
        refine R_pick rfl rfl ?_
        refine R_mov rfl ?_
        refine G_no rfl ?_
        refine G_no rfl ?_
        refine G_no rfl ?_
        refine G_no rfl ?_
        refine G_no rfl ?_
        refine G_no rfl ?_
        refine R_pick rfl rfl ?_
        refine R_mov rfl ?_
        refine hK _ _ (TW_keep (keep_cons rfl (keep_nil)) ?_)
        clear hK K
        refine T_ret ?_
        refine post_retB rfl ?_
        first | rfl | (exfalso; first | omega | exact absurd mInts_neg (by assumption)) | exact decide_eq_true (Eq.trans (decide_eq_decide.2 mInts_zero) (cN_eq (cGood.of l 0) (cGood.of l 6)).symm) | (simp only [← Bool.decide_and, ← Bool.decide_or, ← decide_not, decide_eq_decide, decide_eq_true_eq, decide_eq_false_iff_not, false_eq_decide_iff, true_eq_decide_iff, Bool.not_eq_true, Bool.and_eq_true, Bool.not_eq_true, not_true_eq_false, not_false_eq_true] at *; omega) | (simp only [← Bool.decide_and, ← Bool.decide_or, ← decide_not, decide_eq_decide, decide_eq_true_eq, decide_eq_false_iff_not, false_eq_decide_iff, true_eq_decide_iff, Bool.not_eq_true, Bool.and_eq_true, Bool.not_eq_true, not_true_eq_false, not_false_eq_true] at *; done)
  · try rw [h1]
    try simp only [decide_eq_true_eq, decide_eq_false_iff_not, Bool.not_eq_eq_eq_not, Bool.not_true, Bool.not_false, mInts_lt, mInts_gt, mInts_le, mInts_zero] at h1
    refine G_yes rfl ?_
    refine R_mov rfl ?_
    refine G_yes rfl ?_
    refine R_gt rfl rfl ?_
    refine R_pick rfl rfl ?_
    refine R_mov rfl ?_
    refine G_split (g := 32) rfl (fun h6 => ?_) (fun h6 => ?_)
    · try rw [h6]
      try simp only [decide_eq_true_eq, decide_eq_false_iff_not, Bool.not_eq_eq_eq_not, Bool.not_true, Bool.not_false, mInts_lt, mInts_gt, mInts_le, mInts_zero] at h6
      refine G_no rfl ?_
      refine G_no rfl ?_
      refine G_no rfl ?_
      refine G_undef rfl ?_
      refine G_undef rfl ?_
      refine G_undef rfl ?_
      refine G_undef rfl ?_
      refine G_undef rfl ?_
      refine G_undef rfl ?_
      refine G_undef rfl ?_
      refine G_undef rfl ?_
      refine G_undef rfl ?_
      refine G_no rfl ?_
      refine R_pick rfl rfl ?_
      refine R_mov rfl ?_
      refine hK _ _ (TW_keep (keep_cons rfl (keep_cons rfl (keep_cons rfl (keep_cons rfl (keep_nil))))) ?_)
      clear hK K
      refine R_seq fun K hK => ?_
      refine R_build rfl rfl ?_
      refine R_loadA (cs := [_, _, _, _, _, _, _]) rfl rfl rfl rfl ?_
      refine R_call (g_compare (x := ⟨-1, 0, 0, 0, [], [], false⟩) cGood.lo (cGood.of l _)) rfl rfl (.inr rfl) ?_
      refine R_le rfl rfl ?_
      refine R_mov rfl ?_
      refine G_split (g := 51) rfl (fun h7 => ?_) (fun h7 => ?_)
      · try rw [h7]
        try simp only [decide_eq_true_eq, decide_eq_false_iff_not, Bool.not_eq_eq_eq_not, Bool.not_true, Bool.not_false, mInts_lt, mInts_gt, mInts_le, mInts_zero] at h7
        refine G_yes rfl ?_
        refine R_loadA (cs := [_, _, _, _, _, _, _]) rfl rfl rfl rfl ?_
        refine G_yes rfl ?_
        refine R_build rfl rfl ?_
        refine G_yes rfl ?_
        refine R_call (g_compare (y := ⟨1, 0, 0, 0, [], [], false⟩) (cGood.of l _) cGood.hi) rfl rfl (.inr rfl) ?_
        refine G_yes rfl ?_
        refine R_le rfl rfl ?_
        refine R_pick rfl rfl ?_
        refine R_mov rfl ?_
        refine hK _ _ (TW_keep (keep_cons rfl (keep_cons rfl (keep_cons rfl (keep_cons rfl (keep_cons rfl (keep_nil)))))) ?_)
        clear hK K
        refine R_seq fun K hK => ?_
        refine R_call (c_linchpinlaw3_awake) rfl rfl (.inr rfl) ?_
        refine R_mov rfl ?_
        refine G_yes rfl ?_
        refine R_loadA (cs := [_, _, _, _, _, _, _]) rfl rfl rfl rfl ?_
        refine G_yes rfl ?_
        refine R_loadA (cs := [_, _, _, _, _, _, _]) rfl rfl rfl rfl ?_
        refine G_yes rfl ?_
        refine R_call (g_compare (cGood.of l _) (cGood.of l _)) rfl rfl (.inr rfl) ?_
        refine G_yes rfl ?_
        refine R_mov rfl ?_
        refine G_yes rfl ?_
        refine R_neg rfl (by have bd := mInts_bd (m := cN (cu l 0)) (n := cN (cu l 6)); exact wrap_i64 (by omega) (by omega)) ?_
        refine G_yes rfl ?_
        refine R_eqI rfl rfl ?_
        refine R_pick rfl rfl ?_
        refine R_mov rfl ?_
        refine G_split (g := 66) rfl (fun h8 => ?_) (fun h8 => ?_)
        · try rw [h8]
          try simp only [decide_eq_true_eq, decide_eq_false_iff_not, Bool.not_eq_eq_eq_not, Bool.not_true, Bool.not_false, mInts_lt, mInts_gt, mInts_le, mInts_zero] at h8
          refine G_yes rfl ?_
          refine R_mov rfl ?_
          refine R_pick rfl rfl ?_
          refine R_mov rfl ?_
          refine G_yes rfl ?_
          refine R_mov rfl ?_
          refine R_pick rfl rfl ?_
          refine R_mov rfl ?_
          refine G_split (g := 72) rfl (fun h9 => ?_) (fun h9 => ?_)
          · try rw [h9]
            try simp only [decide_eq_true_eq, decide_eq_false_iff_not, Bool.not_eq_eq_eq_not, Bool.not_true, Bool.not_false, mInts_lt, mInts_gt, mInts_le, mInts_zero] at h9
            refine G_yes rfl ?_
            refine R_mov rfl ?_
            refine G_yes rfl ?_
            refine R_eqI rfl rfl ?_
            refine G_yes rfl ?_
            refine R_loadA (cs := [_, _, _, _, _, _, _]) rfl rfl rfl rfl ?_
            refine G_yes rfl ?_
            refine R_loadA (cs := [_, _, _, _, _, _, _]) rfl rfl rfl rfl ?_
            refine G_yes rfl ?_
            refine R_eqsE rfl rfl rfl ?_
            refine G_yes rfl ?_
            refine R_eqB rfl rfl ?_
            refine R_pick rfl rfl ?_
            refine R_mov rfl ?_
            refine hK _ _ (TW_keep (keep_cons rfl (keep_nil)) ?_)
            clear hK K
            refine T_ret ?_
            refine post_retB rfl ?_
            first | rfl | (exfalso; first | omega | exact absurd mInts_neg (by assumption)) | exact decide_eq_true (Eq.trans (decide_eq_decide.2 mInts_zero) (cN_eq (cGood.of l 0) (cGood.of l 6)).symm) | (simp only [← Bool.decide_and, ← Bool.decide_or, ← decide_not, decide_eq_decide, decide_eq_true_eq, decide_eq_false_iff_not, false_eq_decide_iff, true_eq_decide_iff, Bool.not_eq_true, Bool.and_eq_true, Bool.not_eq_true, not_true_eq_false, not_false_eq_true] at *; omega) | (simp only [← Bool.decide_and, ← Bool.decide_or, ← decide_not, decide_eq_decide, decide_eq_true_eq, decide_eq_false_iff_not, false_eq_decide_iff, true_eq_decide_iff, Bool.not_eq_true, Bool.and_eq_true, Bool.not_eq_true, not_true_eq_false, not_false_eq_true] at *; done)
          · try rw [h9]
            try simp only [decide_eq_true_eq, decide_eq_false_iff_not, Bool.not_eq_eq_eq_not, Bool.not_true, Bool.not_false, mInts_lt, mInts_gt, mInts_le, mInts_zero] at h9
            refine G_no rfl ?_
            refine G_no rfl ?_
            refine G_no rfl ?_
            refine G_no rfl ?_
            refine G_no rfl ?_
            refine G_no rfl ?_
            refine R_pick rfl rfl ?_
            refine R_mov rfl ?_
            refine hK _ _ (TW_keep (keep_cons rfl (keep_nil)) ?_)
            clear hK K
            refine T_ret ?_
            refine post_retB rfl ?_
            first | rfl | (exfalso; first | omega | exact absurd mInts_neg (by assumption)) | exact decide_eq_true (Eq.trans (decide_eq_decide.2 mInts_zero) (cN_eq (cGood.of l 0) (cGood.of l 6)).symm) | (simp only [← Bool.decide_and, ← Bool.decide_or, ← decide_not, decide_eq_decide, decide_eq_true_eq, decide_eq_false_iff_not, false_eq_decide_iff, true_eq_decide_iff, Bool.not_eq_true, Bool.and_eq_true, Bool.not_eq_true, not_true_eq_false, not_false_eq_true] at *; omega) | (simp only [← Bool.decide_and, ← Bool.decide_or, ← decide_not, decide_eq_decide, decide_eq_true_eq, decide_eq_false_iff_not, false_eq_decide_iff, true_eq_decide_iff, Bool.not_eq_true, Bool.and_eq_true, Bool.not_eq_true, not_true_eq_false, not_false_eq_true] at *; done)
        · try rw [h8]
          try simp only [decide_eq_true_eq, decide_eq_false_iff_not, Bool.not_eq_eq_eq_not, Bool.not_true, Bool.not_false, mInts_lt, mInts_gt, mInts_le, mInts_zero] at h8
          refine G_no rfl ?_
          refine R_pick rfl rfl ?_
          refine R_mov rfl ?_
          refine G_no rfl ?_
          refine R_pick rfl rfl ?_
          refine R_mov rfl ?_
          refine G_no rfl ?_
          refine G_no rfl ?_
          refine G_no rfl ?_
          refine G_no rfl ?_
          refine G_no rfl ?_
          refine G_no rfl ?_
          refine R_pick rfl rfl ?_
          refine R_mov rfl ?_
          refine hK _ _ (TW_keep (keep_cons rfl (keep_nil)) ?_)
          clear hK K
          refine T_ret ?_
          refine post_retB rfl ?_
          first | rfl | (exfalso; first | omega | exact absurd mInts_neg (by assumption)) | exact decide_eq_true (Eq.trans (decide_eq_decide.2 mInts_zero) (cN_eq (cGood.of l 0) (cGood.of l 6)).symm) | (simp only [← Bool.decide_and, ← Bool.decide_or, ← decide_not, decide_eq_decide, decide_eq_true_eq, decide_eq_false_iff_not, false_eq_decide_iff, true_eq_decide_iff, Bool.not_eq_true, Bool.and_eq_true, Bool.not_eq_true, not_true_eq_false, not_false_eq_true] at *; omega) | (simp only [← Bool.decide_and, ← Bool.decide_or, ← decide_not, decide_eq_decide, decide_eq_true_eq, decide_eq_false_iff_not, false_eq_decide_iff, true_eq_decide_iff, Bool.not_eq_true, Bool.and_eq_true, Bool.not_eq_true, not_true_eq_false, not_false_eq_true] at *; done)
      · try rw [h7]
        try simp only [decide_eq_true_eq, decide_eq_false_iff_not, Bool.not_eq_eq_eq_not, Bool.not_true, Bool.not_false, mInts_lt, mInts_gt, mInts_le, mInts_zero] at h7
        refine G_no rfl ?_
        refine G_no rfl ?_
        refine G_no rfl ?_
        refine G_no rfl ?_
        refine R_pick rfl rfl ?_
        refine R_mov rfl ?_
        refine hK _ _ (TW_keep (keep_cons rfl (keep_cons rfl (keep_cons rfl (keep_cons rfl (keep_cons rfl (keep_nil)))))) ?_)
        clear hK K
        refine R_seq fun K hK => ?_
        refine R_call (c_linchpinlaw3_awake) rfl rfl (.inr rfl) ?_
        refine R_mov rfl ?_
        refine G_yes rfl ?_
        refine R_loadA (cs := [_, _, _, _, _, _, _]) rfl rfl rfl rfl ?_
        refine G_yes rfl ?_
        refine R_loadA (cs := [_, _, _, _, _, _, _]) rfl rfl rfl rfl ?_
        refine G_yes rfl ?_
        refine R_call (g_compare (cGood.of l _) (cGood.of l _)) rfl rfl (.inr rfl) ?_
        refine G_yes rfl ?_
        refine R_mov rfl ?_
        refine G_yes rfl ?_
        refine R_neg rfl (by have bd := mInts_bd (m := cN (cu l 0)) (n := cN (cu l 6)); exact wrap_i64 (by omega) (by omega)) ?_
        refine G_yes rfl ?_
        refine R_eqI rfl rfl ?_
        refine R_pick rfl rfl ?_
        refine R_mov rfl ?_
        refine G_split (g := 66) rfl (fun h10 => ?_) (fun h10 => ?_)
        · try rw [h10]
          try simp only [decide_eq_true_eq, decide_eq_false_iff_not, Bool.not_eq_eq_eq_not, Bool.not_true, Bool.not_false, mInts_lt, mInts_gt, mInts_le, mInts_zero] at h10
          refine G_yes rfl ?_
          refine R_mov rfl ?_
          refine R_pick rfl rfl ?_
          refine R_mov rfl ?_
          refine G_yes rfl ?_
          refine R_mov rfl ?_
          refine R_pick rfl rfl ?_
          refine R_mov rfl ?_
          refine G_no rfl ?_
          refine G_no rfl ?_
          refine G_no rfl ?_
          refine G_no rfl ?_
          refine G_no rfl ?_
          refine G_no rfl ?_
          refine R_pick rfl rfl ?_
          refine R_mov rfl ?_
          refine hK _ _ (TW_keep (keep_cons rfl (keep_nil)) ?_)
          clear hK K
          refine T_ret ?_
          refine post_retB rfl ?_
          first | rfl | (exfalso; first | omega | exact absurd mInts_neg (by assumption)) | exact decide_eq_true (Eq.trans (decide_eq_decide.2 mInts_zero) (cN_eq (cGood.of l 0) (cGood.of l 6)).symm) | (simp only [← Bool.decide_and, ← Bool.decide_or, ← decide_not, decide_eq_decide, decide_eq_true_eq, decide_eq_false_iff_not, false_eq_decide_iff, true_eq_decide_iff, Bool.not_eq_true, Bool.and_eq_true, Bool.not_eq_true, not_true_eq_false, not_false_eq_true] at *; omega) | (simp only [← Bool.decide_and, ← Bool.decide_or, ← decide_not, decide_eq_decide, decide_eq_true_eq, decide_eq_false_iff_not, false_eq_decide_iff, true_eq_decide_iff, Bool.not_eq_true, Bool.and_eq_true, Bool.not_eq_true, not_true_eq_false, not_false_eq_true] at *; done)
        · try rw [h10]
          try simp only [decide_eq_true_eq, decide_eq_false_iff_not, Bool.not_eq_eq_eq_not, Bool.not_true, Bool.not_false, mInts_lt, mInts_gt, mInts_le, mInts_zero] at h10
          refine G_no rfl ?_
          refine R_pick rfl rfl ?_
          refine R_mov rfl ?_
          refine G_no rfl ?_
          refine R_pick rfl rfl ?_
          refine R_mov rfl ?_
          refine G_no rfl ?_
          refine G_no rfl ?_
          refine G_no rfl ?_
          refine G_no rfl ?_
          refine G_no rfl ?_
          refine G_no rfl ?_
          refine R_pick rfl rfl ?_
          refine R_mov rfl ?_
          refine hK _ _ (TW_keep (keep_cons rfl (keep_nil)) ?_)
          clear hK K
          refine T_ret ?_
          refine post_retB rfl ?_
          first | rfl | (exfalso; first | omega | exact absurd mInts_neg (by assumption)) | exact decide_eq_true (Eq.trans (decide_eq_decide.2 mInts_zero) (cN_eq (cGood.of l 0) (cGood.of l 6)).symm) | (simp only [← Bool.decide_and, ← Bool.decide_or, ← decide_not, decide_eq_decide, decide_eq_true_eq, decide_eq_false_iff_not, false_eq_decide_iff, true_eq_decide_iff, Bool.not_eq_true, Bool.and_eq_true, Bool.not_eq_true, not_true_eq_false, not_false_eq_true] at *; omega) | (simp only [← Bool.decide_and, ← Bool.decide_or, ← decide_not, decide_eq_decide, decide_eq_true_eq, decide_eq_false_iff_not, false_eq_decide_iff, true_eq_decide_iff, Bool.not_eq_true, Bool.and_eq_true, Bool.not_eq_true, not_true_eq_false, not_false_eq_true] at *; done)
    · try rw [h6]
      try simp only [decide_eq_true_eq, decide_eq_false_iff_not, Bool.not_eq_eq_eq_not, Bool.not_true, Bool.not_false, mInts_lt, mInts_gt, mInts_le, mInts_zero] at h6
      refine G_yes rfl ?_
      refine R_mov rfl ?_
      refine G_yes rfl ?_
      refine R_le rfl rfl ?_
      refine G_yes rfl ?_
      refine R_mov rfl ?_
      refine G_split (g := 35) rfl (fun h11 => ?_) (fun h11 => ?_)
      · try rw [h11]
        try simp only [decide_eq_true_eq, decide_eq_false_iff_not, Bool.not_eq_eq_eq_not, Bool.not_true, Bool.not_false, mInts_lt, mInts_gt, mInts_le, mInts_zero] at h11
        refine G_yes rfl ?_
        refine R_mov rfl ?_
        refine G_yes rfl ?_
        refine R_eqI rfl rfl ?_
        refine G_yes rfl ?_
        refine R_mov rfl ?_
        refine G_split (g := 38) rfl (fun h12 => ?_) (fun h12 => ?_)
        · try rw [h12]
          try simp only [decide_eq_true_eq, decide_eq_false_iff_not, Bool.not_eq_eq_eq_not, Bool.not_true, Bool.not_false, mInts_lt, mInts_gt, mInts_le, mInts_zero] at h12
          refine G_yes rfl ?_
          refine R_mov rfl ?_
          refine G_yes rfl ?_
          refine R_eqI rfl rfl ?_
          refine G_yes rfl ?_
          refine R_pick rfl rfl ?_
          refine G_yes rfl ?_
          refine R_mov rfl ?_
          refine G_yes rfl ?_
          refine R_eqI rfl rfl ?_
          refine G_yes rfl ?_
          refine R_eqB rfl rfl ?_
          refine G_yes rfl ?_
          refine R_pick rfl rfl ?_
          refine R_pick rfl rfl ?_
          refine R_mov rfl ?_
          refine hK _ _ (TW_keep (keep_cons rfl (keep_cons rfl (keep_cons rfl (keep_cons rfl (keep_nil))))) ?_)
          clear hK K
          refine R_seq fun K hK => ?_
          refine R_build rfl rfl ?_
          refine R_loadA (cs := [_, _, _, _, _, _, _]) rfl rfl rfl rfl ?_
          refine R_call (g_compare (x := ⟨-1, 0, 0, 0, [], [], false⟩) cGood.lo (cGood.of l _)) rfl rfl (.inr rfl) ?_
          refine R_le rfl rfl ?_
          refine R_mov rfl ?_
          refine G_split (g := 51) rfl (fun h13 => ?_) (fun h13 => ?_)
          · try rw [h13]
            try simp only [decide_eq_true_eq, decide_eq_false_iff_not, Bool.not_eq_eq_eq_not, Bool.not_true, Bool.not_false, mInts_lt, mInts_gt, mInts_le, mInts_zero] at h13
            refine G_yes rfl ?_
            refine R_loadA (cs := [_, _, _, _, _, _, _]) rfl rfl rfl rfl ?_
            refine G_yes rfl ?_
            refine R_build rfl rfl ?_
            refine G_yes rfl ?_
            refine R_call (g_compare (y := ⟨1, 0, 0, 0, [], [], false⟩) (cGood.of l _) cGood.hi) rfl rfl (.inr rfl) ?_
            refine G_yes rfl ?_
            refine R_le rfl rfl ?_
            refine R_pick rfl rfl ?_
            refine R_mov rfl ?_
            refine hK _ _ (TW_keep (keep_cons rfl (keep_cons rfl (keep_cons rfl (keep_cons rfl (keep_cons rfl (keep_nil)))))) ?_)
            clear hK K
            refine R_seq fun K hK => ?_
            refine R_call (c_linchpinlaw3_awake) rfl rfl (.inr rfl) ?_
            refine R_mov rfl ?_
            refine G_yes rfl ?_
            refine R_loadA (cs := [_, _, _, _, _, _, _]) rfl rfl rfl rfl ?_
            refine G_yes rfl ?_
            refine R_loadA (cs := [_, _, _, _, _, _, _]) rfl rfl rfl rfl ?_
            refine G_yes rfl ?_
            refine R_call (g_compare (cGood.of l _) (cGood.of l _)) rfl rfl (.inr rfl) ?_
            refine G_yes rfl ?_
            refine R_mov rfl ?_
            refine G_yes rfl ?_
            refine R_neg rfl (by have bd := mInts_bd (m := cN (cu l 0)) (n := cN (cu l 6)); exact wrap_i64 (by omega) (by omega)) ?_
            refine G_yes rfl ?_
            refine R_eqI rfl rfl ?_
            refine R_pick rfl rfl ?_
            refine R_mov rfl ?_
            refine G_split (g := 66) rfl (fun h14 => ?_) (fun h14 => ?_)
            · try rw [h14]
              try simp only [decide_eq_true_eq, decide_eq_false_iff_not, Bool.not_eq_eq_eq_not, Bool.not_true, Bool.not_false, mInts_lt, mInts_gt, mInts_le, mInts_zero] at h14
              refine G_yes rfl ?_
              refine R_mov rfl ?_
              refine R_pick rfl rfl ?_
              refine R_mov rfl ?_
              refine G_split (g := 69) rfl (fun h15 => ?_) (fun h15 => ?_)
              · try rw [h15]
                try simp only [decide_eq_true_eq, decide_eq_false_iff_not, Bool.not_eq_eq_eq_not, Bool.not_true, Bool.not_false, mInts_lt, mInts_gt, mInts_le, mInts_zero] at h15
                refine G_yes rfl ?_
                refine R_mov rfl ?_
                refine R_pick rfl rfl ?_
                refine R_mov rfl ?_
                refine G_split (g := 72) rfl (fun h16 => ?_) (fun h16 => ?_)
                · try rw [h16]
                  try simp only [decide_eq_true_eq, decide_eq_false_iff_not, Bool.not_eq_eq_eq_not, Bool.not_true, Bool.not_false, mInts_lt, mInts_gt, mInts_le, mInts_zero] at h16
                  refine G_yes rfl ?_
                  refine R_mov rfl ?_
                  refine G_yes rfl ?_
                  refine R_eqI rfl rfl ?_
                  refine G_yes rfl ?_
                  refine R_loadA (cs := [_, _, _, _, _, _, _]) rfl rfl rfl rfl ?_
                  refine G_yes rfl ?_
                  refine R_loadA (cs := [_, _, _, _, _, _, _]) rfl rfl rfl rfl ?_
                  refine G_yes rfl ?_
                  refine R_eqsE rfl rfl rfl ?_
                  refine G_yes rfl ?_
                  refine R_eqB rfl rfl ?_
                  refine R_pick rfl rfl ?_
                  refine R_mov rfl ?_
                  refine hK _ _ (TW_keep (keep_cons rfl (keep_nil)) ?_)
                  clear hK K
                  refine T_ret ?_
                  refine post_retB rfl ?_
                  first | rfl | (exfalso; first | omega | exact absurd mInts_neg (by assumption)) | exact decide_eq_true (Eq.trans (decide_eq_decide.2 mInts_zero) (cN_eq (cGood.of l 0) (cGood.of l 6)).symm) | (simp only [← Bool.decide_and, ← Bool.decide_or, ← decide_not, decide_eq_decide, decide_eq_true_eq, decide_eq_false_iff_not, false_eq_decide_iff, true_eq_decide_iff, Bool.not_eq_true, Bool.and_eq_true, Bool.not_eq_true, not_true_eq_false, not_false_eq_true] at *; omega) | (simp only [← Bool.decide_and, ← Bool.decide_or, ← decide_not, decide_eq_decide, decide_eq_true_eq, decide_eq_false_iff_not, false_eq_decide_iff, true_eq_decide_iff, Bool.not_eq_true, Bool.and_eq_true, Bool.not_eq_true, not_true_eq_false, not_false_eq_true] at *; done)
                · try rw [h16]
                  try simp only [decide_eq_true_eq, decide_eq_false_iff_not, Bool.not_eq_eq_eq_not, Bool.not_true, Bool.not_false, mInts_lt, mInts_gt, mInts_le, mInts_zero] at h16
                  refine G_no rfl ?_
                  refine G_no rfl ?_
                  refine G_no rfl ?_
                  refine G_no rfl ?_
                  refine G_no rfl ?_
                  refine G_no rfl ?_
                  refine R_pick rfl rfl ?_
                  refine R_mov rfl ?_
                  refine hK _ _ (TW_keep (keep_cons rfl (keep_nil)) ?_)
                  clear hK K
                  refine T_ret ?_
                  refine post_retB rfl ?_
                  first | rfl | (exfalso; first | omega | exact absurd mInts_neg (by assumption)) | exact decide_eq_true (Eq.trans (decide_eq_decide.2 mInts_zero) (cN_eq (cGood.of l 0) (cGood.of l 6)).symm) | (simp only [← Bool.decide_and, ← Bool.decide_or, ← decide_not, decide_eq_decide, decide_eq_true_eq, decide_eq_false_iff_not, false_eq_decide_iff, true_eq_decide_iff, Bool.not_eq_true, Bool.and_eq_true, Bool.not_eq_true, not_true_eq_false, not_false_eq_true] at *; omega) | (simp only [← Bool.decide_and, ← Bool.decide_or, ← decide_not, decide_eq_decide, decide_eq_true_eq, decide_eq_false_iff_not, false_eq_decide_iff, true_eq_decide_iff, Bool.not_eq_true, Bool.and_eq_true, Bool.not_eq_true, not_true_eq_false, not_false_eq_true] at *; done)
              · try rw [h15]
                try simp only [decide_eq_true_eq, decide_eq_false_iff_not, Bool.not_eq_eq_eq_not, Bool.not_true, Bool.not_false, mInts_lt, mInts_gt, mInts_le, mInts_zero] at h15
                refine G_no rfl ?_
                refine R_pick rfl rfl ?_
                refine R_mov rfl ?_
                refine G_no rfl ?_
                refine G_no rfl ?_
                refine G_no rfl ?_
                refine G_no rfl ?_
                refine G_no rfl ?_
                refine G_no rfl ?_
                refine R_pick rfl rfl ?_
                refine R_mov rfl ?_
                refine hK _ _ (TW_keep (keep_cons rfl (keep_nil)) ?_)
                clear hK K
                refine T_ret ?_
                refine post_retB rfl ?_
                first | rfl | (exfalso; first | omega | exact absurd mInts_neg (by assumption)) | exact decide_eq_true (Eq.trans (decide_eq_decide.2 mInts_zero) (cN_eq (cGood.of l 0) (cGood.of l 6)).symm) | (simp only [← Bool.decide_and, ← Bool.decide_or, ← decide_not, decide_eq_decide, decide_eq_true_eq, decide_eq_false_iff_not, false_eq_decide_iff, true_eq_decide_iff, Bool.not_eq_true, Bool.and_eq_true, Bool.not_eq_true, not_true_eq_false, not_false_eq_true] at *; omega) | (simp only [← Bool.decide_and, ← Bool.decide_or, ← decide_not, decide_eq_decide, decide_eq_true_eq, decide_eq_false_iff_not, false_eq_decide_iff, true_eq_decide_iff, Bool.not_eq_true, Bool.and_eq_true, Bool.not_eq_true, not_true_eq_false, not_false_eq_true] at *; done)
            · try rw [h14]
              try simp only [decide_eq_true_eq, decide_eq_false_iff_not, Bool.not_eq_eq_eq_not, Bool.not_true, Bool.not_false, mInts_lt, mInts_gt, mInts_le, mInts_zero] at h14
              refine G_no rfl ?_
              refine R_pick rfl rfl ?_
              refine R_mov rfl ?_
              refine G_no rfl ?_
              refine R_pick rfl rfl ?_
              refine R_mov rfl ?_
              refine G_no rfl ?_
              refine G_no rfl ?_
              refine G_no rfl ?_
              refine G_no rfl ?_
              refine G_no rfl ?_
              refine G_no rfl ?_
              refine R_pick rfl rfl ?_
              refine R_mov rfl ?_
              refine hK _ _ (TW_keep (keep_cons rfl (keep_nil)) ?_)
              clear hK K
              refine T_ret ?_
              refine post_retB rfl ?_
              first | rfl | (exfalso; first | omega | exact absurd mInts_neg (by assumption)) | exact decide_eq_true (Eq.trans (decide_eq_decide.2 mInts_zero) (cN_eq (cGood.of l 0) (cGood.of l 6)).symm) | (simp only [← Bool.decide_and, ← Bool.decide_or, ← decide_not, decide_eq_decide, decide_eq_true_eq, decide_eq_false_iff_not, false_eq_decide_iff, true_eq_decide_iff, Bool.not_eq_true, Bool.and_eq_true, Bool.not_eq_true, not_true_eq_false, not_false_eq_true] at *; omega) | (simp only [← Bool.decide_and, ← Bool.decide_or, ← decide_not, decide_eq_decide, decide_eq_true_eq, decide_eq_false_iff_not, false_eq_decide_iff, true_eq_decide_iff, Bool.not_eq_true, Bool.and_eq_true, Bool.not_eq_true, not_true_eq_false, not_false_eq_true] at *; done)
          · try rw [h13]
            try simp only [decide_eq_true_eq, decide_eq_false_iff_not, Bool.not_eq_eq_eq_not, Bool.not_true, Bool.not_false, mInts_lt, mInts_gt, mInts_le, mInts_zero] at h13
            refine G_no rfl ?_
            refine G_no rfl ?_
            refine G_no rfl ?_
            refine G_no rfl ?_
            refine R_pick rfl rfl ?_
            refine R_mov rfl ?_
            refine hK _ _ (TW_keep (keep_cons rfl (keep_cons rfl (keep_cons rfl (keep_cons rfl (keep_cons rfl (keep_nil)))))) ?_)
            clear hK K
            refine R_seq fun K hK => ?_
            refine R_call (c_linchpinlaw3_awake) rfl rfl (.inr rfl) ?_
            refine R_mov rfl ?_
            refine G_yes rfl ?_
            refine R_loadA (cs := [_, _, _, _, _, _, _]) rfl rfl rfl rfl ?_
            refine G_yes rfl ?_
            refine R_loadA (cs := [_, _, _, _, _, _, _]) rfl rfl rfl rfl ?_
            refine G_yes rfl ?_
            refine R_call (g_compare (cGood.of l _) (cGood.of l _)) rfl rfl (.inr rfl) ?_
            refine G_yes rfl ?_
            refine R_mov rfl ?_
            refine G_yes rfl ?_
            refine R_neg rfl (by have bd := mInts_bd (m := cN (cu l 0)) (n := cN (cu l 6)); exact wrap_i64 (by omega) (by omega)) ?_
            refine G_yes rfl ?_
            refine R_eqI rfl rfl ?_
            refine R_pick rfl rfl ?_
            refine R_mov rfl ?_
            refine G_split (g := 66) rfl (fun h17 => ?_) (fun h17 => ?_)
            · try rw [h17]
              try simp only [decide_eq_true_eq, decide_eq_false_iff_not, Bool.not_eq_eq_eq_not, Bool.not_true, Bool.not_false, mInts_lt, mInts_gt, mInts_le, mInts_zero] at h17
              refine G_yes rfl ?_
              refine R_mov rfl ?_
              refine R_pick rfl rfl ?_
              refine R_mov rfl ?_
              refine G_split (g := 69) rfl (fun h18 => ?_) (fun h18 => ?_)
              · try rw [h18]
                try simp only [decide_eq_true_eq, decide_eq_false_iff_not, Bool.not_eq_eq_eq_not, Bool.not_true, Bool.not_false, mInts_lt, mInts_gt, mInts_le, mInts_zero] at h18
                refine G_yes rfl ?_
                refine R_mov rfl ?_
                refine R_pick rfl rfl ?_
                refine R_mov rfl ?_
                refine G_no rfl ?_
                refine G_no rfl ?_
                refine G_no rfl ?_
                refine G_no rfl ?_
                refine G_no rfl ?_
                refine G_no rfl ?_
                refine R_pick rfl rfl ?_
                refine R_mov rfl ?_
                refine hK _ _ (TW_keep (keep_cons rfl (keep_nil)) ?_)
                clear hK K
                refine T_ret ?_
                refine post_retB rfl ?_
                first | rfl | (exfalso; first | omega | exact absurd mInts_neg (by assumption)) | exact decide_eq_true (Eq.trans (decide_eq_decide.2 mInts_zero) (cN_eq (cGood.of l 0) (cGood.of l 6)).symm) | (simp only [← Bool.decide_and, ← Bool.decide_or, ← decide_not, decide_eq_decide, decide_eq_true_eq, decide_eq_false_iff_not, false_eq_decide_iff, true_eq_decide_iff, Bool.not_eq_true, Bool.and_eq_true, Bool.not_eq_true, not_true_eq_false, not_false_eq_true] at *; omega) | (simp only [← Bool.decide_and, ← Bool.decide_or, ← decide_not, decide_eq_decide, decide_eq_true_eq, decide_eq_false_iff_not, false_eq_decide_iff, true_eq_decide_iff, Bool.not_eq_true, Bool.and_eq_true, Bool.not_eq_true, not_true_eq_false, not_false_eq_true] at *; done)
              · try rw [h18]
                try simp only [decide_eq_true_eq, decide_eq_false_iff_not, Bool.not_eq_eq_eq_not, Bool.not_true, Bool.not_false, mInts_lt, mInts_gt, mInts_le, mInts_zero] at h18
                refine G_no rfl ?_
                refine R_pick rfl rfl ?_
                refine R_mov rfl ?_
                refine G_no rfl ?_
                refine G_no rfl ?_
                refine G_no rfl ?_
                refine G_no rfl ?_
                refine G_no rfl ?_
                refine G_no rfl ?_
                refine R_pick rfl rfl ?_
                refine R_mov rfl ?_
                refine hK _ _ (TW_keep (keep_cons rfl (keep_nil)) ?_)
                clear hK K
                refine T_ret ?_
                refine post_retB rfl ?_
                first | rfl | (exfalso; first | omega | exact absurd mInts_neg (by assumption)) | exact decide_eq_true (Eq.trans (decide_eq_decide.2 mInts_zero) (cN_eq (cGood.of l 0) (cGood.of l 6)).symm) | (simp only [← Bool.decide_and, ← Bool.decide_or, ← decide_not, decide_eq_decide, decide_eq_true_eq, decide_eq_false_iff_not, false_eq_decide_iff, true_eq_decide_iff, Bool.not_eq_true, Bool.and_eq_true, Bool.not_eq_true, not_true_eq_false, not_false_eq_true] at *; omega) | (simp only [← Bool.decide_and, ← Bool.decide_or, ← decide_not, decide_eq_decide, decide_eq_true_eq, decide_eq_false_iff_not, false_eq_decide_iff, true_eq_decide_iff, Bool.not_eq_true, Bool.and_eq_true, Bool.not_eq_true, not_true_eq_false, not_false_eq_true] at *; done)
            · try rw [h17]
              try simp only [decide_eq_true_eq, decide_eq_false_iff_not, Bool.not_eq_eq_eq_not, Bool.not_true, Bool.not_false, mInts_lt, mInts_gt, mInts_le, mInts_zero] at h17
              refine G_no rfl ?_
              refine R_pick rfl rfl ?_
              refine R_mov rfl ?_
              refine G_no rfl ?_
              refine R_pick rfl rfl ?_
              refine R_mov rfl ?_
              refine G_no rfl ?_
              refine G_no rfl ?_
              refine G_no rfl ?_
              refine G_no rfl ?_
              refine G_no rfl ?_
              refine G_no rfl ?_
              refine R_pick rfl rfl ?_
              refine R_mov rfl ?_
              refine hK _ _ (TW_keep (keep_cons rfl (keep_nil)) ?_)
              clear hK K
              refine T_ret ?_
              refine post_retB rfl ?_
              first | rfl | (exfalso; first | omega | exact absurd mInts_neg (by assumption)) | exact decide_eq_true (Eq.trans (decide_eq_decide.2 mInts_zero) (cN_eq (cGood.of l 0) (cGood.of l 6)).symm) | (simp only [← Bool.decide_and, ← Bool.decide_or, ← decide_not, decide_eq_decide, decide_eq_true_eq, decide_eq_false_iff_not, false_eq_decide_iff, true_eq_decide_iff, Bool.not_eq_true, Bool.and_eq_true, Bool.not_eq_true, not_true_eq_false, not_false_eq_true] at *; omega) | (simp only [← Bool.decide_and, ← Bool.decide_or, ← decide_not, decide_eq_decide, decide_eq_true_eq, decide_eq_false_iff_not, false_eq_decide_iff, true_eq_decide_iff, Bool.not_eq_true, Bool.and_eq_true, Bool.not_eq_true, not_true_eq_false, not_false_eq_true] at *; done)
        · try rw [h12]
          try simp only [decide_eq_true_eq, decide_eq_false_iff_not, Bool.not_eq_eq_eq_not, Bool.not_true, Bool.not_false, mInts_lt, mInts_gt, mInts_le, mInts_zero] at h12
          refine G_no rfl ?_
          refine G_no rfl ?_
          refine G_yes rfl ?_
          refine R_pick rfl rfl ?_
          refine G_yes rfl ?_
          refine R_mov rfl ?_
          refine G_yes rfl ?_
          refine R_eqI rfl rfl ?_
          refine G_yes rfl ?_
          refine R_eqB rfl rfl ?_
          refine G_yes rfl ?_
          refine R_pick rfl rfl ?_
          refine R_pick rfl rfl ?_
          refine R_mov rfl ?_
          refine hK _ _ (TW_keep (keep_cons rfl (keep_cons rfl (keep_cons rfl (keep_cons rfl (keep_nil))))) ?_)
          clear hK K
          refine R_seq fun K hK => ?_
          refine R_build rfl rfl ?_
          refine R_loadA (cs := [_, _, _, _, _, _, _]) rfl rfl rfl rfl ?_
          refine R_call (g_compare (x := ⟨-1, 0, 0, 0, [], [], false⟩) cGood.lo (cGood.of l _)) rfl rfl (.inr rfl) ?_
          refine R_le rfl rfl ?_
          refine R_mov rfl ?_
          refine G_split (g := 51) rfl (fun h19 => ?_) (fun h19 => ?_)
          · try rw [h19]
            try simp only [decide_eq_true_eq, decide_eq_false_iff_not, Bool.not_eq_eq_eq_not, Bool.not_true, Bool.not_false, mInts_lt, mInts_gt, mInts_le, mInts_zero] at h19
            refine G_yes rfl ?_
            refine R_loadA (cs := [_, _, _, _, _, _, _]) rfl rfl rfl rfl ?_
            refine G_yes rfl ?_
            refine R_build rfl rfl ?_
            refine G_yes rfl ?_
            refine R_call (g_compare (y := ⟨1, 0, 0, 0, [], [], false⟩) (cGood.of l _) cGood.hi) rfl rfl (.inr rfl) ?_
            refine G_yes rfl ?_
            refine R_le rfl rfl ?_
            refine R_pick rfl rfl ?_
            refine R_mov rfl ?_
            refine hK _ _ (TW_keep (keep_cons rfl (keep_cons rfl (keep_cons rfl (keep_cons rfl (keep_cons rfl (keep_nil)))))) ?_)
            clear hK K
            refine R_seq fun K hK => ?_
            refine R_call (c_linchpinlaw3_awake) rfl rfl (.inr rfl) ?_
            refine R_mov rfl ?_
            refine G_yes rfl ?_
            refine R_loadA (cs := [_, _, _, _, _, _, _]) rfl rfl rfl rfl ?_
            refine G_yes rfl ?_
            refine R_loadA (cs := [_, _, _, _, _, _, _]) rfl rfl rfl rfl ?_
            refine G_yes rfl ?_
            refine R_call (g_compare (cGood.of l _) (cGood.of l _)) rfl rfl (.inr rfl) ?_
            refine G_yes rfl ?_
            refine R_mov rfl ?_
            refine G_yes rfl ?_
            refine R_neg rfl (by have bd := mInts_bd (m := cN (cu l 0)) (n := cN (cu l 6)); exact wrap_i64 (by omega) (by omega)) ?_
            refine G_yes rfl ?_
            refine R_eqI rfl rfl ?_
            refine R_pick rfl rfl ?_
            refine R_mov rfl ?_
            refine G_split (g := 66) rfl (fun h20 => ?_) (fun h20 => ?_)
            · try rw [h20]
              try simp only [decide_eq_true_eq, decide_eq_false_iff_not, Bool.not_eq_eq_eq_not, Bool.not_true, Bool.not_false, mInts_lt, mInts_gt, mInts_le, mInts_zero] at h20
              refine G_yes rfl ?_
              refine R_mov rfl ?_
              refine R_pick rfl rfl ?_
              refine R_mov rfl ?_
              refine G_split (g := 69) rfl (fun h21 => ?_) (fun h21 => ?_)
              · try rw [h21]
                try simp only [decide_eq_true_eq, decide_eq_false_iff_not, Bool.not_eq_eq_eq_not, Bool.not_true, Bool.not_false, mInts_lt, mInts_gt, mInts_le, mInts_zero] at h21
                refine G_yes rfl ?_
                refine R_mov rfl ?_
                refine R_pick rfl rfl ?_
                refine R_mov rfl ?_
                refine G_split (g := 72) rfl (fun h22 => ?_) (fun h22 => ?_)
                · try rw [h22]
                  try simp only [decide_eq_true_eq, decide_eq_false_iff_not, Bool.not_eq_eq_eq_not, Bool.not_true, Bool.not_false, mInts_lt, mInts_gt, mInts_le, mInts_zero] at h22
                  refine G_yes rfl ?_
                  refine R_mov rfl ?_
                  refine G_yes rfl ?_
                  refine R_eqI rfl rfl ?_
                  refine G_yes rfl ?_
                  refine R_loadA (cs := [_, _, _, _, _, _, _]) rfl rfl rfl rfl ?_
                  refine G_yes rfl ?_
                  refine R_loadA (cs := [_, _, _, _, _, _, _]) rfl rfl rfl rfl ?_
                  refine G_yes rfl ?_
                  refine R_eqsE rfl rfl rfl ?_
                  refine G_yes rfl ?_
                  refine R_eqB rfl rfl ?_
                  refine R_pick rfl rfl ?_
                  refine R_mov rfl ?_
                  refine hK _ _ (TW_keep (keep_cons rfl (keep_nil)) ?_)
                  clear hK K
                  refine T_ret ?_
                  refine post_retB rfl ?_
                  first | rfl | (exfalso; first | omega | exact absurd mInts_neg (by assumption)) | exact decide_eq_true (Eq.trans (decide_eq_decide.2 mInts_zero) (cN_eq (cGood.of l 0) (cGood.of l 6)).symm) | (simp only [← Bool.decide_and, ← Bool.decide_or, ← decide_not, decide_eq_decide, decide_eq_true_eq, decide_eq_false_iff_not, false_eq_decide_iff, true_eq_decide_iff, Bool.not_eq_true, Bool.and_eq_true, Bool.not_eq_true, not_true_eq_false, not_false_eq_true] at *; omega) | (simp only [← Bool.decide_and, ← Bool.decide_or, ← decide_not, decide_eq_decide, decide_eq_true_eq, decide_eq_false_iff_not, false_eq_decide_iff, true_eq_decide_iff, Bool.not_eq_true, Bool.and_eq_true, Bool.not_eq_true, not_true_eq_false, not_false_eq_true] at *; done)
                · try rw [h22]
                  try simp only [decide_eq_true_eq, decide_eq_false_iff_not, Bool.not_eq_eq_eq_not, Bool.not_true, Bool.not_false, mInts_lt, mInts_gt, mInts_le, mInts_zero] at h22
                  refine G_no rfl ?_
                  refine G_no rfl ?_
                  refine G_no rfl ?_
                  refine G_no rfl ?_
                  refine G_no rfl ?_
                  refine G_no rfl ?_
                  refine R_pick rfl rfl ?_
                  refine R_mov rfl ?_
                  refine hK _ _ (TW_keep (keep_cons rfl (keep_nil)) ?_)
                  clear hK K
                  refine T_ret ?_
                  refine post_retB rfl ?_
                  first | rfl | (exfalso; first | omega | exact absurd mInts_neg (by assumption)) | exact decide_eq_true (Eq.trans (decide_eq_decide.2 mInts_zero) (cN_eq (cGood.of l 0) (cGood.of l 6)).symm) | (simp only [← Bool.decide_and, ← Bool.decide_or, ← decide_not, decide_eq_decide, decide_eq_true_eq, decide_eq_false_iff_not, false_eq_decide_iff, true_eq_decide_iff, Bool.not_eq_true, Bool.and_eq_true, Bool.not_eq_true, not_true_eq_false, not_false_eq_true] at *; omega) | (simp only [← Bool.decide_and, ← Bool.decide_or, ← decide_not, decide_eq_decide, decide_eq_true_eq, decide_eq_false_iff_not, false_eq_decide_iff, true_eq_decide_iff, Bool.not_eq_true, Bool.and_eq_true, Bool.not_eq_true, not_true_eq_false, not_false_eq_true] at *; done)
              · try rw [h21]
                try simp only [decide_eq_true_eq, decide_eq_false_iff_not, Bool.not_eq_eq_eq_not, Bool.not_true, Bool.not_false, mInts_lt, mInts_gt, mInts_le, mInts_zero] at h21
                refine G_no rfl ?_
                refine R_pick rfl rfl ?_
                refine R_mov rfl ?_
                refine G_no rfl ?_
                refine G_no rfl ?_
                refine G_no rfl ?_
                refine G_no rfl ?_
                refine G_no rfl ?_
                refine G_no rfl ?_
                refine R_pick rfl rfl ?_
                refine R_mov rfl ?_
                refine hK _ _ (TW_keep (keep_cons rfl (keep_nil)) ?_)
                clear hK K
                refine T_ret ?_
                refine post_retB rfl ?_
                first | rfl | (exfalso; first | omega | exact absurd mInts_neg (by assumption)) | exact decide_eq_true (Eq.trans (decide_eq_decide.2 mInts_zero) (cN_eq (cGood.of l 0) (cGood.of l 6)).symm) | (simp only [← Bool.decide_and, ← Bool.decide_or, ← decide_not, decide_eq_decide, decide_eq_true_eq, decide_eq_false_iff_not, false_eq_decide_iff, true_eq_decide_iff, Bool.not_eq_true, Bool.and_eq_true, Bool.not_eq_true, not_true_eq_false, not_false_eq_true] at *; omega) | (simp only [← Bool.decide_and, ← Bool.decide_or, ← decide_not, decide_eq_decide, decide_eq_true_eq, decide_eq_false_iff_not, false_eq_decide_iff, true_eq_decide_iff, Bool.not_eq_true, Bool.and_eq_true, Bool.not_eq_true, not_true_eq_false, not_false_eq_true] at *; done)
            · try rw [h20]
              try simp only [decide_eq_true_eq, decide_eq_false_iff_not, Bool.not_eq_eq_eq_not, Bool.not_true, Bool.not_false, mInts_lt, mInts_gt, mInts_le, mInts_zero] at h20
              refine G_no rfl ?_
              refine R_pick rfl rfl ?_
              refine R_mov rfl ?_
              refine G_no rfl ?_
              refine R_pick rfl rfl ?_
              refine R_mov rfl ?_
              refine G_no rfl ?_
              refine G_no rfl ?_
              refine G_no rfl ?_
              refine G_no rfl ?_
              refine G_no rfl ?_
              refine G_no rfl ?_
              refine R_pick rfl rfl ?_
              refine R_mov rfl ?_
              refine hK _ _ (TW_keep (keep_cons rfl (keep_nil)) ?_)
              clear hK K
              refine T_ret ?_
              refine post_retB rfl ?_
              first | rfl | (exfalso; first | omega | exact absurd mInts_neg (by assumption)) | exact decide_eq_true (Eq.trans (decide_eq_decide.2 mInts_zero) (cN_eq (cGood.of l 0) (cGood.of l 6)).symm) | (simp only [← Bool.decide_and, ← Bool.decide_or, ← decide_not, decide_eq_decide, decide_eq_true_eq, decide_eq_false_iff_not, false_eq_decide_iff, true_eq_decide_iff, Bool.not_eq_true, Bool.and_eq_true, Bool.not_eq_true, not_true_eq_false, not_false_eq_true] at *; omega) | (simp only [← Bool.decide_and, ← Bool.decide_or, ← decide_not, decide_eq_decide, decide_eq_true_eq, decide_eq_false_iff_not, false_eq_decide_iff, true_eq_decide_iff, Bool.not_eq_true, Bool.and_eq_true, Bool.not_eq_true, not_true_eq_false, not_false_eq_true] at *; done)
          · try rw [h19]
            try simp only [decide_eq_true_eq, decide_eq_false_iff_not, Bool.not_eq_eq_eq_not, Bool.not_true, Bool.not_false, mInts_lt, mInts_gt, mInts_le, mInts_zero] at h19
            refine G_no rfl ?_
            refine G_no rfl ?_
            refine G_no rfl ?_
            refine G_no rfl ?_
            refine R_pick rfl rfl ?_
            refine R_mov rfl ?_
            refine hK _ _ (TW_keep (keep_cons rfl (keep_cons rfl (keep_cons rfl (keep_cons rfl (keep_cons rfl (keep_nil)))))) ?_)
            clear hK K
            refine R_seq fun K hK => ?_
            refine R_call (c_linchpinlaw3_awake) rfl rfl (.inr rfl) ?_
            refine R_mov rfl ?_
            refine G_yes rfl ?_
            refine R_loadA (cs := [_, _, _, _, _, _, _]) rfl rfl rfl rfl ?_
            refine G_yes rfl ?_
            refine R_loadA (cs := [_, _, _, _, _, _, _]) rfl rfl rfl rfl ?_
            refine G_yes rfl ?_
            refine R_call (g_compare (cGood.of l _) (cGood.of l _)) rfl rfl (.inr rfl) ?_
            refine G_yes rfl ?_
            refine R_mov rfl ?_
            refine G_yes rfl ?_
            refine R_neg rfl (by have bd := mInts_bd (m := cN (cu l 0)) (n := cN (cu l 6)); exact wrap_i64 (by omega) (by omega)) ?_
            refine G_yes rfl ?_
            refine R_eqI rfl rfl ?_
            refine R_pick rfl rfl ?_
            refine R_mov rfl ?_
            refine G_split (g := 66) rfl (fun h23 => ?_) (fun h23 => ?_)
            · try rw [h23]
              try simp only [decide_eq_true_eq, decide_eq_false_iff_not, Bool.not_eq_eq_eq_not, Bool.not_true, Bool.not_false, mInts_lt, mInts_gt, mInts_le, mInts_zero] at h23
              refine G_yes rfl ?_
              refine R_mov rfl ?_
              refine R_pick rfl rfl ?_
              refine R_mov rfl ?_
              refine G_split (g := 69) rfl (fun h24 => ?_) (fun h24 => ?_)
              · try rw [h24]
                try simp only [decide_eq_true_eq, decide_eq_false_iff_not, Bool.not_eq_eq_eq_not, Bool.not_true, Bool.not_false, mInts_lt, mInts_gt, mInts_le, mInts_zero] at h24
                refine G_yes rfl ?_
                refine R_mov rfl ?_
                refine R_pick rfl rfl ?_
                refine R_mov rfl ?_
                refine G_no rfl ?_
                refine G_no rfl ?_
                refine G_no rfl ?_
                refine G_no rfl ?_
                refine G_no rfl ?_
                refine G_no rfl ?_
                refine R_pick rfl rfl ?_
                refine R_mov rfl ?_
                refine hK _ _ (TW_keep (keep_cons rfl (keep_nil)) ?_)
                clear hK K
                refine T_ret ?_
                refine post_retB rfl ?_
                first | rfl | (exfalso; first | omega | exact absurd mInts_neg (by assumption)) | exact decide_eq_true (Eq.trans (decide_eq_decide.2 mInts_zero) (cN_eq (cGood.of l 0) (cGood.of l 6)).symm) | (simp only [← Bool.decide_and, ← Bool.decide_or, ← decide_not, decide_eq_decide, decide_eq_true_eq, decide_eq_false_iff_not, false_eq_decide_iff, true_eq_decide_iff, Bool.not_eq_true, Bool.and_eq_true, Bool.not_eq_true, not_true_eq_false, not_false_eq_true] at *; omega) | (simp only [← Bool.decide_and, ← Bool.decide_or, ← decide_not, decide_eq_decide, decide_eq_true_eq, decide_eq_false_iff_not, false_eq_decide_iff, true_eq_decide_iff, Bool.not_eq_true, Bool.and_eq_true, Bool.not_eq_true, not_true_eq_false, not_false_eq_true] at *; done)
              · try rw [h24]
                try simp only [decide_eq_true_eq, decide_eq_false_iff_not, Bool.not_eq_eq_eq_not, Bool.not_true, Bool.not_false, mInts_lt, mInts_gt, mInts_le, mInts_zero] at h24
                refine G_no rfl ?_
                refine R_pick rfl rfl ?_
                refine R_mov rfl ?_
                refine G_no rfl ?_
                refine G_no rfl ?_
                refine G_no rfl ?_
                refine G_no rfl ?_
                refine G_no rfl ?_
                refine G_no rfl ?_
                refine R_pick rfl rfl ?_
                refine R_mov rfl ?_
                refine hK _ _ (TW_keep (keep_cons rfl (keep_nil)) ?_)
                clear hK K
                refine T_ret ?_
                refine post_retB rfl ?_
                first | rfl | (exfalso; first | omega | exact absurd mInts_neg (by assumption)) | exact decide_eq_true (Eq.trans (decide_eq_decide.2 mInts_zero) (cN_eq (cGood.of l 0) (cGood.of l 6)).symm) | (simp only [← Bool.decide_and, ← Bool.decide_or, ← decide_not, decide_eq_decide, decide_eq_true_eq, decide_eq_false_iff_not, false_eq_decide_iff, true_eq_decide_iff, Bool.not_eq_true, Bool.and_eq_true, Bool.not_eq_true, not_true_eq_false, not_false_eq_true] at *; omega) | (simp only [← Bool.decide_and, ← Bool.decide_or, ← decide_not, decide_eq_decide, decide_eq_true_eq, decide_eq_false_iff_not, false_eq_decide_iff, true_eq_decide_iff, Bool.not_eq_true, Bool.and_eq_true, Bool.not_eq_true, not_true_eq_false, not_false_eq_true] at *; done)
            · try rw [h23]
              try simp only [decide_eq_true_eq, decide_eq_false_iff_not, Bool.not_eq_eq_eq_not, Bool.not_true, Bool.not_false, mInts_lt, mInts_gt, mInts_le, mInts_zero] at h23
              refine G_no rfl ?_
              refine R_pick rfl rfl ?_
              refine R_mov rfl ?_
              refine G_no rfl ?_
              refine R_pick rfl rfl ?_
              refine R_mov rfl ?_
              refine G_no rfl ?_
              refine G_no rfl ?_
              refine G_no rfl ?_
              refine G_no rfl ?_
              refine G_no rfl ?_
              refine G_no rfl ?_
              refine R_pick rfl rfl ?_
              refine R_mov rfl ?_
              refine hK _ _ (TW_keep (keep_cons rfl (keep_nil)) ?_)
              clear hK K
              refine T_ret ?_
              refine post_retB rfl ?_
              first | rfl | (exfalso; first | omega | exact absurd mInts_neg (by assumption)) | exact decide_eq_true (Eq.trans (decide_eq_decide.2 mInts_zero) (cN_eq (cGood.of l 0) (cGood.of l 6)).symm) | (simp only [← Bool.decide_and, ← Bool.decide_or, ← decide_not, decide_eq_decide, decide_eq_true_eq, decide_eq_false_iff_not, false_eq_decide_iff, true_eq_decide_iff, Bool.not_eq_true, Bool.and_eq_true, Bool.not_eq_true, not_true_eq_false, not_false_eq_true] at *; omega) | (simp only [← Bool.decide_and, ← Bool.decide_or, ← decide_not, decide_eq_decide, decide_eq_true_eq, decide_eq_false_iff_not, false_eq_decide_iff, true_eq_decide_iff, Bool.not_eq_true, Bool.and_eq_true, Bool.not_eq_true, not_true_eq_false, not_false_eq_true] at *; done)
      · try rw [h11]
        try simp only [decide_eq_true_eq, decide_eq_false_iff_not, Bool.not_eq_eq_eq_not, Bool.not_true, Bool.not_false, mInts_lt, mInts_gt, mInts_le, mInts_zero] at h11
        refine G_no rfl ?_
        refine G_no rfl ?_
        refine G_no rfl ?_
        refine G_undef rfl ?_
        refine G_undef rfl ?_
        refine G_no rfl ?_
        refine G_no rfl ?_
        refine G_no rfl ?_
        refine G_no rfl ?_
        refine G_yes rfl ?_
        refine R_pick rfl rfl ?_
        refine R_pick rfl rfl ?_
        refine R_mov rfl ?_
        refine hK _ _ (TW_keep (keep_cons rfl (keep_cons rfl (keep_cons rfl (keep_cons rfl (keep_nil))))) ?_)
        clear hK K
        refine R_seq fun K hK => ?_
        refine R_build rfl rfl ?_
        refine R_loadA (cs := [_, _, _, _, _, _, _]) rfl rfl rfl rfl ?_
        refine R_call (g_compare (x := ⟨-1, 0, 0, 0, [], [], false⟩) cGood.lo (cGood.of l _)) rfl rfl (.inr rfl) ?_
        refine R_le rfl rfl ?_
        refine R_mov rfl ?_
        refine G_split (g := 51) rfl (fun h25 => ?_) (fun h25 => ?_)
        · try rw [h25]
          try simp only [decide_eq_true_eq, decide_eq_false_iff_not, Bool.not_eq_eq_eq_not, Bool.not_true, Bool.not_false, mInts_lt, mInts_gt, mInts_le, mInts_zero] at h25
          refine G_yes rfl ?_
          refine R_loadA (cs := [_, _, _, _, _, _, _]) rfl rfl rfl rfl ?_
          refine G_yes rfl ?_
          refine R_build rfl rfl ?_
          refine G_yes rfl ?_
          refine R_call (g_compare (y := ⟨1, 0, 0, 0, [], [], false⟩) (cGood.of l _) cGood.hi) rfl rfl (.inr rfl) ?_
          refine G_yes rfl ?_
          refine R_le rfl rfl ?_
          refine R_pick rfl rfl ?_
          refine R_mov rfl ?_
          refine hK _ _ (TW_keep (keep_cons rfl (keep_cons rfl (keep_cons rfl (keep_cons rfl (keep_cons rfl (keep_nil)))))) ?_)
          clear hK K
          refine R_seq fun K hK => ?_
          refine R_call (c_linchpinlaw3_awake) rfl rfl (.inr rfl) ?_
          refine R_mov rfl ?_
          refine G_yes rfl ?_
          refine R_loadA (cs := [_, _, _, _, _, _, _]) rfl rfl rfl rfl ?_
          refine G_yes rfl ?_
          refine R_loadA (cs := [_, _, _, _, _, _, _]) rfl rfl rfl rfl ?_
          refine G_yes rfl ?_
          refine R_call (g_compare (cGood.of l _) (cGood.of l _)) rfl rfl (.inr rfl) ?_
          refine G_yes rfl ?_
          refine R_mov rfl ?_
          refine G_yes rfl ?_
          refine R_neg rfl (by have bd := mInts_bd (m := cN (cu l 0)) (n := cN (cu l 6)); exact wrap_i64 (by omega) (by omega)) ?_
          refine G_yes rfl ?_
          refine R_eqI rfl rfl ?_
          refine R_pick rfl rfl ?_
          refine R_mov rfl ?_
          refine G_split (g := 66) rfl (fun h26 => ?_) (fun h26 => ?_)
          · try rw [h26]
            try simp only [decide_eq_true_eq, decide_eq_false_iff_not, Bool.not_eq_eq_eq_not, Bool.not_true, Bool.not_false, mInts_lt, mInts_gt, mInts_le, mInts_zero] at h26
            refine G_yes rfl ?_
            refine R_mov rfl ?_
            refine R_pick rfl rfl ?_
            refine R_mov rfl ?_
            refine G_no rfl ?_
            refine R_pick rfl rfl ?_
            refine R_mov rfl ?_
            refine G_no rfl ?_
            refine G_no rfl ?_
            refine G_no rfl ?_
            refine G_no rfl ?_
            refine G_no rfl ?_
            refine G_no rfl ?_
            refine R_pick rfl rfl ?_
            refine R_mov rfl ?_
            refine hK _ _ (TW_keep (keep_cons rfl (keep_nil)) ?_)
            clear hK K
            refine T_ret ?_
            refine post_retB rfl ?_
            first | rfl | (exfalso; first | omega | exact absurd mInts_neg (by assumption)) | exact decide_eq_true (Eq.trans (decide_eq_decide.2 mInts_zero) (cN_eq (cGood.of l 0) (cGood.of l 6)).symm) | (simp only [← Bool.decide_and, ← Bool.decide_or, ← decide_not, decide_eq_decide, decide_eq_true_eq, decide_eq_false_iff_not, false_eq_decide_iff, true_eq_decide_iff, Bool.not_eq_true, Bool.and_eq_true, Bool.not_eq_true, not_true_eq_false, not_false_eq_true] at *; omega) | (simp only [← Bool.decide_and, ← Bool.decide_or, ← decide_not, decide_eq_decide, decide_eq_true_eq, decide_eq_false_iff_not, false_eq_decide_iff, true_eq_decide_iff, Bool.not_eq_true, Bool.and_eq_true, Bool.not_eq_true, not_true_eq_false, not_false_eq_true] at *; done)
          · try rw [h26]
            try simp only [decide_eq_true_eq, decide_eq_false_iff_not, Bool.not_eq_eq_eq_not, Bool.not_true, Bool.not_false, mInts_lt, mInts_gt, mInts_le, mInts_zero] at h26
            refine G_no rfl ?_
            refine R_pick rfl rfl ?_
            refine R_mov rfl ?_
            refine G_no rfl ?_
            refine R_pick rfl rfl ?_
            refine R_mov rfl ?_
            refine G_no rfl ?_
            refine G_no rfl ?_
            refine G_no rfl ?_
            refine G_no rfl ?_
            refine G_no rfl ?_
            refine G_no rfl ?_
            refine R_pick rfl rfl ?_
            refine R_mov rfl ?_
            refine hK _ _ (TW_keep (keep_cons rfl (keep_nil)) ?_)
            clear hK K
            refine T_ret ?_
            refine post_retB rfl ?_
            first | rfl | (exfalso; first | omega | exact absurd mInts_neg (by assumption)) | exact decide_eq_true (Eq.trans (decide_eq_decide.2 mInts_zero) (cN_eq (cGood.of l 0) (cGood.of l 6)).symm) | (simp only [← Bool.decide_and, ← Bool.decide_or, ← decide_not, decide_eq_decide, decide_eq_true_eq, decide_eq_false_iff_not, false_eq_decide_iff, true_eq_decide_iff, Bool.not_eq_true, Bool.and_eq_true, Bool.not_eq_true, not_true_eq_false, not_false_eq_true] at *; omega) | (simp only [← Bool.decide_and, ← Bool.decide_or, ← decide_not, decide_eq_decide, decide_eq_true_eq, decide_eq_false_iff_not, false_eq_decide_iff, true_eq_decide_iff, Bool.not_eq_true, Bool.and_eq_true, Bool.not_eq_true, not_true_eq_false, not_false_eq_true] at *; done)
        · try rw [h25]
          try simp only [decide_eq_true_eq, decide_eq_false_iff_not, Bool.not_eq_eq_eq_not, Bool.not_true, Bool.not_false, mInts_lt, mInts_gt, mInts_le, mInts_zero] at h25
          refine G_no rfl ?_
          refine G_no rfl ?_
          refine G_no rfl ?_
          refine G_no rfl ?_
          refine R_pick rfl rfl ?_
          refine R_mov rfl ?_
          refine hK _ _ (TW_keep (keep_cons rfl (keep_cons rfl (keep_cons rfl (keep_cons rfl (keep_cons rfl (keep_nil)))))) ?_)
          clear hK K
          refine R_seq fun K hK => ?_
          refine R_call (c_linchpinlaw3_awake) rfl rfl (.inr rfl) ?_
          refine R_mov rfl ?_
          refine G_yes rfl ?_
          refine R_loadA (cs := [_, _, _, _, _, _, _]) rfl rfl rfl rfl ?_
          refine G_yes rfl ?_
          refine R_loadA (cs := [_, _, _, _, _, _, _]) rfl rfl rfl rfl ?_
          refine G_yes rfl ?_
          refine R_call (g_compare (cGood.of l _) (cGood.of l _)) rfl rfl (.inr rfl) ?_
          refine G_yes rfl ?_
          refine R_mov rfl ?_
          refine G_yes rfl ?_
          refine R_neg rfl (by have bd := mInts_bd (m := cN (cu l 0)) (n := cN (cu l 6)); exact wrap_i64 (by omega) (by omega)) ?_
          refine G_yes rfl ?_
          refine R_eqI rfl rfl ?_
          refine R_pick rfl rfl ?_
          refine R_mov rfl ?_
          refine G_split (g := 66) rfl (fun h27 => ?_) (fun h27 => ?_)
          · try rw [h27]
            try simp only [decide_eq_true_eq, decide_eq_false_iff_not, Bool.not_eq_eq_eq_not, Bool.not_true, Bool.not_false, mInts_lt, mInts_gt, mInts_le, mInts_zero] at h27
            refine G_yes rfl ?_
            refine R_mov rfl ?_
            refine R_pick rfl rfl ?_
            refine R_mov rfl ?_
            refine G_no rfl ?_
            refine R_pick rfl rfl ?_
            refine R_mov rfl ?_
            refine G_no rfl ?_
            refine G_no rfl ?_
            refine G_no rfl ?_
            refine G_no rfl ?_
            refine G_no rfl ?_
            refine G_no rfl ?_
            refine R_pick rfl rfl ?_
            refine R_mov rfl ?_
            refine hK _ _ (TW_keep (keep_cons rfl (keep_nil)) ?_)
            clear hK K
            refine T_ret ?_
            refine post_retB rfl ?_
            first | rfl | (exfalso; first | omega | exact absurd mInts_neg (by assumption)) | exact decide_eq_true (Eq.trans (decide_eq_decide.2 mInts_zero) (cN_eq (cGood.of l 0) (cGood.of l 6)).symm) | (simp only [← Bool.decide_and, ← Bool.decide_or, ← decide_not, decide_eq_decide, decide_eq_true_eq, decide_eq_false_iff_not, false_eq_decide_iff, true_eq_decide_iff, Bool.not_eq_true, Bool.and_eq_true, Bool.not_eq_true, not_true_eq_false, not_false_eq_true] at *; omega) | (simp only [← Bool.decide_and, ← Bool.decide_or, ← decide_not, decide_eq_decide, decide_eq_true_eq, decide_eq_false_iff_not, false_eq_decide_iff, true_eq_decide_iff, Bool.not_eq_true, Bool.and_eq_true, Bool.not_eq_true, not_true_eq_false, not_false_eq_true] at *; done)
          · try rw [h27]
            try simp only [decide_eq_true_eq, decide_eq_false_iff_not, Bool.not_eq_eq_eq_not, Bool.not_true, Bool.not_false, mInts_lt, mInts_gt, mInts_le, mInts_zero] at h27
            refine G_no rfl ?_
            refine R_pick rfl rfl ?_
            refine R_mov rfl ?_
            refine G_no rfl ?_
            refine R_pick rfl rfl ?_
            refine R_mov rfl ?_
            refine G_no rfl ?_
            refine G_no rfl ?_
            refine G_no rfl ?_
            refine G_no rfl ?_
            refine G_no rfl ?_
            refine G_no rfl ?_
            refine R_pick rfl rfl ?_
            refine R_mov rfl ?_
            refine hK _ _ (TW_keep (keep_cons rfl (keep_nil)) ?_)
            clear hK K
            refine T_ret ?_
            refine post_retB rfl ?_
            first | rfl | (exfalso; first | omega | exact absurd mInts_neg (by assumption)) | exact decide_eq_true (Eq.trans (decide_eq_decide.2 mInts_zero) (cN_eq (cGood.of l 0) (cGood.of l 6)).symm) | (simp only [← Bool.decide_and, ← Bool.decide_or, ← decide_not, decide_eq_decide, decide_eq_true_eq, decide_eq_false_iff_not, false_eq_decide_iff, true_eq_decide_iff, Bool.not_eq_true, Bool.and_eq_true, Bool.not_eq_true, not_true_eq_false, not_false_eq_true] at *; omega) | (simp only [← Bool.decide_and, ← Bool.decide_or, ← decide_not, decide_eq_decide, decide_eq_true_eq, decide_eq_false_iff_not, false_eq_decide_iff, true_eq_decide_iff, Bool.not_eq_true, Bool.and_eq_true, Bool.not_eq_true, not_true_eq_false, not_false_eq_true] at *; done)

theorem c_linchpinlaw3_CutAhead {l : List Int} (hv : ∀ x ∈ l, -9223372036854775808 ≤ x ∧ x ≤ 9223372036854775807) : Ok Try.prog 6 [dInts l] (.bool true) := by
  refine Ok.ofT tfol Try.func6 tp6 (Nat.le_of_ble_eq_true rfl) ?_
  show TW _ _ tf6.body _ _
  have lo := ahead_lo (vGood.of l 12 (12 + 1) (12 + 2) (12 + 3) (12 + 4))
  have hi := ahead_hi (vGood.of l 12 (12 + 1) (12 + 2) (12 + 3) (12 + 4))
  refine R_seq fun K hK => ?_
  refine R_mov rfl ?_
  refine hK _ _ (TW_keep (keep_cons rfl (keep_nil)) ?_)
  clear hK K
  refine R_seq fun K hK => ?_
  refine R_mov rfl ?_
  refine R_call (c_linchpinlaw0_Cut (by omega) (by omega) hv) rfl rfl (.inl rfl) ?_
  refine R_mov rfl ?_
  refine R_call (c_linchpinlaw0_Cut (by omega) (by omega) hv) rfl rfl (.inl rfl) ?_
  refine R_mov rfl ?_
  refine R_call (c_linchpinlaw0_Version (by omega) (by omega) hv) rfl rfl (.inl rfl) ?_
  refine R_alloc rfl ?_
  refine R_alloc rfl ?_
  refine R_alloc rfl ?_
  refine R_store rfl rfl rfl rfl rfl rfl rfl rfl ?_
  refine R_store rfl rfl rfl rfl rfl rfl rfl rfl ?_
  refine R_store rfl rfl rfl rfl rfl rfl rfl rfl ?_
  refine hK _ _ (TW_keep (keep_cons rfl (keep_cons rfl (keep_cons rfl (keep_nil)))) ?_)
  clear hK K
  refine T_seq ?_ -- 0
  refine R_seq fun K hK => ?_
  refine R_loadA (cs := [_, _, _, _, _, _, _]) rfl rfl rfl rfl ?_
  refine R_loadA (cs := [_, _, _, _, _, _, _]) rfl rfl rfl rfl ?_
  refine R_call (g_compare (cGood.of l _) (cGood.of l _)) rfl rfl (.inr rfl) ?_
  refine R_gt rfl rfl ?_
  refine hK _ _ (TW_keep (keep_cons rfl (keep_cons rfl (keep_cons rfl (keep_cons rfl (keep_nil))))) ?_)
  clear hK K
  refine T_cond rfl (fun h1 => ?_) (fun h1 => ?_)
  · try rw [h1]
    try simp only [decide_eq_true_eq, decide_eq_false_iff_not, Bool.not_eq_eq_eq_not, Bool.not_true, Bool.not_false, mInts_lt, mInts_gt, mInts_le, mInts_zero] at h1
    refine R_last fun K hK => ?_
    refine R_loadA (cs := [_, _, _, _, _, _, _]) rfl rfl rfl rfl ?_
    refine R_loadA (cs := [_, _, _, _, _, _, _]) rfl rfl rfl rfl ?_
    refine R_store rfl rfl rfl rfl rfl rfl rfl rfl ?_
    refine R_store rfl rfl rfl rfl rfl rfl rfl rfl ?_
    refine hK _ ?_
    clear hK K
    refine seqT_keep (keep_cons rfl (keep_cons rfl (keep_cons rfl (keep_nil)))) ?_
    refine R_seq fun K hK => ?_
    refine R_call (c_linchpinlaw3_awake) rfl rfl (.inr rfl) ?_
    refine R_mov rfl ?_
    refine G_yes rfl ?_
    refine R_loadA (cs := [_, _, _, _, _, _, _]) rfl rfl rfl rfl ?_
    refine G_yes rfl ?_
    refine R_loadA (cs := [_, _, _, _, _]) rfl rfl rfl rfl ?_
    refine G_yes rfl ?_
    refine R_call (g_ahead (cGood.of l _) (vGood.of l _ _ _ _ _)) rfl rfl (.inr rfl) ?_
    refine G_yes rfl ?_
    refine R_not rfl ?_
    refine G_yes rfl ?_
    refine R_mov rfl ?_
    refine G_split (g := 24) rfl (fun h2 => ?_) (fun h2 => ?_)
    · try rw [h2]
      try simp only [decide_eq_true_eq, decide_eq_false_iff_not, Bool.not_eq_eq_eq_not, Bool.not_true, Bool.not_false, mInts_lt, mInts_gt, mInts_le, mInts_zero] at h2
      refine G_no rfl ?_
      refine G_no rfl ?_
      refine G_no rfl ?_
      refine G_yes rfl ?_
      refine R_pick rfl rfl ?_
      refine R_pick rfl rfl ?_
      refine R_mov rfl ?_
      refine G_yes rfl ?_
      refine R_build rfl rfl ?_
      refine G_yes rfl ?_
      refine R_loadA (cs := [_, _, _, _, _]) rfl rfl rfl rfl ?_
      refine G_yes rfl ?_
      refine R_call (g_ahead (x := ⟨-1, 0, 0, 0, [], [], false⟩) cGood.lo (vGood.of l _ _ _ _ _)) rfl rfl (.inr rfl) ?_
      refine R_pick rfl rfl ?_
      refine R_mov rfl ?_
      refine G_split (g := 35) rfl (fun h3 => ?_) (fun h3 => ?_)
      · try rw [h3]
        try simp only [decide_eq_true_eq, decide_eq_false_iff_not, Bool.not_eq_eq_eq_not, Bool.not_true, Bool.not_false, mInts_lt, mInts_gt, mInts_le, mInts_zero] at h3
        refine G_yes rfl ?_
        refine R_build rfl rfl ?_
        refine G_yes rfl ?_
        refine R_loadA (cs := [_, _, _, _, _]) rfl rfl rfl rfl ?_
        refine G_yes rfl ?_
        refine R_call (g_ahead (x := ⟨1, 0, 0, 0, [], [], false⟩) cGood.hi (vGood.of l _ _ _ _ _)) rfl rfl (.inr rfl) ?_
        refine G_yes rfl ?_
        refine R_not rfl ?_
        refine R_pick rfl rfl ?_
        refine R_mov rfl ?_
        refine hK _ _ (TW_keep (keep_cons rfl (keep_nil)) ?_)
        clear hK K
        refine T_ret ?_
        refine post_retB rfl ?_
        first | rfl | (exfalso; first | omega | exact absurd mInts_neg (by assumption)) | exact decide_eq_true (Eq.trans (decide_eq_decide.2 mInts_zero) (cN_eq (cGood.of l 0) (cGood.of l 6)).symm) | (simp only [← Bool.decide_and, ← Bool.decide_or, ← decide_not, decide_eq_decide, decide_eq_true_eq, decide_eq_false_iff_not, false_eq_decide_iff, true_eq_decide_iff, Bool.not_eq_true, Bool.and_eq_true, Bool.not_eq_true, not_true_eq_false, not_false_eq_true] at *; omega) | (simp only [← Bool.decide_and, ← Bool.decide_or, ← decide_not, decide_eq_decide, decide_eq_true_eq, decide_eq_false_iff_not, false_eq_decide_iff, true_eq_decide_iff, Bool.not_eq_true, Bool.and_eq_true, Bool.not_eq_true, not_true_eq_false, not_false_eq_true] at *; done)
      · try rw [h3]
        try simp only [decide_eq_true_eq, decide_eq_false_iff_not, Bool.not_eq_eq_eq_not, Bool.not_true, Bool.not_false, mInts_lt, mInts_gt, mInts_le, mInts_zero] at h3
        refine G_no rfl ?_
        refine G_no rfl ?_
        refine G_no rfl ?_
        refine G_no rfl ?_
        refine R_pick rfl rfl ?_
        refine R_mov rfl ?_
        refine hK _ _ (TW_keep (keep_cons rfl (keep_nil)) ?_)
        clear hK K
        refine T_ret ?_
        refine post_retB rfl ?_
        first | rfl | (exfalso; first | omega | exact absurd mInts_neg (by assumption)) | exact decide_eq_true (Eq.trans (decide_eq_decide.2 mInts_zero) (cN_eq (cGood.of l 0) (cGood.of l 6)).symm) | (simp only [← Bool.decide_and, ← Bool.decide_or, ← decide_not, decide_eq_decide, decide_eq_true_eq, decide_eq_false_iff_not, false_eq_decide_iff, true_eq_decide_iff, Bool.not_eq_true, Bool.and_eq_true, Bool.not_eq_true, not_true_eq_false, not_false_eq_true] at *; omega) | (simp only [← Bool.decide_and, ← Bool.decide_or, ← decide_not, decide_eq_decide, decide_eq_true_eq, decide_eq_false_iff_not, false_eq_decide_iff, true_eq_decide_iff, Bool.not_eq_true, Bool.and_eq_true, Bool.not_eq_true, not_true_eq_false, not_false_eq_true] at *; done)
    · try rw [h2]
      try simp only [decide_eq_true_eq, decide_eq_false_iff_not, Bool.not_eq_eq_eq_not, Bool.not_true, Bool.not_false, mInts_lt, mInts_gt, mInts_le, mInts_zero] at h2
      refine G_yes rfl ?_
      refine R_loadA (cs := [_, _, _, _, _, _, _]) rfl rfl rfl rfl ?_
      refine G_yes rfl ?_
      refine R_loadA (cs := [_, _, _, _, _]) rfl rfl rfl rfl ?_
      refine G_yes rfl ?_
      refine R_call (g_ahead (cGood.of l _) (vGood.of l _ _ _ _ _)) rfl rfl (.inr rfl) ?_
      refine G_yes rfl ?_
      refine R_pick rfl rfl ?_
      refine R_pick rfl rfl ?_
      refine R_mov rfl ?_
      refine G_split (g := 30) rfl (fun h4 => ?_) (fun h4 => ?_)
      · try rw [h4]
        try simp only [decide_eq_true_eq, decide_eq_false_iff_not, Bool.not_eq_eq_eq_not, Bool.not_true, Bool.not_false, mInts_lt, mInts_gt, mInts_le, mInts_zero] at h4
        refine G_yes rfl ?_
        refine R_build rfl rfl ?_
        refine G_yes rfl ?_
        refine R_loadA (cs := [_, _, _, _, _]) rfl rfl rfl rfl ?_
        refine G_yes rfl ?_
        refine R_call (g_ahead (x := ⟨-1, 0, 0, 0, [], [], false⟩) cGood.lo (vGood.of l _ _ _ _ _)) rfl rfl (.inr rfl) ?_
        refine R_pick rfl rfl ?_
        refine R_mov rfl ?_
        refine G_split (g := 35) rfl (fun h5 => ?_) (fun h5 => ?_)
        · try rw [h5]
          try simp only [decide_eq_true_eq, decide_eq_false_iff_not, Bool.not_eq_eq_eq_not, Bool.not_true, Bool.not_false, mInts_lt, mInts_gt, mInts_le, mInts_zero] at h5
          refine G_yes rfl ?_
          refine R_build rfl rfl ?_
          refine G_yes rfl ?_
          refine R_loadA (cs := [_, _, _, _, _]) rfl rfl rfl rfl ?_
          refine G_yes rfl ?_
          refine R_call (g_ahead (x := ⟨1, 0, 0, 0, [], [], false⟩) cGood.hi (vGood.of l _ _ _ _ _)) rfl rfl (.inr rfl) ?_
          refine G_yes rfl ?_
          refine R_not rfl ?_
          refine R_pick rfl rfl ?_
          refine R_mov rfl ?_
          refine hK _ _ (TW_keep (keep_cons rfl (keep_nil)) ?_)
          clear hK K
          refine T_ret ?_
          refine post_retB rfl ?_
          first | rfl | (exfalso; first | omega | exact absurd mInts_neg (by assumption)) | exact decide_eq_true (Eq.trans (decide_eq_decide.2 mInts_zero) (cN_eq (cGood.of l 0) (cGood.of l 6)).symm) | (simp only [← Bool.decide_and, ← Bool.decide_or, ← decide_not, decide_eq_decide, decide_eq_true_eq, decide_eq_false_iff_not, false_eq_decide_iff, true_eq_decide_iff, Bool.not_eq_true, Bool.and_eq_true, Bool.not_eq_true, not_true_eq_false, not_false_eq_true] at *; omega) | (simp only [← Bool.decide_and, ← Bool.decide_or, ← decide_not, decide_eq_decide, decide_eq_true_eq, decide_eq_false_iff_not, false_eq_decide_iff, true_eq_decide_iff, Bool.not_eq_true, Bool.and_eq_true, Bool.not_eq_true, not_true_eq_false, not_false_eq_true] at *; done)
        · try rw [h5]
          try simp only [decide_eq_true_eq, decide_eq_false_iff_not, Bool.not_eq_eq_eq_not, Bool.not_true, Bool.not_false, mInts_lt, mInts_gt, mInts_le, mInts_zero] at h5
          refine G_no rfl ?_
          refine G_no rfl ?_
          refine G_no rfl ?_
          refine G_no rfl ?_
          refine R_pick rfl rfl ?_
          refine R_mov rfl ?_
          refine hK _ _ (TW_keep (keep_cons rfl (keep_nil)) ?_)
          clear hK K
          refine T_ret ?_
          refine post_retB rfl ?_
          first | rfl | (exfalso; first | omega | exact absurd mInts_neg (by assumption)) | exact decide_eq_true (Eq.trans (decide_eq_decide.2 mInts_zero) (cN_eq (cGood.of l 0) (cGood.of l 6)).symm) | (simp only [← Bool.decide_and, ← Bool.decide_or, ← decide_not, decide_eq_decide, decide_eq_true_eq, decide_eq_false_iff_not, false_eq_decide_iff, true_eq_decide_iff, Bool.not_eq_true, Bool.and_eq_true, Bool.not_eq_true, not_true_eq_false, not_false_eq_true] at *; omega) | (simp only [← Bool.decide_and, ← Bool.decide_or, ← decide_not, decide_eq_decide, decide_eq_true_eq, decide_eq_false_iff_not, false_eq_decide_iff, true_eq_decide_iff, Bool.not_eq_true, Bool.and_eq_true, Bool.not_eq_true, not_true_eq_false, not_false_eq_true] at *; done)
      · try rw [h4]
        try simp only [decide_eq_true_eq, decide_eq_false_iff_not, Bool.not_eq_eq_eq_not, Bool.not_true, Bool.not_false, mInts_lt, mInts_gt, mInts_le, mInts_zero] at h4
        refine G_no rfl ?_
        refine G_no rfl ?_
        refine G_no rfl ?_
        refine R_pick rfl rfl ?_
        refine R_mov rfl ?_
        refine G_no rfl ?_
        refine G_no rfl ?_
        refine G_no rfl ?_
        refine G_no rfl ?_
        refine R_pick rfl rfl ?_
        refine R_mov rfl ?_
        refine hK _ _ (TW_keep (keep_cons rfl (keep_nil)) ?_)
        clear hK K
        refine T_ret ?_
        refine post_retB rfl ?_
        first | rfl | (exfalso; first | omega | exact absurd mInts_neg (by assumption)) | exact decide_eq_true (Eq.trans (decide_eq_decide.2 mInts_zero) (cN_eq (cGood.of l 0) (cGood.of l 6)).symm) | (simp only [← Bool.decide_and, ← Bool.decide_or, ← decide_not, decide_eq_decide, decide_eq_true_eq, decide_eq_false_iff_not, false_eq_decide_iff, true_eq_decide_iff, Bool.not_eq_true, Bool.and_eq_true, Bool.not_eq_true, not_true_eq_false, not_false_eq_true] at *; omega) | (simp only [← Bool.decide_and, ← Bool.decide_or, ← decide_not, decide_eq_decide, decide_eq_true_eq, decide_eq_false_iff_not, false_eq_decide_iff, true_eq_decide_iff, Bool.not_eq_true, Bool.and_eq_true, Bool.not_eq_true, not_true_eq_false, not_false_eq_true] at *; done)
  · try rw [h1]
    try simp only [decide_eq_true_eq, decide_eq_false_iff_not, Bool.not_eq_eq_eq_not, Bool.not_true, Bool.not_false, mInts_lt, mInts_gt, mInts_le, mInts_zero] at h1
    refine T_skip ?_
    refine seqT_keep (keep_cons rfl (keep_cons rfl (keep_cons rfl (keep_nil)))) ?_
    refine R_seq fun K hK => ?_
    refine R_call (c_linchpinlaw3_awake) rfl rfl (.inr rfl) ?_
    refine R_mov rfl ?_
    refine G_yes rfl ?_
    refine R_loadA (cs := [_, _, _, _, _, _, _]) rfl rfl rfl rfl ?_
    refine G_yes rfl ?_
    refine R_loadA (cs := [_, _, _, _, _]) rfl rfl rfl rfl ?_
    refine G_yes rfl ?_
    refine R_call (g_ahead (cGood.of l _) (vGood.of l _ _ _ _ _)) rfl rfl (.inr rfl) ?_
    refine G_yes rfl ?_
    refine R_not rfl ?_
    refine G_yes rfl ?_
    refine R_mov rfl ?_
    refine G_split (g := 24) rfl (fun h6 => ?_) (fun h6 => ?_)
    · try rw [h6]
      try simp only [decide_eq_true_eq, decide_eq_false_iff_not, Bool.not_eq_eq_eq_not, Bool.not_true, Bool.not_false, mInts_lt, mInts_gt, mInts_le, mInts_zero] at h6
      refine G_no rfl ?_
      refine G_no rfl ?_
      refine G_no rfl ?_
      refine G_yes rfl ?_
      refine R_pick rfl rfl ?_
      refine R_pick rfl rfl ?_
      refine R_mov rfl ?_
      refine G_yes rfl ?_
      refine R_build rfl rfl ?_
      refine G_yes rfl ?_
      refine R_loadA (cs := [_, _, _, _, _]) rfl rfl rfl rfl ?_
      refine G_yes rfl ?_
      refine R_call (g_ahead (x := ⟨-1, 0, 0, 0, [], [], false⟩) cGood.lo (vGood.of l _ _ _ _ _)) rfl rfl (.inr rfl) ?_
      refine R_pick rfl rfl ?_
      refine R_mov rfl ?_
      refine G_split (g := 35) rfl (fun h7 => ?_) (fun h7 => ?_)
      · try rw [h7]
        try simp only [decide_eq_true_eq, decide_eq_false_iff_not, Bool.not_eq_eq_eq_not, Bool.not_true, Bool.not_false, mInts_lt, mInts_gt, mInts_le, mInts_zero] at h7
        refine G_yes rfl ?_
        refine R_build rfl rfl ?_
        refine G_yes rfl ?_
        refine R_loadA (cs := [_, _, _, _, _]) rfl rfl rfl rfl ?_
        refine G_yes rfl ?_
        refine R_call (g_ahead (x := ⟨1, 0, 0, 0, [], [], false⟩) cGood.hi (vGood.of l _ _ _ _ _)) rfl rfl (.inr rfl) ?_
        refine G_yes rfl ?_
        refine R_not rfl ?_
        refine R_pick rfl rfl ?_
        refine R_mov rfl ?_
        refine hK _ _ (TW_keep (keep_cons rfl (keep_nil)) ?_)
        clear hK K
        refine T_ret ?_
        refine post_retB rfl ?_
        first | rfl | (exfalso; first | omega | exact absurd mInts_neg (by assumption)) | exact decide_eq_true (Eq.trans (decide_eq_decide.2 mInts_zero) (cN_eq (cGood.of l 0) (cGood.of l 6)).symm) | (simp only [← Bool.decide_and, ← Bool.decide_or, ← decide_not, decide_eq_decide, decide_eq_true_eq, decide_eq_false_iff_not, false_eq_decide_iff, true_eq_decide_iff, Bool.not_eq_true, Bool.and_eq_true, Bool.not_eq_true, not_true_eq_false, not_false_eq_true] at *; omega) | (simp only [← Bool.decide_and, ← Bool.decide_or, ← decide_not, decide_eq_decide, decide_eq_true_eq, decide_eq_false_iff_not, false_eq_decide_iff, true_eq_decide_iff, Bool.not_eq_true, Bool.and_eq_true, Bool.not_eq_true, not_true_eq_false, not_false_eq_true] at *; done)
      · try rw [h7]
        try simp only [decide_eq_true_eq, decide_eq_false_iff_not, Bool.not_eq_eq_eq_not, Bool.not_true, Bool.not_false, mInts_lt, mInts_gt, mInts_le, mInts_zero] at h7
        refine G_no rfl ?_
        refine G_no rfl ?_
        refine G_no rfl ?_
        refine G_no rfl ?_
        refine R_pick rfl rfl ?_
        refine R_mov rfl ?_
        refine hK _ _ (TW_keep (keep_cons rfl (keep_nil)) ?_)
        clear hK K
        refine T_ret ?_
        refine post_retB rfl ?_
        first | rfl | (exfalso; first | omega | exact absurd mInts_neg (by assumption)) | exact decide_eq_true (Eq.trans (decide_eq_decide.2 mInts_zero) (cN_eq (cGood.of l 0) (cGood.of l 6)).symm) | (simp only [← Bool.decide_and, ← Bool.decide_or, ← decide_not, decide_eq_decide, decide_eq_true_eq, decide_eq_false_iff_not, false_eq_decide_iff, true_eq_decide_iff, Bool.not_eq_true, Bool.and_eq_true, Bool.not_eq_true, not_true_eq_false, not_false_eq_true] at *; omega) | (simp only [← Bool.decide_and, ← Bool.decide_or, ← decide_not, decide_eq_decide, decide_eq_true_eq, decide_eq_false_iff_not, false_eq_decide_iff, true_eq_decide_iff, Bool.not_eq_true, Bool.and_eq_true, Bool.not_eq_true, not_true_eq_false, not_false_eq_true] at *; done)
    · try rw [h6]
      try simp only [decide_eq_true_eq, decide_eq_false_iff_not, Bool.not_eq_eq_eq_not, Bool.not_true, Bool.not_false, mInts_lt, mInts_gt, mInts_le, mInts_zero] at h6
      refine G_yes rfl ?_
      refine R_loadA (cs := [_, _, _, _, _, _, _]) rfl rfl rfl rfl ?_
      refine G_yes rfl ?_
      refine R_loadA (cs := [_, _, _, _, _]) rfl rfl rfl rfl ?_
      refine G_yes rfl ?_
      refine R_call (g_ahead (cGood.of l _) (vGood.of l _ _ _ _ _)) rfl rfl (.inr rfl) ?_
      refine G_yes rfl ?_
      refine R_pick rfl rfl ?_
      refine R_pick rfl rfl ?_
      refine R_mov rfl ?_
      refine G_split (g := 30) rfl (fun h8 => ?_) (fun h8 => ?_)
      · try rw [h8]
        try simp only [decide_eq_true_eq, decide_eq_false_iff_not, Bool.not_eq_eq_eq_not, Bool.not_true, Bool.not_false, mInts_lt, mInts_gt, mInts_le, mInts_zero] at h8
        refine G_yes rfl ?_
        refine R_build rfl rfl ?_
        refine G_yes rfl ?_
        refine R_loadA (cs := [_, _, _, _, _]) rfl rfl rfl rfl ?_
        refine G_yes rfl ?_
        refine R_call (g_ahead (x := ⟨-1, 0, 0, 0, [], [], false⟩) cGood.lo (vGood.of l _ _ _ _ _)) rfl rfl (.inr rfl) ?_
        refine R_pick rfl rfl ?_
        refine R_mov rfl ?_
        refine G_split (g := 35) rfl (fun h9 => ?_) (fun h9 => ?_)
        · try rw [h9]
          try simp only [decide_eq_true_eq, decide_eq_false_iff_not, Bool.not_eq_eq_eq_not, Bool.not_true, Bool.not_false, mInts_lt, mInts_gt, mInts_le, mInts_zero] at h9
          refine G_yes rfl ?_
          refine R_build rfl rfl ?_
          refine G_yes rfl ?_
          refine R_loadA (cs := [_, _, _, _, _]) rfl rfl rfl rfl ?_
          refine G_yes rfl ?_
          refine R_call (g_ahead (x := ⟨1, 0, 0, 0, [], [], false⟩) cGood.hi (vGood.of l _ _ _ _ _)) rfl rfl (.inr rfl) ?_
          refine G_yes rfl ?_
          refine R_not rfl ?_
          refine R_pick rfl rfl ?_
          refine R_mov rfl ?_
          refine hK _ _ (TW_keep (keep_cons rfl (keep_nil)) ?_)
          clear hK K
          refine T_ret ?_
          refine post_retB rfl ?_
          first | rfl | (exfalso; first | omega | exact absurd mInts_neg (by assumption)) | exact decide_eq_true (Eq.trans (decide_eq_decide.2 mInts_zero) (cN_eq (cGood.of l 0) (cGood.of l 6)).symm) | (simp only [← Bool.decide_and, ← Bool.decide_or, ← decide_not, decide_eq_decide, decide_eq_true_eq, decide_eq_false_iff_not, false_eq_decide_iff, true_eq_decide_iff, Bool.not_eq_true, Bool.and_eq_true, Bool.not_eq_true, not_true_eq_false, not_false_eq_true] at *; omega) | (simp only [← Bool.decide_and, ← Bool.decide_or, ← decide_not, decide_eq_decide, decide_eq_true_eq, decide_eq_false_iff_not, false_eq_decide_iff, true_eq_decide_iff, Bool.not_eq_true, Bool.and_eq_true, Bool.not_eq_true, not_true_eq_false, not_false_eq_true] at *; done)
        · try rw [h9]
          try simp only [decide_eq_true_eq, decide_eq_false_iff_not, Bool.not_eq_eq_eq_not, Bool.not_true, Bool.not_false, mInts_lt, mInts_gt, mInts_le, mInts_zero] at h9
          refine G_no rfl ?_
          refine G_no rfl ?_
          refine G_no rfl ?_
          refine G_no rfl ?_
          refine R_pick rfl rfl ?_
          refine R_mov rfl ?_
          refine hK _ _ (TW_keep (keep_cons rfl (keep_nil)) ?_)
          clear hK K
          refine T_ret ?_
          refine post_retB rfl ?_
          first | rfl | (exfalso; first | omega | exact absurd mInts_neg (by assumption)) | exact decide_eq_true (Eq.trans (decide_eq_decide.2 mInts_zero) (cN_eq (cGood.of l 0) (cGood.of l 6)).symm) | (simp only [← Bool.decide_and, ← Bool.decide_or, ← decide_not, decide_eq_decide, decide_eq_true_eq, decide_eq_false_iff_not, false_eq_decide_iff, true_eq_decide_iff, Bool.not_eq_true, Bool.and_eq_true, Bool.not_eq_true, not_true_eq_false, not_false_eq_true] at *; omega) | (simp only [← Bool.decide_and, ← Bool.decide_or, ← decide_not, decide_eq_decide, decide_eq_true_eq, decide_eq_false_iff_not, false_eq_decide_iff, true_eq_decide_iff, Bool.not_eq_true, Bool.and_eq_true, Bool.not_eq_true, not_true_eq_false, not_false_eq_true] at *; done)
      · try rw [h8]
        try simp only [decide_eq_true_eq, decide_eq_false_iff_not, Bool.not_eq_eq_eq_not, Bool.not_true, Bool.not_false, mInts_lt, mInts_gt, mInts_le, mInts_zero] at h8
        refine G_no rfl ?_
        refine G_no rfl ?_
        refine G_no rfl ?_
        refine R_pick rfl rfl ?_
        refine R_mov rfl ?_
        refine G_no rfl ?_
        refine G_no rfl ?_
        refine G_no rfl ?_
        refine G_no rfl ?_
        refine R_pick rfl rfl ?_
        refine R_mov rfl ?_
        refine hK _ _ (TW_keep (keep_cons rfl (keep_nil)) ?_)
        clear hK K
        refine T_ret ?_
        refine post_retB rfl ?_
        first | rfl | (exfalso; first | omega | exact absurd mInts_neg (by assumption)) | exact decide_eq_true (Eq.trans (decide_eq_decide.2 mInts_zero) (cN_eq (cGood.of l 0) (cGood.of l 6)).symm) | (simp only [← Bool.decide_and, ← Bool.decide_or, ← decide_not, decide_eq_decide, decide_eq_true_eq, decide_eq_false_iff_not, false_eq_decide_iff, true_eq_decide_iff, Bool.not_eq_true, Bool.and_eq_true, Bool.not_eq_true, not_true_eq_false, not_false_eq_true] at *; omega) | (simp only [← Bool.decide_and, ← Bool.decide_or, ← decide_not, decide_eq_decide, decide_eq_true_eq, decide_eq_false_iff_not, false_eq_decide_iff, true_eq_decide_iff, Bool.not_eq_true, Bool.and_eq_true, Bool.not_eq_true, not_true_eq_false, not_false_eq_true] at *; done)

theorem c_linchpinlaw3_CutBeside {l : List Int} (hv : ∀ x ∈ l, -9223372036854775808 ≤ x ∧ x ≤ 9223372036854775807) : Ok Try.prog 7 [dInts l] (.bool true) := by
  refine Ok.ofT tfol Try.func7 tp7 (Nat.le_of_ble_eq_true rfl) ?_
  show TW _ _ tf7.body _ _
  refine R_seq fun K hK => ?_
  refine R_mov rfl ?_
  refine hK _ _ (TW_keep (keep_cons rfl (keep_nil)) ?_)
  clear hK K
  refine R_seq fun K hK => ?_
  refine R_mov rfl ?_
  refine R_call (c_linchpinlaw0_Version (by omega) (by omega) hv) rfl rfl (.inl rfl) ?_
  refine R_mov rfl ?_
  refine R_call (c_linchpinlaw0_Version (by omega) (by omega) hv) rfl rfl (.inl rfl) ?_
  refine R_alloc rfl ?_
  refine R_alloc rfl ?_
  refine R_store rfl rfl rfl rfl rfl rfl rfl rfl ?_
  refine R_store rfl rfl rfl rfl rfl rfl rfl rfl ?_
  refine hK _ _ (TW_keep (keep_cons rfl (keep_cons rfl (keep_nil))) ?_)
  clear hK K
  refine R_seq fun K hK => ?_
  refine R_loadA (cs := [_, _, _, _, _]) rfl rfl rfl rfl ?_
  refine R_call (c_version_Core) rfl rfl (.inl rfl) ?_
  refine R_alloc rfl ?_
  refine R_store rfl rfl rfl rfl rfl rfl rfl rfl ?_
  refine hK _ _ (TW_keep (keep_cons rfl (keep_cons rfl (keep_cons rfl (keep_nil)))) ?_)
  clear hK K
  refine R_seq fun K hK => ?_
  refine R_loadA (cs := [_, _, _, _, _]) rfl rfl rfl rfl ?_
  refine R_build rfl rfl ?_
  refine R_loadA (cs := [_, _, _, _, _]) rfl rfl rfl rfl ?_
  refine R_build rfl rfl ?_
  refine R_build rfl rfl ?_
  refine R_alloc rfl ?_
  refine R_store rfl rfl rfl rfl rfl rfl rfl rfl ?_
  refine hK _ _ (TW_keep (keep_cons rfl (keep_cons rfl (keep_cons rfl (keep_nil)))) ?_)
  clear hK K
  refine R_seq fun K hK => ?_
  refine R_callD (c_linchpinlaw3_awake) rfl rfl (.inr rfl) rfl ?_
  refine R_mov rfl ?_
  refine G_yes rfl ?_
  refine R_loadAD (cs := [_, _, _, _, _, _, _, _, _, _, _, _, _, _]) rfl rfl rfl rfl rfl ?_
  refine G_yes rfl ?_
  refine R_callD (g_span (x := ⟨0, vNum l 0, vNum l (0 + 1), vNum l (0 + 2), vPre l (0 + 3), [], false⟩) (y := ⟨0, vNum l 0, vNum l (0 + 1), vNum l (0 + 2), vPre l (0 + 3), [], true⟩) (cGood.cut (vGood.of l 0 (0 + 1) (0 + 2) (0 + 3) (0 + 4))) (cGood.cut (vGood.of l 0 (0 + 1) (0 + 2) (0 + 3) (0 + 4)))) rfl rfl (.inr rfl) rfl ?_
  refine R_pick rfl rfl ?_
  refine R_mov rfl ?_
  refine G_split (g := 23) rfl (fun h1 => ?_) (fun h1 => ?_)
  · try rw [h1]
    try simp only [decide_eq_true_eq, decide_eq_false_iff_not, Bool.not_eq_eq_eq_not, Bool.not_true, Bool.not_false, mInts_lt, mInts_gt, mInts_le, mInts_zero, cN_at, cN_behind, Bool.and_eq_true] at h1
    refine G_yes rfl ?_
    refine R_loadAD (cs := [_, _, _, _, _, _, _, _, _, _, _, _, _, _]) rfl rfl rfl rfl rfl ?_
    refine G_yes rfl ?_
    refine R_loadAD (cs := [_, _, _, _, _]) rfl rfl rfl rfl rfl ?_
    refine G_yes rfl ?_
    refine R_callD (g_holds (x := ⟨0, vNum l 0, vNum l (0 + 1), vNum l (0 + 2), vPre l (0 + 3), [], false⟩) (y := ⟨0, vNum l 0, vNum l (0 + 1), vNum l (0 + 2), vPre l (0 + 3), [], true⟩) (cGood.cut (vGood.of l 0 (0 + 1) (0 + 2) (0 + 3) (0 + 4))) (cGood.cut (vGood.of l 0 (0 + 1) (0 + 2) (0 + 3) (0 + 4))) (vGood.of l _ _ _ _ _)) rfl rfl (.inr rfl) rfl ?_
    refine G_yes rfl ?_
    refine R_loadAD (cs := [_, _, _, _, _]) rfl rfl rfl rfl rfl ?_
    refine G_yes rfl ?_
    refine R_loadAD (cs := [_, _, _, _, _]) rfl rfl rfl rfl rfl ?_
    refine G_yes rfl ?_
    refine R_callD (g_vcmp (vGood.of l _ _ _ _ _) (vGood.of l _ _ _ _ _)) rfl rfl (.inr rfl) rfl ?_
    refine G_yes rfl ?_
    refine R_eqI rfl rfl ?_
    refine G_yes rfl ?_
    refine R_eqB rfl rfl ?_
    refine R_pick rfl rfl ?_
    refine R_mov rfl ?_
    refine G_split (g := 33) rfl (fun h2 => ?_) (fun h2 => ?_)
    · try rw [h2]
      try simp only [decide_eq_true_eq, decide_eq_false_iff_not, Bool.not_eq_eq_eq_not, Bool.not_true, Bool.not_false, mInts_lt, mInts_gt, mInts_le, mInts_zero, cN_at, cN_behind, Bool.and_eq_true] at h2
      refine G_yes rfl ?_
      refine R_loadAD (cs := [_, _, _, _, _, _, _, _, _, _, _, _, _, _]) rfl rfl rfl rfl rfl ?_
      refine G_yes rfl ?_
      refine R_loadAD (cs := [_, _, _, _, _]) rfl rfl rfl rfl rfl ?_
      refine G_yes rfl ?_
      refine R_callD (g_holds (x := ⟨0, vNum l 0, vNum l (0 + 1), vNum l (0 + 2), vPre l (0 + 3), [], false⟩) (y := ⟨0, vNum l 0, vNum l (0 + 1), vNum l (0 + 2), vPre l (0 + 3), [], true⟩) (cGood.cut (vGood.of l 0 (0 + 1) (0 + 2) (0 + 3) (0 + 4))) (cGood.cut (vGood.of l 0 (0 + 1) (0 + 2) (0 + 3) (0 + 4))) (vGood.of l _ _ _ _ _)) rfl rfl (.inr rfl) rfl ?_
      refine R_pick rfl rfl ?_
      refine R_mov rfl ?_
      refine hK _ _ (TW_keep (keep_cons rfl (keep_nil)) ?_)
      clear hK K
      refine T_ret ?_
      refine post_retB rfl ?_
      first | rfl | (exfalso; omega) | (simp only [cN_at, cN_behind, mInts_zero, ← Bool.decide_and, ← Bool.decide_or, ← decide_not, decide_eq_decide, decide_eq_true_eq, decide_eq_false_iff_not, false_eq_decide_iff, true_eq_decide_iff, Bool.not_eq_true, Bool.and_eq_true, Bool.not_eq_true, not_true_eq_false, not_false_eq_true] at *; omega) | (simp only [← Bool.decide_and, ← Bool.decide_or, ← decide_not, decide_eq_decide, decide_eq_true_eq, decide_eq_false_iff_not, false_eq_decide_iff, true_eq_decide_iff, Bool.not_eq_true, Bool.and_eq_true, Bool.not_eq_true, not_true_eq_false, not_false_eq_true] at *; omega) | (simp only [← Bool.decide_and, ← Bool.decide_or, ← decide_not, decide_eq_decide, decide_eq_true_eq, decide_eq_false_iff_not, false_eq_decide_iff, true_eq_decide_iff, Bool.not_eq_true, Bool.and_eq_true, Bool.not_eq_true, not_true_eq_false, not_false_eq_true] at *; done)
    · try rw [h2]
      try simp only [decide_eq_true_eq, decide_eq_false_iff_not, Bool.not_eq_eq_eq_not, Bool.not_true, Bool.not_false, mInts_lt, mInts_gt, mInts_le, mInts_zero, cN_at, cN_behind, Bool.and_eq_true] at h2
      refine G_no rfl ?_
      refine G_no rfl ?_
      refine G_no rfl ?_
      refine R_pick rfl rfl ?_
      refine R_mov rfl ?_
      refine hK _ _ (TW_keep (keep_cons rfl (keep_nil)) ?_)
      clear hK K
      refine T_ret ?_
      refine post_retB rfl ?_
      first | rfl | (exfalso; omega) | (simp only [cN_at, cN_behind, mInts_zero, ← Bool.decide_and, ← Bool.decide_or, ← decide_not, decide_eq_decide, decide_eq_true_eq, decide_eq_false_iff_not, false_eq_decide_iff, true_eq_decide_iff, Bool.not_eq_true, Bool.and_eq_true, Bool.not_eq_true, not_true_eq_false, not_false_eq_true] at *; omega) | (simp only [← Bool.decide_and, ← Bool.decide_or, ← decide_not, decide_eq_decide, decide_eq_true_eq, decide_eq_false_iff_not, false_eq_decide_iff, true_eq_decide_iff, Bool.not_eq_true, Bool.and_eq_true, Bool.not_eq_true, not_true_eq_false, not_false_eq_true] at *; omega) | (simp only [← Bool.decide_and, ← Bool.decide_or, ← decide_not, decide_eq_decide, decide_eq_true_eq, decide_eq_false_iff_not, false_eq_decide_iff, true_eq_decide_iff, Bool.not_eq_true, Bool.and_eq_true, Bool.not_eq_true, not_true_eq_false, not_false_eq_true] at *; done)
  · try rw [h1]
    try simp only [decide_eq_true_eq, decide_eq_false_iff_not, Bool.not_eq_eq_eq_not, Bool.not_true, Bool.not_false, mInts_lt, mInts_gt, mInts_le, mInts_zero, cN_at, cN_behind, Bool.and_eq_true] at h1
    refine G_no rfl ?_
    refine G_no rfl ?_
    refine G_no rfl ?_
    refine G_no rfl ?_
    refine G_no rfl ?_
    refine G_no rfl ?_
    refine G_no rfl ?_
    refine G_no rfl ?_
    refine R_pick rfl rfl ?_
    refine R_mov rfl ?_
    refine G_no rfl ?_
    refine G_no rfl ?_
    refine G_no rfl ?_
    refine R_pick rfl rfl ?_
    refine R_mov rfl ?_
    refine hK _ _ (TW_keep (keep_cons rfl (keep_nil)) ?_)
    clear hK K
    refine T_ret ?_
    refine post_retB rfl ?_
    first | rfl | (exfalso; omega) | (simp only [cN_at, cN_behind, mInts_zero, ← Bool.decide_and, ← Bool.decide_or, ← decide_not, decide_eq_decide, decide_eq_true_eq, decide_eq_false_iff_not, false_eq_decide_iff, true_eq_decide_iff, Bool.not_eq_true, Bool.and_eq_true, Bool.not_eq_true, not_true_eq_false, not_false_eq_true] at *; omega) | (simp only [← Bool.decide_and, ← Bool.decide_or, ← decide_not, decide_eq_decide, decide_eq_true_eq, decide_eq_false_iff_not, false_eq_decide_iff, true_eq_decide_iff, Bool.not_eq_true, Bool.and_eq_true, Bool.not_eq_true, not_true_eq_false, not_false_eq_true] at *; omega) | (simp only [← Bool.decide_and, ← Bool.decide_or, ← decide_not, decide_eq_decide, decide_eq_true_eq, decide_eq_false_iff_not, false_eq_decide_iff, true_eq_decide_iff, Bool.not_eq_true, Bool.and_eq_true, Bool.not_eq_true, not_true_eq_false, not_false_eq_true] at *; done)

theorem c_linchpinlaw3_CutMeets {l : List Int} (hv : ∀ x ∈ l, -9223372036854775808 ≤ x ∧ x ≤ 9223372036854775807) : Ok Try.prog 8 [dInts l] (.bool true) := by
  refine Ok.ofT tfol Try.func8 tp8 (Nat.le_of_ble_eq_true rfl) ?_
  show TW _ _ tf8.body _ _
  refine R_seq fun K hK => ?_
  refine R_mov rfl ?_
  refine hK _ _ (TW_keep (keep_cons rfl (keep_nil)) ?_)
  clear hK K
  refine R_seq fun K hK => ?_
  refine R_mov rfl ?_
  refine R_call (c_linchpinlaw0_Cut (by omega) (by omega) hv) rfl rfl (.inl rfl) ?_
  refine R_mov rfl ?_
  refine R_call (c_linchpinlaw0_Cut (by omega) (by omega) hv) rfl rfl (.inl rfl) ?_
  refine R_build rfl rfl ?_
  refine R_alloc rfl ?_
  refine R_store rfl rfl rfl rfl rfl rfl rfl rfl ?_
  refine hK _ _ (TW_keep (keep_cons rfl (keep_cons rfl (keep_nil))) ?_)
  clear hK K
  refine R_seq fun K hK => ?_
  refine R_mov rfl ?_
  refine R_call (c_linchpinlaw0_Cut (by omega) (by omega) hv) rfl rfl (.inl rfl) ?_
  refine R_mov rfl ?_
  refine R_call (c_linchpinlaw0_Cut (by omega) (by omega) hv) rfl rfl (.inl rfl) ?_
  refine R_build rfl rfl ?_
  refine R_alloc rfl ?_
  refine R_store rfl rfl rfl rfl rfl rfl rfl rfl ?_
  refine hK _ _ (TW_keep (keep_cons rfl (keep_cons rfl (keep_cons rfl (keep_nil)))) ?_)
  clear hK K
  refine R_seq fun K hK => ?_
  refine R_mov rfl ?_
  refine R_call (c_linchpinlaw0_Version (by omega) (by omega) hv) rfl rfl (.inl rfl) ?_
  refine R_alloc rfl ?_
  refine R_store rfl rfl rfl rfl rfl rfl rfl rfl ?_
  refine hK _ _ (TW_keep (keep_cons rfl (keep_cons rfl (keep_cons rfl (keep_nil)))) ?_)
  clear hK K
  refine R_seq fun K hK => ?_
  refine R_loadA (cs := [_, _, _, _, _, _, _, _, _, _, _, _, _, _]) rfl rfl rfl rfl ?_
  refine R_alloc rfl ?_
  refine R_store rfl rfl rfl rfl rfl rfl rfl rfl ?_
  refine hK _ _ (TW_keep (keep_cons rfl (keep_cons rfl (keep_cons rfl (keep_cons rfl (keep_nil))))) ?_)
  clear hK K
  refine T_seq ?_ -- 0
  refine R_seq fun K hK => ?_
  refine R_fieldR rfl rfl ?_
  refine R_loadA (cs := [_, _, _, _, _, _, _]) rfl rfl rfl rfl ?_
  refine R_fieldR rfl rfl ?_
  refine R_loadA (cs := [_, _, _, _, _, _, _]) rfl rfl rfl rfl ?_
  refine R_call (g_compare (cGood.of l _) (cGood.of l _)) rfl rfl (.inr rfl) ?_
  refine R_lt rfl rfl ?_
  refine hK _ _ (TW_keep (keep_cons rfl (keep_cons rfl (keep_cons rfl (keep_cons rfl (keep_cons rfl (keep_nil)))))) ?_)
  clear hK K
  refine T_cond rfl (fun h1 => ?_) (fun h1 => ?_)
  · try rw [h1]
    try simp only [decide_eq_true_eq, decide_eq_false_iff_not, Bool.not_eq_eq_eq_not, Bool.not_true, Bool.not_false, mInts_lt, mInts_gt, mInts_le, mInts_zero, Bool.and_eq_true] at h1
    refine R_last fun K hK => ?_
    refine R_fieldR rfl rfl ?_
    refine R_loadA (cs := [_, _, _, _, _, _, _]) rfl rfl rfl rfl ?_
    refine R_fieldR rfl rfl ?_
    refine R_store rfl rfl rfl rfl rfl rfl rfl rfl ?_
    refine hK _ ?_
    clear hK K
    refine seqT_keep (keep_cons rfl (keep_cons rfl (keep_cons rfl (keep_cons rfl (keep_nil))))) ?_
    refine T_seq ?_ -- 1
    refine R_seq fun K hK => ?_
    refine R_fieldR rfl rfl ?_
    refine R_loadA (cs := [_, _, _, _, _, _, _]) rfl rfl rfl rfl ?_
    refine R_fieldR rfl rfl ?_
    refine R_loadA (cs := [_, _, _, _, _, _, _]) rfl rfl rfl rfl ?_
    refine R_call (g_compare (cGood.of l _) (cGood.of l _)) rfl rfl (.inr rfl) ?_
    refine R_gt rfl rfl ?_
    refine hK _ _ (TW_keep (keep_cons rfl (keep_cons rfl (keep_cons rfl (keep_cons rfl (keep_cons rfl (keep_nil)))))) ?_)
    clear hK K
    refine T_cond rfl (fun h2 => ?_) (fun h2 => ?_)
    · try rw [h2]
      try simp only [decide_eq_true_eq, decide_eq_false_iff_not, Bool.not_eq_eq_eq_not, Bool.not_true, Bool.not_false, mInts_lt, mInts_gt, mInts_le, mInts_zero, Bool.and_eq_true] at h2
      refine R_last fun K hK => ?_
      refine R_fieldR rfl rfl ?_
      refine R_loadA (cs := [_, _, _, _, _, _, _]) rfl rfl rfl rfl ?_
      refine R_fieldR rfl rfl ?_
      refine R_store rfl rfl rfl rfl rfl rfl rfl rfl ?_
      refine hK _ ?_
      clear hK K
      refine seqT_keep (keep_cons rfl (keep_cons rfl (keep_cons rfl (keep_cons rfl (keep_nil))))) ?_
      refine T_seq ?_ -- 2
      refine R_seq fun K hK => ?_
      refine R_loadA (cs := [_, _, _, _, _, _, _, _, _, _, _, _, _, _]) rfl rfl rfl rfl ?_
      refine R_call (g_span (cGood.of l _) (cGood.of l _)) rfl rfl (.inr rfl) ?_
      refine R_not rfl ?_
      refine R_mov rfl ?_
      refine G_split (g := 41) rfl (fun h3 => ?_) (fun h3 => ?_)
      · try rw [h3]
        try simp only [decide_eq_true_eq, decide_eq_false_iff_not, Bool.not_eq_eq_eq_not, Bool.not_true, Bool.not_false, mInts_lt, mInts_gt, mInts_le, mInts_zero, Bool.and_eq_true] at h3
        refine G_no rfl ?_
        refine G_no rfl ?_
        refine G_no rfl ?_
        refine R_pick rfl rfl ?_
        refine hK _ _ (TW_keep (keep_cons rfl (keep_cons rfl (keep_cons rfl (keep_cons rfl (keep_cons rfl (keep_nil)))))) ?_)
        clear hK K
        refine T_condT rfl ?_
        refine R_seq fun K hK => ?_
        refine R_call (c_linchpinlaw3_awake) rfl rfl (.inr rfl) ?_
        refine R_mov rfl ?_
        refine hK _ _ (TW_keep (keep_cons rfl (keep_nil)) ?_)
        clear hK K
        refine T_ret ?_
        refine seqT_ret ?_
        refine post_retB rfl ?_
        first | rfl | (simp only [← Bool.decide_and, ← Bool.decide_or, ← decide_not, decide_eq_decide, decide_eq_true_eq, decide_eq_false_iff_not, false_eq_decide_iff, true_eq_decide_iff, Bool.not_eq_true, Bool.and_eq_true, Bool.not_eq_true, not_true_eq_false, not_false_eq_true] at *; omega) | (simp only [← Bool.decide_and, ← Bool.decide_or, ← decide_not, decide_eq_decide, decide_eq_true_eq, decide_eq_false_iff_not, false_eq_decide_iff, true_eq_decide_iff, Bool.not_eq_true, Bool.and_eq_true, Bool.not_eq_true, not_true_eq_false, not_false_eq_true] at *; done)
      · try rw [h3]
        try simp only [decide_eq_true_eq, decide_eq_false_iff_not, Bool.not_eq_eq_eq_not, Bool.not_true, Bool.not_false, mInts_lt, mInts_gt, mInts_le, mInts_zero, Bool.and_eq_true] at h3
        refine G_yes rfl ?_
        refine R_loadA (cs := [_, _, _, _, _, _, _, _, _, _, _, _, _, _]) rfl rfl rfl rfl ?_
        refine G_yes rfl ?_
        refine R_call (g_span (cGood.of l _) (cGood.of l _)) rfl rfl (.inr rfl) ?_
        refine G_yes rfl ?_
        refine R_not rfl ?_
        refine R_pick rfl rfl ?_
        refine hK _ _ (TW_keep (keep_cons rfl (keep_cons rfl (keep_cons rfl (keep_cons rfl (keep_cons rfl (keep_nil)))))) ?_)
        clear hK K
        refine T_cond rfl (fun h4 => ?_) (fun h4 => ?_)
        · try rw [h4]
          try simp only [decide_eq_true_eq, decide_eq_false_iff_not, Bool.not_eq_eq_eq_not, Bool.not_true, Bool.not_false, mInts_lt, mInts_gt, mInts_le, mInts_zero, Bool.and_eq_true] at h4
          refine R_seq fun K hK => ?_
          refine R_call (c_linchpinlaw3_awake) rfl rfl (.inr rfl) ?_
          refine R_mov rfl ?_
          refine hK _ _ (TW_keep (keep_cons rfl (keep_nil)) ?_)
          clear hK K
          refine T_ret ?_
          refine seqT_ret ?_
          refine post_retB rfl ?_
          first | rfl | (simp only [← Bool.decide_and, ← Bool.decide_or, ← decide_not, decide_eq_decide, decide_eq_true_eq, decide_eq_false_iff_not, false_eq_decide_iff, true_eq_decide_iff, Bool.not_eq_true, Bool.and_eq_true, Bool.not_eq_true, not_true_eq_false, not_false_eq_true] at *; omega) | (simp only [← Bool.decide_and, ← Bool.decide_or, ← decide_not, decide_eq_decide, decide_eq_true_eq, decide_eq_false_iff_not, false_eq_decide_iff, true_eq_decide_iff, Bool.not_eq_true, Bool.and_eq_true, Bool.not_eq_true, not_true_eq_false, not_false_eq_true] at *; done)
        · try rw [h4]
          try simp only [decide_eq_true_eq, decide_eq_false_iff_not, Bool.not_eq_eq_eq_not, Bool.not_true, Bool.not_false, mInts_lt, mInts_gt, mInts_le, mInts_zero, Bool.and_eq_true] at h4
          refine T_skip ?_
          refine seqT_keep (keep_cons rfl (keep_cons rfl (keep_cons rfl (keep_cons rfl (keep_nil))))) ?_
          refine R_seq fun K hK => ?_
          refine R_callD (c_linchpinlaw3_awake) rfl rfl (.inr rfl) rfl ?_
          refine R_mov rfl ?_
          refine G_yes rfl ?_
          refine R_loadAD (cs := [_, _, _, _, _, _, _, _, _, _, _, _, _, _]) rfl rfl rfl rfl rfl ?_
          refine G_yes rfl ?_
          refine R_loadAD (cs := [_, _, _, _, _]) rfl rfl rfl rfl rfl ?_
          refine G_yes rfl ?_
          refine R_callD (g_holds (cGood.of l _) (cGood.of l _) (vGood.of l _ _ _ _ _)) rfl rfl (.inr rfl) rfl ?_
          refine G_yes rfl ?_
          refine R_mov rfl ?_
          refine G_split (g := 52) rfl (fun h5 => ?_) (fun h5 => ?_)
          · try rw [h5]
            try simp only [decide_eq_true_eq, decide_eq_false_iff_not, Bool.not_eq_eq_eq_not, Bool.not_true, Bool.not_false, mInts_lt, mInts_gt, mInts_le, mInts_zero, Bool.and_eq_true] at h5
            refine G_yes rfl ?_
            refine R_loadAD (cs := [_, _, _, _, _, _, _, _, _, _, _, _, _, _]) rfl rfl rfl rfl rfl ?_
            refine G_yes rfl ?_
            refine R_loadAD (cs := [_, _, _, _, _]) rfl rfl rfl rfl rfl ?_
            refine G_yes rfl ?_
            refine R_callD (g_holds (cGood.of l _) (cGood.of l _) (vGood.of l _ _ _ _ _)) rfl rfl (.inr rfl) rfl ?_
            refine G_yes rfl ?_
            refine R_pick rfl rfl ?_
            refine G_yes rfl ?_
            refine R_loadAD (cs := [_, _, _, _, _, _, _, _, _, _, _, _, _, _]) rfl rfl rfl rfl rfl ?_
            refine G_yes rfl ?_
            refine R_loadAD (cs := [_, _, _, _, _]) rfl rfl rfl rfl rfl ?_
            refine G_yes rfl ?_
            refine R_callD (g_holds (cGood.of l _) (cGood.of l _) (vGood.of l _ _ _ _ _)) rfl rfl (.inr rfl) rfl ?_
            refine G_yes rfl ?_
            refine R_eqB rfl rfl ?_
            refine R_pick rfl rfl ?_
            refine R_mov rfl ?_
            refine G_split (g := 62) rfl (fun h6 => ?_) (fun h6 => ?_)
            · try rw [h6]
              try simp only [decide_eq_true_eq, decide_eq_false_iff_not, Bool.not_eq_eq_eq_not, Bool.not_true, Bool.not_false, mInts_lt, mInts_gt, mInts_le, mInts_zero, Bool.and_eq_true] at h6
              refine G_yes rfl ?_
              refine R_loadAD (cs := [_, _, _, _, _, _, _, _, _, _, _, _, _, _]) rfl rfl rfl rfl rfl ?_
              refine G_yes rfl ?_
              refine R_callD (g_span (cGood.of l _) (cGood.of l _)) rfl rfl (.inr rfl) rfl ?_
              refine G_yes rfl ?_
              refine R_mov rfl ?_
              refine G_split (g := 65) rfl (fun h7 => ?_) (fun h7 => ?_)
              · try rw [h7]
                try simp only [decide_eq_true_eq, decide_eq_false_iff_not, Bool.not_eq_eq_eq_not, Bool.not_true, Bool.not_false, mInts_lt, mInts_gt, mInts_le, mInts_zero, Bool.and_eq_true] at h7
                refine G_no rfl ?_
                refine G_no rfl ?_
                refine G_no rfl ?_
                refine G_no rfl ?_
                refine G_yes rfl ?_
                refine R_pick rfl rfl ?_
                refine R_pick rfl rfl ?_
                refine R_mov rfl ?_
                refine hK _ _ (TW_keep (keep_cons rfl (keep_nil)) ?_)
                clear hK K
                refine T_ret ?_
                refine post_retB rfl ?_
                first | rfl | (simp only [← Bool.decide_and, ← Bool.decide_or, ← decide_not, decide_eq_decide, decide_eq_true_eq, decide_eq_false_iff_not, false_eq_decide_iff, true_eq_decide_iff, Bool.not_eq_true, Bool.and_eq_true, Bool.not_eq_true, not_true_eq_false, not_false_eq_true] at *; omega) | (simp only [← Bool.decide_and, ← Bool.decide_or, ← decide_not, decide_eq_decide, decide_eq_true_eq, decide_eq_false_iff_not, false_eq_decide_iff, true_eq_decide_iff, Bool.not_eq_true, Bool.and_eq_true, Bool.not_eq_true, not_true_eq_false, not_false_eq_true] at *; done)
              · try rw [h7]
                try simp only [decide_eq_true_eq, decide_eq_false_iff_not, Bool.not_eq_eq_eq_not, Bool.not_true, Bool.not_false, mInts_lt, mInts_gt, mInts_le, mInts_zero, Bool.and_eq_true] at h7
                refine G_yes rfl ?_
                refine R_loadAD (cs := [_, _, _, _, _, _, _, _, _, _, _, _, _, _]) rfl rfl rfl rfl rfl ?_
                refine G_yes rfl ?_
                refine R_loadAD (cs := [_, _, _, _, _]) rfl rfl rfl rfl rfl ?_
                refine G_yes rfl ?_
                refine R_callD (g_holds (cGood.of l _) (cGood.of l _) (vGood.of l _ _ _ _ _)) rfl rfl (.inr rfl) rfl ?_
                refine G_yes rfl ?_
                refine R_not rfl ?_
                refine G_yes rfl ?_
                refine R_pick rfl rfl ?_
                refine R_pick rfl rfl ?_
                refine R_mov rfl ?_
                refine hK _ _ (TW_keep (keep_cons rfl (keep_nil)) ?_)
                clear hK K
                refine T_ret ?_
                refine post_retB rfl ?_
                first | rfl | (simp only [← Bool.decide_and, ← Bool.decide_or, ← decide_not, decide_eq_decide, decide_eq_true_eq, decide_eq_false_iff_not, false_eq_decide_iff, true_eq_decide_iff, Bool.not_eq_true, Bool.and_eq_true, Bool.not_eq_true, not_true_eq_false, not_false_eq_true] at *; omega) | (simp only [← Bool.decide_and, ← Bool.decide_or, ← decide_not, decide_eq_decide, decide_eq_true_eq, decide_eq_false_iff_not, false_eq_decide_iff, true_eq_decide_iff, Bool.not_eq_true, Bool.and_eq_true, Bool.not_eq_true, not_true_eq_false, not_false_eq_true] at *; done)
            · try rw [h6]
              try simp only [decide_eq_true_eq, decide_eq_false_iff_not, Bool.not_eq_eq_eq_not, Bool.not_true, Bool.not_false, mInts_lt, mInts_gt, mInts_le, mInts_zero, Bool.and_eq_true] at h6
              refine G_no rfl ?_
              refine G_no rfl ?_
              refine G_no rfl ?_
              refine G_undef rfl ?_
              refine G_undef rfl ?_
              refine G_undef rfl ?_
              refine G_undef rfl ?_
              refine G_no rfl ?_
              refine R_pick rfl rfl ?_
              refine R_mov rfl ?_
              refine hK _ _ (TW_keep (keep_cons rfl (keep_nil)) ?_)
              clear hK K
              refine T_ret ?_
              refine post_retB rfl ?_
              first | rfl | (simp only [← Bool.decide_and, ← Bool.decide_or, ← decide_not, decide_eq_decide, decide_eq_true_eq, decide_eq_false_iff_not, false_eq_decide_iff, true_eq_decide_iff, Bool.not_eq_true, Bool.and_eq_true, Bool.not_eq_true, not_true_eq_false, not_false_eq_true] at *; omega) | (simp only [← Bool.decide_and, ← Bool.decide_or, ← decide_not, decide_eq_decide, decide_eq_true_eq, decide_eq_false_iff_not, false_eq_decide_iff, true_eq_decide_iff, Bool.not_eq_true, Bool.and_eq_true, Bool.not_eq_true, not_true_eq_false, not_false_eq_true] at *; done)
          · try rw [h5]
            try simp only [decide_eq_true_eq, decide_eq_false_iff_not, Bool.not_eq_eq_eq_not, Bool.not_true, Bool.not_false, mInts_lt, mInts_gt, mInts_le, mInts_zero, Bool.and_eq_true] at h5
            refine G_no rfl ?_
            refine G_no rfl ?_
            refine G_no rfl ?_
            refine G_yes rfl ?_
            refine R_pick rfl rfl ?_
            refine G_yes rfl ?_
            refine R_loadAD (cs := [_, _, _, _, _, _, _, _, _, _, _, _, _, _]) rfl rfl rfl rfl rfl ?_
            refine G_yes rfl ?_
            refine R_loadAD (cs := [_, _, _, _, _]) rfl rfl rfl rfl rfl ?_
            refine G_yes rfl ?_
            refine R_callD (g_holds (cGood.of l _) (cGood.of l _) (vGood.of l _ _ _ _ _)) rfl rfl (.inr rfl) rfl ?_
            refine G_yes rfl ?_
            refine R_eqB rfl rfl ?_
            refine R_pick rfl rfl ?_
            refine R_mov rfl ?_
            refine G_split (g := 62) rfl (fun h8 => ?_) (fun h8 => ?_)
            · try rw [h8]
              try simp only [decide_eq_true_eq, decide_eq_false_iff_not, Bool.not_eq_eq_eq_not, Bool.not_true, Bool.not_false, mInts_lt, mInts_gt, mInts_le, mInts_zero, Bool.and_eq_true] at h8
              refine G_yes rfl ?_
              refine R_loadAD (cs := [_, _, _, _, _, _, _, _, _, _, _, _, _, _]) rfl rfl rfl rfl rfl ?_
              refine G_yes rfl ?_
              refine R_callD (g_span (cGood.of l _) (cGood.of l _)) rfl rfl (.inr rfl) rfl ?_
              refine G_yes rfl ?_
              refine R_mov rfl ?_
              refine G_split (g := 65) rfl (fun h9 => ?_) (fun h9 => ?_)
              · try rw [h9]
                try simp only [decide_eq_true_eq, decide_eq_false_iff_not, Bool.not_eq_eq_eq_not, Bool.not_true, Bool.not_false, mInts_lt, mInts_gt, mInts_le, mInts_zero, Bool.and_eq_true] at h9
                refine G_no rfl ?_
                refine G_no rfl ?_
                refine G_no rfl ?_
                refine G_no rfl ?_
                refine G_yes rfl ?_
                refine R_pick rfl rfl ?_
                refine R_pick rfl rfl ?_
                refine R_mov rfl ?_
                refine hK _ _ (TW_keep (keep_cons rfl (keep_nil)) ?_)
                clear hK K
                refine T_ret ?_
                refine post_retB rfl ?_
                first | rfl | (simp only [← Bool.decide_and, ← Bool.decide_or, ← decide_not, decide_eq_decide, decide_eq_true_eq, decide_eq_false_iff_not, false_eq_decide_iff, true_eq_decide_iff, Bool.not_eq_true, Bool.and_eq_true, Bool.not_eq_true, not_true_eq_false, not_false_eq_true] at *; omega) | (simp only [← Bool.decide_and, ← Bool.decide_or, ← decide_not, decide_eq_decide, decide_eq_true_eq, decide_eq_false_iff_not, false_eq_decide_iff, true_eq_decide_iff, Bool.not_eq_true, Bool.and_eq_true, Bool.not_eq_true, not_true_eq_false, not_false_eq_true] at *; done)
              · try rw [h9]
                try simp only [decide_eq_true_eq, decide_eq_false_iff_not, Bool.not_eq_eq_eq_not, Bool.not_true, Bool.not_false, mInts_lt, mInts_gt, mInts_le, mInts_zero, Bool.and_eq_true] at h9
                refine G_yes rfl ?_
                refine R_loadAD (cs := [_, _, _, _, _, _, _, _, _, _, _, _, _, _]) rfl rfl rfl rfl rfl ?_
                refine G_yes rfl ?_
                refine R_loadAD (cs := [_, _, _, _, _]) rfl rfl rfl rfl rfl ?_
                refine G_yes rfl ?_
                refine R_callD (g_holds (cGood.of l _) (cGood.of l _) (vGood.of l _ _ _ _ _)) rfl rfl (.inr rfl) rfl ?_
                refine G_yes rfl ?_
                refine R_not rfl ?_
                refine G_yes rfl ?_
                refine R_pick rfl rfl ?_
                refine R_pick rfl rfl ?_
                refine R_mov rfl ?_
                refine hK _ _ (TW_keep (keep_cons rfl (keep_nil)) ?_)
                clear hK K
                refine T_ret ?_
                refine post_retB rfl ?_
                first | rfl | (simp only [← Bool.decide_and, ← Bool.decide_or, ← decide_not, decide_eq_decide, decide_eq_true_eq, decide_eq_false_iff_not, false_eq_decide_iff, true_eq_decide_iff, Bool.not_eq_true, Bool.and_eq_true, Bool.not_eq_true, not_true_eq_false, not_false_eq_true] at *; omega) | (simp only [← Bool.decide_and, ← Bool.decide_or, ← decide_not, decide_eq_decide, decide_eq_true_eq, decide_eq_false_iff_not, false_eq_decide_iff, true_eq_decide_iff, Bool.not_eq_true, Bool.and_eq_true, Bool.not_eq_true, not_true_eq_false, not_false_eq_true] at *; done)
            · try rw [h8]
              try simp only [decide_eq_true_eq, decide_eq_false_iff_not, Bool.not_eq_eq_eq_not, Bool.not_true, Bool.not_false, mInts_lt, mInts_gt, mInts_le, mInts_zero, Bool.and_eq_true] at h8
              refine G_no rfl ?_
              refine G_no rfl ?_
              refine G_no rfl ?_
              refine G_undef rfl ?_
              refine G_undef rfl ?_
              refine G_undef rfl ?_
              refine G_undef rfl ?_
              refine G_no rfl ?_
              refine R_pick rfl rfl ?_
              refine R_mov rfl ?_
              refine hK _ _ (TW_keep (keep_cons rfl (keep_nil)) ?_)
              clear hK K
              refine T_ret ?_
              refine post_retB rfl ?_
              first | rfl | (simp only [← Bool.decide_and, ← Bool.decide_or, ← decide_not, decide_eq_decide, decide_eq_true_eq, decide_eq_false_iff_not, false_eq_decide_iff, true_eq_decide_iff, Bool.not_eq_true, Bool.and_eq_true, Bool.not_eq_true, not_true_eq_false, not_false_eq_true] at *; omega) | (simp only [← Bool.decide_and, ← Bool.decide_or, ← decide_not, decide_eq_decide, decide_eq_true_eq, decide_eq_false_iff_not, false_eq_decide_iff, true_eq_decide_iff, Bool.not_eq_true, Bool.and_eq_true, Bool.not_eq_true, not_true_eq_false, not_false_eq_true] at *; done)
    · try rw [h2]
      try simp only [decide_eq_true_eq, decide_eq_false_iff_not, Bool.not_eq_eq_eq_not, Bool.not_true, Bool.not_false, mInts_lt, mInts_gt, mInts_le, mInts_zero, Bool.and_eq_true] at h2
      refine T_skip ?_
      refine seqT_keep (keep_cons rfl (keep_cons rfl (keep_cons rfl (keep_cons rfl (keep_nil))))) ?_
      refine T_seq ?_ -- 2
      refine R_seq fun K hK => ?_
      refine R_loadA (cs := [_, _, _, _, _, _, _, _, _, _, _, _, _, _]) rfl rfl rfl rfl ?_
      refine R_call (g_span (cGood.of l _) (cGood.of l _)) rfl rfl (.inr rfl) ?_
      refine R_not rfl ?_
      refine R_mov rfl ?_
      refine G_split (g := 41) rfl (fun h10 => ?_) (fun h10 => ?_)
      · try rw [h10]
        try simp only [decide_eq_true_eq, decide_eq_false_iff_not, Bool.not_eq_eq_eq_not, Bool.not_true, Bool.not_false, mInts_lt, mInts_gt, mInts_le, mInts_zero, Bool.and_eq_true] at h10
        refine G_no rfl ?_
        refine G_no rfl ?_
        refine G_no rfl ?_
        refine R_pick rfl rfl ?_
        refine hK _ _ (TW_keep (keep_cons rfl (keep_cons rfl (keep_cons rfl (keep_cons rfl (keep_cons rfl (keep_nil)))))) ?_)
        clear hK K
        refine T_condT rfl ?_
        refine R_seq fun K hK => ?_
        refine R_call (c_linchpinlaw3_awake) rfl rfl (.inr rfl) ?_
        refine R_mov rfl ?_
        refine hK _ _ (TW_keep (keep_cons rfl (keep_nil)) ?_)
        clear hK K
        refine T_ret ?_
        refine seqT_ret ?_
        refine post_retB rfl ?_
        first | rfl | (simp only [← Bool.decide_and, ← Bool.decide_or, ← decide_not, decide_eq_decide, decide_eq_true_eq, decide_eq_false_iff_not, false_eq_decide_iff, true_eq_decide_iff, Bool.not_eq_true, Bool.and_eq_true, Bool.not_eq_true, not_true_eq_false, not_false_eq_true] at *; omega) | (simp only [← Bool.decide_and, ← Bool.decide_or, ← decide_not, decide_eq_decide, decide_eq_true_eq, decide_eq_false_iff_not, false_eq_decide_iff, true_eq_decide_iff, Bool.not_eq_true, Bool.and_eq_true, Bool.not_eq_true, not_true_eq_false, not_false_eq_true] at *; done)
      · try rw [h10]
        try simp only [decide_eq_true_eq, decide_eq_false_iff_not, Bool.not_eq_eq_eq_not, Bool.not_true, Bool.not_false, mInts_lt, mInts_gt, mInts_le, mInts_zero, Bool.and_eq_true] at h10
        refine G_yes rfl ?_
        refine R_loadA (cs := [_, _, _, _, _, _, _, _, _, _, _, _, _, _]) rfl rfl rfl rfl ?_
        refine G_yes rfl ?_
        refine R_call (g_span (cGood.of l _) (cGood.of l _)) rfl rfl (.inr rfl) ?_
        refine G_yes rfl ?_
        refine R_not rfl ?_
        refine R_pick rfl rfl ?_
        refine hK _ _ (TW_keep (keep_cons rfl (keep_cons rfl (keep_cons rfl (keep_cons rfl (keep_cons rfl (keep_nil)))))) ?_)
        clear hK K
        refine T_cond rfl (fun h11 => ?_) (fun h11 => ?_)
        · try rw [h11]
          try simp only [decide_eq_true_eq, decide_eq_false_iff_not, Bool.not_eq_eq_eq_not, Bool.not_true, Bool.not_false, mInts_lt, mInts_gt, mInts_le, mInts_zero, Bool.and_eq_true] at h11
          refine R_seq fun K hK => ?_
          refine R_call (c_linchpinlaw3_awake) rfl rfl (.inr rfl) ?_
          refine R_mov rfl ?_
          refine hK _ _ (TW_keep (keep_cons rfl (keep_nil)) ?_)
          clear hK K
          refine T_ret ?_
          refine seqT_ret ?_
          refine post_retB rfl ?_
          first | rfl | (simp only [← Bool.decide_and, ← Bool.decide_or, ← decide_not, decide_eq_decide, decide_eq_true_eq, decide_eq_false_iff_not, false_eq_decide_iff, true_eq_decide_iff, Bool.not_eq_true, Bool.and_eq_true, Bool.not_eq_true, not_true_eq_false, not_false_eq_true] at *; omega) | (simp only [← Bool.decide_and, ← Bool.decide_or, ← decide_not, decide_eq_decide, decide_eq_true_eq, decide_eq_false_iff_not, false_eq_decide_iff, true_eq_decide_iff, Bool.not_eq_true, Bool.and_eq_true, Bool.not_eq_true, not_true_eq_false, not_false_eq_true] at *; done)
        · try rw [h11]
          try simp only [decide_eq_true_eq, decide_eq_false_iff_not, Bool.not_eq_eq_eq_not, Bool.not_true, Bool.not_false, mInts_lt, mInts_gt, mInts_le, mInts_zero, Bool.and_eq_true] at h11
          refine T_skip ?_
          refine seqT_keep (keep_cons rfl (keep_cons rfl (keep_cons rfl (keep_cons rfl (keep_nil))))) ?_
          refine R_seq fun K hK => ?_
          refine R_callD (c_linchpinlaw3_awake) rfl rfl (.inr rfl) rfl ?_
          refine R_mov rfl ?_
          refine G_yes rfl ?_
          refine R_loadAD (cs := [_, _, _, _, _, _, _, _, _, _, _, _, _, _]) rfl rfl rfl rfl rfl ?_
          refine G_yes rfl ?_
          refine R_loadAD (cs := [_, _, _, _, _]) rfl rfl rfl rfl rfl ?_
          refine G_yes rfl ?_
          refine R_callD (g_holds (cGood.of l _) (cGood.of l _) (vGood.of l _ _ _ _ _)) rfl rfl (.inr rfl) rfl ?_
          refine G_yes rfl ?_
          refine R_mov rfl ?_
          refine G_split (g := 52) rfl (fun h12 => ?_) (fun h12 => ?_)
          · try rw [h12]
            try simp only [decide_eq_true_eq, decide_eq_false_iff_not, Bool.not_eq_eq_eq_not, Bool.not_true, Bool.not_false, mInts_lt, mInts_gt, mInts_le, mInts_zero, Bool.and_eq_true] at h12
            refine G_yes rfl ?_
            refine R_loadAD (cs := [_, _, _, _, _, _, _, _, _, _, _, _, _, _]) rfl rfl rfl rfl rfl ?_
            refine G_yes rfl ?_
            refine R_loadAD (cs := [_, _, _, _, _]) rfl rfl rfl rfl rfl ?_
            refine G_yes rfl ?_
            refine R_callD (g_holds (cGood.of l _) (cGood.of l _) (vGood.of l _ _ _ _ _)) rfl rfl (.inr rfl) rfl ?_
            refine G_yes rfl ?_
            refine R_pick rfl rfl ?_
            refine G_yes rfl ?_
            refine R_loadAD (cs := [_, _, _, _, _, _, _, _, _, _, _, _, _, _]) rfl rfl rfl rfl rfl ?_
            refine G_yes rfl ?_
            refine R_loadAD (cs := [_, _, _, _, _]) rfl rfl rfl rfl rfl ?_
            refine G_yes rfl ?_
            refine R_callD (g_holds (cGood.of l _) (cGood.of l _) (vGood.of l _ _ _ _ _)) rfl rfl (.inr rfl) rfl ?_
            refine G_yes rfl ?_
            refine R_eqB rfl rfl ?_
            refine R_pick rfl rfl ?_
            refine R_mov rfl ?_
            refine G_split (g := 62) rfl (fun h13 => ?_) (fun h13 => ?_)
            · try rw [h13]
              try simp only [decide_eq_true_eq, decide_eq_false_iff_not, Bool.not_eq_eq_eq_not, Bool.not_true, Bool.not_false, mInts_lt, mInts_gt, mInts_le, mInts_zero, Bool.and_eq_true] at h13
              refine G_yes rfl ?_
              refine R_loadAD (cs := [_, _, _, _, _, _, _, _, _, _, _, _, _, _]) rfl rfl rfl rfl rfl ?_
              refine G_yes rfl ?_
              refine R_callD (g_span (cGood.of l _) (cGood.of l _)) rfl rfl (.inr rfl) rfl ?_
              refine G_yes rfl ?_
              refine R_mov rfl ?_
              refine G_split (g := 65) rfl (fun h14 => ?_) (fun h14 => ?_)
              · try rw [h14]
                try simp only [decide_eq_true_eq, decide_eq_false_iff_not, Bool.not_eq_eq_eq_not, Bool.not_true, Bool.not_false, mInts_lt, mInts_gt, mInts_le, mInts_zero, Bool.and_eq_true] at h14
                refine G_no rfl ?_
                refine G_no rfl ?_
                refine G_no rfl ?_
                refine G_no rfl ?_
                refine G_yes rfl ?_
                refine R_pick rfl rfl ?_
                refine R_pick rfl rfl ?_
                refine R_mov rfl ?_
                refine hK _ _ (TW_keep (keep_cons rfl (keep_nil)) ?_)
                clear hK K
                refine T_ret ?_
                refine post_retB rfl ?_
                first | rfl | (simp only [← Bool.decide_and, ← Bool.decide_or, ← decide_not, decide_eq_decide, decide_eq_true_eq, decide_eq_false_iff_not, false_eq_decide_iff, true_eq_decide_iff, Bool.not_eq_true, Bool.and_eq_true, Bool.not_eq_true, not_true_eq_false, not_false_eq_true] at *; omega) | (simp only [← Bool.decide_and, ← Bool.decide_or, ← decide_not, decide_eq_decide, decide_eq_true_eq, decide_eq_false_iff_not, false_eq_decide_iff, true_eq_decide_iff, Bool.not_eq_true, Bool.and_eq_true, Bool.not_eq_true, not_true_eq_false, not_false_eq_true] at *; done)
              · try rw [h14]
                try simp only [decide_eq_true_eq, decide_eq_false_iff_not, Bool.not_eq_eq_eq_not, Bool.not_true, Bool.not_false, mInts_lt, mInts_gt, mInts_le, mInts_zero, Bool.and_eq_true] at h14
                refine G_yes rfl ?_
                refine R_loadAD (cs := [_, _, _, _, _, _, _, _, _, _, _, _, _, _]) rfl rfl rfl rfl rfl ?_
                refine G_yes rfl ?_
                refine R_loadAD (cs := [_, _, _, _, _]) rfl rfl rfl rfl rfl ?_
                refine G_yes rfl ?_
                refine R_callD (g_holds (cGood.of l _) (cGood.of l _) (vGood.of l _ _ _ _ _)) rfl rfl (.inr rfl) rfl ?_
                refine G_yes rfl ?_
                refine R_not rfl ?_
                refine G_yes rfl ?_
                refine R_pick rfl rfl ?_
                refine R_pick rfl rfl ?_
                refine R_mov rfl ?_
                refine hK _ _ (TW_keep (keep_cons rfl (keep_nil)) ?_)
                clear hK K
                refine T_ret ?_
                refine post_retB rfl ?_
                first | rfl | (simp only [← Bool.decide_and, ← Bool.decide_or, ← decide_not, decide_eq_decide, decide_eq_true_eq, decide_eq_false_iff_not, false_eq_decide_iff, true_eq_decide_iff, Bool.not_eq_true, Bool.and_eq_true, Bool.not_eq_true, not_true_eq_false, not_false_eq_true] at *; omega) | (simp only [← Bool.decide_and, ← Bool.decide_or, ← decide_not, decide_eq_decide, decide_eq_true_eq, decide_eq_false_iff_not, false_eq_decide_iff, true_eq_decide_iff, Bool.not_eq_true, Bool.and_eq_true, Bool.not_eq_true, not_true_eq_false, not_false_eq_true] at *; done)
            · try rw [h13]
              try simp only [decide_eq_true_eq, decide_eq_false_iff_not, Bool.not_eq_eq_eq_not, Bool.not_true, Bool.not_false, mInts_lt, mInts_gt, mInts_le, mInts_zero, Bool.and_eq_true] at h13
              refine G_no rfl ?_
              refine G_no rfl ?_
              refine G_no rfl ?_
              refine G_undef rfl ?_
              refine G_undef rfl ?_
              refine G_undef rfl ?_
              refine G_undef rfl ?_
              refine G_no rfl ?_
              refine R_pick rfl rfl ?_
              refine R_mov rfl ?_
              refine hK _ _ (TW_keep (keep_cons rfl (keep_nil)) ?_)
              clear hK K
              refine T_ret ?_
              refine post_retB rfl ?_
              first | rfl | (simp only [← Bool.decide_and, ← Bool.decide_or, ← decide_not, decide_eq_decide, decide_eq_true_eq, decide_eq_false_iff_not, false_eq_decide_iff, true_eq_decide_iff, Bool.not_eq_true, Bool.and_eq_true, Bool.not_eq_true, not_true_eq_false, not_false_eq_true] at *; omega) | (simp only [← Bool.decide_and, ← Bool.decide_or, ← decide_not, decide_eq_decide, decide_eq_true_eq, decide_eq_false_iff_not, false_eq_decide_iff, true_eq_decide_iff, Bool.not_eq_true, Bool.and_eq_true, Bool.not_eq_true, not_true_eq_false, not_false_eq_true] at *; done)
          · try rw [h12]
            try simp only [decide_eq_true_eq, decide_eq_false_iff_not, Bool.not_eq_eq_eq_not, Bool.not_true, Bool.not_false, mInts_lt, mInts_gt, mInts_le, mInts_zero, Bool.and_eq_true] at h12
            refine G_no rfl ?_
            refine G_no rfl ?_
            refine G_no rfl ?_
            refine G_yes rfl ?_
            refine R_pick rfl rfl ?_
            refine G_yes rfl ?_
            refine R_loadAD (cs := [_, _, _, _, _, _, _, _, _, _, _, _, _, _]) rfl rfl rfl rfl rfl ?_
            refine G_yes rfl ?_
            refine R_loadAD (cs := [_, _, _, _, _]) rfl rfl rfl rfl rfl ?_
            refine G_yes rfl ?_
            refine R_callD (g_holds (cGood.of l _) (cGood.of l _) (vGood.of l _ _ _ _ _)) rfl rfl (.inr rfl) rfl ?_
            refine G_yes rfl ?_
            refine R_eqB rfl rfl ?_
            refine R_pick rfl rfl ?_
            refine R_mov rfl ?_
            refine G_split (g := 62) rfl (fun h15 => ?_) (fun h15 => ?_)
            · try rw [h15]
              try simp only [decide_eq_true_eq, decide_eq_false_iff_not, Bool.not_eq_eq_eq_not, Bool.not_true, Bool.not_false, mInts_lt, mInts_gt, mInts_le, mInts_zero, Bool.and_eq_true] at h15
              refine G_yes rfl ?_
              refine R_loadAD (cs := [_, _, _, _, _, _, _, _, _, _, _, _, _, _]) rfl rfl rfl rfl rfl ?_
              refine G_yes rfl ?_
              refine R_callD (g_span (cGood.of l _) (cGood.of l _)) rfl rfl (.inr rfl) rfl ?_
              refine G_yes rfl ?_
              refine R_mov rfl ?_
              refine G_split (g := 65) rfl (fun h16 => ?_) (fun h16 => ?_)
              · try rw [h16]
                try simp only [decide_eq_true_eq, decide_eq_false_iff_not, Bool.not_eq_eq_eq_not, Bool.not_true, Bool.not_false, mInts_lt, mInts_gt, mInts_le, mInts_zero, Bool.and_eq_true] at h16
                refine G_no rfl ?_
                refine G_no rfl ?_
                refine G_no rfl ?_
                refine G_no rfl ?_
                refine G_yes rfl ?_
                refine R_pick rfl rfl ?_
                refine R_pick rfl rfl ?_
                refine R_mov rfl ?_
                refine hK _ _ (TW_keep (keep_cons rfl (keep_nil)) ?_)
                clear hK K
                refine T_ret ?_
                refine post_retB rfl ?_
                first | rfl | (simp only [← Bool.decide_and, ← Bool.decide_or, ← decide_not, decide_eq_decide, decide_eq_true_eq, decide_eq_false_iff_not, false_eq_decide_iff, true_eq_decide_iff, Bool.not_eq_true, Bool.and_eq_true, Bool.not_eq_true, not_true_eq_false, not_false_eq_true] at *; omega) | (simp only [← Bool.decide_and, ← Bool.decide_or, ← decide_not, decide_eq_decide, decide_eq_true_eq, decide_eq_false_iff_not, false_eq_decide_iff, true_eq_decide_iff, Bool.not_eq_true, Bool.and_eq_true, Bool.not_eq_true, not_true_eq_false, not_false_eq_true] at *; done)
              · try rw [h16]
                try simp only [decide_eq_true_eq, decide_eq_false_iff_not, Bool.not_eq_eq_eq_not, Bool.not_true, Bool.not_false, mInts_lt, mInts_gt, mInts_le, mInts_zero, Bool.and_eq_true] at h16
                refine G_yes rfl ?_
                refine R_loadAD (cs := [_, _, _, _, _, _, _, _, _, _, _, _, _, _]) rfl rfl rfl rfl rfl ?_
                refine G_yes rfl ?_
                refine R_loadAD (cs := [_, _, _, _, _]) rfl rfl rfl rfl rfl ?_
                refine G_yes rfl ?_
                refine R_callD (g_holds (cGood.of l _) (cGood.of l _) (vGood.of l _ _ _ _ _)) rfl rfl (.inr rfl) rfl ?_
                refine G_yes rfl ?_
                refine R_not rfl ?_
                refine G_yes rfl ?_
                refine R_pick rfl rfl ?_
                refine R_pick rfl rfl ?_
                refine R_mov rfl ?_
                refine hK _ _ (TW_keep (keep_cons rfl (keep_nil)) ?_)
                clear hK K
                refine T_ret ?_
                refine post_retB rfl ?_
                first | rfl | (simp only [← Bool.decide_and, ← Bool.decide_or, ← decide_not, decide_eq_decide, decide_eq_true_eq, decide_eq_false_iff_not, false_eq_decide_iff, true_eq_decide_iff, Bool.not_eq_true, Bool.and_eq_true, Bool.not_eq_true, not_true_eq_false, not_false_eq_true] at *; omega) | (simp only [← Bool.decide_and, ← Bool.decide_or, ← decide_not, decide_eq_decide, decide_eq_true_eq, decide_eq_false_iff_not, false_eq_decide_iff, true_eq_decide_iff, Bool.not_eq_true, Bool.and_eq_true, Bool.not_eq_true, not_true_eq_false, not_false_eq_true] at *; done)
            · try rw [h15]
              try simp only [decide_eq_true_eq, decide_eq_false_iff_not, Bool.not_eq_eq_eq_not, Bool.not_true, Bool.not_false, mInts_lt, mInts_gt, mInts_le, mInts_zero, Bool.and_eq_true] at h15
              refine G_no rfl ?_
              refine G_no rfl ?_
              refine G_no rfl ?_
              refine G_undef rfl ?_
              refine G_undef rfl ?_
              refine G_undef rfl ?_
              refine G_undef rfl ?_
              refine G_no rfl ?_
              refine R_pick rfl rfl ?_
              refine R_mov rfl ?_
              refine hK _ _ (TW_keep (keep_cons rfl (keep_nil)) ?_)
              clear hK K
              refine T_ret ?_
              refine post_retB rfl ?_
              first | rfl | (simp only [← Bool.decide_and, ← Bool.decide_or, ← decide_not, decide_eq_decide, decide_eq_true_eq, decide_eq_false_iff_not, false_eq_decide_iff, true_eq_decide_iff, Bool.not_eq_true, Bool.and_eq_true, Bool.not_eq_true, not_true_eq_false, not_false_eq_true] at *; omega) | (simp only [← Bool.decide_and, ← Bool.decide_or, ← decide_not, decide_eq_decide, decide_eq_true_eq, decide_eq_false_iff_not, false_eq_decide_iff, true_eq_decide_iff, Bool.not_eq_true, Bool.and_eq_true, Bool.not_eq_true, not_true_eq_false, not_false_eq_true] at *; done)
  · try rw [h1]
    try simp only [decide_eq_true_eq, decide_eq_false_iff_not, Bool.not_eq_eq_eq_not, Bool.not_true, Bool.not_false, mInts_lt, mInts_gt, mInts_le, mInts_zero, Bool.and_eq_true] at h1
    refine T_skip ?_
    refine seqT_keep (keep_cons rfl (keep_cons rfl (keep_cons rfl (keep_cons rfl (keep_nil))))) ?_
    refine T_seq ?_ -- 1
    refine R_seq fun K hK => ?_
    refine R_fieldR rfl rfl ?_
    refine R_loadA (cs := [_, _, _, _, _, _, _]) rfl rfl rfl rfl ?_
    refine R_fieldR rfl rfl ?_
    refine R_loadA (cs := [_, _, _, _, _, _, _]) rfl rfl rfl rfl ?_
    refine R_call (g_compare (cGood.of l _) (cGood.of l _)) rfl rfl (.inr rfl) ?_
    refine R_gt rfl rfl ?_
    refine hK _ _ (TW_keep (keep_cons rfl (keep_cons rfl (keep_cons rfl (keep_cons rfl (keep_cons rfl (keep_nil)))))) ?_)
    clear hK K
    refine T_cond rfl (fun h17 => ?_) (fun h17 => ?_)
    · try rw [h17]
      try simp only [decide_eq_true_eq, decide_eq_false_iff_not, Bool.not_eq_eq_eq_not, Bool.not_true, Bool.not_false, mInts_lt, mInts_gt, mInts_le, mInts_zero, Bool.and_eq_true] at h17
      refine R_last fun K hK => ?_
      refine R_fieldR rfl rfl ?_
      refine R_loadA (cs := [_, _, _, _, _, _, _]) rfl rfl rfl rfl ?_
      refine R_fieldR rfl rfl ?_
      refine R_store rfl rfl rfl rfl rfl rfl rfl rfl ?_
      refine hK _ ?_
      clear hK K
      refine seqT_keep (keep_cons rfl (keep_cons rfl (keep_cons rfl (keep_cons rfl (keep_nil))))) ?_
      refine T_seq ?_ -- 2
      refine R_seq fun K hK => ?_
      refine R_loadA (cs := [_, _, _, _, _, _, _, _, _, _, _, _, _, _]) rfl rfl rfl rfl ?_
      refine R_call (g_span (cGood.of l _) (cGood.of l _)) rfl rfl (.inr rfl) ?_
      refine R_not rfl ?_
      refine R_mov rfl ?_
      refine G_split (g := 41) rfl (fun h18 => ?_) (fun h18 => ?_)
      · try rw [h18]
        try simp only [decide_eq_true_eq, decide_eq_false_iff_not, Bool.not_eq_eq_eq_not, Bool.not_true, Bool.not_false, mInts_lt, mInts_gt, mInts_le, mInts_zero, Bool.and_eq_true] at h18
        refine G_no rfl ?_
        refine G_no rfl ?_
        refine G_no rfl ?_
        refine R_pick rfl rfl ?_
        refine hK _ _ (TW_keep (keep_cons rfl (keep_cons rfl (keep_cons rfl (keep_cons rfl (keep_cons rfl (keep_nil)))))) ?_)
        clear hK K
        refine T_condT rfl ?_
        refine R_seq fun K hK => ?_
        refine R_call (c_linchpinlaw3_awake) rfl rfl (.inr rfl) ?_
        refine R_mov rfl ?_
        refine hK _ _ (TW_keep (keep_cons rfl (keep_nil)) ?_)
        clear hK K
        refine T_ret ?_
        refine seqT_ret ?_
        refine post_retB rfl ?_
        first | rfl | (simp only [← Bool.decide_and, ← Bool.decide_or, ← decide_not, decide_eq_decide, decide_eq_true_eq, decide_eq_false_iff_not, false_eq_decide_iff, true_eq_decide_iff, Bool.not_eq_true, Bool.and_eq_true, Bool.not_eq_true, not_true_eq_false, not_false_eq_true] at *; omega) | (simp only [← Bool.decide_and, ← Bool.decide_or, ← decide_not, decide_eq_decide, decide_eq_true_eq, decide_eq_false_iff_not, false_eq_decide_iff, true_eq_decide_iff, Bool.not_eq_true, Bool.and_eq_true, Bool.not_eq_true, not_true_eq_false, not_false_eq_true] at *; done)
      · try rw [h18]
        try simp only [decide_eq_true_eq, decide_eq_false_iff_not, Bool.not_eq_eq_eq_not, Bool.not_true, Bool.not_false, mInts_lt, mInts_gt, mInts_le, mInts_zero, Bool.and_eq_true] at h18
        refine G_yes rfl ?_
        refine R_loadA (cs := [_, _, _, _, _, _, _, _, _, _, _, _, _, _]) rfl rfl rfl rfl ?_
        refine G_yes rfl ?_
        refine R_call (g_span (cGood.of l _) (cGood.of l _)) rfl rfl (.inr rfl) ?_
        refine G_yes rfl ?_
        refine R_not rfl ?_
        refine R_pick rfl rfl ?_
        refine hK _ _ (TW_keep (keep_cons rfl (keep_cons rfl (keep_cons rfl (keep_cons rfl (keep_cons rfl (keep_nil)))))) ?_)
        clear hK K
        refine T_cond rfl (fun h19 => ?_) (fun h19 => ?_)
        · try rw [h19]
          try simp only [decide_eq_true_eq, decide_eq_false_iff_not, Bool.not_eq_eq_eq_not, Bool.not_true, Bool.not_false, mInts_lt, mInts_gt, mInts_le, mInts_zero, Bool.and_eq_true] at h19
          refine R_seq fun K hK => ?_
          refine R_call (c_linchpinlaw3_awake) rfl rfl (.inr rfl) ?_
          refine R_mov rfl ?_
          refine hK _ _ (TW_keep (keep_cons rfl (keep_nil)) ?_)
          clear hK K
          refine T_ret ?_
          refine seqT_ret ?_
          refine post_retB rfl ?_
          first | rfl | (simp only [← Bool.decide_and, ← Bool.decide_or, ← decide_not, decide_eq_decide, decide_eq_true_eq, decide_eq_false_iff_not, false_eq_decide_iff, true_eq_decide_iff, Bool.not_eq_true, Bool.and_eq_true, Bool.not_eq_true, not_true_eq_false, not_false_eq_true] at *; omega) | (simp only [← Bool.decide_and, ← Bool.decide_or, ← decide_not, decide_eq_decide, decide_eq_true_eq, decide_eq_false_iff_not, false_eq_decide_iff, true_eq_decide_iff, Bool.not_eq_true, Bool.and_eq_true, Bool.not_eq_true, not_true_eq_false, not_false_eq_true] at *; done)
        · try rw [h19]
          try simp only [decide_eq_true_eq, decide_eq_false_iff_not, Bool.not_eq_eq_eq_not, Bool.not_true, Bool.not_false, mInts_lt, mInts_gt, mInts_le, mInts_zero, Bool.and_eq_true] at h19
          refine T_skip ?_
          refine seqT_keep (keep_cons rfl (keep_cons rfl (keep_cons rfl (keep_cons rfl (keep_nil))))) ?_
          refine R_seq fun K hK => ?_
          refine R_callD (c_linchpinlaw3_awake) rfl rfl (.inr rfl) rfl ?_
          refine R_mov rfl ?_
          refine G_yes rfl ?_
          refine R_loadAD (cs := [_, _, _, _, _, _, _, _, _, _, _, _, _, _]) rfl rfl rfl rfl rfl ?_
          refine G_yes rfl ?_
          refine R_loadAD (cs := [_, _, _, _, _]) rfl rfl rfl rfl rfl ?_
          refine G_yes rfl ?_
          refine R_callD (g_holds (cGood.of l _) (cGood.of l _) (vGood.of l _ _ _ _ _)) rfl rfl (.inr rfl) rfl ?_
          refine G_yes rfl ?_
          refine R_mov rfl ?_
          refine G_split (g := 52) rfl (fun h20 => ?_) (fun h20 => ?_)
          · try rw [h20]
            try simp only [decide_eq_true_eq, decide_eq_false_iff_not, Bool.not_eq_eq_eq_not, Bool.not_true, Bool.not_false, mInts_lt, mInts_gt, mInts_le, mInts_zero, Bool.and_eq_true] at h20
            refine G_yes rfl ?_
            refine R_loadAD (cs := [_, _, _, _, _, _, _, _, _, _, _, _, _, _]) rfl rfl rfl rfl rfl ?_
            refine G_yes rfl ?_
            refine R_loadAD (cs := [_, _, _, _, _]) rfl rfl rfl rfl rfl ?_
            refine G_yes rfl ?_
            refine R_callD (g_holds (cGood.of l _) (cGood.of l _) (vGood.of l _ _ _ _ _)) rfl rfl (.inr rfl) rfl ?_
            refine G_yes rfl ?_
            refine R_pick rfl rfl ?_
            refine G_yes rfl ?_
            refine R_loadAD (cs := [_, _, _, _, _, _, _, _, _, _, _, _, _, _]) rfl rfl rfl rfl rfl ?_
            refine G_yes rfl ?_
            refine R_loadAD (cs := [_, _, _, _, _]) rfl rfl rfl rfl rfl ?_
            refine G_yes rfl ?_
            refine R_callD (g_holds (cGood.of l _) (cGood.of l _) (vGood.of l _ _ _ _ _)) rfl rfl (.inr rfl) rfl ?_
            refine G_yes rfl ?_
            refine R_eqB rfl rfl ?_
            refine R_pick rfl rfl ?_
            refine R_mov rfl ?_
            refine G_split (g := 62) rfl (fun h21 => ?_) (fun h21 => ?_)
            · try rw [h21]
              try simp only [decide_eq_true_eq, decide_eq_false_iff_not, Bool.not_eq_eq_eq_not, Bool.not_true, Bool.not_false, mInts_lt, mInts_gt, mInts_le, mInts_zero, Bool.and_eq_true] at h21
              refine G_yes rfl ?_
              refine R_loadAD (cs := [_, _, _, _, _, _, _, _, _, _, _, _, _, _]) rfl rfl rfl rfl rfl ?_
              refine G_yes rfl ?_
              refine R_callD (g_span (cGood.of l _) (cGood.of l _)) rfl rfl (.inr rfl) rfl ?_
              refine G_yes rfl ?_
              refine R_mov rfl ?_
              refine G_split (g := 65) rfl (fun h22 => ?_) (fun h22 => ?_)
              · try rw [h22]
                try simp only [decide_eq_true_eq, decide_eq_false_iff_not, Bool.not_eq_eq_eq_not, Bool.not_true, Bool.not_false, mInts_lt, mInts_gt, mInts_le, mInts_zero, Bool.and_eq_true] at h22
                refine G_no rfl ?_
                refine G_no rfl ?_
                refine G_no rfl ?_
                refine G_no rfl ?_
                refine G_yes rfl ?_
                refine R_pick rfl rfl ?_
                refine R_pick rfl rfl ?_
                refine R_mov rfl ?_
                refine hK _ _ (TW_keep (keep_cons rfl (keep_nil)) ?_)
                clear hK K
                refine T_ret ?_
                refine post_retB rfl ?_
                first | rfl | (simp only [← Bool.decide_and, ← Bool.decide_or, ← decide_not, decide_eq_decide, decide_eq_true_eq, decide_eq_false_iff_not, false_eq_decide_iff, true_eq_decide_iff, Bool.not_eq_true, Bool.and_eq_true, Bool.not_eq_true, not_true_eq_false, not_false_eq_true] at *; omega) | (simp only [← Bool.decide_and, ← Bool.decide_or, ← decide_not, decide_eq_decide, decide_eq_true_eq, decide_eq_false_iff_not, false_eq_decide_iff, true_eq_decide_iff, Bool.not_eq_true, Bool.and_eq_true, Bool.not_eq_true, not_true_eq_false, not_false_eq_true] at *; done)
              · try rw [h22]
                try simp only [decide_eq_true_eq, decide_eq_false_iff_not, Bool.not_eq_eq_eq_not, Bool.not_true, Bool.not_false, mInts_lt, mInts_gt, mInts_le, mInts_zero, Bool.and_eq_true] at h22
                refine G_yes rfl ?_
                refine R_loadAD (cs := [_, _, _, _, _, _, _, _, _, _, _, _, _, _]) rfl rfl rfl rfl rfl ?_
                refine G_yes rfl ?_
                refine R_loadAD (cs := [_, _, _, _, _]) rfl rfl rfl rfl rfl ?_
                refine G_yes rfl ?_
                refine R_callD (g_holds (cGood.of l _) (cGood.of l _) (vGood.of l _ _ _ _ _)) rfl rfl (.inr rfl) rfl ?_
                refine G_yes rfl ?_
                refine R_not rfl ?_
                refine G_yes rfl ?_
                refine R_pick rfl rfl ?_
                refine R_pick rfl rfl ?_
                refine R_mov rfl ?_
                refine hK _ _ (TW_keep (keep_cons rfl (keep_nil)) ?_)
                clear hK K
                refine T_ret ?_
                refine post_retB rfl ?_
                first | rfl | (simp only [← Bool.decide_and, ← Bool.decide_or, ← decide_not, decide_eq_decide, decide_eq_true_eq, decide_eq_false_iff_not, false_eq_decide_iff, true_eq_decide_iff, Bool.not_eq_true, Bool.and_eq_true, Bool.not_eq_true, not_true_eq_false, not_false_eq_true] at *; omega) | (simp only [← Bool.decide_and, ← Bool.decide_or, ← decide_not, decide_eq_decide, decide_eq_true_eq, decide_eq_false_iff_not, false_eq_decide_iff, true_eq_decide_iff, Bool.not_eq_true, Bool.and_eq_true, Bool.not_eq_true, not_true_eq_false, not_false_eq_true] at *; done)
            · try rw [h21]
              try simp only [decide_eq_true_eq, decide_eq_false_iff_not, Bool.not_eq_eq_eq_not, Bool.not_true, Bool.not_false, mInts_lt, mInts_gt, mInts_le, mInts_zero, Bool.and_eq_true] at h21
              refine G_no rfl ?_
              refine G_no rfl ?_
              refine G_no rfl ?_
              refine G_undef rfl ?_
              refine G_undef rfl ?_
              refine G_undef rfl ?_
              refine G_undef rfl ?_
              refine G_no rfl ?_
              refine R_pick rfl rfl ?_
              refine R_mov rfl ?_
              refine hK _ _ (TW_keep (keep_cons rfl (keep_nil)) ?_)
              clear hK K
              refine T_ret ?_
              refine post_retB rfl ?_
              first | rfl | (simp only [← Bool.decide_and, ← Bool.decide_or, ← decide_not, decide_eq_decide, decide_eq_true_eq, decide_eq_false_iff_not, false_eq_decide_iff, true_eq_decide_iff, Bool.not_eq_true, Bool.and_eq_true, Bool.not_eq_true, not_true_eq_false, not_false_eq_true] at *; omega) | (simp only [← Bool.decide_and, ← Bool.decide_or, ← decide_not, decide_eq_decide, decide_eq_true_eq, decide_eq_false_iff_not, false_eq_decide_iff, true_eq_decide_iff, Bool.not_eq_true, Bool.and_eq_true, Bool.not_eq_true, not_true_eq_false, not_false_eq_true] at *; done)
          · try rw [h20]
            try simp only [decide_eq_true_eq, decide_eq_false_iff_not, Bool.not_eq_eq_eq_not, Bool.not_true, Bool.not_false, mInts_lt, mInts_gt, mInts_le, mInts_zero, Bool.and_eq_true] at h20
            refine G_no rfl ?_
            refine G_no rfl ?_
            refine G_no rfl ?_
            refine G_yes rfl ?_
            refine R_pick rfl rfl ?_
            refine G_yes rfl ?_
            refine R_loadAD (cs := [_, _, _, _, _, _, _, _, _, _, _, _, _, _]) rfl rfl rfl rfl rfl ?_
            refine G_yes rfl ?_
            refine R_loadAD (cs := [_, _, _, _, _]) rfl rfl rfl rfl rfl ?_
            refine G_yes rfl ?_
            refine R_callD (g_holds (cGood.of l _) (cGood.of l _) (vGood.of l _ _ _ _ _)) rfl rfl (.inr rfl) rfl ?_
            refine G_yes rfl ?_
            refine R_eqB rfl rfl ?_
            refine R_pick rfl rfl ?_
            refine R_mov rfl ?_
            refine G_split (g := 62) rfl (fun h23 => ?_) (fun h23 => ?_)
            · try rw [h23]
              try simp only [decide_eq_true_eq, decide_eq_false_iff_not, Bool.not_eq_eq_eq_not, Bool.not_true, Bool.not_false, mInts_lt, mInts_gt, mInts_le, mInts_zero, Bool.and_eq_true] at h23
              refine G_yes rfl ?_
              refine R_loadAD (cs := [_, _, _, _, _, _, _, _, _, _, _, _, _, _]) rfl rfl rfl rfl rfl ?_
              refine G_yes rfl ?_
              refine R_callD (g_span (cGood.of l _) (cGood.of l _)) rfl rfl (.inr rfl) rfl ?_
              refine G_yes rfl ?_
              refine R_mov rfl ?_
              refine G_split (g := 65) rfl (fun h24 => ?_) (fun h24 => ?_)
              · try rw [h24]
                try simp only [decide_eq_true_eq, decide_eq_false_iff_not, Bool.not_eq_eq_eq_not, Bool.not_true, Bool.not_false, mInts_lt, mInts_gt, mInts_le, mInts_zero, Bool.and_eq_true] at h24
                refine G_no rfl ?_
                refine G_no rfl ?_
                refine G_no rfl ?_
                refine G_no rfl ?_
                refine G_yes rfl ?_
                refine R_pick rfl rfl ?_
                refine R_pick rfl rfl ?_
                refine R_mov rfl ?_
                refine hK _ _ (TW_keep (keep_cons rfl (keep_nil)) ?_)
                clear hK K
                refine T_ret ?_
                refine post_retB rfl ?_
                first | rfl | (simp only [← Bool.decide_and, ← Bool.decide_or, ← decide_not, decide_eq_decide, decide_eq_true_eq, decide_eq_false_iff_not, false_eq_decide_iff, true_eq_decide_iff, Bool.not_eq_true, Bool.and_eq_true, Bool.not_eq_true, not_true_eq_false, not_false_eq_true] at *; omega) | (simp only [← Bool.decide_and, ← Bool.decide_or, ← decide_not, decide_eq_decide, decide_eq_true_eq, decide_eq_false_iff_not, false_eq_decide_iff, true_eq_decide_iff, Bool.not_eq_true, Bool.and_eq_true, Bool.not_eq_true, not_true_eq_false, not_false_eq_true] at *; done)
              · try rw [h24]
                try simp only [decide_eq_true_eq, decide_eq_false_iff_not, Bool.not_eq_eq_eq_not, Bool.not_true, Bool.not_false, mInts_lt, mInts_gt, mInts_le, mInts_zero, Bool.and_eq_true] at h24
                refine G_yes rfl ?_
                refine R_loadAD (cs := [_, _, _, _, _, _, _, _, _, _, _, _, _, _]) rfl rfl rfl rfl rfl ?_
                refine G_yes rfl ?_
                refine R_loadAD (cs := [_, _, _, _, _]) rfl rfl rfl rfl rfl ?_
                refine G_yes rfl ?_
                refine R_callD (g_holds (cGood.of l _) (cGood.of l _) (vGood.of l _ _ _ _ _)) rfl rfl (.inr rfl) rfl ?_
                refine G_yes rfl ?_
                refine R_not rfl ?_
                refine G_yes rfl ?_
                refine R_pick rfl rfl ?_
                refine R_pick rfl rfl ?_
                refine R_mov rfl ?_
                refine hK _ _ (TW_keep (keep_cons rfl (keep_nil)) ?_)
                clear hK K
                refine T_ret ?_
                refine post_retB rfl ?_
                first | rfl | (simp only [← Bool.decide_and, ← Bool.decide_or, ← decide_not, decide_eq_decide, decide_eq_true_eq, decide_eq_false_iff_not, false_eq_decide_iff, true_eq_decide_iff, Bool.not_eq_true, Bool.and_eq_true, Bool.not_eq_true, not_true_eq_false, not_false_eq_true] at *; omega) | (simp only [← Bool.decide_and, ← Bool.decide_or, ← decide_not, decide_eq_decide, decide_eq_true_eq, decide_eq_false_iff_not, false_eq_decide_iff, true_eq_decide_iff, Bool.not_eq_true, Bool.and_eq_true, Bool.not_eq_true, not_true_eq_false, not_false_eq_true] at *; done)
            · try rw [h23]
              try simp only [decide_eq_true_eq, decide_eq_false_iff_not, Bool.not_eq_eq_eq_not, Bool.not_true, Bool.not_false, mInts_lt, mInts_gt, mInts_le, mInts_zero, Bool.and_eq_true] at h23
              refine G_no rfl ?_
              refine G_no rfl ?_
              refine G_no rfl ?_
              refine G_undef rfl ?_
              refine G_undef rfl ?_
              refine G_undef rfl ?_
              refine G_undef rfl ?_
              refine G_no rfl ?_
              refine R_pick rfl rfl ?_
              refine R_mov rfl ?_
              refine hK _ _ (TW_keep (keep_cons rfl (keep_nil)) ?_)
              clear hK K
              refine T_ret ?_
              refine post_retB rfl ?_
              first | rfl | (simp only [← Bool.decide_and, ← Bool.decide_or, ← decide_not, decide_eq_decide, decide_eq_true_eq, decide_eq_false_iff_not, false_eq_decide_iff, true_eq_decide_iff, Bool.not_eq_true, Bool.and_eq_true, Bool.not_eq_true, not_true_eq_false, not_false_eq_true] at *; omega) | (simp only [← Bool.decide_and, ← Bool.decide_or, ← decide_not, decide_eq_decide, decide_eq_true_eq, decide_eq_false_iff_not, false_eq_decide_iff, true_eq_decide_iff, Bool.not_eq_true, Bool.and_eq_true, Bool.not_eq_true, not_true_eq_false, not_false_eq_true] at *; done)
    · try rw [h17]
      try simp only [decide_eq_true_eq, decide_eq_false_iff_not, Bool.not_eq_eq_eq_not, Bool.not_true, Bool.not_false, mInts_lt, mInts_gt, mInts_le, mInts_zero, Bool.and_eq_true] at h17
      refine T_skip ?_
      refine seqT_keep (keep_cons rfl (keep_cons rfl (keep_cons rfl (keep_cons rfl (keep_nil))))) ?_
      refine T_seq ?_ -- 2
      refine R_seq fun K hK => ?_
      refine R_loadA (cs := [_, _, _, _, _, _, _, _, _, _, _, _, _, _]) rfl rfl rfl rfl ?_
      refine R_call (g_span (cGood.of l _) (cGood.of l _)) rfl rfl (.inr rfl) ?_
      refine R_not rfl ?_
      refine R_mov rfl ?_
      refine G_split (g := 41) rfl (fun h25 => ?_) (fun h25 => ?_)
      · try rw [h25]
        try simp only [decide_eq_true_eq, decide_eq_false_iff_not, Bool.not_eq_eq_eq_not, Bool.not_true, Bool.not_false, mInts_lt, mInts_gt, mInts_le, mInts_zero, Bool.and_eq_true] at h25
        refine G_no rfl ?_
        refine G_no rfl ?_
        refine G_no rfl ?_
        refine R_pick rfl rfl ?_
        refine hK _ _ (TW_keep (keep_cons rfl (keep_cons rfl (keep_cons rfl (keep_cons rfl (keep_cons rfl (keep_nil)))))) ?_)
        clear hK K
        refine T_condT rfl ?_
        refine R_seq fun K hK => ?_
        refine R_call (c_linchpinlaw3_awake) rfl rfl (.inr rfl) ?_
        refine R_mov rfl ?_
        refine hK _ _ (TW_keep (keep_cons rfl (keep_nil)) ?_)
        clear hK K
        refine T_ret ?_
        refine seqT_ret ?_
        refine post_retB rfl ?_
        first | rfl | (simp only [← Bool.decide_and, ← Bool.decide_or, ← decide_not, decide_eq_decide, decide_eq_true_eq, decide_eq_false_iff_not, false_eq_decide_iff, true_eq_decide_iff, Bool.not_eq_true, Bool.and_eq_true, Bool.not_eq_true, not_true_eq_false, not_false_eq_true] at *; omega) | (simp only [← Bool.decide_and, ← Bool.decide_or, ← decide_not, decide_eq_decide, decide_eq_true_eq, decide_eq_false_iff_not, false_eq_decide_iff, true_eq_decide_iff, Bool.not_eq_true, Bool.and_eq_true, Bool.not_eq_true, not_true_eq_false, not_false_eq_true] at *; done)
      · try rw [h25]
        try simp only [decide_eq_true_eq, decide_eq_false_iff_not, Bool.not_eq_eq_eq_not, Bool.not_true, Bool.not_false, mInts_lt, mInts_gt, mInts_le, mInts_zero, Bool.and_eq_true] at h25
        refine G_yes rfl ?_
        refine R_loadA (cs := [_, _, _, _, _, _, _, _, _, _, _, _, _, _]) rfl rfl rfl rfl ?_
        refine G_yes rfl ?_
        refine R_call (g_span (cGood.of l _) (cGood.of l _)) rfl rfl (.inr rfl) ?_
        refine G_yes rfl ?_
        refine R_not rfl ?_
        refine R_pick rfl rfl ?_
        refine hK _ _ (TW_keep (keep_cons rfl (keep_cons rfl (keep_cons rfl (keep_cons rfl (keep_cons rfl (keep_nil)))))) ?_)
        clear hK K
        refine T_cond rfl (fun h26 => ?_) (fun h26 => ?_)
        · try rw [h26]
          try simp only [decide_eq_true_eq, decide_eq_false_iff_not, Bool.not_eq_eq_eq_not, Bool.not_true, Bool.not_false, mInts_lt, mInts_gt, mInts_le, mInts_zero, Bool.and_eq_true] at h26
          refine R_seq fun K hK => ?_
          refine R_call (c_linchpinlaw3_awake) rfl rfl (.inr rfl) ?_
          refine R_mov rfl ?_
          refine hK _ _ (TW_keep (keep_cons rfl (keep_nil)) ?_)
          clear hK K
          refine T_ret ?_
          refine seqT_ret ?_
          refine post_retB rfl ?_
          first | rfl | (simp only [← Bool.decide_and, ← Bool.decide_or, ← decide_not, decide_eq_decide, decide_eq_true_eq, decide_eq_false_iff_not, false_eq_decide_iff, true_eq_decide_iff, Bool.not_eq_true, Bool.and_eq_true, Bool.not_eq_true, not_true_eq_false, not_false_eq_true] at *; omega) | (simp only [← Bool.decide_and, ← Bool.decide_or, ← decide_not, decide_eq_decide, decide_eq_true_eq, decide_eq_false_iff_not, false_eq_decide_iff, true_eq_decide_iff, Bool.not_eq_true, Bool.and_eq_true, Bool.not_eq_true, not_true_eq_false, not_false_eq_true] at *; done)
        · try rw [h26]
          try simp only [decide_eq_true_eq, decide_eq_false_iff_not, Bool.not_eq_eq_eq_not, Bool.not_true, Bool.not_false, mInts_lt, mInts_gt, mInts_le, mInts_zero, Bool.and_eq_true] at h26
          refine T_skip ?_
          refine seqT_keep (keep_cons rfl (keep_cons rfl (keep_cons rfl (keep_cons rfl (keep_nil))))) ?_
          refine R_seq fun K hK => ?_
          refine R_callD (c_linchpinlaw3_awake) rfl rfl (.inr rfl) rfl ?_
          refine R_mov rfl ?_
          refine G_yes rfl ?_
          refine R_loadAD (cs := [_, _, _, _, _, _, _, _, _, _, _, _, _, _]) rfl rfl rfl rfl rfl ?_
          refine G_yes rfl ?_
          refine R_loadAD (cs := [_, _, _, _, _]) rfl rfl rfl rfl rfl ?_
          refine G_yes rfl ?_
          refine R_callD (g_holds (cGood.of l _) (cGood.of l _) (vGood.of l _ _ _ _ _)) rfl rfl (.inr rfl) rfl ?_
          refine G_yes rfl ?_
          refine R_mov rfl ?_
          refine G_split (g := 52) rfl (fun h27 => ?_) (fun h27 => ?_)
          · try rw [h27]
            try simp only [decide_eq_true_eq, decide_eq_false_iff_not, Bool.not_eq_eq_eq_not, Bool.not_true, Bool.not_false, mInts_lt, mInts_gt, mInts_le, mInts_zero, Bool.and_eq_true] at h27
            refine G_yes rfl ?_
            refine R_loadAD (cs := [_, _, _, _, _, _, _, _, _, _, _, _, _, _]) rfl rfl rfl rfl rfl ?_
            refine G_yes rfl ?_
            refine R_loadAD (cs := [_, _, _, _, _]) rfl rfl rfl rfl rfl ?_
            refine G_yes rfl ?_
            refine R_callD (g_holds (cGood.of l _) (cGood.of l _) (vGood.of l _ _ _ _ _)) rfl rfl (.inr rfl) rfl ?_
            refine G_yes rfl ?_
            refine R_pick rfl rfl ?_
            refine G_yes rfl ?_
            refine R_loadAD (cs := [_, _, _, _, _, _, _, _, _, _, _, _, _, _]) rfl rfl rfl rfl rfl ?_
            refine G_yes rfl ?_
            refine R_loadAD (cs := [_, _, _, _, _]) rfl rfl rfl rfl rfl ?_
            refine G_yes rfl ?_
            refine R_callD (g_holds (cGood.of l _) (cGood.of l _) (vGood.of l _ _ _ _ _)) rfl rfl (.inr rfl) rfl ?_
            refine G_yes rfl ?_
            refine R_eqB rfl rfl ?_
            refine R_pick rfl rfl ?_
            refine R_mov rfl ?_
            refine G_split (g := 62) rfl (fun h28 => ?_) (fun h28 => ?_)
            · try rw [h28]
              try simp only [decide_eq_true_eq, decide_eq_false_iff_not, Bool.not_eq_eq_eq_not, Bool.not_true, Bool.not_false, mInts_lt, mInts_gt, mInts_le, mInts_zero, Bool.and_eq_true] at h28
              refine G_yes rfl ?_
              refine R_loadAD (cs := [_, _, _, _, _, _, _, _, _, _, _, _, _, _]) rfl rfl rfl rfl rfl ?_
              refine G_yes rfl ?_
              refine R_callD (g_span (cGood.of l _) (cGood.of l _)) rfl rfl (.inr rfl) rfl ?_
              refine G_yes rfl ?_
              refine R_mov rfl ?_
              refine G_split (g := 65) rfl (fun h29 => ?_) (fun h29 => ?_)
              · try rw [h29]
                try simp only [decide_eq_true_eq, decide_eq_false_iff_not, Bool.not_eq_eq_eq_not, Bool.not_true, Bool.not_false, mInts_lt, mInts_gt, mInts_le, mInts_zero, Bool.and_eq_true] at h29
                refine G_no rfl ?_
                refine G_no rfl ?_
                refine G_no rfl ?_
                refine G_no rfl ?_
                refine G_yes rfl ?_
                refine R_pick rfl rfl ?_
                refine R_pick rfl rfl ?_
                refine R_mov rfl ?_
                refine hK _ _ (TW_keep (keep_cons rfl (keep_nil)) ?_)
                clear hK K
                refine T_ret ?_
                refine post_retB rfl ?_
                first | rfl | (simp only [← Bool.decide_and, ← Bool.decide_or, ← decide_not, decide_eq_decide, decide_eq_true_eq, decide_eq_false_iff_not, false_eq_decide_iff, true_eq_decide_iff, Bool.not_eq_true, Bool.and_eq_true, Bool.not_eq_true, not_true_eq_false, not_false_eq_true] at *; omega) | (simp only [← Bool.decide_and, ← Bool.decide_or, ← decide_not, decide_eq_decide, decide_eq_true_eq, decide_eq_false_iff_not, false_eq_decide_iff, true_eq_decide_iff, Bool.not_eq_true, Bool.and_eq_true, Bool.not_eq_true, not_true_eq_false, not_false_eq_true] at *; done)
              · try rw [h29]
                try simp only [decide_eq_true_eq, decide_eq_false_iff_not, Bool.not_eq_eq_eq_not, Bool.not_true, Bool.not_false, mInts_lt, mInts_gt, mInts_le, mInts_zero, Bool.and_eq_true] at h29
                refine G_yes rfl ?_
                refine R_loadAD (cs := [_, _, _, _, _, _, _, _, _, _, _, _, _, _]) rfl rfl rfl rfl rfl ?_
                refine G_yes rfl ?_
                refine R_loadAD (cs := [_, _, _, _, _]) rfl rfl rfl rfl rfl ?_
                refine G_yes rfl ?_
                refine R_callD (g_holds (cGood.of l _) (cGood.of l _) (vGood.of l _ _ _ _ _)) rfl rfl (.inr rfl) rfl ?_
                refine G_yes rfl ?_
                refine R_not rfl ?_
                refine G_yes rfl ?_
                refine R_pick rfl rfl ?_
                refine R_pick rfl rfl ?_
                refine R_mov rfl ?_
                refine hK _ _ (TW_keep (keep_cons rfl (keep_nil)) ?_)
                clear hK K
                refine T_ret ?_
                refine post_retB rfl ?_
                first | rfl | (simp only [← Bool.decide_and, ← Bool.decide_or, ← decide_not, decide_eq_decide, decide_eq_true_eq, decide_eq_false_iff_not, false_eq_decide_iff, true_eq_decide_iff, Bool.not_eq_true, Bool.and_eq_true, Bool.not_eq_true, not_true_eq_false, not_false_eq_true] at *; omega) | (simp only [← Bool.decide_and, ← Bool.decide_or, ← decide_not, decide_eq_decide, decide_eq_true_eq, decide_eq_false_iff_not, false_eq_decide_iff, true_eq_decide_iff, Bool.not_eq_true, Bool.and_eq_true, Bool.not_eq_true, not_true_eq_false, not_false_eq_true] at *; done)
            · try rw [h28]
              try simp only [decide_eq_true_eq, decide_eq_false_iff_not, Bool.not_eq_eq_eq_not, Bool.not_true, Bool.not_false, mInts_lt, mInts_gt, mInts_le, mInts_zero, Bool.and_eq_true] at h28
              refine G_no rfl ?_
              refine G_no rfl ?_
              refine G_no rfl ?_
              refine G_undef rfl ?_
              refine G_undef rfl ?_
              refine G_undef rfl ?_
              refine G_undef rfl ?_
              refine G_no rfl ?_
              refine R_pick rfl rfl ?_
              refine R_mov rfl ?_
              refine hK _ _ (TW_keep (keep_cons rfl (keep_nil)) ?_)
              clear hK K
              refine T_ret ?_
              refine post_retB rfl ?_
              first | rfl | (simp only [← Bool.decide_and, ← Bool.decide_or, ← decide_not, decide_eq_decide, decide_eq_true_eq, decide_eq_false_iff_not, false_eq_decide_iff, true_eq_decide_iff, Bool.not_eq_true, Bool.and_eq_true, Bool.not_eq_true, not_true_eq_false, not_false_eq_true] at *; omega) | (simp only [← Bool.decide_and, ← Bool.decide_or, ← decide_not, decide_eq_decide, decide_eq_true_eq, decide_eq_false_iff_not, false_eq_decide_iff, true_eq_decide_iff, Bool.not_eq_true, Bool.and_eq_true, Bool.not_eq_true, not_true_eq_false, not_false_eq_true] at *; done)
          · try rw [h27]
            try simp only [decide_eq_true_eq, decide_eq_false_iff_not, Bool.not_eq_eq_eq_not, Bool.not_true, Bool.not_false, mInts_lt, mInts_gt, mInts_le, mInts_zero, Bool.and_eq_true] at h27
            refine G_no rfl ?_
            refine G_no rfl ?_
            refine G_no rfl ?_
            refine G_yes rfl ?_
            refine R_pick rfl rfl ?_
            refine G_yes rfl ?_
            refine R_loadAD (cs := [_, _, _, _, _, _, _, _, _, _, _, _, _, _]) rfl rfl rfl rfl rfl ?_
            refine G_yes rfl ?_
            refine R_loadAD (cs := [_, _, _, _, _]) rfl rfl rfl rfl rfl ?_
            refine G_yes rfl ?_
            refine R_callD (g_holds (cGood.of l _) (cGood.of l _) (vGood.of l _ _ _ _ _)) rfl rfl (.inr rfl) rfl ?_
            refine G_yes rfl ?_
            refine R_eqB rfl rfl ?_
            refine R_pick rfl rfl ?_
            refine R_mov rfl ?_
            refine G_split (g := 62) rfl (fun h30 => ?_) (fun h30 => ?_)
            · try rw [h30]
              try simp only [decide_eq_true_eq, decide_eq_false_iff_not, Bool.not_eq_eq_eq_not, Bool.not_true, Bool.not_false, mInts_lt, mInts_gt, mInts_le, mInts_zero, Bool.and_eq_true] at h30
              refine G_yes rfl ?_
              refine R_loadAD (cs := [_, _, _, _, _, _, _, _, _, _, _, _, _, _]) rfl rfl rfl rfl rfl ?_
              refine G_yes rfl ?_
              refine R_callD (g_span (cGood.of l _) (cGood.of l _)) rfl rfl (.inr rfl) rfl ?_
              refine G_yes rfl ?_
              refine R_mov rfl ?_
              refine G_split (g := 65) rfl (fun h31 => ?_) (fun h31 => ?_)
              · try rw [h31]
                try simp only [decide_eq_true_eq, decide_eq_false_iff_not, Bool.not_eq_eq_eq_not, Bool.not_true, Bool.not_false, mInts_lt, mInts_gt, mInts_le, mInts_zero, Bool.and_eq_true] at h31
                refine G_no rfl ?_
                refine G_no rfl ?_
                refine G_no rfl ?_
                refine G_no rfl ?_
                refine G_yes rfl ?_
                refine R_pick rfl rfl ?_
                refine R_pick rfl rfl ?_
                refine R_mov rfl ?_
                refine hK _ _ (TW_keep (keep_cons rfl (keep_nil)) ?_)
                clear hK K
                refine T_ret ?_
                refine post_retB rfl ?_
                first | rfl | (simp only [← Bool.decide_and, ← Bool.decide_or, ← decide_not, decide_eq_decide, decide_eq_true_eq, decide_eq_false_iff_not, false_eq_decide_iff, true_eq_decide_iff, Bool.not_eq_true, Bool.and_eq_true, Bool.not_eq_true, not_true_eq_false, not_false_eq_true] at *; omega) | (simp only [← Bool.decide_and, ← Bool.decide_or, ← decide_not, decide_eq_decide, decide_eq_true_eq, decide_eq_false_iff_not, false_eq_decide_iff, true_eq_decide_iff, Bool.not_eq_true, Bool.and_eq_true, Bool.not_eq_true, not_true_eq_false, not_false_eq_true] at *; done)
              · try rw [h31]
                try simp only [decide_eq_true_eq, decide_eq_false_iff_not, Bool.not_eq_eq_eq_not, Bool.not_true, Bool.not_false, mInts_lt, mInts_gt, mInts_le, mInts_zero, Bool.and_eq_true] at h31
                refine G_yes rfl ?_
                refine R_loadAD (cs := [_, _, _, _, _, _, _, _, _, _, _, _, _, _]) rfl rfl rfl rfl rfl ?_
                refine G_yes rfl ?_
                refine R_loadAD (cs := [_, _, _, _, _]) rfl rfl rfl rfl rfl ?_
                refine G_yes rfl ?_
                refine R_callD (g_holds (cGood.of l _) (cGood.of l _) (vGood.of l _ _ _ _ _)) rfl rfl (.inr rfl) rfl ?_
                refine G_yes rfl ?_
                refine R_not rfl ?_
                refine G_yes rfl ?_
                refine R_pick rfl rfl ?_
                refine R_pick rfl rfl ?_
                refine R_mov rfl ?_
                refine hK _ _ (TW_keep (keep_cons rfl (keep_nil)) ?_)
                clear hK K
                refine T_ret ?_
                refine post_retB rfl ?_
                first | rfl | (simp only [← Bool.decide_and, ← Bool.decide_or, ← decide_not, decide_eq_decide, decide_eq_true_eq, decide_eq_false_iff_not, false_eq_decide_iff, true_eq_decide_iff, Bool.not_eq_true, Bool.and_eq_true, Bool.not_eq_true, not_true_eq_false, not_false_eq_true] at *; omega) | (simp only [← Bool.decide_and, ← Bool.decide_or, ← decide_not, decide_eq_decide, decide_eq_true_eq, decide_eq_false_iff_not, false_eq_decide_iff, true_eq_decide_iff, Bool.not_eq_true, Bool.and_eq_true, Bool.not_eq_true, not_true_eq_false, not_false_eq_true] at *; done)
            · try rw [h30]
              try simp only [decide_eq_true_eq, decide_eq_false_iff_not, Bool.not_eq_eq_eq_not, Bool.not_true, Bool.not_false, mInts_lt, mInts_gt, mInts_le, mInts_zero, Bool.and_eq_true] at h30
              refine G_no rfl ?_
              refine G_no rfl ?_
              refine G_no rfl ?_
              refine G_undef rfl ?_
              refine G_undef rfl ?_
              refine G_undef rfl ?_
              refine G_undef rfl ?_
              refine G_no rfl ?_
              refine R_pick rfl rfl ?_
              refine R_mov rfl ?_
              refine hK _ _ (TW_keep (keep_cons rfl (keep_nil)) ?_)
              clear hK K
              refine T_ret ?_
              refine post_retB rfl ?_
              first | rfl | (simp only [← Bool.decide_and, ← Bool.decide_or, ← decide_not, decide_eq_decide, decide_eq_true_eq, decide_eq_false_iff_not, false_eq_decide_iff, true_eq_decide_iff, Bool.not_eq_true, Bool.and_eq_true, Bool.not_eq_true, not_true_eq_false, not_false_eq_true] at *; omega) | (simp only [← Bool.decide_and, ← Bool.decide_or, ← decide_not, decide_eq_decide, decide_eq_true_eq, decide_eq_false_iff_not, false_eq_decide_iff, true_eq_decide_iff, Bool.not_eq_true, Bool.and_eq_true, Bool.not_eq_true, not_true_eq_false, not_false_eq_true] at *; done)

end Go.Proofs
