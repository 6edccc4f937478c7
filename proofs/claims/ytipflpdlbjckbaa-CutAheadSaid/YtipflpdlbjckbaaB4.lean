/- Part 4 of the means of the proof: a verified abstract evaluator, the prepared functions, and contracts of functions. It states nothing of the claim by itself. -/
import Derived.Test.YtipflpdlbjckbaaB3
set_option linter.unusedSimpArgs false
set_option linter.unusedVariables false
namespace Go.Proofs
open Go Go.Abs M3
set_option linter.unusedVariables false
set_option linter.unusedSimpArgs false

theorem c_cmp_isNaN_string {s : List UInt8} : Ok Try.prog 51 [.str s] (.bool false) := by
  refine Ok.ofT tfol Try.func51 tp51 (Nat.le_of_ble_eq_true rfl) ?_
  show TW _ _ tf51.body _ _
  refine R_seq fun K hK => ?_
  refine R_mov rfl ?_
  refine hK _ _ (TW_keep (keep_cons rfl (keep_nil)) ?_)
  clear hK K
  refine R_seq fun K hK => ?_
  refine R_mov rfl ?_
  refine R_mov rfl ?_
  refine R_neS rfl rfl ?_
  refine R_mov rfl ?_
  refine hK _ _ (TW_keep (keep_cons rfl (keep_nil)) ?_)
  clear hK K
  refine T_ret ?_
  refine post_retB rfl ?_
  simp

theorem c_cmp_Compare_string {a b : List UInt8} : Ok Try.prog 45 [.str a, .str b] (.int .i64 (mTexts a b)) := by
  refine Ok.ofT tfol Try.func45 tp45 (Nat.le_of_ble_eq_true rfl) ?_
  show TW _ _ tf45.body _ _
  refine R_seq fun K hK => ?_
  refine R_mov rfl ?_
  refine hK _ _ (TW_keep (keep_cons rfl (keep_cons rfl (keep_nil))) ?_)
  clear hK K
  refine R_seq fun K hK => ?_
  refine R_mov rfl ?_
  refine R_call (c_cmp_isNaN_string) rfl rfl (.inr rfl) ?_
  refine R_mov rfl ?_
  refine hK _ _ (TW_keep (keep_cons rfl (keep_cons rfl (keep_cons rfl (keep_nil)))) ?_)
  clear hK K
  refine R_seq fun K hK => ?_
  refine R_mov rfl ?_
  refine R_call (c_cmp_isNaN_string) rfl rfl (.inr rfl) ?_
  refine R_mov rfl ?_
  refine hK _ _ (TW_keep (keep_cons rfl (keep_cons rfl (keep_cons rfl (keep_cons rfl (keep_nil))))) ?_)
  clear hK K
  refine T_seq ?_ -- 0
  refine R_seq fun K hK => ?_
  refine R_mov rfl ?_
  refine hK _ _ (TW_keep (keep_cons rfl (keep_cons rfl (keep_cons rfl (keep_cons rfl (keep_nil))))) ?_)
  clear hK K
  refine T_cond rfl (fun h1 => ?_) (fun h1 => ?_)
  · try rw [h1]
    try simp only [decide_eq_true_eq, decide_eq_false_iff_not, Bool.not_eq_eq_eq_not, Bool.not_true, Bool.not_false] at h1
    refine T_seq ?_ -- 1
    refine R_seq fun K hK => ?_
    refine R_mov rfl ?_
    refine hK _ _ (TW_keep (keep_cons rfl (keep_nil)) ?_)
    clear hK K
    refine T_cond rfl (fun h2 => ?_) (fun h2 => ?_)
    · try rw [h2]
      try simp only [decide_eq_true_eq, decide_eq_false_iff_not, Bool.not_eq_eq_eq_not, Bool.not_true, Bool.not_false] at h2
      refine R_seq fun K hK => ?_
      refine R_mov rfl ?_
      refine hK _ _ (TW_keep (keep_cons rfl (keep_nil)) ?_)
      clear hK K
      refine T_ret ?_
      refine seqT_ret ?_
      refine seqT_ret ?_
      refine post_retI rfl ?_
      simp_all [mTexts]
    · try rw [h2]
      try simp only [decide_eq_true_eq, decide_eq_false_iff_not, Bool.not_eq_eq_eq_not, Bool.not_true, Bool.not_false] at h2
      refine T_skip ?_
      refine seqT_keep (keep_nil) ?_
      refine R_seq fun K hK => ?_
      refine R_mov rfl ?_
      refine hK _ _ (TW_keep (keep_cons rfl (keep_nil)) ?_)
      clear hK K
      refine T_ret ?_
      refine seqT_ret ?_
      refine post_retI rfl ?_
      simp_all [mTexts]
  · try rw [h1]
    try simp only [decide_eq_true_eq, decide_eq_false_iff_not, Bool.not_eq_eq_eq_not, Bool.not_true, Bool.not_false] at h1
    refine T_skip ?_
    refine seqT_keep (keep_cons rfl (keep_cons rfl (keep_cons rfl (keep_nil)))) ?_
    refine T_seq ?_ -- 2
    refine R_seq fun K hK => ?_
    refine R_mov rfl ?_
    refine hK _ _ (TW_keep (keep_cons rfl (keep_cons rfl (keep_cons rfl (keep_nil)))) ?_)
    clear hK K
    refine T_cond rfl (fun h3 => ?_) (fun h3 => ?_)
    · try rw [h3]
      try simp only [decide_eq_true_eq, decide_eq_false_iff_not, Bool.not_eq_eq_eq_not, Bool.not_true, Bool.not_false] at h3
      refine R_seq fun K hK => ?_
      refine R_mov rfl ?_
      refine hK _ _ (TW_keep (keep_cons rfl (keep_nil)) ?_)
      clear hK K
      refine T_ret ?_
      refine seqT_ret ?_
      refine post_retI rfl ?_
      simp_all [mTexts]
    · try rw [h3]
      try simp only [decide_eq_true_eq, decide_eq_false_iff_not, Bool.not_eq_eq_eq_not, Bool.not_true, Bool.not_false] at h3
      refine T_skip ?_
      refine seqT_keep (keep_cons rfl (keep_cons rfl (keep_nil))) ?_
      refine T_seq ?_ -- 3
      refine R_seq fun K hK => ?_
      refine R_mov rfl ?_
      refine R_mov rfl ?_
      refine R_ltS rfl rfl ?_
      refine hK _ _ (TW_keep (keep_cons rfl (keep_cons rfl (keep_cons rfl (keep_nil)))) ?_)
      clear hK K
      refine T_cond rfl (fun h4 => ?_) (fun h4 => ?_)
      · try rw [h4]
        try simp only [decide_eq_true_eq, decide_eq_false_iff_not, Bool.not_eq_eq_eq_not, Bool.not_true, Bool.not_false] at h4
        refine R_seq fun K hK => ?_
        refine R_mov rfl ?_
        refine hK _ _ (TW_keep (keep_cons rfl (keep_nil)) ?_)
        clear hK K
        refine T_ret ?_
        refine seqT_ret ?_
        refine post_retI rfl ?_
        simp_all [mTexts]
      · try rw [h4]
        try simp only [decide_eq_true_eq, decide_eq_false_iff_not, Bool.not_eq_eq_eq_not, Bool.not_true, Bool.not_false] at h4
        refine T_skip ?_
        refine seqT_keep (keep_cons rfl (keep_cons rfl (keep_nil))) ?_
        refine T_seq ?_ -- 4
        refine R_seq fun K hK => ?_
        refine R_mov rfl ?_
        refine R_mov rfl ?_
        refine R_gtS rfl rfl ?_
        refine hK _ _ (TW_keep (keep_cons rfl (keep_nil)) ?_)
        clear hK K
        refine T_cond rfl (fun h5 => ?_) (fun h5 => ?_)
        · try rw [h5]
          try simp only [decide_eq_true_eq, decide_eq_false_iff_not, Bool.not_eq_eq_eq_not, Bool.not_true, Bool.not_false] at h5
          refine R_seq fun K hK => ?_
          refine R_mov rfl ?_
          refine hK _ _ (TW_keep (keep_cons rfl (keep_nil)) ?_)
          clear hK K
          refine T_ret ?_
          refine seqT_ret ?_
          refine post_retI rfl ?_
          simp_all [mTexts]
        · try rw [h5]
          try simp only [decide_eq_true_eq, decide_eq_false_iff_not, Bool.not_eq_eq_eq_not, Bool.not_true, Bool.not_false] at h5
          refine T_skip ?_
          refine seqT_keep (keep_nil) ?_
          refine R_seq fun K hK => ?_
          refine R_mov rfl ?_
          refine hK _ _ (TW_keep (keep_cons rfl (keep_nil)) ?_)
          clear hK K
          refine T_ret ?_
          refine post_retI rfl ?_
          simp_all [mTexts]

theorem c_linchpinref2_Texts {a b : List UInt8} : Ok Try.prog 53 [.str a, .str b] (.int .i64 (mTexts a b)) := by
  refine Ok.ofT tfol Try.func53 tp53 (Nat.le_of_ble_eq_true rfl) ?_
  show TW _ _ tf53.body _ _
  refine R_seq fun K hK => ?_
  refine R_mov rfl ?_
  refine hK _ _ (TW_keep (keep_cons rfl (keep_cons rfl (keep_nil))) ?_)
  clear hK K
  refine T_seq ?_ -- 0
  refine T_block ?_
  refine R_seq fun K hK => ?_
  refine R_mov rfl ?_
  refine R_mov rfl ?_
  refine R_ltS rfl rfl ?_
  refine R_mov rfl ?_
  refine hK _ _ (TW_keep (keep_cons rfl (keep_cons rfl (keep_cons rfl (keep_nil)))) ?_)
  clear hK K
  refine T_cond rfl (fun h1 => ?_) (fun h1 => ?_)
  · try rw [h1]
    try simp only [decide_eq_true_eq, decide_eq_false_iff_not, Bool.not_eq_eq_eq_not, Bool.not_true, Bool.not_false] at h1
    refine R_seq fun K hK => ?_
    refine R_mov rfl ?_
    refine hK _ _ (TW_keep (keep_cons rfl (keep_nil)) ?_)
    clear hK K
    refine T_ret ?_
    refine block_ret ?_
    refine seqT_ret ?_
    refine post_retI rfl ?_
    simp_all [mTexts]
  · try rw [h1]
    try simp only [decide_eq_true_eq, decide_eq_false_iff_not, Bool.not_eq_eq_eq_not, Bool.not_true, Bool.not_false] at h1
    refine R_seq fun K hK => ?_
    refine R_mov rfl ?_
    refine R_mov rfl ?_
    refine R_gtS rfl rfl ?_
    refine R_mov rfl ?_
    refine hK _ _ (TW_keep (keep_cons rfl (keep_nil)) ?_)
    clear hK K
    refine T_cond rfl (fun h2 => ?_) (fun h2 => ?_)
    · try rw [h2]
      try simp only [decide_eq_true_eq, decide_eq_false_iff_not, Bool.not_eq_eq_eq_not, Bool.not_true, Bool.not_false] at h2
      refine R_seq fun K hK => ?_
      refine R_mov rfl ?_
      refine hK _ _ (TW_keep (keep_cons rfl (keep_nil)) ?_)
      clear hK K
      refine T_ret ?_
      refine block_ret ?_
      refine seqT_ret ?_
      refine post_retI rfl ?_
      simp_all [mTexts]
    · try rw [h2]
      try simp only [decide_eq_true_eq, decide_eq_false_iff_not, Bool.not_eq_eq_eq_not, Bool.not_true, Bool.not_false] at h2
      refine T_skip ?_
      refine block_normal ?_
      refine seqT_keep (keep_nil) ?_
      refine R_seq fun K hK => ?_
      refine R_mov rfl ?_
      refine hK _ _ (TW_keep (keep_cons rfl (keep_nil)) ?_)
      clear hK K
      refine T_ret ?_
      refine post_retI rfl ?_
      simp_all [mTexts]

theorem c_linchpinref1_digit {c : Int} : Ok Try.prog 52 [.int .u8 c] (.bool (mDigit c)) := by
  refine Ok.ofT tfol Try.func52 tp52 (Nat.le_of_ble_eq_true rfl) ?_
  show TW _ _ tf52.body _ _
  refine R_seq fun K hK => ?_
  refine R_mov rfl ?_
  refine hK _ _ (TW_keep (keep_cons rfl (keep_nil)) ?_)
  clear hK K
  refine R_seq fun K hK => ?_
  refine R_mov rfl ?_
  refine R_ge rfl rfl ?_
  refine R_mov rfl ?_
  refine G_split (g := 5) rfl (fun h1 => ?_) (fun h1 => ?_)
  · try rw [h1]
    try simp only [decide_eq_true_eq, decide_eq_false_iff_not, Bool.not_eq_eq_eq_not, Bool.not_true, Bool.not_false] at h1
    refine G_yes rfl ?_
    refine R_mov rfl ?_
    refine G_yes rfl ?_
    refine R_le rfl rfl ?_
    refine R_pick rfl rfl ?_
    refine R_mov rfl ?_
    refine hK _ _ (TW_keep (keep_cons rfl (keep_nil)) ?_)
    clear hK K
    refine T_ret ?_
    refine post_retB rfl ?_
    simp_all [mDigit] <;> omega
  · try rw [h1]
    try simp only [decide_eq_true_eq, decide_eq_false_iff_not, Bool.not_eq_eq_eq_not, Bool.not_true, Bool.not_false] at h1
    refine G_no rfl ?_
    refine G_no rfl ?_
    refine R_pick rfl rfl ?_
    refine R_mov rfl ?_
    refine hK _ _ (TW_keep (keep_cons rfl (keep_nil)) ?_)
    clear hK K
    refine T_ret ?_
    refine post_retB rfl ?_
    simp_all [mDigit] <;> omega

theorem c_linchpinref2_Numeric {s : List UInt8} (hl : s.length ≤ 1000000) : Ok Try.prog 49 [.str s] (.bool (mNumeric s)) := by
  refine Ok.ofT tfol Try.func49 tp49 (Nat.le_of_ble_eq_true rfl) ?_
  show TW _ _ tf49.body _ _
  refine R_seq fun K hK => ?_
  refine R_mov rfl ?_
  refine hK _ _ (TW_keep (keep_cons rfl (keep_nil)) ?_)
  clear hK K
  refine T_seq ?_ -- 0
  refine R_seq fun K hK => ?_
  refine R_mov rfl ?_
  refine hK _ _ (TW_keep (keep_cons rfl (keep_cons rfl (keep_nil))) ?_)
  clear hK K
  refine T_block ?_
  refine T_loop (ι := Nat) (fun i => ⟨[(0, .str s), (3, .int .i64 i)], []⟩) (fun i => i ≤ s.length ∧ (s.take i).all isDig = true) (fun i => s.length - i) 0 ?_ ?_ ?_
  · exact le_keep' (keep_cons rfl (keep_cons rfl (keep_nil)))
  · exact ⟨Nat.zero_le _, rfl⟩
  intro i hI
  try dsimp only
  refine T_seq ?_ -- 1
  refine R_seq fun K hK => ?_
  refine R_mov rfl ?_
  refine R_mov rfl ?_
  refine R_lenStr rfl ?_
  refine R_lt rfl rfl ?_
  refine hK _ _ (TW_keep (keep_cons rfl (keep_cons rfl (keep_cons rfl (keep_nil)))) ?_)
  clear hK K
  refine T_cond rfl (fun h1 => ?_) (fun h1 => ?_)
  · try rw [h1]
    try simp only [decide_eq_true_eq, decide_eq_false_iff_not, Bool.not_eq_eq_eq_not, Bool.not_true, Bool.not_false] at h1
    refine T_skip ?_
    refine seqT_keep (keep_cons rfl (keep_cons rfl (keep_nil))) ?_
    refine T_seq ?_ -- 2
    refine T_block ?_
    refine R_seq fun K hK => ?_
    refine R_mov rfl ?_
    refine R_mov rfl ?_
    refine R_indexStr rfl rfl (by omega) (idx_at (by omega)) ?_
    refine R_lt rfl rfl ?_
    refine R_mov rfl ?_
    refine G_split (g := 14) rfl (fun h2 => ?_) (fun h2 => ?_)
    · try rw [h2]
      try simp only [decide_eq_true_eq, decide_eq_false_iff_not, Bool.not_eq_eq_eq_not, Bool.not_true, Bool.not_false] at h2
      refine G_no rfl ?_
      refine G_no rfl ?_
      refine G_no rfl ?_
      refine G_no rfl ?_
      refine R_pick rfl rfl ?_
      refine hK _ _ (TW_keep (keep_cons rfl (keep_cons rfl (keep_cons rfl (keep_nil)))) ?_)
      clear hK K
      refine T_condT rfl ?_
      refine R_seq fun K hK => ?_
      refine R_mov rfl ?_
      refine hK _ _ (TW_keep (keep_cons rfl (keep_nil)) ?_)
      clear hK K
      refine T_ret ?_
      refine block_ret ?_
      refine seqT_ret ?_
      refine round_ret ?_
      refine block_ret ?_
      refine seqT_ret ?_
      refine post_retB rfl ?_
      exact (numeric_no (i := i) (by omega) (by simp [isDig]; omega)).symm
    · try rw [h2]
      try simp only [decide_eq_true_eq, decide_eq_false_iff_not, Bool.not_eq_eq_eq_not, Bool.not_true, Bool.not_false] at h2
      refine G_yes rfl ?_
      refine R_mov rfl ?_
      refine G_yes rfl ?_
      refine R_mov rfl ?_
      refine G_yes rfl ?_
      refine R_indexStr rfl rfl (by omega) (idx_at (by omega)) ?_
      refine G_yes rfl ?_
      refine R_gt rfl rfl ?_
      refine R_pick rfl rfl ?_
      refine hK _ _ (TW_keep (keep_cons rfl (keep_cons rfl (keep_cons rfl (keep_nil)))) ?_)
      clear hK K
      refine T_cond rfl (fun h3 => ?_) (fun h3 => ?_)
      · try rw [h3]
        try simp only [decide_eq_true_eq, decide_eq_false_iff_not, Bool.not_eq_eq_eq_not, Bool.not_true, Bool.not_false] at h3
        refine R_seq fun K hK => ?_
        refine R_mov rfl ?_
        refine hK _ _ (TW_keep (keep_cons rfl (keep_nil)) ?_)
        clear hK K
        refine T_ret ?_
        refine block_ret ?_
        refine seqT_ret ?_
        refine round_ret ?_
        refine block_ret ?_
        refine seqT_ret ?_
        refine post_retB rfl ?_
        exact (numeric_no (i := i) (by omega) (by simp [isDig]; omega)).symm
      · try rw [h3]
        try simp only [decide_eq_true_eq, decide_eq_false_iff_not, Bool.not_eq_eq_eq_not, Bool.not_true, Bool.not_false] at h3
        refine T_skip ?_
        refine block_normal ?_
        refine seqT_keep (keep_cons rfl (keep_cons rfl (keep_nil))) ?_
        refine R_last fun K hK => ?_
        refine R_mov rfl ?_
        refine R_add rfl rfl (by first | exact wrap_i64 (by omega) (by omega) | exact wrap_i32 (by omega) (by omega) | exact wrap_u8 (by omega) (by omega) | rfl) ?_
        refine R_mov rfl ?_
        refine hK _ ?_
        clear hK K
        refine round_normal (i + 1) ?_ ?_ ?_
        · exact le_keep' (keep_cons rfl (keep_cons rfl (keep_nil)))
        · exact ⟨by omega, take_all (by omega) hI.2 (by simp [isDig]; omega)⟩
        · first | omega | (simp only; omega) | (dsimp only; omega)
  · try rw [h1]
    try simp only [decide_eq_true_eq, decide_eq_false_iff_not, Bool.not_eq_eq_eq_not, Bool.not_true, Bool.not_false] at h1
    refine T_exit ?_
    refine seqT_exit ?_
    refine round_exit ?_
    refine block_hit ?_
    refine seqT_keep (keep_cons rfl (keep_nil)) ?_
    refine R_seq fun K hK => ?_
    refine R_mov rfl ?_
    refine R_lenStr rfl ?_
    refine R_gt rfl rfl ?_
    refine R_mov rfl ?_
    refine hK _ _ (TW_keep (keep_cons rfl (keep_nil)) ?_)
    clear hK K
    refine T_ret ?_
    refine post_retB rfl ?_
    rw [numeric_yes (i := i) (by omega) hI.2]; cases s <;> simp

theorem c_linchpinref2_tag {s : List UInt8} (hl : s.length ≤ 1000000) : Ok Try.prog 47 [.str s] (.bool (mTag s)) := by
  refine Ok.ofT tfol Try.func47 tp47 (Nat.le_of_ble_eq_true rfl) ?_
  show TW _ _ tf47.body _ _
  refine R_seq fun K hK => ?_
  refine R_mov rfl ?_
  refine hK _ _ (TW_keep (keep_cons rfl (keep_nil)) ?_)
  clear hK K
  refine T_seq ?_ -- 0
  refine R_seq fun K hK => ?_
  refine R_mov rfl ?_
  refine R_lenStr rfl ?_
  refine R_lt rfl rfl ?_
  refine R_mov rfl ?_
  refine G_split (g := 8) rfl (fun h1 => ?_) (fun h1 => ?_)
  · try rw [h1]
    try simp only [decide_eq_true_eq, decide_eq_false_iff_not, Bool.not_eq_eq_eq_not, Bool.not_true, Bool.not_false] at h1
    refine G_no rfl ?_
    refine G_no rfl ?_
    refine G_no rfl ?_
    refine R_pick rfl rfl ?_
    refine hK _ _ (TW_keep (keep_cons rfl (keep_cons rfl (keep_nil))) ?_)
    clear hK K
    refine T_condT rfl ?_
    refine R_seq fun K hK => ?_
    refine R_mov rfl ?_
    refine hK _ _ (TW_keep (keep_cons rfl (keep_nil)) ?_)
    clear hK K
    refine T_ret ?_
    refine seqT_ret ?_
    refine post_retB rfl ?_
    first | (have hz := all_yes (p := isTag) (s := s) (i := i) (by omega) hI.2; simp [mTag, hz]; omega) | (have hz := all_no (p := isTag) (s := s) (i := i) (by omega) (by simp [isTag]; omega); simp [mTag, hz]; done) | (simp [mTag]; omega)
  · try rw [h1]
    try simp only [decide_eq_true_eq, decide_eq_false_iff_not, Bool.not_eq_eq_eq_not, Bool.not_true, Bool.not_false] at h1
    refine G_yes rfl ?_
    refine R_mov rfl ?_
    refine G_yes rfl ?_
    refine R_lenStr rfl ?_
    refine G_yes rfl ?_
    refine R_gt rfl rfl ?_
    refine R_pick rfl rfl ?_
    refine hK _ _ (TW_keep (keep_cons rfl (keep_cons rfl (keep_nil))) ?_)
    clear hK K
    refine T_cond rfl (fun h2 => ?_) (fun h2 => ?_)
    · try rw [h2]
      try simp only [decide_eq_true_eq, decide_eq_false_iff_not, Bool.not_eq_eq_eq_not, Bool.not_true, Bool.not_false] at h2
      refine R_seq fun K hK => ?_
      refine R_mov rfl ?_
      refine hK _ _ (TW_keep (keep_cons rfl (keep_nil)) ?_)
      clear hK K
      refine T_ret ?_
      refine seqT_ret ?_
      refine post_retB rfl ?_
      first | (have hz := all_yes (p := isTag) (s := s) (i := i) (by omega) hI.2; simp [mTag, hz]; omega) | (have hz := all_no (p := isTag) (s := s) (i := i) (by omega) (by simp [isTag]; omega); simp [mTag, hz]; done) | (simp [mTag]; omega)
    · try rw [h2]
      try simp only [decide_eq_true_eq, decide_eq_false_iff_not, Bool.not_eq_eq_eq_not, Bool.not_true, Bool.not_false] at h2
      refine T_skip ?_
      refine seqT_keep (keep_cons rfl (keep_nil)) ?_
      refine T_seq ?_ -- 1
      refine R_seq fun K hK => ?_
      refine R_mov rfl ?_
      refine hK _ _ (TW_keep (keep_cons rfl (keep_cons rfl (keep_nil))) ?_)
      clear hK K
      refine T_block ?_
      refine T_loop (ι := Nat) (fun i => ⟨[(0, .str s), (3, .int .i64 i)], []⟩) (fun i => i ≤ s.length ∧ (s.take i).all isTag = true) (fun i => s.length - i) 0 ?_ ?_ ?_
      · exact le_keep' (keep_cons rfl (keep_cons rfl (keep_nil)))
      · exact ⟨Nat.zero_le _, rfl⟩
      intro i hI
      try dsimp only
      refine T_seq ?_ -- 2
      refine R_seq fun K hK => ?_
      refine R_mov rfl ?_
      refine R_mov rfl ?_
      refine R_lenStr rfl ?_
      refine R_lt rfl rfl ?_
      refine hK _ _ (TW_keep (keep_cons rfl (keep_cons rfl (keep_cons rfl (keep_nil)))) ?_)
      clear hK K
      refine T_cond rfl (fun h3 => ?_) (fun h3 => ?_)
      · try rw [h3]
        try simp only [decide_eq_true_eq, decide_eq_false_iff_not, Bool.not_eq_eq_eq_not, Bool.not_true, Bool.not_false] at h3
        refine T_skip ?_
        refine seqT_keep (keep_cons rfl (keep_cons rfl (keep_nil))) ?_
        refine T_seq ?_ -- 3
        refine T_block ?_
        refine R_seq fun K hK => ?_
        refine R_mov rfl ?_
        refine R_mov rfl ?_
        refine R_indexStr rfl rfl (by omega) (idx_at (by omega)) ?_
        refine R_mov rfl ?_
        refine hK _ _ (TW_keep (keep_cons rfl (keep_cons rfl (keep_cons rfl (keep_nil)))) ?_)
        clear hK K
        refine R_seq fun K hK => ?_
        refine R_mov rfl ?_
        refine R_lt rfl rfl ?_
        refine R_mov rfl ?_
        refine G_split (g := 24) rfl (fun h4 => ?_) (fun h4 => ?_)
        · try rw [h4]
          try simp only [decide_eq_true_eq, decide_eq_false_iff_not, Bool.not_eq_eq_eq_not, Bool.not_true, Bool.not_false] at h4
          refine G_no rfl ?_
          refine G_no rfl ?_
          refine R_pick rfl rfl ?_
          refine R_mov rfl ?_
          refine G_yes rfl ?_
          refine R_mov rfl ?_
          refine G_yes rfl ?_
          refine R_lt rfl rfl ?_
          refine G_yes rfl ?_
          refine R_mov rfl ?_
          refine G_split (g := 31) rfl (fun h5 => ?_) (fun h5 => ?_)
          · try rw [h5]
            try simp only [decide_eq_true_eq, decide_eq_false_iff_not, Bool.not_eq_eq_eq_not, Bool.not_true, Bool.not_false] at h5
            refine G_no rfl ?_
            refine G_no rfl ?_
            refine G_yes rfl ?_
            refine R_pick rfl rfl ?_
            refine R_pick rfl rfl ?_
            refine R_mov rfl ?_
            refine G_yes rfl ?_
            refine R_mov rfl ?_
            refine G_yes rfl ?_
            refine R_neI rfl rfl ?_
            refine R_pick rfl rfl ?_
            refine hK _ _ (TW_keep (keep_cons rfl (keep_cons rfl (keep_cons rfl (keep_nil)))) ?_)
            clear hK K
            refine T_cond rfl (fun h6 => ?_) (fun h6 => ?_)
            · try rw [h6]
              try simp only [decide_eq_true_eq, decide_eq_false_iff_not, Bool.not_eq_eq_eq_not, Bool.not_true, Bool.not_false] at h6
              refine R_seq fun K hK => ?_
              refine R_mov rfl ?_
              refine hK _ _ (TW_keep (keep_cons rfl (keep_nil)) ?_)
              clear hK K
              refine T_ret ?_
              refine block_ret ?_
              refine seqT_ret ?_
              refine round_ret ?_
              refine block_ret ?_
              refine seqT_ret ?_
              refine post_retB rfl ?_
              first | (have hz := all_yes (p := isTag) (s := s) (i := i) (by omega) hI.2; simp [mTag, hz]; omega) | (have hz := all_no (p := isTag) (s := s) (i := i) (by omega) (by simp [isTag]; omega); simp [mTag, hz]; done) | (simp [mTag]; omega)
            · try rw [h6]
              try simp only [decide_eq_true_eq, decide_eq_false_iff_not, Bool.not_eq_eq_eq_not, Bool.not_true, Bool.not_false] at h6
              refine T_skip ?_
              refine block_normal ?_
              refine seqT_keep (keep_cons rfl (keep_cons rfl (keep_nil))) ?_
              refine R_last fun K hK => ?_
              refine R_mov rfl ?_
              refine R_add rfl rfl (by first | exact wrap_i64 (by omega) (by omega) | exact wrap_i32 (by omega) (by omega) | exact wrap_u8 (by omega) (by omega) | rfl) ?_
              refine R_mov rfl ?_
              refine hK _ ?_
              clear hK K
              refine round_normal (i + 1) ?_ ?_ ?_
              · exact le_keep' (keep_cons rfl (keep_cons rfl (keep_nil)))
              · exact ⟨by omega, take_all (by omega) hI.2 (by simp [isTag]; omega)⟩
              · first | omega | (simp only; omega) | (dsimp only; omega)
          · try rw [h5]
            try simp only [decide_eq_true_eq, decide_eq_false_iff_not, Bool.not_eq_eq_eq_not, Bool.not_true, Bool.not_false] at h5
            refine G_yes rfl ?_
            refine R_mov rfl ?_
            refine G_yes rfl ?_
            refine R_gt rfl rfl ?_
            refine G_yes rfl ?_
            refine R_pick rfl rfl ?_
            refine R_pick rfl rfl ?_
            refine R_mov rfl ?_
            refine G_split (g := 36) rfl (fun h7 => ?_) (fun h7 => ?_)
            · try rw [h7]
              try simp only [decide_eq_true_eq, decide_eq_false_iff_not, Bool.not_eq_eq_eq_not, Bool.not_true, Bool.not_false] at h7
              refine G_yes rfl ?_
              refine R_mov rfl ?_
              refine G_yes rfl ?_
              refine R_neI rfl rfl ?_
              refine R_pick rfl rfl ?_
              refine hK _ _ (TW_keep (keep_cons rfl (keep_cons rfl (keep_cons rfl (keep_nil)))) ?_)
              clear hK K
              refine T_cond rfl (fun h8 => ?_) (fun h8 => ?_)
              · try rw [h8]
                try simp only [decide_eq_true_eq, decide_eq_false_iff_not, Bool.not_eq_eq_eq_not, Bool.not_true, Bool.not_false] at h8
                refine R_seq fun K hK => ?_
                refine R_mov rfl ?_
                refine hK _ _ (TW_keep (keep_cons rfl (keep_nil)) ?_)
                clear hK K
                refine T_ret ?_
                refine block_ret ?_
                refine seqT_ret ?_
                refine round_ret ?_
                refine block_ret ?_
                refine seqT_ret ?_
                refine post_retB rfl ?_
                first | (have hz := all_yes (p := isTag) (s := s) (i := i) (by omega) hI.2; simp [mTag, hz]; omega) | (have hz := all_no (p := isTag) (s := s) (i := i) (by omega) (by simp [isTag]; omega); simp [mTag, hz]; done) | (simp [mTag]; omega)
              · try rw [h8]
                try simp only [decide_eq_true_eq, decide_eq_false_iff_not, Bool.not_eq_eq_eq_not, Bool.not_true, Bool.not_false] at h8
                refine T_skip ?_
                refine block_normal ?_
                refine seqT_keep (keep_cons rfl (keep_cons rfl (keep_nil))) ?_
                refine R_last fun K hK => ?_
                refine R_mov rfl ?_
                refine R_add rfl rfl (by first | exact wrap_i64 (by omega) (by omega) | exact wrap_i32 (by omega) (by omega) | exact wrap_u8 (by omega) (by omega) | rfl) ?_
                refine R_mov rfl ?_
                refine hK _ ?_
                clear hK K
                refine round_normal (i + 1) ?_ ?_ ?_
                · exact le_keep' (keep_cons rfl (keep_cons rfl (keep_nil)))
                · exact ⟨by omega, take_all (by omega) hI.2 (by simp [isTag]; omega)⟩
                · first | omega | (simp only; omega) | (dsimp only; omega)
            · try rw [h7]
              try simp only [decide_eq_true_eq, decide_eq_false_iff_not, Bool.not_eq_eq_eq_not, Bool.not_true, Bool.not_false] at h7
              refine G_no rfl ?_
              refine G_no rfl ?_
              refine R_pick rfl rfl ?_
              refine hK _ _ (TW_keep (keep_cons rfl (keep_cons rfl (keep_cons rfl (keep_nil)))) ?_)
              clear hK K
              refine T_condF rfl ?_
              refine T_skip ?_
              refine block_normal ?_
              refine seqT_keep (keep_cons rfl (keep_cons rfl (keep_nil))) ?_
              refine R_last fun K hK => ?_
              refine R_mov rfl ?_
              refine R_add rfl rfl (by first | exact wrap_i64 (by omega) (by omega) | exact wrap_i32 (by omega) (by omega) | exact wrap_u8 (by omega) (by omega) | rfl) ?_
              refine R_mov rfl ?_
              refine hK _ ?_
              clear hK K
              refine round_normal (i + 1) ?_ ?_ ?_
              · exact le_keep' (keep_cons rfl (keep_cons rfl (keep_nil)))
              · exact ⟨by omega, take_all (by omega) hI.2 (by simp [isTag]; omega)⟩
              · first | omega | (simp only; omega) | (dsimp only; omega)
        · try rw [h4]
          try simp only [decide_eq_true_eq, decide_eq_false_iff_not, Bool.not_eq_eq_eq_not, Bool.not_true, Bool.not_false] at h4
          refine G_yes rfl ?_
          refine R_mov rfl ?_
          refine G_yes rfl ?_
          refine R_gt rfl rfl ?_
          refine R_pick rfl rfl ?_
          refine R_mov rfl ?_
          refine G_split (g := 28) rfl (fun h9 => ?_) (fun h9 => ?_)
          · try rw [h9]
            try simp only [decide_eq_true_eq, decide_eq_false_iff_not, Bool.not_eq_eq_eq_not, Bool.not_true, Bool.not_false] at h9
            refine G_yes rfl ?_
            refine R_mov rfl ?_
            refine G_yes rfl ?_
            refine R_lt rfl rfl ?_
            refine G_yes rfl ?_
            refine R_mov rfl ?_
            refine G_split (g := 31) rfl (fun h10 => ?_) (fun h10 => ?_)
            · try rw [h10]
              try simp only [decide_eq_true_eq, decide_eq_false_iff_not, Bool.not_eq_eq_eq_not, Bool.not_true, Bool.not_false] at h10
              refine G_no rfl ?_
              refine G_no rfl ?_
              refine G_yes rfl ?_
              refine R_pick rfl rfl ?_
              refine R_pick rfl rfl ?_
              refine R_mov rfl ?_
              refine G_yes rfl ?_
              refine R_mov rfl ?_
              refine G_yes rfl ?_
              refine R_neI rfl rfl ?_
              refine R_pick rfl rfl ?_
              refine hK _ _ (TW_keep (keep_cons rfl (keep_cons rfl (keep_cons rfl (keep_nil)))) ?_)
              clear hK K
              refine T_cond rfl (fun h11 => ?_) (fun h11 => ?_)
              · try rw [h11]
                try simp only [decide_eq_true_eq, decide_eq_false_iff_not, Bool.not_eq_eq_eq_not, Bool.not_true, Bool.not_false] at h11
                refine R_seq fun K hK => ?_
                refine R_mov rfl ?_
                refine hK _ _ (TW_keep (keep_cons rfl (keep_nil)) ?_)
                clear hK K
                refine T_ret ?_
                refine block_ret ?_
                refine seqT_ret ?_
                refine round_ret ?_
                refine block_ret ?_
                refine seqT_ret ?_
                refine post_retB rfl ?_
                first | (have hz := all_yes (p := isTag) (s := s) (i := i) (by omega) hI.2; simp [mTag, hz]; omega) | (have hz := all_no (p := isTag) (s := s) (i := i) (by omega) (by simp [isTag]; omega); simp [mTag, hz]; done) | (simp [mTag]; omega)
              · try rw [h11]
                try simp only [decide_eq_true_eq, decide_eq_false_iff_not, Bool.not_eq_eq_eq_not, Bool.not_true, Bool.not_false] at h11
                refine T_skip ?_
                refine block_normal ?_
                refine seqT_keep (keep_cons rfl (keep_cons rfl (keep_nil))) ?_
                refine R_last fun K hK => ?_
                refine R_mov rfl ?_
                refine R_add rfl rfl (by first | exact wrap_i64 (by omega) (by omega) | exact wrap_i32 (by omega) (by omega) | exact wrap_u8 (by omega) (by omega) | rfl) ?_
                refine R_mov rfl ?_
                refine hK _ ?_
                clear hK K
                refine round_normal (i + 1) ?_ ?_ ?_
                · exact le_keep' (keep_cons rfl (keep_cons rfl (keep_nil)))
                · exact ⟨by omega, take_all (by omega) hI.2 (by simp [isTag]; omega)⟩
                · first | omega | (simp only; omega) | (dsimp only; omega)
            · try rw [h10]
              try simp only [decide_eq_true_eq, decide_eq_false_iff_not, Bool.not_eq_eq_eq_not, Bool.not_true, Bool.not_false] at h10
              refine G_yes rfl ?_
              refine R_mov rfl ?_
              refine G_yes rfl ?_
              refine R_gt rfl rfl ?_
              refine G_yes rfl ?_
              refine R_pick rfl rfl ?_
              refine R_pick rfl rfl ?_
              refine R_mov rfl ?_
              refine G_split (g := 36) rfl (fun h12 => ?_) (fun h12 => ?_)
              · try rw [h12]
                try simp only [decide_eq_true_eq, decide_eq_false_iff_not, Bool.not_eq_eq_eq_not, Bool.not_true, Bool.not_false] at h12
                refine G_yes rfl ?_
                refine R_mov rfl ?_
                refine G_yes rfl ?_
                refine R_neI rfl rfl ?_
                refine R_pick rfl rfl ?_
                refine hK _ _ (TW_keep (keep_cons rfl (keep_cons rfl (keep_cons rfl (keep_nil)))) ?_)
                clear hK K
                refine T_cond rfl (fun h13 => ?_) (fun h13 => ?_)
                · try rw [h13]
                  try simp only [decide_eq_true_eq, decide_eq_false_iff_not, Bool.not_eq_eq_eq_not, Bool.not_true, Bool.not_false] at h13
                  refine R_seq fun K hK => ?_
                  refine R_mov rfl ?_
                  refine hK _ _ (TW_keep (keep_cons rfl (keep_nil)) ?_)
                  clear hK K
                  refine T_ret ?_
                  refine block_ret ?_
                  refine seqT_ret ?_
                  refine round_ret ?_
                  refine block_ret ?_
                  refine seqT_ret ?_
                  refine post_retB rfl ?_
                  first | (have hz := all_yes (p := isTag) (s := s) (i := i) (by omega) hI.2; simp [mTag, hz]; omega) | (have hz := all_no (p := isTag) (s := s) (i := i) (by omega) (by simp [isTag]; omega); simp [mTag, hz]; done) | (simp [mTag]; omega)
                · try rw [h13]
                  try simp only [decide_eq_true_eq, decide_eq_false_iff_not, Bool.not_eq_eq_eq_not, Bool.not_true, Bool.not_false] at h13
                  refine T_skip ?_
                  refine block_normal ?_
                  refine seqT_keep (keep_cons rfl (keep_cons rfl (keep_nil))) ?_
                  refine R_last fun K hK => ?_
                  refine R_mov rfl ?_
                  refine R_add rfl rfl (by first | exact wrap_i64 (by omega) (by omega) | exact wrap_i32 (by omega) (by omega) | exact wrap_u8 (by omega) (by omega) | rfl) ?_
                  refine R_mov rfl ?_
                  refine hK _ ?_
                  clear hK K
                  refine round_normal (i + 1) ?_ ?_ ?_
                  · exact le_keep' (keep_cons rfl (keep_cons rfl (keep_nil)))
                  · exact ⟨by omega, take_all (by omega) hI.2 (by simp [isTag]; omega)⟩
                  · first | omega | (simp only; omega) | (dsimp only; omega)
              · try rw [h12]
                try simp only [decide_eq_true_eq, decide_eq_false_iff_not, Bool.not_eq_eq_eq_not, Bool.not_true, Bool.not_false] at h12
                refine G_no rfl ?_
                refine G_no rfl ?_
                refine R_pick rfl rfl ?_
                refine hK _ _ (TW_keep (keep_cons rfl (keep_cons rfl (keep_cons rfl (keep_nil)))) ?_)
                clear hK K
                refine T_condF rfl ?_
                refine T_skip ?_
                refine block_normal ?_
                refine seqT_keep (keep_cons rfl (keep_cons rfl (keep_nil))) ?_
                refine R_last fun K hK => ?_
                refine R_mov rfl ?_
                refine R_add rfl rfl (by first | exact wrap_i64 (by omega) (by omega) | exact wrap_i32 (by omega) (by omega) | exact wrap_u8 (by omega) (by omega) | rfl) ?_
                refine R_mov rfl ?_
                refine hK _ ?_
                clear hK K
                refine round_normal (i + 1) ?_ ?_ ?_
                · exact le_keep' (keep_cons rfl (keep_cons rfl (keep_nil)))
                · exact ⟨by omega, take_all (by omega) hI.2 (by simp [isTag]; omega)⟩
                · first | omega | (simp only; omega) | (dsimp only; omega)
          · try rw [h9]
            try simp only [decide_eq_true_eq, decide_eq_false_iff_not, Bool.not_eq_eq_eq_not, Bool.not_true, Bool.not_false] at h9
            refine G_no rfl ?_
            refine G_no rfl ?_
            refine G_no rfl ?_
            refine G_undef rfl ?_
            refine G_undef rfl ?_
            refine G_no rfl ?_
            refine R_pick rfl rfl ?_
            refine R_mov rfl ?_
            refine G_no rfl ?_
            refine G_no rfl ?_
            refine R_pick rfl rfl ?_
            refine hK _ _ (TW_keep (keep_cons rfl (keep_cons rfl (keep_cons rfl (keep_nil)))) ?_)
            clear hK K
            refine T_condF rfl ?_
            refine T_skip ?_
            refine block_normal ?_
            refine seqT_keep (keep_cons rfl (keep_cons rfl (keep_nil))) ?_
            refine R_last fun K hK => ?_
            refine R_mov rfl ?_
            refine R_add rfl rfl (by first | exact wrap_i64 (by omega) (by omega) | exact wrap_i32 (by omega) (by omega) | exact wrap_u8 (by omega) (by omega) | rfl) ?_
            refine R_mov rfl ?_
            refine hK _ ?_
            clear hK K
            refine round_normal (i + 1) ?_ ?_ ?_
            · exact le_keep' (keep_cons rfl (keep_cons rfl (keep_nil)))
            · exact ⟨by omega, take_all (by omega) hI.2 (by simp [isTag]; omega)⟩
            · first | omega | (simp only; omega) | (dsimp only; omega)
      · try rw [h3]
        try simp only [decide_eq_true_eq, decide_eq_false_iff_not, Bool.not_eq_eq_eq_not, Bool.not_true, Bool.not_false] at h3
        refine T_exit ?_
        refine seqT_exit ?_
        refine round_exit ?_
        refine block_hit ?_
        refine seqT_keep (keep_nil) ?_
        refine R_seq fun K hK => ?_
        refine R_mov rfl ?_
        refine hK _ _ (TW_keep (keep_cons rfl (keep_nil)) ?_)
        clear hK K
        refine T_ret ?_
        refine post_retB rfl ?_
        first | (have hz := all_yes (p := isTag) (s := s) (i := i) (by omega) hI.2; simp [mTag, hz]; omega) | (have hz := all_no (p := isTag) (s := s) (i := i) (by omega) (by simp [isTag]; omega); simp [mTag, hz]; done) | (simp [mTag]; omega)

theorem c_version_Core {a b c : Int} {p q : List UInt8} : Ok Try.prog 23 [.agg [.int .i64 a, .int .i64 b, .int .i64 c, .str p, .str q]] (.agg [.int .i64 a, .int .i64 b, .int .i64 c, .str p, .str []]) := by
  refine Ok.ofT tfol Try.func23 tp23 (Nat.le_of_ble_eq_true rfl) ?_
  show TW _ _ tf23.body _ _
  refine R_seq fun K hK => ?_
  refine R_box rfl rfl rfl ?_
  refine R_alloc rfl ?_
  refine hK _ _ (TW_keep (keep_cons rfl (keep_cons rfl (keep_nil))) ?_)
  clear hK K
  refine R_seq fun K hK => ?_
  refine R_fieldR rfl rfl ?_
  refine R_store rfl rfl rfl rfl rfl rfl rfl rfl ?_
  refine hK _ _ (TW_keep (keep_cons rfl (keep_cons rfl (keep_nil))) ?_)
  clear hK K
  refine R_seq fun K hK => ?_
  refine R_loadA (cs := [_, _, _, _, _]) rfl rfl rfl rfl ?_
  refine R_store rfl rfl rfl rfl rfl rfl rfl rfl ?_
  refine hK _ _ (TW_keep (keep_cons rfl (keep_nil)) ?_)
  clear hK K
  refine T_ret ?_
  refine post_cell (cs := [_, _, _, _, _]) rfl rfl rfl rfl ?_
  exact rfl

theorem c_linchpinlaw0_From {l : List Int} {i n : Int} (hn : 0 < n ∧ n ≤ 9223372036854775807) (hv : ∀ x ∈ l, -9223372036854775808 ≤ x ∧ x ≤ 9223372036854775807) : Ok Try.prog 30 [dInts l, .int .i64 i, .int .i64 n] (.int .i64 (mFrom l i n)) := by
  refine Ok.ofT tfol Try.func30 tp30 (Nat.le_of_ble_eq_true rfl) ?_
  show TW _ _ tf30.body _ _
  refine R_seq fun K hK => ?_
  refine R_mov rfl ?_
  refine hK _ _ (TW_keep (keep_cons rfl (keep_cons rfl (keep_cons rfl (keep_nil)))) ?_)
  clear hK K
  refine R_seq fun K hK => ?_
  refine R_mov rfl ?_
  refine R_mov rfl ?_
  refine R_call (c_linchpinlaw0_At) rfl rfl (.inr rfl) ?_
  refine R_mov rfl ?_
  refine R_call (c_linchpinlaw0_Place hn (mAt_range hv)) rfl rfl (.inr rfl) ?_
  refine R_mov rfl ?_
  refine hK _ _ (TW_keep (keep_cons rfl (keep_nil)) ?_)
  clear hK K
  refine T_ret ?_
  refine post_retI rfl ?_
  rfl

theorem c_linchpinref1_Number {s : List UInt8} (hl : s.length ≤ 1000000) : Ok Try.prog 48 [.str s] (.tup [.int .i64 (mNumber s).1, .bool (mNumber s).2]) := by
  refine Ok.ofT tfol Try.func48 tp48 (Nat.le_of_ble_eq_true rfl) ?_
  show TW _ _ tf48.body _ _
  refine R_seq fun K hK => ?_
  refine R_mov rfl ?_
  refine R_mov rfl ?_
  refine hK _ _ (TW_keep (keep_cons rfl (keep_nil)) ?_)
  clear hK K
  refine T_seqJ (ι := Unit) (fun _u => ⟨[(0, .str s)], []⟩) (fun _u => ¬ (s.length < 1 ∨ 9 < s.length ∨ (1 < s.length ∧ s.head? = some 48))) ?_ ?_
  · skip
    refine R_seq fun K hK => ?_
    refine R_mov rfl ?_
    refine R_lenStr rfl ?_
    refine R_lt rfl rfl ?_
    refine R_mov rfl ?_
    refine G_split (g := 9) rfl (fun h1 => ?_) (fun h1 => ?_)
    · try rw [h1]
      try simp only [decide_eq_true_eq, decide_eq_false_iff_not, Bool.not_eq_eq_eq_not, Bool.not_true, Bool.not_false, mDigit, Bool.and_eq_true, Bool.and_eq_false_iff] at h1
      refine G_no rfl ?_
      refine G_no rfl ?_
      refine G_no rfl ?_
      refine R_pick rfl rfl ?_
      refine R_mov rfl ?_
      refine G_no rfl ?_
      refine G_no rfl ?_
      refine G_no rfl ?_
      refine G_no rfl ?_
      refine G_undef rfl ?_
      refine G_undef rfl ?_
      refine G_undef rfl ?_
      refine G_no rfl ?_
      refine R_pick rfl rfl ?_
      refine hK _ _ (TW_keep (keep_cons rfl (keep_cons rfl (keep_nil))) ?_)
      clear hK K
      refine T_condT rfl ?_
      refine R_seq fun K hK => ?_
      refine R_mov rfl ?_
      refine R_mov rfl ?_
      refine hK _ _ (TW_keep (keep_cons rfl (keep_cons rfl (keep_nil))) ?_)
      clear hK K
      refine T_ret ?_
      refine join_ret ?_
      refine post_tup2 rfl rfl ?_
      first | (rw [num_len (s := s) (by omega)]; exact ⟨rfl, rfl⟩) | (rw [num_head (s := s) (by omega) (by assumption)]; exact ⟨rfl, rfl⟩) | (rw [num_dig (s := s) (i := i) (by omega) (by simp [isDig]; omega)]; exact ⟨rfl, rfl⟩) | (rw [num_big (s := s) (i := i) (by omega) (by omega)]; exact ⟨rfl, rfl⟩) | (rw [num_ok (s := s) (i := i) hJ (by omega) hI.2.1 (by omega)]; exact ⟨rfl, rfl⟩)
    · try rw [h1]
      try simp only [decide_eq_true_eq, decide_eq_false_iff_not, Bool.not_eq_eq_eq_not, Bool.not_true, Bool.not_false, mDigit, Bool.and_eq_true, Bool.and_eq_false_iff] at h1
      refine G_yes rfl ?_
      refine R_mov rfl ?_
      refine G_yes rfl ?_
      refine R_lenStr rfl ?_
      refine G_yes rfl ?_
      refine R_gt rfl rfl ?_
      refine R_pick rfl rfl ?_
      refine R_mov rfl ?_
      refine G_split (g := 14) rfl (fun h2 => ?_) (fun h2 => ?_)
      · try rw [h2]
        try simp only [decide_eq_true_eq, decide_eq_false_iff_not, Bool.not_eq_eq_eq_not, Bool.not_true, Bool.not_false, mDigit, Bool.and_eq_true, Bool.and_eq_false_iff] at h2
        refine G_no rfl ?_
        refine G_no rfl ?_
        refine G_no rfl ?_
        refine G_no rfl ?_
        refine G_undef rfl ?_
        refine G_undef rfl ?_
        refine G_undef rfl ?_
        refine G_no rfl ?_
        refine R_pick rfl rfl ?_
        refine hK _ _ (TW_keep (keep_cons rfl (keep_cons rfl (keep_nil))) ?_)
        clear hK K
        refine T_condT rfl ?_
        refine R_seq fun K hK => ?_
        refine R_mov rfl ?_
        refine R_mov rfl ?_
        refine hK _ _ (TW_keep (keep_cons rfl (keep_cons rfl (keep_nil))) ?_)
        clear hK K
        refine T_ret ?_
        refine join_ret ?_
        refine post_tup2 rfl rfl ?_
        first | (rw [num_len (s := s) (by omega)]; exact ⟨rfl, rfl⟩) | (rw [num_head (s := s) (by omega) (by assumption)]; exact ⟨rfl, rfl⟩) | (rw [num_dig (s := s) (i := i) (by omega) (by simp [isDig]; omega)]; exact ⟨rfl, rfl⟩) | (rw [num_big (s := s) (i := i) (by omega) (by omega)]; exact ⟨rfl, rfl⟩) | (rw [num_ok (s := s) (i := i) hJ (by omega) hI.2.1 (by omega)]; exact ⟨rfl, rfl⟩)
      · try rw [h2]
        try simp only [decide_eq_true_eq, decide_eq_false_iff_not, Bool.not_eq_eq_eq_not, Bool.not_true, Bool.not_false, mDigit, Bool.and_eq_true, Bool.and_eq_false_iff] at h2
        refine G_yes rfl ?_
        refine R_mov rfl ?_
        refine G_yes rfl ?_
        refine R_lenStr rfl ?_
        refine G_yes rfl ?_
        refine R_gt rfl rfl ?_
        refine G_yes rfl ?_
        refine R_mov rfl ?_
        refine G_split (g := 18) rfl (fun h3 => ?_) (fun h3 => ?_)
        · try rw [h3]
          try simp only [decide_eq_true_eq, decide_eq_false_iff_not, Bool.not_eq_eq_eq_not, Bool.not_true, Bool.not_false, mDigit, Bool.and_eq_true, Bool.and_eq_false_iff] at h3
          refine G_yes rfl ?_
          refine R_mov rfl ?_
          refine G_yes rfl ?_
          refine R_indexStr rfl rfl (by omega) (idx_at (i := 0) (by omega)) ?_
          refine G_yes rfl ?_
          refine R_eqI rfl rfl ?_
          refine G_yes rfl ?_
          refine R_pick rfl rfl ?_
          refine R_pick rfl rfl ?_
          refine hK _ _ (TW_keep (keep_cons rfl (keep_cons rfl (keep_nil))) ?_)
          clear hK K
          refine T_cond rfl (fun h4 => ?_) (fun h4 => ?_)
          · try rw [h4]
            try simp only [decide_eq_true_eq, decide_eq_false_iff_not, Bool.not_eq_eq_eq_not, Bool.not_true, Bool.not_false, mDigit, Bool.and_eq_true, Bool.and_eq_false_iff] at h4
            refine R_seq fun K hK => ?_
            refine R_mov rfl ?_
            refine R_mov rfl ?_
            refine hK _ _ (TW_keep (keep_cons rfl (keep_cons rfl (keep_nil))) ?_)
            clear hK K
            refine T_ret ?_
            refine join_ret ?_
            refine post_tup2 rfl rfl ?_
            first | (rw [num_len (s := s) (by omega)]; exact ⟨rfl, rfl⟩) | (rw [num_head (s := s) (by omega) (by assumption)]; exact ⟨rfl, rfl⟩) | (rw [num_dig (s := s) (i := i) (by omega) (by simp [isDig]; omega)]; exact ⟨rfl, rfl⟩) | (rw [num_big (s := s) (i := i) (by omega) (by omega)]; exact ⟨rfl, rfl⟩) | (rw [num_ok (s := s) (i := i) hJ (by omega) hI.2.1 (by omega)]; exact ⟨rfl, rfl⟩)
          · try rw [h4]
            try simp only [decide_eq_true_eq, decide_eq_false_iff_not, Bool.not_eq_eq_eq_not, Bool.not_true, Bool.not_false, mDigit, Bool.and_eq_true, Bool.and_eq_false_iff] at h4
            refine T_skip ?_
            refine join_normal () ?_ ?_
            · exact le_keep' (keep_cons rfl (keep_nil))
            · rintro (q | q | q) <;> first | omega | exact head48' (s := s) (by omega) (by assumption) q.2
        · try rw [h3]
          try simp only [decide_eq_true_eq, decide_eq_false_iff_not, Bool.not_eq_eq_eq_not, Bool.not_true, Bool.not_false, mDigit, Bool.and_eq_true, Bool.and_eq_false_iff] at h3
          refine G_no rfl ?_
          refine G_no rfl ?_
          refine G_no rfl ?_
          refine G_yes rfl ?_
          refine R_pick rfl rfl ?_
          refine R_pick rfl rfl ?_
          refine hK _ _ (TW_keep (keep_cons rfl (keep_cons rfl (keep_nil))) ?_)
          clear hK K
          refine T_condF rfl ?_
          refine T_skip ?_
          refine join_normal () ?_ ?_
          · exact le_keep' (keep_cons rfl (keep_nil))
          · rintro (q | q | q) <;> first | omega | exact head48' (s := s) (by omega) (by assumption) q.2
  intro _u hJ
  try dsimp only
  refine R_seq fun K hK => ?_
  refine R_mov rfl ?_
  refine hK _ _ (TW_keep (keep_cons rfl (keep_cons rfl (keep_nil))) ?_)
  clear hK K
  refine T_seq ?_ -- 1
  refine R_seq fun K hK => ?_
  refine R_mov rfl ?_
  refine hK _ _ (TW_keep (keep_cons rfl (keep_cons rfl (keep_cons rfl (keep_nil)))) ?_)
  clear hK K
  refine T_block ?_
  refine T_loop (ι := Nat) (fun i => ⟨[(0, .str s), (4, .int .i64 (val (s.take i))), (5, .int .i64 i)], []⟩) (fun i => i ≤ s.length ∧ (s.take i).all isDig = true ∧ s.length ≤ 9) (fun i => s.length - i) 0 ?_ ?_ ?_
  · first | exact le_keep' (keep_cons rfl (keep_cons rfl (keep_cons rfl (keep_nil)))) | exact le_eq (l := [0, 4, 5]) (keep_cons rfl (keep_cons rfl (keep_cons rfl (keep_nil)))) keepH_nil (by rw [val_take (by omega)]; simp; omega) rfl rfl
  · exact ⟨Nat.zero_le _, rfl, by omega⟩
  intro i hI
  have hv := val_lt (s := s.take i) hI.2.1
  have hp : 10 ^ (s.take i).length ≤ 10 ^ 9 := Nat.pow_le_pow_right (by omega) (by simp; omega)
  try dsimp only
  refine T_seq ?_ -- 2
  refine R_seq fun K hK => ?_
  refine R_mov rfl ?_
  refine R_mov rfl ?_
  refine R_lenStr rfl ?_
  refine R_lt rfl rfl ?_
  refine hK _ _ (TW_keep (keep_cons rfl (keep_cons rfl (keep_cons rfl (keep_cons rfl (keep_nil))))) ?_)
  clear hK K
  refine T_cond rfl (fun h5 => ?_) (fun h5 => ?_)
  · try rw [h5]
    try simp only [decide_eq_true_eq, decide_eq_false_iff_not, Bool.not_eq_eq_eq_not, Bool.not_true, Bool.not_false, mDigit, Bool.and_eq_true, Bool.and_eq_false_iff] at h5
    refine T_skip ?_
    refine seqT_keep (keep_cons rfl (keep_cons rfl (keep_cons rfl (keep_nil)))) ?_
    refine T_seq ?_ -- 3
    refine T_block ?_
    refine T_seq ?_ -- 4
    refine R_seq fun K hK => ?_
    refine R_mov rfl ?_
    refine R_mov rfl ?_
    refine R_indexStr rfl rfl (by omega) (idx_at (by omega)) ?_
    refine R_call (c_linchpinref1_digit) rfl rfl (.inr rfl) ?_
    refine R_not rfl ?_
    refine hK _ _ (TW_keep (keep_cons rfl (keep_cons rfl (keep_cons rfl (keep_cons rfl (keep_nil))))) ?_)
    clear hK K
    refine T_cond rfl (fun h6 => ?_) (fun h6 => ?_)
    · try rw [h6]
      try simp only [decide_eq_true_eq, decide_eq_false_iff_not, Bool.not_eq_eq_eq_not, Bool.not_true, Bool.not_false, mDigit, Bool.and_eq_true, Bool.and_eq_false_iff] at h6
      refine R_seq fun K hK => ?_
      refine R_mov rfl ?_
      refine R_mov rfl ?_
      refine hK _ _ (TW_keep (keep_cons rfl (keep_cons rfl (keep_nil))) ?_)
      clear hK K
      refine T_ret ?_
      refine seqT_ret ?_
      refine block_ret ?_
      refine seqT_ret ?_
      refine round_ret ?_
      refine block_ret ?_
      refine seqT_ret ?_
      refine post_tup2 rfl rfl ?_
      first | (rw [num_len (s := s) (by omega)]; exact ⟨rfl, rfl⟩) | (rw [num_head (s := s) (by omega) (by assumption)]; exact ⟨rfl, rfl⟩) | (rw [num_dig (s := s) (i := i) (by omega) (by simp [isDig]; omega)]; exact ⟨rfl, rfl⟩) | (rw [num_big (s := s) (i := i) (by omega) (by omega)]; exact ⟨rfl, rfl⟩) | (rw [num_ok (s := s) (i := i) hJ (by omega) hI.2.1 (by omega)]; exact ⟨rfl, rfl⟩)
    · try rw [h6]
      try simp only [decide_eq_true_eq, decide_eq_false_iff_not, Bool.not_eq_eq_eq_not, Bool.not_true, Bool.not_false, mDigit, Bool.and_eq_true, Bool.and_eq_false_iff] at h6
      refine T_skip ?_
      refine seqT_keep (keep_cons rfl (keep_cons rfl (keep_cons rfl (keep_nil)))) ?_
      refine R_last fun K hK => ?_
      refine R_mov rfl ?_
      refine R_mul rfl rfl (by first | exact wrap_i64 (by omega) (by omega) | exact wrap_i32 (by omega) (by omega) | exact wrap_u8 (by omega) (by omega) | rfl) ?_
      refine R_mov rfl ?_
      refine R_mov rfl ?_
      refine R_indexStr rfl rfl (by omega) (idx_at (by omega)) ?_
      refine R_sub rfl rfl (by first | exact wrap_i64 (by omega) (by omega) | exact wrap_i32 (by omega) (by omega) | exact wrap_u8 (by omega) (by omega) | rfl) ?_
      refine R_conv rfl (by first | exact wrap_i64 (by omega) (by omega) | exact wrap_i32 (by omega) (by omega) | exact wrap_u8 (by omega) (by omega) | rfl) ?_
      refine R_add rfl rfl (by first | exact wrap_i64 (by omega) (by omega) | exact wrap_i32 (by omega) (by omega) | exact wrap_u8 (by omega) (by omega) | rfl) ?_
      refine R_mov rfl ?_
      refine hK _ ?_
      clear hK K
      refine block_normal ?_
      refine seqT_keep (keep_cons rfl (keep_cons rfl (keep_cons rfl (keep_nil)))) ?_
      refine R_last fun K hK => ?_
      refine R_mov rfl ?_
      refine R_add rfl rfl (by first | exact wrap_i64 (by omega) (by omega) | exact wrap_i32 (by omega) (by omega) | exact wrap_u8 (by omega) (by omega) | rfl) ?_
      refine R_mov rfl ?_
      refine hK _ ?_
      clear hK K
      refine round_normal (i + 1) ?_ ?_ ?_
      · first | exact le_keep' (keep_cons rfl (keep_cons rfl (keep_cons rfl (keep_nil)))) | exact le_eq (l := [0, 4, 5]) (keep_cons rfl (keep_cons rfl (keep_cons rfl (keep_nil)))) keepH_nil (by rw [val_take (by omega)]; simp; omega) rfl rfl
      · exact ⟨by omega, take_all (by omega) hI.2.1 (by simp [isDig]; omega), hI.2.2⟩
      · first | omega | (simp only; omega) | (dsimp only; omega)
  · try rw [h5]
    try simp only [decide_eq_true_eq, decide_eq_false_iff_not, Bool.not_eq_eq_eq_not, Bool.not_true, Bool.not_false, mDigit, Bool.and_eq_true, Bool.and_eq_false_iff] at h5
    refine T_exit ?_
    refine seqT_exit ?_
    refine round_exit ?_
    refine block_hit ?_
    refine seqT_keep (keep_cons rfl (keep_nil)) ?_
    refine T_seq ?_ -- 5
    refine R_seq fun K hK => ?_
    refine R_mov rfl ?_
    refine R_gt rfl rfl ?_
    refine hK _ _ (TW_keep (keep_cons rfl (keep_cons rfl (keep_nil))) ?_)
    clear hK K
    refine T_cond rfl (fun h7 => ?_) (fun h7 => ?_)
    · try rw [h7]
      try simp only [decide_eq_true_eq, decide_eq_false_iff_not, Bool.not_eq_eq_eq_not, Bool.not_true, Bool.not_false, mDigit, Bool.and_eq_true, Bool.and_eq_false_iff] at h7
      refine R_seq fun K hK => ?_
      refine R_mov rfl ?_
      refine R_mov rfl ?_
      refine hK _ _ (TW_keep (keep_cons rfl (keep_cons rfl (keep_nil))) ?_)
      clear hK K
      refine T_ret ?_
      refine seqT_ret ?_
      refine post_tup2 rfl rfl ?_
      first | (rw [num_len (s := s) (by omega)]; exact ⟨rfl, rfl⟩) | (rw [num_head (s := s) (by omega) (by assumption)]; exact ⟨rfl, rfl⟩) | (rw [num_dig (s := s) (i := i) (by omega) (by simp [isDig]; omega)]; exact ⟨rfl, rfl⟩) | (rw [num_big (s := s) (i := i) (by omega) (by omega)]; exact ⟨rfl, rfl⟩) | (rw [num_ok (s := s) (i := i) hJ (by omega) hI.2.1 (by omega)]; exact ⟨rfl, rfl⟩)
    · try rw [h7]
      try simp only [decide_eq_true_eq, decide_eq_false_iff_not, Bool.not_eq_eq_eq_not, Bool.not_true, Bool.not_false, mDigit, Bool.and_eq_true, Bool.and_eq_false_iff] at h7
      refine T_skip ?_
      refine seqT_keep (keep_cons rfl (keep_nil)) ?_
      refine R_seq fun K hK => ?_
      refine R_mov rfl ?_
      refine R_mov rfl ?_
      refine R_mov rfl ?_
      refine hK _ _ (TW_keep (keep_cons rfl (keep_cons rfl (keep_nil))) ?_)
      clear hK K
      refine T_ret ?_
      refine post_tup2 rfl rfl ?_
      first | (rw [num_len (s := s) (by omega)]; exact ⟨rfl, rfl⟩) | (rw [num_head (s := s) (by omega) (by assumption)]; exact ⟨rfl, rfl⟩) | (rw [num_dig (s := s) (i := i) (by omega) (by simp [isDig]; omega)]; exact ⟨rfl, rfl⟩) | (rw [num_big (s := s) (i := i) (by omega) (by omega)]; exact ⟨rfl, rfl⟩) | (rw [num_ok (s := s) (i := i) hJ (by omega) hI.2.1 (by omega)]; exact ⟨rfl, rfl⟩)

end Go.Proofs
namespace Go.Proofs
open Go Go.Abs M3
set_option linter.unusedVariables false
set_option linter.unusedSimpArgs false

theorem c_linchpinref2_one {a b : List UInt8} (ha : a.length ≤ 1000000) (hb : b.length ≤ 1000000) : Ok Try.prog 50 [.str a, .str b] (.int .i64 (mOne a b)) := by
  refine Ok.ofT tfol Try.func50 tp50 (Nat.le_of_ble_eq_true rfl) ?_
  show TW _ _ tf50.body _ _
  refine R_seq fun K hK => ?_
  refine R_mov rfl ?_
  refine hK _ _ (TW_keep (keep_cons rfl (keep_cons rfl (keep_nil))) ?_)
  clear hK K
  refine R_seq fun K hK => ?_
  refine R_mov rfl ?_
  refine R_call (c_linchpinref2_Numeric (by omega)) rfl rfl (.inr rfl) ?_
  refine R_mov rfl ?_
  refine R_call (c_linchpinref2_Numeric (by omega)) rfl rfl (.inr rfl) ?_
  refine R_mov rfl ?_
  refine R_mov rfl ?_
  refine hK _ _ (TW_keep (keep_cons rfl (keep_cons rfl (keep_cons rfl (keep_cons rfl (keep_nil))))) ?_)
  clear hK K
  refine T_seq ?_ -- 0
  refine T_block ?_
  refine R_seq fun K hK => ?_
  refine R_mov rfl ?_
  refine R_mov rfl ?_
  refine G_split (g := 17) rfl (fun h1 => ?_) (fun h1 => ?_)
  · try rw [h1]
    try simp only [decide_eq_true_eq, decide_eq_false_iff_not, Bool.not_eq_eq_eq_not, Bool.not_true, Bool.not_false] at h1
    refine G_yes rfl ?_
    refine R_mov rfl ?_
    refine R_pick rfl rfl ?_
    refine R_mov rfl ?_
    refine hK _ _ (TW_keep (keep_cons rfl (keep_cons rfl (keep_cons rfl (keep_cons rfl (keep_cons rfl (keep_nil)))))) ?_)
    clear hK K
    refine T_cond rfl (fun h2 => ?_) (fun h2 => ?_)
    · try rw [h2]
      try simp only [decide_eq_true_eq, decide_eq_false_iff_not, Bool.not_eq_eq_eq_not, Bool.not_true, Bool.not_false] at h2
      refine R_seq fun K hK => ?_
      refine R_mov rfl ?_
      refine R_call (c_linchpinref1_Number (by omega)) rfl rfl (.inr rfl) ?_
      refine R_mov rfl ?_
      refine R_extract rfl rfl ?_
      refine R_extract rfl rfl ?_
      refine R_mov rfl ?_
      refine R_mov rfl ?_
      refine hK _ _ (TW_keep (keep_cons rfl (keep_cons rfl (keep_nil))) ?_)
      clear hK K
      refine R_seq fun K hK => ?_
      refine R_mov rfl ?_
      refine R_call (c_linchpinref1_Number (by omega)) rfl rfl (.inr rfl) ?_
      refine R_mov rfl ?_
      refine R_extract rfl rfl ?_
      refine R_extract rfl rfl ?_
      refine R_mov rfl ?_
      refine R_mov rfl ?_
      refine hK _ _ (TW_keep (keep_cons rfl (keep_cons rfl (keep_nil))) ?_)
      clear hK K
      refine R_seq fun K hK => ?_
      refine R_mov rfl ?_
      refine R_mov rfl ?_
      refine R_call (c_linchpinref2_Ints) rfl rfl (.inr rfl) ?_
      refine R_mov rfl ?_
      refine hK _ _ (TW_keep (keep_cons rfl (keep_nil)) ?_)
      clear hK K
      refine T_ret ?_
      refine block_ret ?_
      refine seqT_ret ?_
      refine post_retI rfl ?_
      simp [mOne, h1, h2]
    · try rw [h2]
      try simp only [decide_eq_true_eq, decide_eq_false_iff_not, Bool.not_eq_eq_eq_not, Bool.not_true, Bool.not_false] at h2
      refine R_seq fun K hK => ?_
      refine R_mov rfl ?_
      refine R_mov rfl ?_
      refine hK _ _ (TW_keep (keep_cons rfl (keep_cons rfl (keep_cons rfl (keep_cons rfl (keep_nil))))) ?_)
      clear hK K
      refine T_condT rfl ?_
      refine R_seq fun K hK => ?_
      refine R_mov rfl ?_
      refine hK _ _ (TW_keep (keep_cons rfl (keep_nil)) ?_)
      clear hK K
      refine T_ret ?_
      refine block_ret ?_
      refine seqT_ret ?_
      refine post_retI rfl ?_
      simp [mOne, h1, h2]
  · try rw [h1]
    try simp only [decide_eq_true_eq, decide_eq_false_iff_not, Bool.not_eq_eq_eq_not, Bool.not_true, Bool.not_false] at h1
    refine G_no rfl ?_
    refine R_pick rfl rfl ?_
    refine R_mov rfl ?_
    refine hK _ _ (TW_keep (keep_cons rfl (keep_cons rfl (keep_cons rfl (keep_cons rfl (keep_cons rfl (keep_nil)))))) ?_)
    clear hK K
    refine T_condF rfl ?_
    refine R_seq fun K hK => ?_
    refine R_mov rfl ?_
    refine R_mov rfl ?_
    refine hK _ _ (TW_keep (keep_cons rfl (keep_cons rfl (keep_cons rfl (keep_cons rfl (keep_nil))))) ?_)
    clear hK K
    refine T_condF rfl ?_
    refine R_seq fun K hK => ?_
    refine R_mov rfl ?_
    refine R_mov rfl ?_
    refine hK _ _ (TW_keep (keep_cons rfl (keep_cons rfl (keep_cons rfl (keep_nil)))) ?_)
    clear hK K
    refine T_cond rfl (fun h3 => ?_) (fun h3 => ?_)
    · try rw [h3]
      try simp only [decide_eq_true_eq, decide_eq_false_iff_not, Bool.not_eq_eq_eq_not, Bool.not_true, Bool.not_false] at h3
      refine R_seq fun K hK => ?_
      refine R_mov rfl ?_
      refine hK _ _ (TW_keep (keep_cons rfl (keep_nil)) ?_)
      clear hK K
      refine T_ret ?_
      refine block_ret ?_
      refine seqT_ret ?_
      refine post_retI rfl ?_
      simp [mOne, h1, h3]
    · try rw [h3]
      try simp only [decide_eq_true_eq, decide_eq_false_iff_not, Bool.not_eq_eq_eq_not, Bool.not_true, Bool.not_false] at h3
      refine T_skip ?_
      refine block_normal ?_
      refine seqT_keep (keep_cons rfl (keep_cons rfl (keep_nil))) ?_
      refine R_seq fun K hK => ?_
      refine R_mov rfl ?_
      refine R_mov rfl ?_
      refine R_call (c_linchpinref2_Texts) rfl rfl (.inr rfl) ?_
      refine R_mov rfl ?_
      refine hK _ _ (TW_keep (keep_cons rfl (keep_nil)) ?_)
      clear hK K
      refine T_ret ?_
      refine post_retI rfl ?_
      simp [mOne, h1, h3]

theorem c_linchpinref2_pres {a b : List UInt8} (ha : a.length ≤ 1000000) (hb : b.length ≤ 1000000) : Ok Try.prog 40 [.str a, .str b] (.int .i64 (mPres a b)) := by
  refine Ok.ofT tfol Try.func40 tp40 (Nat.le_of_ble_eq_true rfl) ?_
  show TW _ _ tf40.body _ _
  refine R_seq fun K hK => ?_
  refine R_mov rfl ?_
  refine hK _ _ (TW_keep (keep_cons rfl (keep_cons rfl (keep_nil))) ?_)
  clear hK K
  refine T_seq ?_ -- 0
  refine T_block ?_
  refine R_seq fun K hK => ?_
  refine R_mov rfl ?_
  refine R_mov rfl ?_
  refine R_eqS rfl rfl ?_
  refine R_mov rfl ?_
  refine hK _ _ (TW_keep (keep_cons rfl (keep_cons rfl (keep_cons rfl (keep_nil)))) ?_)
  clear hK K
  refine T_cond rfl (fun h1 => ?_) (fun h1 => ?_)
  · try rw [h1]
    try simp only [decide_eq_true_eq, decide_eq_false_iff_not, Bool.not_eq_eq_eq_not, Bool.not_true, Bool.not_false, dStrs_len] at h1
    refine R_seq fun K hK => ?_
    refine R_mov rfl ?_
    refine hK _ _ (TW_keep (keep_cons rfl (keep_nil)) ?_)
    clear hK K
    refine T_ret ?_
    refine block_ret ?_
    refine seqT_ret ?_
    refine post_retI rfl ?_
    first | (simp_all [mPres]; done) | (rw [hI.2.2, mRow_hit (by omega) (by omega) (by assumption)]) | (rw [hI.2.2, mRow_end (by omega) (by omega) (by omega)]; simp [dStrs_len])
  · try rw [h1]
    try simp only [decide_eq_true_eq, decide_eq_false_iff_not, Bool.not_eq_eq_eq_not, Bool.not_true, Bool.not_false, dStrs_len] at h1
    refine R_seq fun K hK => ?_
    refine R_mov rfl ?_
    refine R_eqS rfl rfl ?_
    refine R_mov rfl ?_
    refine hK _ _ (TW_keep (keep_cons rfl (keep_cons rfl (keep_cons rfl (keep_nil)))) ?_)
    clear hK K
    refine T_cond rfl (fun h2 => ?_) (fun h2 => ?_)
    · try rw [h2]
      try simp only [decide_eq_true_eq, decide_eq_false_iff_not, Bool.not_eq_eq_eq_not, Bool.not_true, Bool.not_false, dStrs_len] at h2
      refine R_seq fun K hK => ?_
      refine R_mov rfl ?_
      refine hK _ _ (TW_keep (keep_cons rfl (keep_nil)) ?_)
      clear hK K
      refine T_ret ?_
      refine block_ret ?_
      refine seqT_ret ?_
      refine post_retI rfl ?_
      first | (simp_all [mPres]; done) | (rw [hI.2.2, mRow_hit (by omega) (by omega) (by assumption)]) | (rw [hI.2.2, mRow_end (by omega) (by omega) (by omega)]; simp [dStrs_len])
    · try rw [h2]
      try simp only [decide_eq_true_eq, decide_eq_false_iff_not, Bool.not_eq_eq_eq_not, Bool.not_true, Bool.not_false, dStrs_len] at h2
      refine R_seq fun K hK => ?_
      refine R_mov rfl ?_
      refine R_eqS rfl rfl ?_
      refine R_mov rfl ?_
      refine hK _ _ (TW_keep (keep_cons rfl (keep_cons rfl (keep_cons rfl (keep_nil)))) ?_)
      clear hK K
      refine T_cond rfl (fun h3 => ?_) (fun h3 => ?_)
      · try rw [h3]
        try simp only [decide_eq_true_eq, decide_eq_false_iff_not, Bool.not_eq_eq_eq_not, Bool.not_true, Bool.not_false, dStrs_len] at h3
        refine R_seq fun K hK => ?_
        refine R_mov rfl ?_
        refine hK _ _ (TW_keep (keep_cons rfl (keep_nil)) ?_)
        clear hK K
        refine T_ret ?_
        refine block_ret ?_
        refine seqT_ret ?_
        refine post_retI rfl ?_
        first | (simp_all [mPres]; done) | (rw [hI.2.2, mRow_hit (by omega) (by omega) (by assumption)]) | (rw [hI.2.2, mRow_end (by omega) (by omega) (by omega)]; simp [dStrs_len])
      · try rw [h3]
        try simp only [decide_eq_true_eq, decide_eq_false_iff_not, Bool.not_eq_eq_eq_not, Bool.not_true, Bool.not_false, dStrs_len] at h3
        refine T_skip ?_
        refine block_normal ?_
        refine seqT_keep (keep_cons rfl (keep_cons rfl (keep_nil))) ?_
        refine R_seq fun K hK => ?_
        refine R_mov rfl ?_
        refine R_call (c_linchpinref1_Split (by omega)) rfl rfl (.inl rfl) ?_
        refine R_mov rfl ?_
        refine R_call (c_linchpinref1_Split (by omega)) rfl rfl (.inl rfl) ?_
        refine R_mov rfl ?_
        refine R_mov rfl ?_
        refine hK _ _ (TW_keep (keep_cons rfl (keep_cons rfl (keep_nil))) ?_)
        clear hK K
        refine T_seq ?_ -- 1
        refine R_seq fun K hK => ?_
        refine R_mov rfl ?_
        refine hK _ _ (TW_keep (keep_cons rfl (keep_cons rfl (keep_cons rfl (keep_nil)))) ?_)
        clear hK K
        refine T_block ?_
        refine T_loop (ι := Nat) (fun i => ⟨[(5, .sl (dStrs (mSplit a 46))), (6, .sl (dStrs (mSplit b 46))), (7, .int .i64 i)], []⟩) (fun i => i ≤ (mSplit a 46).length ∧ i ≤ (mSplit b 46).length ∧ mPres a b = mRow ((mSplit a 46).drop i) ((mSplit b 46).drop i)) (fun i => (mSplit a 46).length - i) 0 ?_ ?_ ?_
        · exact le_keep' (keep_cons rfl (keep_cons rfl (keep_cons rfl (keep_nil))))
        · exact ⟨Nat.zero_le _, Nat.zero_le _, by simp_all [mPres]⟩
        intro i hI
        have sl := split_len (s := a) (c := 46)
        try dsimp only
        refine T_seq ?_ -- 2
        refine R_seq fun K hK => ?_
        refine R_mov rfl ?_
        refine R_mov rfl ?_
        refine R_len rfl rfl ?_
        refine R_lt rfl rfl ?_
        refine R_mov rfl ?_
        refine G_split (g := 27) rfl (fun h4 => ?_) (fun h4 => ?_)
        · try rw [h4]
          try simp only [decide_eq_true_eq, decide_eq_false_iff_not, Bool.not_eq_eq_eq_not, Bool.not_true, Bool.not_false, dStrs_len] at h4
          refine G_yes rfl ?_
          refine R_mov rfl ?_
          refine G_yes rfl ?_
          refine R_mov rfl ?_
          refine G_yes rfl ?_
          refine R_len rfl rfl ?_
          refine G_yes rfl ?_
          refine R_lt rfl rfl ?_
          refine R_pick rfl rfl ?_
          refine hK _ _ (TW_keep (keep_cons rfl (keep_cons rfl (keep_cons rfl (keep_cons rfl (keep_nil))))) ?_)
          clear hK K
          refine T_cond rfl (fun h5 => ?_) (fun h5 => ?_)
          · try rw [h5]
            try simp only [decide_eq_true_eq, decide_eq_false_iff_not, Bool.not_eq_eq_eq_not, Bool.not_true, Bool.not_false, dStrs_len] at h5
            refine T_skip ?_
            refine seqT_keep (keep_cons rfl (keep_cons rfl (keep_cons rfl (keep_nil)))) ?_
            refine T_seq ?_ -- 3
            refine T_block ?_
            refine R_seq fun K hK => ?_
            refine R_mov rfl ?_
            refine R_mov rfl ?_
            refine R_index rfl rfl rfl (by omega) (idx_strs (by omega)) rfl ?_
            refine R_loadD rfl rfl rfl rfl ?_
            refine R_mov rfl ?_
            refine R_mov rfl ?_
            refine R_index rfl rfl rfl (by omega) (idx_strs (by omega)) rfl ?_
            refine R_loadD rfl rfl rfl rfl ?_
            refine R_callD (c_linchpinref2_one (split_at (by omega) ha) (split_at (by omega) hb)) rfl rfl (.inr rfl) rfl ?_
            refine R_mov rfl ?_
            refine hK _ _ (TW_keep (keep_cons rfl (keep_cons rfl (keep_cons rfl (keep_cons rfl (keep_nil))))) ?_)
            clear hK K
            refine R_seq fun K hK => ?_
            refine R_mov rfl ?_
            refine R_neI rfl rfl ?_
            refine hK _ _ (TW_keep (keep_cons rfl (keep_cons rfl (keep_cons rfl (keep_cons rfl (keep_cons rfl (keep_nil)))))) ?_)
            clear hK K
            refine T_cond rfl (fun h6 => ?_) (fun h6 => ?_)
            · try rw [h6]
              try simp only [decide_eq_true_eq, decide_eq_false_iff_not, Bool.not_eq_eq_eq_not, Bool.not_true, Bool.not_false, dStrs_len] at h6
              refine R_seq fun K hK => ?_
              refine R_mov rfl ?_
              refine R_mov rfl ?_
              refine hK _ _ (TW_keep (keep_cons rfl (keep_nil)) ?_)
              clear hK K
              refine T_ret ?_
              refine block_ret ?_
              refine seqT_ret ?_
              refine round_ret ?_
              refine block_ret ?_
              refine seqT_ret ?_
              refine post_retI rfl ?_
              first | (simp_all [mPres]; done) | (rw [hI.2.2, mRow_hit (by omega) (by omega) (by assumption)]) | (rw [hI.2.2, mRow_end (by omega) (by omega) (by omega)]; simp [dStrs_len])
            · try rw [h6]
              try simp only [decide_eq_true_eq, decide_eq_false_iff_not, Bool.not_eq_eq_eq_not, Bool.not_true, Bool.not_false, dStrs_len] at h6
              refine T_skip ?_
              refine block_normal ?_
              refine seqT_keep (keep_cons rfl (keep_cons rfl (keep_cons rfl (keep_nil)))) ?_
              refine R_last fun K hK => ?_
              refine R_mov rfl ?_
              refine R_add rfl rfl (by first | exact wrap_i64 (by omega) (by omega) | exact wrap_i32 (by omega) (by omega) | exact wrap_u8 (by omega) (by omega) | rfl) ?_
              refine R_mov rfl ?_
              refine hK _ ?_
              clear hK K
              refine round_normal (i + 1) ?_ ?_ ?_
              · exact le_keep' (keep_cons rfl (keep_cons rfl (keep_cons rfl (keep_nil))))
              · exact ⟨by omega, by omega, by rw [hI.2.2, mRow_drop (by omega) (by omega) (by assumption)]⟩
              · first | omega | (simp only; omega) | (dsimp only; omega)
          · try rw [h5]
            try simp only [decide_eq_true_eq, decide_eq_false_iff_not, Bool.not_eq_eq_eq_not, Bool.not_true, Bool.not_false, dStrs_len] at h5
            refine T_exit ?_
            refine seqT_exit ?_
            refine round_exit ?_
            refine block_hit ?_
            refine seqT_keep (keep_cons rfl (keep_cons rfl (keep_nil))) ?_
            refine R_seq fun K hK => ?_
            refine R_mov rfl ?_
            refine R_len rfl rfl ?_
            refine R_mov rfl ?_
            refine R_len rfl rfl ?_
            refine R_call (c_linchpinref2_Ints) rfl rfl (.inr rfl) ?_
            refine R_mov rfl ?_
            refine hK _ _ (TW_keep (keep_cons rfl (keep_nil)) ?_)
            clear hK K
            refine T_ret ?_
            refine post_retI rfl ?_
            first | (simp_all [mPres]; done) | (rw [hI.2.2, mRow_hit (by omega) (by omega) (by assumption)]) | (rw [hI.2.2, mRow_end (by omega) (by omega) (by omega)]; simp [dStrs_len])
        · try rw [h4]
          try simp only [decide_eq_true_eq, decide_eq_false_iff_not, Bool.not_eq_eq_eq_not, Bool.not_true, Bool.not_false, dStrs_len] at h4
          refine G_no rfl ?_
          refine G_no rfl ?_
          refine G_no rfl ?_
          refine G_no rfl ?_
          refine R_pick rfl rfl ?_
          refine hK _ _ (TW_keep (keep_cons rfl (keep_cons rfl (keep_cons rfl (keep_cons rfl (keep_nil))))) ?_)
          clear hK K
          refine T_condF rfl ?_
          refine T_exit ?_
          refine seqT_exit ?_
          refine round_exit ?_
          refine block_hit ?_
          refine seqT_keep (keep_cons rfl (keep_cons rfl (keep_nil))) ?_
          refine R_seq fun K hK => ?_
          refine R_mov rfl ?_
          refine R_len rfl rfl ?_
          refine R_mov rfl ?_
          refine R_len rfl rfl ?_
          refine R_call (c_linchpinref2_Ints) rfl rfl (.inr rfl) ?_
          refine R_mov rfl ?_
          refine hK _ _ (TW_keep (keep_cons rfl (keep_nil)) ?_)
          clear hK K
          refine T_ret ?_
          refine post_retI rfl ?_
          first | (simp_all [mPres]; done) | (rw [hI.2.2, mRow_hit (by omega) (by omega) (by assumption)]) | (rw [hI.2.2, mRow_end (by omega) (by omega) (by omega)]; simp [dStrs_len])

theorem c_linchpinref2_tags {s : List UInt8} {pre : Bool} (hl : s.length ≤ 1000000) : Ok Try.prog 38 [.str s, .bool pre] (.bool (mTags s pre)) := by
  refine Ok.ofT tfol Try.func38 tp38 (Nat.le_of_ble_eq_true rfl) ?_
  show TW _ _ tf38.body _ _
  refine R_seq fun K hK => ?_
  refine R_mov rfl ?_
  refine hK _ _ (TW_keep (keep_cons rfl (keep_cons rfl (keep_nil))) ?_)
  clear hK K
  refine T_seq ?_ -- 0
  refine R_seq fun K hK => ?_
  refine R_mov rfl ?_
  refine R_eqS rfl rfl ?_
  refine hK _ _ (TW_keep (keep_cons rfl (keep_cons rfl (keep_cons rfl (keep_nil)))) ?_)
  clear hK K
  refine T_cond rfl (fun h1 => ?_) (fun h1 => ?_)
  · try rw [h1]
    try simp only [decide_eq_true_eq, decide_eq_false_iff_not, Bool.not_eq_eq_eq_not, Bool.not_true, Bool.not_false, dStrs_len] at h1
    refine R_seq fun K hK => ?_
    refine R_mov rfl ?_
    refine hK _ _ (TW_keep (keep_cons rfl (keep_nil)) ?_)
    clear hK K
    refine T_ret ?_
    refine seqT_ret ?_
    refine post_retB rfl ?_
    first | (simp_all [mTags]; done) | (simp [mTags, h1]; omega) | exact (mTags_no (i := i) (by assumption) (by omega) (by simp [tagOk, h1])).symm | exact (mTags_yes (i := i) (by omega) (by omega) hI.2).symm
  · try rw [h1]
    try simp only [decide_eq_true_eq, decide_eq_false_iff_not, Bool.not_eq_eq_eq_not, Bool.not_true, Bool.not_false, dStrs_len] at h1
    refine T_skip ?_
    refine seqT_keep (keep_cons rfl (keep_cons rfl (keep_nil))) ?_
    refine R_seq fun K hK => ?_
    refine R_mov rfl ?_
    refine R_call (c_linchpinref1_Split (by omega)) rfl rfl (.inl rfl) ?_
    refine R_mov rfl ?_
    refine hK _ _ (TW_keep (keep_cons rfl (keep_cons rfl (keep_nil))) ?_)
    clear hK K
    refine T_seq ?_ -- 1
    refine R_seq fun K hK => ?_
    refine R_mov rfl ?_
    refine R_len rfl rfl ?_
    refine R_gt rfl rfl ?_
    refine hK _ _ (TW_keep (keep_cons rfl (keep_cons rfl (keep_cons rfl (keep_nil)))) ?_)
    clear hK K
    refine T_cond rfl (fun h2 => ?_) (fun h2 => ?_)
    · try rw [h2]
      try simp only [decide_eq_true_eq, decide_eq_false_iff_not, Bool.not_eq_eq_eq_not, Bool.not_true, Bool.not_false, dStrs_len] at h2
      refine R_seq fun K hK => ?_
      refine R_mov rfl ?_
      refine hK _ _ (TW_keep (keep_cons rfl (keep_nil)) ?_)
      clear hK K
      refine T_ret ?_
      refine seqT_ret ?_
      refine post_retB rfl ?_
      first | (simp_all [mTags]; done) | (simp [mTags, h1, h2]; omega) | exact (mTags_no (i := i) (by assumption) (by omega) (by simp [tagOk, h1, h2])).symm | exact (mTags_yes (i := i) (by omega) (by omega) hI.2).symm
    · try rw [h2]
      try simp only [decide_eq_true_eq, decide_eq_false_iff_not, Bool.not_eq_eq_eq_not, Bool.not_true, Bool.not_false, dStrs_len] at h2
      refine T_skip ?_
      refine seqT_keep (keep_cons rfl (keep_cons rfl (keep_nil))) ?_
      refine T_seq ?_ -- 2
      refine R_seq fun K hK => ?_
      refine R_mov rfl ?_
      refine hK _ _ (TW_keep (keep_cons rfl (keep_cons rfl (keep_cons rfl (keep_nil)))) ?_)
      clear hK K
      refine T_block ?_
      refine T_loop (ι := Nat) (fun i => ⟨[(1, .bool pre), (5, .sl (dStrs (mSplit s 46))), (6, .int .i64 i)], []⟩) (fun i => i ≤ (mSplit s 46).length ∧ ((mSplit s 46).take i).all (tagOk pre) = true) (fun i => (mSplit s 46).length - i) 0 ?_ ?_ ?_
      · first | exact le_keep' (keep_cons rfl (keep_cons rfl (keep_cons rfl (keep_nil)))) | exact le_eq (l := [1, 5, 6]) (keep_cons rfl (keep_cons rfl (keep_cons rfl (keep_nil)))) keepH_nil (by simp [h1, h2]) rfl rfl
      · exact ⟨Nat.zero_le _, rfl⟩
      intro i hI
      try dsimp only
      refine T_seq ?_ -- 3
      refine R_seq fun K hK => ?_
      refine R_mov rfl ?_
      refine R_mov rfl ?_
      refine R_len rfl rfl ?_
      refine R_lt rfl rfl ?_
      refine hK _ _ (TW_keep (keep_cons rfl (keep_cons rfl (keep_cons rfl (keep_cons rfl (keep_nil))))) ?_)
      clear hK K
      refine T_cond rfl (fun h3 => ?_) (fun h3 => ?_)
      · try rw [h3]
        try simp only [decide_eq_true_eq, decide_eq_false_iff_not, Bool.not_eq_eq_eq_not, Bool.not_true, Bool.not_false, dStrs_len] at h3
        refine T_skip ?_
        refine seqT_keep (keep_cons rfl (keep_cons rfl (keep_cons rfl (keep_nil)))) ?_
        refine T_seq ?_ -- 4
        refine T_block ?_
        refine T_seq ?_ -- 5
        refine R_seq fun K hK => ?_
        refine R_mov rfl ?_
        refine R_mov rfl ?_
        refine R_index rfl rfl rfl (by omega) (idx_strs (by omega)) rfl ?_
        refine R_load rfl rfl rfl ?_
        refine R_call (c_linchpinref2_tag (split_at (by omega) hl)) rfl rfl (.inr rfl) ?_
        refine R_not rfl ?_
        refine hK _ _ (TW_keep (keep_cons rfl (keep_cons rfl (keep_cons rfl (keep_cons rfl (keep_nil))))) ?_)
        clear hK K
        refine T_cond rfl (fun h4 => ?_) (fun h4 => ?_)
        · try rw [h4]
          try simp only [decide_eq_true_eq, decide_eq_false_iff_not, Bool.not_eq_eq_eq_not, Bool.not_true, Bool.not_false, dStrs_len] at h4
          refine R_seq fun K hK => ?_
          refine R_mov rfl ?_
          refine hK _ _ (TW_keep (keep_cons rfl (keep_nil)) ?_)
          clear hK K
          refine T_ret ?_
          refine seqT_ret ?_
          refine block_ret ?_
          refine seqT_ret ?_
          refine round_ret ?_
          refine block_ret ?_
          refine seqT_ret ?_
          refine post_retB rfl ?_
          first | (simp_all [mTags]; done) | (simp [mTags, h1, h2, h3, h4]; omega) | exact (mTags_no (i := i) (by assumption) (by omega) (by simp [tagOk, h1, h2, h3, h4])).symm | exact (mTags_yes (i := i) (by omega) (by omega) hI.2).symm
        · try rw [h4]
          try simp only [decide_eq_true_eq, decide_eq_false_iff_not, Bool.not_eq_eq_eq_not, Bool.not_true, Bool.not_false, dStrs_len] at h4
          refine T_skip ?_
          refine seqT_keep (keep_cons rfl (keep_cons rfl (keep_cons rfl (keep_nil)))) ?_
          refine R_seq fun K hK => ?_
          refine R_mov rfl ?_
          refine R_mov rfl ?_
          refine R_index rfl rfl rfl (by omega) (idx_strs (by omega)) rfl ?_
          refine R_load rfl rfl rfl ?_
          refine R_call (c_linchpinref1_Number (split_at (by omega) hl)) rfl rfl (.inr rfl) ?_
          refine R_mov rfl ?_
          refine R_extract rfl rfl ?_
          refine R_extract rfl rfl ?_
          refine R_mov rfl ?_
          refine R_mov rfl ?_
          refine hK _ _ (TW_keep (keep_cons rfl (keep_cons rfl (keep_cons rfl (keep_cons rfl (keep_nil))))) ?_)
          clear hK K
          refine R_seq fun K hK => ?_
          refine R_mov rfl ?_
          refine R_mov rfl ?_
          refine G_split (g := 37) rfl (fun h5 => ?_) (fun h5 => ?_)
          · try rw [h5]
            try simp only [decide_eq_true_eq, decide_eq_false_iff_not, Bool.not_eq_eq_eq_not, Bool.not_true, Bool.not_false, dStrs_len] at h5
            refine G_yes rfl ?_
            refine R_mov rfl ?_
            refine G_yes rfl ?_
            refine R_mov rfl ?_
            refine G_yes rfl ?_
            refine R_index rfl rfl rfl (by omega) (idx_strs (by omega)) rfl ?_
            refine G_yes rfl ?_
            refine R_load rfl rfl rfl ?_
            refine G_yes rfl ?_
            refine R_call (c_linchpinref2_Numeric (split_at (by omega) hl)) rfl rfl (.inr rfl) ?_
            refine R_pick rfl rfl ?_
            refine R_mov rfl ?_
            refine G_split (g := 44) rfl (fun h6 => ?_) (fun h6 => ?_)
            · try rw [h6]
              try simp only [decide_eq_true_eq, decide_eq_false_iff_not, Bool.not_eq_eq_eq_not, Bool.not_true, Bool.not_false, dStrs_len] at h6
              refine G_yes rfl ?_
              refine R_mov rfl ?_
              refine G_yes rfl ?_
              refine R_not rfl ?_
              refine R_pick rfl rfl ?_
              refine hK _ _ (TW_keep (keep_cons rfl (keep_cons rfl (keep_cons rfl (keep_cons rfl (keep_nil))))) ?_)
              clear hK K
              refine T_cond rfl (fun h7 => ?_) (fun h7 => ?_)
              · try rw [h7]
                try simp only [decide_eq_true_eq, decide_eq_false_iff_not, Bool.not_eq_eq_eq_not, Bool.not_true, Bool.not_false, dStrs_len] at h7
                refine R_seq fun K hK => ?_
                refine R_mov rfl ?_
                refine hK _ _ (TW_keep (keep_cons rfl (keep_nil)) ?_)
                clear hK K
                refine T_ret ?_
                refine block_ret ?_
                refine seqT_ret ?_
                refine round_ret ?_
                refine block_ret ?_
                refine seqT_ret ?_
                refine post_retB rfl ?_
                first | (simp_all [mTags]; done) | (simp [mTags, h1, h2, h3, h4, h5, h6, h7]; omega) | exact (mTags_no (i := i) (by assumption) (by omega) (by simp [tagOk, h1, h2, h3, h4, h5, h6, h7])).symm | exact (mTags_yes (i := i) (by omega) (by omega) hI.2).symm
              · try rw [h7]
                try simp only [decide_eq_true_eq, decide_eq_false_iff_not, Bool.not_eq_eq_eq_not, Bool.not_true, Bool.not_false, dStrs_len] at h7
                refine T_skip ?_
                refine block_normal ?_
                refine seqT_keep (keep_cons rfl (keep_cons rfl (keep_cons rfl (keep_nil)))) ?_
                refine R_last fun K hK => ?_
                refine R_mov rfl ?_
                refine R_add rfl rfl (by first | exact wrap_i64 (by omega) (by omega) | exact wrap_i32 (by omega) (by omega) | exact wrap_u8 (by omega) (by omega) | rfl) ?_
                refine R_mov rfl ?_
                refine hK _ ?_
                clear hK K
                refine round_normal (i + 1) ?_ ?_ ?_
                · first | exact le_keep' (keep_cons rfl (keep_cons rfl (keep_cons rfl (keep_nil)))) | exact le_eq (l := [1, 5, 6]) (keep_cons rfl (keep_cons rfl (keep_cons rfl (keep_nil)))) keepH_nil (by simp [h1, h2, h3, h4, h5, h6, h7]) rfl rfl
                · exact ⟨by omega, take_all (by omega) hI.2 (by simp [tagOk, h1, h2, h3, h4, h5, h6, h7])⟩
                · first | omega | (simp only; omega) | (dsimp only; omega)
            · try rw [h6]
              try simp only [decide_eq_true_eq, decide_eq_false_iff_not, Bool.not_eq_eq_eq_not, Bool.not_true, Bool.not_false, dStrs_len] at h6
              refine G_no rfl ?_
              refine G_no rfl ?_
              refine R_pick rfl rfl ?_
              refine hK _ _ (TW_keep (keep_cons rfl (keep_cons rfl (keep_cons rfl (keep_cons rfl (keep_nil))))) ?_)
              clear hK K
              refine T_condF rfl ?_
              refine T_skip ?_
              refine block_normal ?_
              refine seqT_keep (keep_cons rfl (keep_cons rfl (keep_cons rfl (keep_nil)))) ?_
              refine R_last fun K hK => ?_
              refine R_mov rfl ?_
              refine R_add rfl rfl (by first | exact wrap_i64 (by omega) (by omega) | exact wrap_i32 (by omega) (by omega) | exact wrap_u8 (by omega) (by omega) | rfl) ?_
              refine R_mov rfl ?_
              refine hK _ ?_
              clear hK K
              refine round_normal (i + 1) ?_ ?_ ?_
              · first | exact le_keep' (keep_cons rfl (keep_cons rfl (keep_cons rfl (keep_nil)))) | exact le_eq (l := [1, 5, 6]) (keep_cons rfl (keep_cons rfl (keep_cons rfl (keep_nil)))) keepH_nil (by simp [h1, h2, h3, h4, h5, h6]) rfl rfl
              · exact ⟨by omega, take_all (by omega) hI.2 (by simp [tagOk, h1, h2, h3, h4, h5, h6])⟩
              · first | omega | (simp only; omega) | (dsimp only; omega)
          · try rw [h5]
            try simp only [decide_eq_true_eq, decide_eq_false_iff_not, Bool.not_eq_eq_eq_not, Bool.not_true, Bool.not_false, dStrs_len] at h5
            refine G_no rfl ?_
            refine G_no rfl ?_
            refine G_no rfl ?_
            refine G_no rfl ?_
            refine G_no rfl ?_
            refine R_pick rfl rfl ?_
            refine R_mov rfl ?_
            refine G_no rfl ?_
            refine G_no rfl ?_
            refine R_pick rfl rfl ?_
            refine hK _ _ (TW_keep (keep_cons rfl (keep_cons rfl (keep_cons rfl (keep_cons rfl (keep_nil))))) ?_)
            clear hK K
            refine T_condF rfl ?_
            refine T_skip ?_
            refine block_normal ?_
            refine seqT_keep (keep_cons rfl (keep_cons rfl (keep_cons rfl (keep_nil)))) ?_
            refine R_last fun K hK => ?_
            refine R_mov rfl ?_
            refine R_add rfl rfl (by first | exact wrap_i64 (by omega) (by omega) | exact wrap_i32 (by omega) (by omega) | exact wrap_u8 (by omega) (by omega) | rfl) ?_
            refine R_mov rfl ?_
            refine hK _ ?_
            clear hK K
            refine round_normal (i + 1) ?_ ?_ ?_
            · first | exact le_keep' (keep_cons rfl (keep_cons rfl (keep_cons rfl (keep_nil)))) | exact le_eq (l := [1, 5, 6]) (keep_cons rfl (keep_cons rfl (keep_cons rfl (keep_nil)))) keepH_nil (by simp [h1, h2, h3, h4, h5]) rfl rfl
            · exact ⟨by omega, take_all (by omega) hI.2 (by simp [tagOk, h1, h2, h3, h4, h5])⟩
            · first | omega | (simp only; omega) | (dsimp only; omega)
      · try rw [h3]
        try simp only [decide_eq_true_eq, decide_eq_false_iff_not, Bool.not_eq_eq_eq_not, Bool.not_true, Bool.not_false, dStrs_len] at h3
        refine T_exit ?_
        refine seqT_exit ?_
        refine round_exit ?_
        refine block_hit ?_
        refine seqT_keep (keep_nil) ?_
        refine R_seq fun K hK => ?_
        refine R_mov rfl ?_
        refine hK _ _ (TW_keep (keep_cons rfl (keep_nil)) ?_)
        clear hK K
        refine T_ret ?_
        refine post_retB rfl ?_
        first | (simp_all [mTags]; done) | (simp [mTags, h1, h2, h3]; omega) | exact (mTags_no (i := i) (by assumption) (by omega) (by simp [tagOk, h1, h2, h3])).symm | exact (mTags_yes (i := i) (by omega) (by omega) hI.2).symm

theorem c_linchpinref2_May {a b c : Int} {p q : List UInt8} (hp : p.length ≤ 1000000) (hq : q.length ≤ 1000000) : Ok Try.prog 26 [.agg [.int .i64 a, .int .i64 b, .int .i64 c, .str p, .str q]] (.bool (mMay a b c p q)) := by
  refine Ok.ofT tfol Try.func26 tp26 (Nat.le_of_ble_eq_true rfl) ?_
  show TW _ _ tf26.body _ _
  refine R_seq fun K hK => ?_
  refine R_box rfl rfl rfl ?_
  refine R_mov rfl ?_
  refine hK _ _ (TW_keep (keep_cons rfl (keep_nil)) ?_)
  clear hK K
  refine R_seq fun K hK => ?_
  refine R_fieldR rfl rfl ?_
  refine R_load rfl rfl rfl ?_
  refine R_call (c_linchpinref2_num) rfl rfl (.inr rfl) ?_
  refine R_mov rfl ?_
  refine G_split (g := 6) rfl (fun h1 => ?_) (fun h1 => ?_)
  · try rw [h1]
    try simp only [decide_eq_true_eq, decide_eq_false_iff_not, Bool.not_eq_eq_eq_not, Bool.not_true, Bool.not_false] at h1
    refine G_yes rfl ?_
    refine R_fieldR rfl rfl ?_
    refine G_yes rfl ?_
    refine R_load rfl rfl rfl ?_
    refine G_yes rfl ?_
    refine R_call (c_linchpinref2_num) rfl rfl (.inr rfl) ?_
    refine R_pick rfl rfl ?_
    refine R_mov rfl ?_
    refine G_split (g := 11) rfl (fun h2 => ?_) (fun h2 => ?_)
    · try rw [h2]
      try simp only [decide_eq_true_eq, decide_eq_false_iff_not, Bool.not_eq_eq_eq_not, Bool.not_true, Bool.not_false] at h2
      refine G_yes rfl ?_
      refine R_fieldR rfl rfl ?_
      refine G_yes rfl ?_
      refine R_load rfl rfl rfl ?_
      refine G_yes rfl ?_
      refine R_call (c_linchpinref2_num) rfl rfl (.inr rfl) ?_
      refine R_pick rfl rfl ?_
      refine R_mov rfl ?_
      refine G_split (g := 16) rfl (fun h3 => ?_) (fun h3 => ?_)
      · try rw [h3]
        try simp only [decide_eq_true_eq, decide_eq_false_iff_not, Bool.not_eq_eq_eq_not, Bool.not_true, Bool.not_false] at h3
        refine G_yes rfl ?_
        refine R_fieldR rfl rfl ?_
        refine G_yes rfl ?_
        refine R_load rfl rfl rfl ?_
        refine G_yes rfl ?_
        refine R_call (c_linchpinref2_tags (by omega)) rfl rfl (.inr rfl) ?_
        refine R_pick rfl rfl ?_
        refine R_mov rfl ?_
        refine G_split (g := 21) rfl (fun h4 => ?_) (fun h4 => ?_)
        · try rw [h4]
          try simp only [decide_eq_true_eq, decide_eq_false_iff_not, Bool.not_eq_eq_eq_not, Bool.not_true, Bool.not_false] at h4
          refine G_yes rfl ?_
          refine R_fieldR rfl rfl ?_
          refine G_yes rfl ?_
          refine R_load rfl rfl rfl ?_
          refine G_yes rfl ?_
          refine R_call (c_linchpinref2_tags (by omega)) rfl rfl (.inr rfl) ?_
          refine R_pick rfl rfl ?_
          refine R_mov rfl ?_
          refine hK _ _ (TW_keep (keep_cons rfl (keep_nil)) ?_)
          clear hK K
          refine T_ret ?_
          refine post_retB rfl ?_
          simp [mMay, h1, h2, h3, h4]
        · try rw [h4]
          try simp only [decide_eq_true_eq, decide_eq_false_iff_not, Bool.not_eq_eq_eq_not, Bool.not_true, Bool.not_false] at h4
          refine G_no rfl ?_
          refine G_no rfl ?_
          refine G_no rfl ?_
          refine R_pick rfl rfl ?_
          refine R_mov rfl ?_
          refine hK _ _ (TW_keep (keep_cons rfl (keep_nil)) ?_)
          clear hK K
          refine T_ret ?_
          refine post_retB rfl ?_
          simp [mMay, h1, h2, h3, h4]
      · try rw [h3]
        try simp only [decide_eq_true_eq, decide_eq_false_iff_not, Bool.not_eq_eq_eq_not, Bool.not_true, Bool.not_false] at h3
        refine G_no rfl ?_
        refine G_no rfl ?_
        refine G_no rfl ?_
        refine R_pick rfl rfl ?_
        refine R_mov rfl ?_
        refine G_no rfl ?_
        refine G_no rfl ?_
        refine G_no rfl ?_
        refine R_pick rfl rfl ?_
        refine R_mov rfl ?_
        refine hK _ _ (TW_keep (keep_cons rfl (keep_nil)) ?_)
        clear hK K
        refine T_ret ?_
        refine post_retB rfl ?_
        simp [mMay, h1, h2, h3]
    · try rw [h2]
      try simp only [decide_eq_true_eq, decide_eq_false_iff_not, Bool.not_eq_eq_eq_not, Bool.not_true, Bool.not_false] at h2
      refine G_no rfl ?_
      refine G_no rfl ?_
      refine G_no rfl ?_
      refine R_pick rfl rfl ?_
      refine R_mov rfl ?_
      refine G_no rfl ?_
      refine G_no rfl ?_
      refine G_no rfl ?_
      refine R_pick rfl rfl ?_
      refine R_mov rfl ?_
      refine G_no rfl ?_
      refine G_no rfl ?_
      refine G_no rfl ?_
      refine R_pick rfl rfl ?_
      refine R_mov rfl ?_
      refine hK _ _ (TW_keep (keep_cons rfl (keep_nil)) ?_)
      clear hK K
      refine T_ret ?_
      refine post_retB rfl ?_
      simp [mMay, h1, h2]
  · try rw [h1]
    try simp only [decide_eq_true_eq, decide_eq_false_iff_not, Bool.not_eq_eq_eq_not, Bool.not_true, Bool.not_false] at h1
    refine G_no rfl ?_
    refine G_no rfl ?_
    refine G_no rfl ?_
    refine R_pick rfl rfl ?_
    refine R_mov rfl ?_
    refine G_no rfl ?_
    refine G_no rfl ?_
    refine G_no rfl ?_
    refine R_pick rfl rfl ?_
    refine R_mov rfl ?_
    refine G_no rfl ?_
    refine G_no rfl ?_
    refine G_no rfl ?_
    refine R_pick rfl rfl ?_
    refine R_mov rfl ?_
    refine G_no rfl ?_
    refine G_no rfl ?_
    refine G_no rfl ?_
    refine R_pick rfl rfl ?_
    refine R_mov rfl ?_
    refine hK _ _ (TW_keep (keep_cons rfl (keep_nil)) ?_)
    clear hK K
    refine T_ret ?_
    refine post_retB rfl ?_
    simp [mMay, h1]

theorem c_cmp_Or_int {l : List Int} (hl : l.length ≤ 1000000) : Ok Try.prog 31 [dInts l] (.int .i64 (firstNZ l)) := by
  refine Ok.ofT tfol Try.func31 tp31 (Nat.le_of_ble_eq_true rfl) ?_
  show TW _ _ tf31.body _ _
  refine R_seq fun K hK => ?_
  refine R_mov rfl ?_
  refine hK _ _ (TW_keep (keep_cons rfl (keep_nil)) ?_)
  clear hK K
  refine R_seq fun K hK => ?_
  refine R_mov rfl ?_
  refine hK _ _ (TW_keep (keep_cons rfl (keep_cons rfl (keep_nil))) ?_)
  clear hK K
  refine T_seq ?_ -- 0
  refine R_seq fun K hK => ?_
  refine R_mov rfl ?_
  refine R_len rfl rfl ?_
  refine R_mov rfl ?_
  refine hK _ _ (TW_keep (keep_cons rfl (keep_cons rfl (keep_cons rfl (keep_cons rfl (keep_nil))))) ?_)
  clear hK K
  refine T_block ?_
  refine T_loop (ι := Nat) (fun i => ⟨[(3, .int .i64 0), (6, dInts l), (7, .int .i64 l.length), (8, .int .i64 i)], []⟩) (fun i => i ≤ l.length ∧ firstNZ l = firstNZ (l.drop i)) (fun i => l.length - i) 0 ?_ ?_ ?_
  · exact le_eq (l := [3, 6, 7, 8]) (keep_cons rfl (keep_cons rfl (keep_cons rfl (keep_cons rfl (keep_nil))))) keepH_nil (by simp [dInts]) rfl rfl
  · exact ⟨Nat.zero_le _, rfl⟩
  intro i hI
  try dsimp only
  refine R_seq fun K hK => ?_
  refine R_lt rfl rfl ?_
  refine hK _ _ (TW_keep (keep_cons rfl (keep_cons rfl (keep_cons rfl (keep_cons rfl (keep_cons rfl (keep_nil)))))) ?_)
  clear hK K
  refine T_seq ?_ -- 1
  refine T_cond rfl (fun h1 => ?_) (fun h1 => ?_)
  · try rw [h1]
    try simp only [decide_eq_true_eq, decide_eq_false_iff_not, Bool.not_eq_eq_eq_not, Bool.not_true, Bool.not_false] at h1
    refine T_skip ?_
    refine seqT_keep (keep_cons rfl (keep_cons rfl (keep_cons rfl (keep_cons rfl (keep_nil))))) ?_
    refine T_seq ?_ -- 2
    refine T_block ?_
    refine R_seq fun K hK => ?_
    refine R_index rfl rfl rfl (by omega) (idx_map (by omega)) rfl ?_
    refine R_load rfl rfl rfl ?_
    refine R_mov rfl ?_
    refine hK _ _ (TW_keep (keep_cons rfl (keep_cons rfl (keep_cons rfl (keep_cons rfl (keep_cons rfl (keep_nil)))))) ?_)
    clear hK K
    refine R_seq fun K hK => ?_
    refine R_mov rfl ?_
    refine R_mov rfl ?_
    refine R_neI rfl rfl ?_
    refine hK _ _ (TW_keep (keep_cons rfl (keep_cons rfl (keep_cons rfl (keep_cons rfl (keep_cons rfl (keep_cons rfl (keep_nil))))))) ?_)
    clear hK K
    refine T_cond rfl (fun h2 => ?_) (fun h2 => ?_)
    · try rw [h2]
      try simp only [decide_eq_true_eq, decide_eq_false_iff_not, Bool.not_eq_eq_eq_not, Bool.not_true, Bool.not_false] at h2
      refine R_seq fun K hK => ?_
      refine R_mov rfl ?_
      refine R_mov rfl ?_
      refine hK _ _ (TW_keep (keep_cons rfl (keep_nil)) ?_)
      clear hK K
      refine T_ret ?_
      refine block_ret ?_
      refine seqT_ret ?_
      refine round_ret ?_
      refine block_ret ?_
      refine seqT_ret ?_
      refine post_retI rfl ?_
      first | (rw [hI.2, firstNZ_hit (by omega) (by assumption)]) | (rw [hI.2, List.drop_eq_nil_of_le (by omega)]; rfl)
    · try rw [h2]
      try simp only [decide_eq_true_eq, decide_eq_false_iff_not, Bool.not_eq_eq_eq_not, Bool.not_true, Bool.not_false] at h2
      refine T_skip ?_
      refine block_normal ?_
      refine seqT_keep (keep_cons rfl (keep_cons rfl (keep_cons rfl (keep_cons rfl (keep_nil))))) ?_
      refine R_last fun K hK => ?_
      refine R_add rfl rfl (by first | exact wrap_i64 (by omega) (by omega) | exact wrap_i32 (by omega) (by omega) | exact wrap_u8 (by omega) (by omega) | rfl) ?_
      refine R_mov rfl ?_
      refine hK _ ?_
      clear hK K
      refine round_normal (i + 1) ?_ ?_ ?_
      · exact le_keep' (keep_cons rfl (keep_cons rfl (keep_cons rfl (keep_cons rfl (keep_nil)))))
      · exact ⟨by omega, by rw [hI.2, firstNZ_skip (by omega) (by assumption)]⟩
      · first | omega | (simp only; omega) | (dsimp only; omega)
  · try rw [h1]
    try simp only [decide_eq_true_eq, decide_eq_false_iff_not, Bool.not_eq_eq_eq_not, Bool.not_true, Bool.not_false] at h1
    refine T_exit ?_
    refine seqT_exit ?_
    refine round_exit ?_
    refine block_hit ?_
    refine seqT_keep (keep_cons rfl (keep_nil)) ?_
    refine R_seq fun K hK => ?_
    refine R_mov rfl ?_
    refine R_mov rfl ?_
    refine hK _ _ (TW_keep (keep_cons rfl (keep_nil)) ?_)
    clear hK K
    refine T_ret ?_
    refine post_retI rfl ?_
    first | (rw [hI.2, firstNZ_hit (by omega) (by assumption)]) | (rw [hI.2, List.drop_eq_nil_of_le (by omega)]; rfl)

end Go.Proofs
namespace Go.Proofs
open Go Go.Abs M3
set_option linter.unusedVariables false
set_option linter.unusedSimpArgs false

theorem c_linchpinref2_Compare {a b c : Int} {p q : List UInt8} (hp : p.length ≤ 1000000) (hq : q.length ≤ 1000000) {a' b' c' : Int} {p' q' : List UInt8} (hp' : p'.length ≤ 1000000) (hq' : q'.length ≤ 1000000) : Ok Try.prog 29 [.agg [.int .i64 a, .int .i64 b, .int .i64 c, .str p, .str q], .agg [.int .i64 a', .int .i64 b', .int .i64 c', .str p', .str q']] (.int .i64 (mCmp a b c p q a' b' c' p' q')) := by
  refine Ok.ofT tfol Try.func29 tp29 (Nat.le_of_ble_eq_true rfl) ?_
  show TW _ _ tf29.body _ _
  refine R_seq fun K hK => ?_
  refine R_box rfl rfl rfl ?_
  refine R_box rfl rfl rfl ?_
  refine R_mov rfl ?_
  refine hK _ _ (TW_keep (keep_cons rfl (keep_cons rfl (keep_nil))) ?_)
  clear hK K
  refine T_seq ?_ -- 0
  refine R_seq fun K hK => ?_
  refine R_loadA (cs := [_, _, _, _, _]) rfl rfl rfl rfl ?_
  refine R_call (c_linchpinref2_May (by omega) (by omega)) rfl rfl (.inr rfl) ?_
  refine R_not rfl ?_
  refine R_mov rfl ?_
  refine G_split (g := 11) rfl (fun h1 => ?_) (fun h1 => ?_)
  · try rw [h1]
    try simp only [decide_eq_true_eq, decide_eq_false_iff_not, Bool.not_eq_eq_eq_not, Bool.not_true, Bool.not_false] at h1
    refine G_no rfl ?_
    refine G_no rfl ?_
    refine G_no rfl ?_
    refine R_pick rfl rfl ?_
    refine hK _ _ (TW_keep (keep_cons rfl (keep_cons rfl (keep_cons rfl (keep_nil)))) ?_)
    clear hK K
    refine T_condT rfl ?_
    refine R_seq fun K hK => ?_
    refine R_mov rfl ?_
    refine hK _ _ (TW_keep (keep_cons rfl (keep_nil)) ?_)
    clear hK K
    refine T_ret ?_
    refine seqT_ret ?_
    refine post_retI rfl ?_
    simp [mCmp, h1]
  · try rw [h1]
    try simp only [decide_eq_true_eq, decide_eq_false_iff_not, Bool.not_eq_eq_eq_not, Bool.not_true, Bool.not_false] at h1
    refine G_yes rfl ?_
    refine R_loadA (cs := [_, _, _, _, _]) rfl rfl rfl rfl ?_
    refine G_yes rfl ?_
    refine R_call (c_linchpinref2_May (by omega) (by omega)) rfl rfl (.inr rfl) ?_
    refine G_yes rfl ?_
    refine R_not rfl ?_
    refine R_pick rfl rfl ?_
    refine hK _ _ (TW_keep (keep_cons rfl (keep_cons rfl (keep_cons rfl (keep_nil)))) ?_)
    clear hK K
    refine T_cond rfl (fun h2 => ?_) (fun h2 => ?_)
    · try rw [h2]
      try simp only [decide_eq_true_eq, decide_eq_false_iff_not, Bool.not_eq_eq_eq_not, Bool.not_true, Bool.not_false] at h2
      refine R_seq fun K hK => ?_
      refine R_mov rfl ?_
      refine hK _ _ (TW_keep (keep_cons rfl (keep_nil)) ?_)
      clear hK K
      refine T_ret ?_
      refine seqT_ret ?_
      refine post_retI rfl ?_
      simp [mCmp, h1, h2]
    · try rw [h2]
      try simp only [decide_eq_true_eq, decide_eq_false_iff_not, Bool.not_eq_eq_eq_not, Bool.not_true, Bool.not_false] at h2
      refine T_skip ?_
      refine seqT_keep (keep_cons rfl (keep_cons rfl (keep_nil))) ?_
      refine T_seq ?_ -- 1
      refine R_seq fun K hK => ?_
      refine R_fieldR rfl rfl ?_
      refine R_load rfl rfl rfl ?_
      refine R_fieldR rfl rfl ?_
      refine R_load rfl rfl rfl ?_
      refine R_call (c_linchpinref2_Ints) rfl rfl (.inr rfl) ?_
      refine R_mov rfl ?_
      refine hK _ _ (TW_keep (keep_cons rfl (keep_cons rfl (keep_cons rfl (keep_nil)))) ?_)
      clear hK K
      refine R_seq fun K hK => ?_
      refine R_mov rfl ?_
      refine R_neI rfl rfl ?_
      refine hK _ _ (TW_keep (keep_cons rfl (keep_cons rfl (keep_cons rfl (keep_cons rfl (keep_nil))))) ?_)
      clear hK K
      refine T_cond rfl (fun h3 => ?_) (fun h3 => ?_)
      · try rw [h3]
        try simp only [decide_eq_true_eq, decide_eq_false_iff_not, Bool.not_eq_eq_eq_not, Bool.not_true, Bool.not_false] at h3
        refine R_seq fun K hK => ?_
        refine R_mov rfl ?_
        refine R_mov rfl ?_
        refine hK _ _ (TW_keep (keep_cons rfl (keep_nil)) ?_)
        clear hK K
        refine T_ret ?_
        refine seqT_ret ?_
        refine post_retI rfl ?_
        simp [mCmp, h1, h2, h3]
      · try rw [h3]
        try simp only [decide_eq_true_eq, decide_eq_false_iff_not, Bool.not_eq_eq_eq_not, Bool.not_true, Bool.not_false] at h3
        refine T_skip ?_
        refine seqT_keep (keep_cons rfl (keep_cons rfl (keep_nil))) ?_
        refine T_seq ?_ -- 2
        refine R_seq fun K hK => ?_
        refine R_fieldR rfl rfl ?_
        refine R_load rfl rfl rfl ?_
        refine R_fieldR rfl rfl ?_
        refine R_load rfl rfl rfl ?_
        refine R_call (c_linchpinref2_Ints) rfl rfl (.inr rfl) ?_
        refine R_mov rfl ?_
        refine hK _ _ (TW_keep (keep_cons rfl (keep_cons rfl (keep_cons rfl (keep_nil)))) ?_)
        clear hK K
        refine R_seq fun K hK => ?_
        refine R_mov rfl ?_
        refine R_neI rfl rfl ?_
        refine hK _ _ (TW_keep (keep_cons rfl (keep_cons rfl (keep_cons rfl (keep_cons rfl (keep_nil))))) ?_)
        clear hK K
        refine T_cond rfl (fun h4 => ?_) (fun h4 => ?_)
        · try rw [h4]
          try simp only [decide_eq_true_eq, decide_eq_false_iff_not, Bool.not_eq_eq_eq_not, Bool.not_true, Bool.not_false] at h4
          refine R_seq fun K hK => ?_
          refine R_mov rfl ?_
          refine R_mov rfl ?_
          refine hK _ _ (TW_keep (keep_cons rfl (keep_nil)) ?_)
          clear hK K
          refine T_ret ?_
          refine seqT_ret ?_
          refine post_retI rfl ?_
          simp [mCmp, h1, h2, h3, h4]
        · try rw [h4]
          try simp only [decide_eq_true_eq, decide_eq_false_iff_not, Bool.not_eq_eq_eq_not, Bool.not_true, Bool.not_false] at h4
          refine T_skip ?_
          refine seqT_keep (keep_cons rfl (keep_cons rfl (keep_nil))) ?_
          refine T_seq ?_ -- 3
          refine R_seq fun K hK => ?_
          refine R_fieldR rfl rfl ?_
          refine R_load rfl rfl rfl ?_
          refine R_fieldR rfl rfl ?_
          refine R_load rfl rfl rfl ?_
          refine R_call (c_linchpinref2_Ints) rfl rfl (.inr rfl) ?_
          refine R_mov rfl ?_
          refine hK _ _ (TW_keep (keep_cons rfl (keep_cons rfl (keep_cons rfl (keep_nil)))) ?_)
          clear hK K
          refine R_seq fun K hK => ?_
          refine R_mov rfl ?_
          refine R_neI rfl rfl ?_
          refine hK _ _ (TW_keep (keep_cons rfl (keep_cons rfl (keep_cons rfl (keep_cons rfl (keep_nil))))) ?_)
          clear hK K
          refine T_cond rfl (fun h5 => ?_) (fun h5 => ?_)
          · try rw [h5]
            try simp only [decide_eq_true_eq, decide_eq_false_iff_not, Bool.not_eq_eq_eq_not, Bool.not_true, Bool.not_false] at h5
            refine R_seq fun K hK => ?_
            refine R_mov rfl ?_
            refine R_mov rfl ?_
            refine hK _ _ (TW_keep (keep_cons rfl (keep_nil)) ?_)
            clear hK K
            refine T_ret ?_
            refine seqT_ret ?_
            refine post_retI rfl ?_
            simp [mCmp, h1, h2, h3, h4, h5]
          · try rw [h5]
            try simp only [decide_eq_true_eq, decide_eq_false_iff_not, Bool.not_eq_eq_eq_not, Bool.not_true, Bool.not_false] at h5
            refine T_skip ?_
            refine seqT_keep (keep_cons rfl (keep_cons rfl (keep_nil))) ?_
            refine R_seq fun K hK => ?_
            refine R_fieldR rfl rfl ?_
            refine R_load rfl rfl rfl ?_
            refine R_fieldR rfl rfl ?_
            refine R_load rfl rfl rfl ?_
            refine R_call (c_linchpinref2_pres (by omega) (by omega)) rfl rfl (.inr rfl) ?_
            refine R_mov rfl ?_
            refine hK _ _ (TW_keep (keep_cons rfl (keep_nil)) ?_)
            clear hK K
            refine T_ret ?_
            refine post_retI rfl ?_
            simp [mCmp, h1, h2, h3, h4, h5]

theorem c_linchpinref3_May {e a b c : Int} {p q : List UInt8} {f : Bool} (hp : p.length ≤ 1000000) (hq : q.length ≤ 1000000) : Ok Try.prog 12 [.agg [.int .i64 e, .int .i64 a, .int .i64 b, .int .i64 c, .str p, .str q, .bool f]] (.bool (mCMay e a b c p q f)) := by
  refine Ok.ofT tfol Try.func12 tp12 (Nat.le_of_ble_eq_true rfl) ?_
  show TW _ _ tf12.body _ _
  refine R_seq fun K hK => ?_
  refine R_box rfl rfl rfl ?_
  refine R_mov rfl ?_
  refine hK _ _ (TW_keep (keep_cons rfl (keep_nil)) ?_)
  clear hK K
  refine T_seq ?_ -- 0
  refine R_seq fun K hK => ?_
  refine R_fieldR rfl rfl ?_
  refine R_load rfl rfl rfl ?_
  refine R_eqI rfl rfl ?_
  refine hK _ _ (TW_keep (keep_cons rfl (keep_cons rfl (keep_nil))) ?_)
  clear hK K
  refine T_cond rfl (fun h1 => ?_) (fun h1 => ?_)
  · try rw [h1]
    try simp only [decide_eq_true_eq, decide_eq_false_iff_not, Bool.not_eq_eq_eq_not, Bool.not_true, Bool.not_false] at h1
    refine R_seq fun K hK => ?_
    refine R_fieldR rfl rfl ?_
    refine R_loadA (cs := [_, _, _, _, _]) rfl rfl rfl rfl ?_
    refine R_call (c_linchpinref2_May (by omega) (by omega)) rfl rfl (.inr rfl) ?_
    refine R_mov rfl ?_
    refine G_split (g := 9) rfl (fun h2 => ?_) (fun h2 => ?_)
    · try rw [h2]
      try simp only [decide_eq_true_eq, decide_eq_false_iff_not, Bool.not_eq_eq_eq_not, Bool.not_true, Bool.not_false] at h2
      refine G_yes rfl ?_
      refine R_fieldR rfl rfl ?_
      refine G_yes rfl ?_
      refine R_fieldR rfl rfl ?_
      refine G_yes rfl ?_
      refine R_load rfl rfl rfl ?_
      refine G_yes rfl ?_
      refine R_eqS rfl rfl ?_
      refine R_pick rfl rfl ?_
      refine R_mov rfl ?_
      refine hK _ _ (TW_keep (keep_cons rfl (keep_nil)) ?_)
      clear hK K
      refine T_ret ?_
      refine seqT_ret ?_
      refine post_retB rfl ?_
      simp_all [mCMay]
    · try rw [h2]
      try simp only [decide_eq_true_eq, decide_eq_false_iff_not, Bool.not_eq_eq_eq_not, Bool.not_true, Bool.not_false] at h2
      refine G_no rfl ?_
      refine G_no rfl ?_
      refine G_no rfl ?_
      refine G_no rfl ?_
      refine R_pick rfl rfl ?_
      refine R_mov rfl ?_
      refine hK _ _ (TW_keep (keep_cons rfl (keep_nil)) ?_)
      clear hK K
      refine T_ret ?_
      refine seqT_ret ?_
      refine post_retB rfl ?_
      simp_all [mCMay]
  · try rw [h1]
    try simp only [decide_eq_true_eq, decide_eq_false_iff_not, Bool.not_eq_eq_eq_not, Bool.not_true, Bool.not_false] at h1
    refine T_skip ?_
    refine seqT_keep (keep_cons rfl (keep_nil)) ?_
    refine R_seq fun K hK => ?_
    refine R_fieldR rfl rfl ?_
    refine R_load rfl rfl rfl ?_
    refine R_eqI rfl rfl ?_
    refine R_mov rfl ?_
    refine G_split (g := 18) rfl (fun h3 => ?_) (fun h3 => ?_)
    · try rw [h3]
      try simp only [decide_eq_true_eq, decide_eq_false_iff_not, Bool.not_eq_eq_eq_not, Bool.not_true, Bool.not_false] at h3
      refine G_no rfl ?_
      refine G_no rfl ?_
      refine G_no rfl ?_
      refine R_pick rfl rfl ?_
      refine R_mov rfl ?_
      refine G_yes rfl ?_
      refine R_fieldR rfl rfl ?_
      refine G_yes rfl ?_
      refine R_loadA (cs := [_, _, _, _, _]) rfl rfl rfl rfl ?_
      refine G_yes rfl ?_
      refine R_build rfl rfl ?_
      refine G_yes rfl ?_
      refine R_eqsE rfl rfl rfl ?_
      refine R_pick rfl rfl ?_
      refine R_mov rfl ?_
      refine G_split (g := 29) rfl (fun h4 => ?_) (fun h4 => ?_)
      · try rw [h4]
        try simp only [decide_eq_true_eq, decide_eq_false_iff_not, Bool.not_eq_eq_eq_not, Bool.not_true, Bool.not_false] at h4
        refine G_yes rfl ?_
        refine R_fieldR rfl rfl ?_
        refine G_yes rfl ?_
        refine R_load rfl rfl rfl ?_
        refine G_yes rfl ?_
        refine R_not rfl ?_
        refine R_pick rfl rfl ?_
        refine R_mov rfl ?_
        refine hK _ _ (TW_keep (keep_cons rfl (keep_nil)) ?_)
        clear hK K
        refine T_ret ?_
        refine post_retB rfl ?_
        simp_all [mCMay]
      · try rw [h4]
        try simp only [decide_eq_true_eq, decide_eq_false_iff_not, Bool.not_eq_eq_eq_not, Bool.not_true, Bool.not_false] at h4
        refine G_no rfl ?_
        refine G_no rfl ?_
        refine G_no rfl ?_
        refine R_pick rfl rfl ?_
        refine R_mov rfl ?_
        refine hK _ _ (TW_keep (keep_cons rfl (keep_nil)) ?_)
        clear hK K
        refine T_ret ?_
        refine post_retB rfl ?_
        simp_all [mCMay]
    · try rw [h3]
      try simp only [decide_eq_true_eq, decide_eq_false_iff_not, Bool.not_eq_eq_eq_not, Bool.not_true, Bool.not_false] at h3
      refine G_yes rfl ?_
      refine R_fieldR rfl rfl ?_
      refine G_yes rfl ?_
      refine R_load rfl rfl rfl ?_
      refine G_yes rfl ?_
      refine R_eqI rfl rfl ?_
      refine R_pick rfl rfl ?_
      refine R_mov rfl ?_
      refine G_split (g := 23) rfl (fun h5 => ?_) (fun h5 => ?_)
      · try rw [h5]
        try simp only [decide_eq_true_eq, decide_eq_false_iff_not, Bool.not_eq_eq_eq_not, Bool.not_true, Bool.not_false] at h5
        refine G_yes rfl ?_
        refine R_fieldR rfl rfl ?_
        refine G_yes rfl ?_
        refine R_loadA (cs := [_, _, _, _, _]) rfl rfl rfl rfl ?_
        refine G_yes rfl ?_
        refine R_build rfl rfl ?_
        refine G_yes rfl ?_
        refine R_eqsE rfl rfl rfl ?_
        refine R_pick rfl rfl ?_
        refine R_mov rfl ?_
        refine G_split (g := 29) rfl (fun h6 => ?_) (fun h6 => ?_)
        · try rw [h6]
          try simp only [decide_eq_true_eq, decide_eq_false_iff_not, Bool.not_eq_eq_eq_not, Bool.not_true, Bool.not_false] at h6
          refine G_yes rfl ?_
          refine R_fieldR rfl rfl ?_
          refine G_yes rfl ?_
          refine R_load rfl rfl rfl ?_
          refine G_yes rfl ?_
          refine R_not rfl ?_
          refine R_pick rfl rfl ?_
          refine R_mov rfl ?_
          refine hK _ _ (TW_keep (keep_cons rfl (keep_nil)) ?_)
          clear hK K
          refine T_ret ?_
          refine post_retB rfl ?_
          simp_all [mCMay]
        · try rw [h6]
          try simp only [decide_eq_true_eq, decide_eq_false_iff_not, Bool.not_eq_eq_eq_not, Bool.not_true, Bool.not_false] at h6
          refine G_no rfl ?_
          refine G_no rfl ?_
          refine G_no rfl ?_
          refine R_pick rfl rfl ?_
          refine R_mov rfl ?_
          refine hK _ _ (TW_keep (keep_cons rfl (keep_nil)) ?_)
          clear hK K
          refine T_ret ?_
          refine post_retB rfl ?_
          simp_all [mCMay]
      · try rw [h5]
        try simp only [decide_eq_true_eq, decide_eq_false_iff_not, Bool.not_eq_eq_eq_not, Bool.not_true, Bool.not_false] at h5
        refine G_no rfl ?_
        refine G_no rfl ?_
        refine G_no rfl ?_
        refine G_no rfl ?_
        refine R_pick rfl rfl ?_
        refine R_mov rfl ?_
        refine G_no rfl ?_
        refine G_no rfl ?_
        refine G_no rfl ?_
        refine R_pick rfl rfl ?_
        refine R_mov rfl ?_
        refine hK _ _ (TW_keep (keep_cons rfl (keep_nil)) ?_)
        clear hK K
        refine T_ret ?_
        refine post_retB rfl ?_
        simp_all [mCMay]

theorem c_linchpinref3_Compare {e a b c : Int} {p q : List UInt8} {f : Bool} (hp : p.length ≤ 1000000) (hq : q.length ≤ 1000000) {e' a' b' c' : Int} {p' q' : List UInt8} {f' : Bool} (hp' : p'.length ≤ 1000000) (hq' : q'.length ≤ 1000000) : Ok Try.prog 14 [.agg [.int .i64 e, .int .i64 a, .int .i64 b, .int .i64 c, .str p, .str q, .bool f], .agg [.int .i64 e', .int .i64 a', .int .i64 b', .int .i64 c', .str p', .str q', .bool f']] (.int .i64 (mCCmp e a b c p q f e' a' b' c' p' q' f')) := by
  refine Ok.ofT tfol Try.func14 tp14 (Nat.le_of_ble_eq_true rfl) ?_
  show TW _ _ tf14.body _ _
  refine R_seq fun K hK => ?_
  refine R_box rfl rfl rfl ?_
  refine R_box rfl rfl rfl ?_
  refine R_mov rfl ?_
  refine hK _ _ (TW_keep (keep_cons rfl (keep_cons rfl (keep_nil))) ?_)
  clear hK K
  refine T_seq ?_ -- 0
  refine R_seq fun K hK => ?_
  refine R_loadA (cs := [_, _, _, _, _, _, _]) rfl rfl rfl rfl ?_
  refine R_call (c_linchpinref3_May (by omega) (by omega)) rfl rfl (.inr rfl) ?_
  refine R_not rfl ?_
  refine R_mov rfl ?_
  refine G_split (g := 9) rfl (fun h1 => ?_) (fun h1 => ?_)
  · try rw [h1]
    try simp only [decide_eq_true_eq, decide_eq_false_iff_not, Bool.not_eq_eq_eq_not, Bool.not_true, Bool.not_false] at h1
    refine G_no rfl ?_
    refine G_no rfl ?_
    refine G_no rfl ?_
    refine R_pick rfl rfl ?_
    refine hK _ _ (TW_keep (keep_cons rfl (keep_cons rfl (keep_cons rfl (keep_nil)))) ?_)
    clear hK K
    refine T_condT rfl ?_
    refine R_seq fun K hK => ?_
    refine R_mov rfl ?_
    refine hK _ _ (TW_keep (keep_cons rfl (keep_nil)) ?_)
    clear hK K
    refine T_ret ?_
    refine seqT_ret ?_
    refine post_retI rfl ?_
    first | (simp [mCCmp, h1]; done) | (simp_all [mCCmp]; done)
  · try rw [h1]
    try simp only [decide_eq_true_eq, decide_eq_false_iff_not, Bool.not_eq_eq_eq_not, Bool.not_true, Bool.not_false] at h1
    refine G_yes rfl ?_
    refine R_loadA (cs := [_, _, _, _, _, _, _]) rfl rfl rfl rfl ?_
    refine G_yes rfl ?_
    refine R_call (c_linchpinref3_May (by omega) (by omega)) rfl rfl (.inr rfl) ?_
    refine G_yes rfl ?_
    refine R_not rfl ?_
    refine R_pick rfl rfl ?_
    refine hK _ _ (TW_keep (keep_cons rfl (keep_cons rfl (keep_cons rfl (keep_nil)))) ?_)
    clear hK K
    refine T_cond rfl (fun h2 => ?_) (fun h2 => ?_)
    · try rw [h2]
      try simp only [decide_eq_true_eq, decide_eq_false_iff_not, Bool.not_eq_eq_eq_not, Bool.not_true, Bool.not_false] at h2
      refine R_seq fun K hK => ?_
      refine R_mov rfl ?_
      refine hK _ _ (TW_keep (keep_cons rfl (keep_nil)) ?_)
      clear hK K
      refine T_ret ?_
      refine seqT_ret ?_
      refine post_retI rfl ?_
      first | (simp [mCCmp, h1, h2]; done) | (simp_all [mCCmp]; done)
    · try rw [h2]
      try simp only [decide_eq_true_eq, decide_eq_false_iff_not, Bool.not_eq_eq_eq_not, Bool.not_true, Bool.not_false] at h2
      refine T_skip ?_
      refine seqT_keep (keep_cons rfl (keep_cons rfl (keep_nil))) ?_
      refine T_seq ?_ -- 1
      refine R_seq fun K hK => ?_
      refine R_fieldR rfl rfl ?_
      refine R_load rfl rfl rfl ?_
      refine R_fieldR rfl rfl ?_
      refine R_load rfl rfl rfl ?_
      first | refine R_neI rfl rfl ?_ | refine R_neS rfl rfl ?_
      refine R_mov rfl ?_
      refine G_split (g := 19) rfl (fun h3 => ?_) (fun h3 => ?_)
      · try rw [h3]
        try simp only [decide_eq_true_eq, decide_eq_false_iff_not, Bool.not_eq_eq_eq_not, Bool.not_true, Bool.not_false] at h3
        refine G_no rfl ?_
        refine G_no rfl ?_
        refine G_no rfl ?_
        refine R_pick rfl rfl ?_
        refine hK _ _ (TW_keep (keep_cons rfl (keep_cons rfl (keep_cons rfl (keep_nil)))) ?_)
        clear hK K
        refine T_condT rfl ?_
        refine R_seq fun K hK => ?_
        refine R_fieldR rfl rfl ?_
        refine R_load rfl rfl rfl ?_
        refine R_fieldR rfl rfl ?_
        refine R_load rfl rfl rfl ?_
        refine R_call (c_linchpinref2_Ints) rfl rfl (.inr rfl) ?_
        refine R_mov rfl ?_
        refine hK _ _ (TW_keep (keep_cons rfl (keep_nil)) ?_)
        clear hK K
        refine T_ret ?_
        refine seqT_ret ?_
        refine post_retI rfl ?_
        first | (simp [mCCmp, h1, h2, h3]; done) | (simp_all [mCCmp]; done)
      · try rw [h3]
        try simp only [decide_eq_true_eq, decide_eq_false_iff_not, Bool.not_eq_eq_eq_not, Bool.not_true, Bool.not_false] at h3
        refine G_yes rfl ?_
        refine R_fieldR rfl rfl ?_
        refine G_yes rfl ?_
        refine R_load rfl rfl rfl ?_
        refine G_yes rfl ?_
        refine R_neI rfl rfl ?_
        refine R_pick rfl rfl ?_
        refine hK _ _ (TW_keep (keep_cons rfl (keep_cons rfl (keep_cons rfl (keep_nil)))) ?_)
        clear hK K
        refine T_cond rfl (fun h4 => ?_) (fun h4 => ?_)
        · try rw [h4]
          try simp only [decide_eq_true_eq, decide_eq_false_iff_not, Bool.not_eq_eq_eq_not, Bool.not_true, Bool.not_false] at h4
          refine R_seq fun K hK => ?_
          refine R_fieldR rfl rfl ?_
          refine R_load rfl rfl rfl ?_
          refine R_fieldR rfl rfl ?_
          refine R_load rfl rfl rfl ?_
          refine R_call (c_linchpinref2_Ints) rfl rfl (.inr rfl) ?_
          refine R_mov rfl ?_
          refine hK _ _ (TW_keep (keep_cons rfl (keep_nil)) ?_)
          clear hK K
          refine T_ret ?_
          refine seqT_ret ?_
          refine post_retI rfl ?_
          first | (simp [mCCmp, h1, h2, h3, h4]; done) | (simp_all [mCCmp]; done)
        · try rw [h4]
          try simp only [decide_eq_true_eq, decide_eq_false_iff_not, Bool.not_eq_eq_eq_not, Bool.not_true, Bool.not_false] at h4
          refine T_skip ?_
          refine seqT_keep (keep_cons rfl (keep_cons rfl (keep_nil))) ?_
          refine T_seq ?_ -- 2
          refine R_seq fun K hK => ?_
          refine R_fieldR rfl rfl ?_
          refine R_loadA (cs := [_, _, _, _, _]) rfl rfl rfl rfl ?_
          refine R_fieldR rfl rfl ?_
          refine R_loadA (cs := [_, _, _, _, _]) rfl rfl rfl rfl ?_
          refine R_call (c_linchpinref2_Compare (by omega) (by omega) (by omega) (by omega)) rfl rfl (.inr rfl) ?_
          refine R_mov rfl ?_
          refine hK _ _ (TW_keep (keep_cons rfl (keep_cons rfl (keep_cons rfl (keep_nil)))) ?_)
          clear hK K
          refine R_seq fun K hK => ?_
          refine R_mov rfl ?_
          refine R_neI rfl rfl ?_
          refine hK _ _ (TW_keep (keep_cons rfl (keep_cons rfl (keep_cons rfl (keep_cons rfl (keep_nil))))) ?_)
          clear hK K
          refine T_cond rfl (fun h5 => ?_) (fun h5 => ?_)
          · try rw [h5]
            try simp only [decide_eq_true_eq, decide_eq_false_iff_not, Bool.not_eq_eq_eq_not, Bool.not_true, Bool.not_false] at h5
            refine R_seq fun K hK => ?_
            refine R_mov rfl ?_
            refine R_mov rfl ?_
            refine hK _ _ (TW_keep (keep_cons rfl (keep_nil)) ?_)
            clear hK K
            refine T_ret ?_
            refine seqT_ret ?_
            refine post_retI rfl ?_
            first | (simp [mCCmp, h1, h2, h3, h4, h5]; done) | (simp_all [mCCmp]; done)
          · try rw [h5]
            try simp only [decide_eq_true_eq, decide_eq_false_iff_not, Bool.not_eq_eq_eq_not, Bool.not_true, Bool.not_false] at h5
            refine T_skip ?_
            refine seqT_keep (keep_cons rfl (keep_cons rfl (keep_nil))) ?_
            refine T_seq ?_ -- 3
            refine T_block ?_
            refine R_seq fun K hK => ?_
            refine R_fieldR rfl rfl ?_
            refine R_load rfl rfl rfl ?_
            refine R_fieldR rfl rfl ?_
            refine R_load rfl rfl rfl ?_
            refine R_eqB rfl rfl ?_
            refine R_mov rfl ?_
            refine hK _ _ (TW_keep (keep_cons rfl (keep_cons rfl (keep_nil))) ?_)
            clear hK K
            refine T_cond rfl (fun h6 => ?_) (fun h6 => ?_)
            · try rw [h6]
              try simp only [decide_eq_true_eq, decide_eq_false_iff_not, Bool.not_eq_eq_eq_not, Bool.not_true, Bool.not_false] at h6
              refine R_seq fun K hK => ?_
              refine R_mov rfl ?_
              refine hK _ _ (TW_keep (keep_cons rfl (keep_nil)) ?_)
              clear hK K
              refine T_ret ?_
              refine block_ret ?_
              refine seqT_ret ?_
              refine post_retI rfl ?_
              first | (simp [mCCmp, h1, h2, h3, h4, h5, h6]; done) | (simp_all [mCCmp]; done)
            · try rw [h6]
              try simp only [decide_eq_true_eq, decide_eq_false_iff_not, Bool.not_eq_eq_eq_not, Bool.not_true, Bool.not_false] at h6
              refine R_seq fun K hK => ?_
              refine R_fieldR rfl rfl ?_
              refine R_load rfl rfl rfl ?_
              refine R_mov rfl ?_
              refine hK _ _ (TW_keep (keep_cons rfl (keep_nil)) ?_)
              clear hK K
              refine T_cond rfl (fun h7 => ?_) (fun h7 => ?_)
              · try rw [h7]
                try simp only [decide_eq_true_eq, decide_eq_false_iff_not, Bool.not_eq_eq_eq_not, Bool.not_true, Bool.not_false] at h7
                refine R_seq fun K hK => ?_
                refine R_mov rfl ?_
                refine hK _ _ (TW_keep (keep_cons rfl (keep_nil)) ?_)
                clear hK K
                refine T_ret ?_
                refine block_ret ?_
                refine seqT_ret ?_
                refine post_retI rfl ?_
                first | (simp [mCCmp, h1, h2, h3, h4, h5, h6, h7]; done) | (simp_all [mCCmp]; done)
              · try rw [h7]
                try simp only [decide_eq_true_eq, decide_eq_false_iff_not, Bool.not_eq_eq_eq_not, Bool.not_true, Bool.not_false] at h7
                refine T_skip ?_
                refine block_normal ?_
                refine seqT_keep (keep_nil) ?_
                refine R_seq fun K hK => ?_
                refine R_mov rfl ?_
                refine hK _ _ (TW_keep (keep_cons rfl (keep_nil)) ?_)
                clear hK K
                refine T_ret ?_
                refine post_retI rfl ?_
                first | (simp [mCCmp, h1, h2, h3, h4, h5, h6, h7]; done) | (simp_all [mCCmp]; done)

theorem c_linchpinref3_Ahead {e a b c : Int} {p q : List UInt8} {f : Bool} (hp : p.length ≤ 1000000) (hq : q.length ≤ 1000000) {a' b' c' : Int} {p' q' : List UInt8} (hp' : p'.length ≤ 1000000) (hq' : q'.length ≤ 1000000) : Ok Try.prog 16 [.agg [.int .i64 e, .int .i64 a, .int .i64 b, .int .i64 c, .str p, .str q, .bool f], .agg [.int .i64 a', .int .i64 b', .int .i64 c', .str p', .str q']] (.bool (mAhead e a b c p q f a' b' c' p' q')) := by
  refine Ok.ofT tfol Try.func16 tp16 (Nat.le_of_ble_eq_true rfl) ?_
  show TW _ _ tf16.body _ _
  refine R_seq fun K hK => ?_
  refine R_box rfl rfl rfl ?_
  refine R_box rfl rfl rfl ?_
  refine R_mov rfl ?_
  refine hK _ _ (TW_keep (keep_cons rfl (keep_cons rfl (keep_nil))) ?_)
  clear hK K
  refine T_seq ?_ -- 0
  refine R_seq fun K hK => ?_
  refine R_loadA (cs := [_, _, _, _, _, _, _]) rfl rfl rfl rfl ?_
  refine R_call (c_linchpinref3_May (by omega) (by omega)) rfl rfl (.inr rfl) ?_
  refine R_not rfl ?_
  refine R_mov rfl ?_
  refine G_split (g := 9) rfl (fun h1 => ?_) (fun h1 => ?_)
  · try rw [h1]
    try simp only [decide_eq_true_eq, decide_eq_false_iff_not, Bool.not_eq_eq_eq_not, Bool.not_true, Bool.not_false] at h1
    refine G_no rfl ?_
    refine G_no rfl ?_
    refine G_no rfl ?_
    refine R_pick rfl rfl ?_
    refine hK _ _ (TW_keep (keep_cons rfl (keep_cons rfl (keep_cons rfl (keep_nil)))) ?_)
    clear hK K
    refine T_condT rfl ?_
    refine R_seq fun K hK => ?_
    refine R_mov rfl ?_
    refine hK _ _ (TW_keep (keep_cons rfl (keep_nil)) ?_)
    clear hK K
    refine T_ret ?_
    refine seqT_ret ?_
    refine post_retB rfl ?_
    first | (simp [mAhead, h1]; done) | (simp_all [mAhead]; done)
  · try rw [h1]
    try simp only [decide_eq_true_eq, decide_eq_false_iff_not, Bool.not_eq_eq_eq_not, Bool.not_true, Bool.not_false] at h1
    refine G_yes rfl ?_
    refine R_loadA (cs := [_, _, _, _, _]) rfl rfl rfl rfl ?_
    refine G_yes rfl ?_
    refine R_call (c_linchpinref2_May (by omega) (by omega)) rfl rfl (.inr rfl) ?_
    refine G_yes rfl ?_
    refine R_not rfl ?_
    refine R_pick rfl rfl ?_
    refine hK _ _ (TW_keep (keep_cons rfl (keep_cons rfl (keep_cons rfl (keep_nil)))) ?_)
    clear hK K
    refine T_cond rfl (fun h2 => ?_) (fun h2 => ?_)
    · try rw [h2]
      try simp only [decide_eq_true_eq, decide_eq_false_iff_not, Bool.not_eq_eq_eq_not, Bool.not_true, Bool.not_false] at h2
      refine R_seq fun K hK => ?_
      refine R_mov rfl ?_
      refine hK _ _ (TW_keep (keep_cons rfl (keep_nil)) ?_)
      clear hK K
      refine T_ret ?_
      refine seqT_ret ?_
      refine post_retB rfl ?_
      first | (simp [mAhead, h1, h2]; done) | (simp_all [mAhead]; done)
    · try rw [h2]
      try simp only [decide_eq_true_eq, decide_eq_false_iff_not, Bool.not_eq_eq_eq_not, Bool.not_true, Bool.not_false] at h2
      refine T_skip ?_
      refine seqT_keep (keep_cons rfl (keep_cons rfl (keep_nil))) ?_
      refine T_seq ?_ -- 1
      refine R_seq fun K hK => ?_
      refine R_fieldR rfl rfl ?_
      refine R_load rfl rfl rfl ?_
      refine R_neI rfl rfl ?_
      refine hK _ _ (TW_keep (keep_cons rfl (keep_cons rfl (keep_cons rfl (keep_nil)))) ?_)
      clear hK K
      refine T_cond rfl (fun h3 => ?_) (fun h3 => ?_)
      · try rw [h3]
        try simp only [decide_eq_true_eq, decide_eq_false_iff_not, Bool.not_eq_eq_eq_not, Bool.not_true, Bool.not_false] at h3
        refine R_seq fun K hK => ?_
        refine R_fieldR rfl rfl ?_
        refine R_load rfl rfl rfl ?_
        refine R_lt rfl rfl ?_
        refine R_mov rfl ?_
        refine hK _ _ (TW_keep (keep_cons rfl (keep_nil)) ?_)
        clear hK K
        refine T_ret ?_
        refine seqT_ret ?_
        refine post_retB rfl ?_
        first | (simp [mAhead, h1, h2, h3]; done) | (simp_all [mAhead]; done)
      · try rw [h3]
        try simp only [decide_eq_true_eq, decide_eq_false_iff_not, Bool.not_eq_eq_eq_not, Bool.not_true, Bool.not_false] at h3
        refine T_skip ?_
        refine seqT_keep (keep_cons rfl (keep_cons rfl (keep_nil))) ?_
        refine R_seq fun K hK => ?_
        refine R_fieldR rfl rfl ?_
        refine R_loadA (cs := [_, _, _, _, _]) rfl rfl rfl rfl ?_
        refine R_loadA (cs := [_, _, _, _, _]) rfl rfl rfl rfl ?_
        refine R_call (c_linchpinref2_Compare (by omega) (by omega) (by omega) (by omega)) rfl rfl (.inr rfl) ?_
        refine R_mov rfl ?_
        refine hK _ _ (TW_keep (keep_cons rfl (keep_cons rfl (keep_nil))) ?_)
        clear hK K
        refine R_seq fun K hK => ?_
        refine R_mov rfl ?_
        refine R_lt rfl rfl ?_
        refine R_mov rfl ?_
        refine G_split (g := 26) rfl (fun h4 => ?_) (fun h4 => ?_)
        · try rw [h4]
          try simp only [decide_eq_true_eq, decide_eq_false_iff_not, Bool.not_eq_eq_eq_not, Bool.not_true, Bool.not_false] at h4
          refine G_no rfl ?_
          refine G_no rfl ?_
          refine G_no rfl ?_
          refine G_undef rfl ?_
          refine G_undef rfl ?_
          refine G_undef rfl ?_
          refine G_no rfl ?_
          refine R_pick rfl rfl ?_
          refine R_mov rfl ?_
          refine hK _ _ (TW_keep (keep_cons rfl (keep_nil)) ?_)
          clear hK K
          refine T_ret ?_
          refine post_retB rfl ?_
          first | (simp [mAhead, h1, h2, h3, h4]; done) | (simp_all [mAhead]; done)
        · try rw [h4]
          try simp only [decide_eq_true_eq, decide_eq_false_iff_not, Bool.not_eq_eq_eq_not, Bool.not_true, Bool.not_false] at h4
          refine G_yes rfl ?_
          refine R_mov rfl ?_
          refine G_yes rfl ?_
          refine R_eqI rfl rfl ?_
          refine G_yes rfl ?_
          refine R_mov rfl ?_
          refine G_split (g := 29) rfl (fun h5 => ?_) (fun h5 => ?_)
          · try rw [h5]
            try simp only [decide_eq_true_eq, decide_eq_false_iff_not, Bool.not_eq_eq_eq_not, Bool.not_true, Bool.not_false] at h5
            refine G_yes rfl ?_
            refine R_fieldR rfl rfl ?_
            refine G_yes rfl ?_
            refine R_load rfl rfl rfl ?_
            refine G_yes rfl ?_
            refine R_not rfl ?_
            refine G_yes rfl ?_
            refine R_pick rfl rfl ?_
            refine R_pick rfl rfl ?_
            refine R_mov rfl ?_
            refine hK _ _ (TW_keep (keep_cons rfl (keep_nil)) ?_)
            clear hK K
            refine T_ret ?_
            refine post_retB rfl ?_
            first | (simp [mAhead, h1, h2, h3, h4, h5]; done) | (simp_all [mAhead]; done)
          · try rw [h5]
            try simp only [decide_eq_true_eq, decide_eq_false_iff_not, Bool.not_eq_eq_eq_not, Bool.not_true, Bool.not_false] at h5
            refine G_no rfl ?_
            refine G_no rfl ?_
            refine G_no rfl ?_
            refine G_yes rfl ?_
            refine R_pick rfl rfl ?_
            refine R_pick rfl rfl ?_
            refine R_mov rfl ?_
            refine hK _ _ (TW_keep (keep_cons rfl (keep_nil)) ?_)
            clear hK K
            refine T_ret ?_
            refine post_retB rfl ?_
            first | (simp [mAhead, h1, h2, h3, h4, h5]; done) | (simp_all [mAhead]; done)

theorem c_linchpinref3_SpanMay {e a b c : Int} {p q : List UInt8} {f : Bool} (hp : p.length ≤ 1000000) (hq : q.length ≤ 1000000) {e' a' b' c' : Int} {p' q' : List UInt8} {f' : Bool} (hp' : p'.length ≤ 1000000) (hq' : q'.length ≤ 1000000) : Ok Try.prog 18 [.agg [.int .i64 e, .int .i64 a, .int .i64 b, .int .i64 c, .str p, .str q, .bool f, .int .i64 e', .int .i64 a', .int .i64 b', .int .i64 c', .str p', .str q', .bool f']] (.bool (mSpan e a b c p q f e' a' b' c' p' q' f')) := by
  refine Ok.ofT tfol Try.func18 tp18 (Nat.le_of_ble_eq_true rfl) ?_
  show TW _ _ tf18.body _ _
  refine R_seq fun K hK => ?_
  refine R_box rfl rfl rfl ?_
  refine R_mov rfl ?_
  refine hK _ _ (TW_keep (keep_cons rfl (keep_nil)) ?_)
  clear hK K
  refine R_seq fun K hK => ?_
  refine R_fieldR rfl rfl ?_
  refine R_loadA (cs := [_, _, _, _, _, _, _]) rfl rfl rfl rfl ?_
  refine R_call (c_linchpinref3_May (by omega) (by omega)) rfl rfl (.inr rfl) ?_
  refine R_mov rfl ?_
  refine G_split (g := 6) rfl (fun h1 => ?_) (fun h1 => ?_)
  · try rw [h1]
    try simp only [decide_eq_true_eq, decide_eq_false_iff_not, Bool.not_eq_eq_eq_not, Bool.not_true, Bool.not_false] at h1
    refine G_yes rfl ?_
    refine R_fieldR rfl rfl ?_
    refine G_yes rfl ?_
    refine R_loadA (cs := [_, _, _, _, _, _, _]) rfl rfl rfl rfl ?_
    refine G_yes rfl ?_
    refine R_call (c_linchpinref3_May (by omega) (by omega)) rfl rfl (.inr rfl) ?_
    refine R_pick rfl rfl ?_
    refine R_mov rfl ?_
    refine G_split (g := 11) rfl (fun h2 => ?_) (fun h2 => ?_)
    · try rw [h2]
      try simp only [decide_eq_true_eq, decide_eq_false_iff_not, Bool.not_eq_eq_eq_not, Bool.not_true, Bool.not_false] at h2
      refine G_yes rfl ?_
      refine R_fieldR rfl rfl ?_
      refine G_yes rfl ?_
      refine R_loadA (cs := [_, _, _, _, _, _, _]) rfl rfl rfl rfl ?_
      refine G_yes rfl ?_
      refine R_fieldR rfl rfl ?_
      refine G_yes rfl ?_
      refine R_loadA (cs := [_, _, _, _, _, _, _]) rfl rfl rfl rfl ?_
      refine G_yes rfl ?_
      refine R_call (c_linchpinref3_Compare (by omega) (by omega) (by omega) (by omega)) rfl rfl (.inr rfl) ?_
      refine G_yes rfl ?_
      refine R_lt rfl rfl ?_
      refine R_pick rfl rfl ?_
      refine R_mov rfl ?_
      refine hK _ _ (TW_keep (keep_cons rfl (keep_nil)) ?_)
      clear hK K
      refine T_ret ?_
      refine post_retB rfl ?_
      first | (simp [mSpan, h1, h2]; done) | (simp_all [mSpan]; done)
    · try rw [h2]
      try simp only [decide_eq_true_eq, decide_eq_false_iff_not, Bool.not_eq_eq_eq_not, Bool.not_true, Bool.not_false] at h2
      refine G_no rfl ?_
      refine G_no rfl ?_
      refine G_no rfl ?_
      refine G_no rfl ?_
      refine G_no rfl ?_
      refine G_no rfl ?_
      refine R_pick rfl rfl ?_
      refine R_mov rfl ?_
      refine hK _ _ (TW_keep (keep_cons rfl (keep_nil)) ?_)
      clear hK K
      refine T_ret ?_
      refine post_retB rfl ?_
      first | (simp [mSpan, h1, h2]; done) | (simp_all [mSpan]; done)
  · try rw [h1]
    try simp only [decide_eq_true_eq, decide_eq_false_iff_not, Bool.not_eq_eq_eq_not, Bool.not_true, Bool.not_false] at h1
    refine G_no rfl ?_
    refine G_no rfl ?_
    refine G_no rfl ?_
    refine R_pick rfl rfl ?_
    refine R_mov rfl ?_
    refine G_no rfl ?_
    refine G_no rfl ?_
    refine G_no rfl ?_
    refine G_no rfl ?_
    refine G_no rfl ?_
    refine G_no rfl ?_
    refine R_pick rfl rfl ?_
    refine R_mov rfl ?_
    refine hK _ _ (TW_keep (keep_cons rfl (keep_nil)) ?_)
    clear hK K
    refine T_ret ?_
    refine post_retB rfl ?_
    first | (simp [mSpan, h1]; done) | (simp_all [mSpan]; done)

theorem c_linchpinref3_Holds {e a b c : Int} {p q : List UInt8} {f : Bool} (hp : p.length ≤ 1000000) (hq : q.length ≤ 1000000) {e' a' b' c' : Int} {p' q' : List UInt8} {f' : Bool} (hp' : p'.length ≤ 1000000) (hq' : q'.length ≤ 1000000) {x y z : Int} {r s : List UInt8} (hr : r.length ≤ 1000000) (hs : s.length ≤ 1000000) : Ok Try.prog 20 [.agg [.int .i64 e, .int .i64 a, .int .i64 b, .int .i64 c, .str p, .str q, .bool f, .int .i64 e', .int .i64 a', .int .i64 b', .int .i64 c', .str p', .str q', .bool f'], .agg [.int .i64 x, .int .i64 y, .int .i64 z, .str r, .str s]] (.bool (mHolds e a b c p q f e' a' b' c' p' q' f' x y z r s)) := by
  refine Ok.ofT tfol Try.func20 tp20 (Nat.le_of_ble_eq_true rfl) ?_
  show TW _ _ tf20.body _ _
  refine R_seq fun K hK => ?_
  refine R_box rfl rfl rfl ?_
  refine R_box rfl rfl rfl ?_
  refine R_mov rfl ?_
  refine hK _ _ (TW_keep (keep_cons rfl (keep_cons rfl (keep_nil))) ?_)
  clear hK K
  refine R_seq fun K hK => ?_
  refine R_loadA (cs := [_, _, _, _, _, _, _, _, _, _, _, _, _, _]) rfl rfl rfl rfl ?_
  refine R_call (c_linchpinref3_SpanMay (by omega) (by omega) (by omega) (by omega)) rfl rfl (.inr rfl) ?_
  refine R_mov rfl ?_
  refine G_split (g := 7) rfl (fun h1 => ?_) (fun h1 => ?_)
  · try rw [h1]
    try simp only [decide_eq_true_eq, decide_eq_false_iff_not, Bool.not_eq_eq_eq_not, Bool.not_true, Bool.not_false] at h1
    refine G_yes rfl ?_
    refine R_loadA (cs := [_, _, _, _, _]) rfl rfl rfl rfl ?_
    refine G_yes rfl ?_
    refine R_call (c_linchpinref2_May (by omega) (by omega)) rfl rfl (.inr rfl) ?_
    refine R_pick rfl rfl ?_
    refine R_mov rfl ?_
    refine G_split (g := 11) rfl (fun h2 => ?_) (fun h2 => ?_)
    · try rw [h2]
      try simp only [decide_eq_true_eq, decide_eq_false_iff_not, Bool.not_eq_eq_eq_not, Bool.not_true, Bool.not_false] at h2
      refine G_yes rfl ?_
      refine R_fieldR rfl rfl ?_
      refine G_yes rfl ?_
      refine R_loadA (cs := [_, _, _, _, _, _, _]) rfl rfl rfl rfl ?_
      refine G_yes rfl ?_
      refine R_loadA (cs := [_, _, _, _, _]) rfl rfl rfl rfl ?_
      refine G_yes rfl ?_
      refine R_call (c_linchpinref3_Ahead (by omega) (by omega) (by omega) (by omega)) rfl rfl (.inr rfl) ?_
      refine R_pick rfl rfl ?_
      refine R_mov rfl ?_
      refine G_split (g := 17) rfl (fun h3 => ?_) (fun h3 => ?_)
      · try rw [h3]
        try simp only [decide_eq_true_eq, decide_eq_false_iff_not, Bool.not_eq_eq_eq_not, Bool.not_true, Bool.not_false] at h3
        refine G_yes rfl ?_
        refine R_fieldR rfl rfl ?_
        refine G_yes rfl ?_
        refine R_loadA (cs := [_, _, _, _, _, _, _]) rfl rfl rfl rfl ?_
        refine G_yes rfl ?_
        refine R_loadA (cs := [_, _, _, _, _]) rfl rfl rfl rfl ?_
        refine G_yes rfl ?_
        refine R_call (c_linchpinref3_Ahead (by omega) (by omega) (by omega) (by omega)) rfl rfl (.inr rfl) ?_
        refine G_yes rfl ?_
        refine R_not rfl ?_
        refine R_pick rfl rfl ?_
        refine R_mov rfl ?_
        refine hK _ _ (TW_keep (keep_cons rfl (keep_nil)) ?_)
        clear hK K
        refine T_ret ?_
        refine post_retB rfl ?_
        first | (simp [mHolds, h1, h2, h3]; done) | (simp_all [mHolds]; done)
      · try rw [h3]
        try simp only [decide_eq_true_eq, decide_eq_false_iff_not, Bool.not_eq_eq_eq_not, Bool.not_true, Bool.not_false] at h3
        refine G_no rfl ?_
        refine G_no rfl ?_
        refine G_no rfl ?_
        refine G_no rfl ?_
        refine G_no rfl ?_
        refine R_pick rfl rfl ?_
        refine R_mov rfl ?_
        refine hK _ _ (TW_keep (keep_cons rfl (keep_nil)) ?_)
        clear hK K
        refine T_ret ?_
        refine post_retB rfl ?_
        first | (simp [mHolds, h1, h2, h3]; done) | (simp_all [mHolds]; done)
    · try rw [h2]
      try simp only [decide_eq_true_eq, decide_eq_false_iff_not, Bool.not_eq_eq_eq_not, Bool.not_true, Bool.not_false] at h2
      refine G_no rfl ?_
      refine G_no rfl ?_
      refine G_no rfl ?_
      refine G_no rfl ?_
      refine R_pick rfl rfl ?_
      refine R_mov rfl ?_
      refine G_no rfl ?_
      refine G_no rfl ?_
      refine G_no rfl ?_
      refine G_no rfl ?_
      refine G_no rfl ?_
      refine R_pick rfl rfl ?_
      refine R_mov rfl ?_
      refine hK _ _ (TW_keep (keep_cons rfl (keep_nil)) ?_)
      clear hK K
      refine T_ret ?_
      refine post_retB rfl ?_
      first | (simp [mHolds, h1, h2]; done) | (simp_all [mHolds]; done)
  · try rw [h1]
    try simp only [decide_eq_true_eq, decide_eq_false_iff_not, Bool.not_eq_eq_eq_not, Bool.not_true, Bool.not_false] at h1
    refine G_no rfl ?_
    refine G_no rfl ?_
    refine R_pick rfl rfl ?_
    refine R_mov rfl ?_
    refine G_no rfl ?_
    refine G_no rfl ?_
    refine G_no rfl ?_
    refine G_no rfl ?_
    refine R_pick rfl rfl ?_
    refine R_mov rfl ?_
    refine G_no rfl ?_
    refine G_no rfl ?_
    refine G_no rfl ?_
    refine G_no rfl ?_
    refine G_no rfl ?_
    refine R_pick rfl rfl ?_
    refine R_mov rfl ?_
    refine hK _ _ (TW_keep (keep_cons rfl (keep_nil)) ?_)
    clear hK K
    refine T_ret ?_
    refine post_retB rfl ?_
    first | (simp [mHolds, h1]; done) | (simp_all [mHolds]; done)

end Go.Proofs
namespace Go.Proofs
open Go Go.Abs M3
set_option linter.unusedVariables false
set_option linter.unusedSimpArgs false

theorem c_ident_Number {s : List UInt8} (hl : s.length ≤ 1000000) : Ok Try.prog 44 [.str s] (.tup [.int .i64 (mNumber s).1, .bool (mNumber s).2]) := by
  refine Ok.ofT tfol Try.func44 tp44 (Nat.le_of_ble_eq_true rfl) ?_
  show TW _ _ tf44.body _ _
  refine R_seq fun K hK => ?_
  refine R_mov rfl ?_
  refine R_mov rfl ?_
  refine hK _ _ (TW_keep (keep_cons rfl (keep_nil)) ?_)
  clear hK K
  refine T_seqJ (ι := Unit) (fun _u => ⟨[(0, .str s)], []⟩) (fun _u => ¬ (s = [] ∨ 4 < s.length ∨ (1 < s.length ∧ s.head? = some 48))) ?_ ?_
  · skip
    refine R_seq fun K hK => ?_
    refine R_mov rfl ?_
    refine R_eqS rfl rfl ?_
    refine R_mov rfl ?_
    refine G_split (g := 9) rfl (fun h1 => ?_) (fun h1 => ?_)
    · try rw [h1]
      try simp only [decide_eq_true_eq, decide_eq_false_iff_not, Bool.not_eq_eq_eq_not, Bool.not_true, Bool.not_false, Bool.and_eq_true, Bool.and_eq_false_iff, decide_eq_true_eq] at h1
      refine G_no rfl ?_
      refine G_no rfl ?_
      refine G_no rfl ?_
      refine R_pick rfl rfl ?_
      refine R_mov rfl ?_
      refine G_no rfl ?_
      refine G_no rfl ?_
      refine G_no rfl ?_
      refine G_no rfl ?_
      refine G_undef rfl ?_
      refine G_undef rfl ?_
      refine G_undef rfl ?_
      refine G_no rfl ?_
      refine R_pick rfl rfl ?_
      refine hK _ _ (TW_keep (keep_cons rfl (keep_cons rfl (keep_nil))) ?_)
      clear hK K
      refine T_condT rfl ?_
      refine R_seq fun K hK => ?_
      refine R_mov rfl ?_
      refine R_mov rfl ?_
      refine hK _ _ (TW_keep (keep_cons rfl (keep_cons rfl (keep_nil))) ?_)
      clear hK K
      refine T_ret ?_
      refine join_ret ?_
      refine post_tup2 rfl rfl ?_
      first | (rw [num4_len (s := s) (by first | (left; assumption) | (right; omega))]; exact ⟨rfl, rfl⟩) | (rw [num_head (s := s) (by omega) (by assumption)]; exact ⟨rfl, rfl⟩) | (rw [num_dig (s := s) (i := i) (by omega) (by simp [isDig]; omega)]; exact ⟨rfl, rfl⟩) | (rw [num4_ok (s := s) (i := i) hJ (by omega) hI.2.1]; exact ⟨rfl, by simp [argD, D.fz, D.fzS, D.can, D.canS]; omega⟩)
    · try rw [h1]
      try simp only [decide_eq_true_eq, decide_eq_false_iff_not, Bool.not_eq_eq_eq_not, Bool.not_true, Bool.not_false, Bool.and_eq_true, Bool.and_eq_false_iff, decide_eq_true_eq] at h1
      refine G_yes rfl ?_
      refine R_mov rfl ?_
      refine G_yes rfl ?_
      refine R_lenStr rfl ?_
      refine G_yes rfl ?_
      refine R_gt rfl rfl ?_
      refine R_pick rfl rfl ?_
      refine R_mov rfl ?_
      refine G_split (g := 14) rfl (fun h2 => ?_) (fun h2 => ?_)
      · try rw [h2]
        try simp only [decide_eq_true_eq, decide_eq_false_iff_not, Bool.not_eq_eq_eq_not, Bool.not_true, Bool.not_false, Bool.and_eq_true, Bool.and_eq_false_iff, decide_eq_true_eq] at h2
        refine G_no rfl ?_
        refine G_no rfl ?_
        refine G_no rfl ?_
        refine G_no rfl ?_
        refine G_undef rfl ?_
        refine G_undef rfl ?_
        refine G_undef rfl ?_
        refine G_no rfl ?_
        refine R_pick rfl rfl ?_
        refine hK _ _ (TW_keep (keep_cons rfl (keep_cons rfl (keep_nil))) ?_)
        clear hK K
        refine T_condT rfl ?_
        refine R_seq fun K hK => ?_
        refine R_mov rfl ?_
        refine R_mov rfl ?_
        refine hK _ _ (TW_keep (keep_cons rfl (keep_cons rfl (keep_nil))) ?_)
        clear hK K
        refine T_ret ?_
        refine join_ret ?_
        refine post_tup2 rfl rfl ?_
        first | (rw [num4_len (s := s) (by first | (left; assumption) | (right; omega))]; exact ⟨rfl, rfl⟩) | (rw [num_head (s := s) (by omega) (by assumption)]; exact ⟨rfl, rfl⟩) | (rw [num_dig (s := s) (i := i) (by omega) (by simp [isDig]; omega)]; exact ⟨rfl, rfl⟩) | (rw [num4_ok (s := s) (i := i) hJ (by omega) hI.2.1]; exact ⟨rfl, by simp [argD, D.fz, D.fzS, D.can, D.canS]; omega⟩)
      · try rw [h2]
        try simp only [decide_eq_true_eq, decide_eq_false_iff_not, Bool.not_eq_eq_eq_not, Bool.not_true, Bool.not_false, Bool.and_eq_true, Bool.and_eq_false_iff, decide_eq_true_eq] at h2
        refine G_yes rfl ?_
        refine R_mov rfl ?_
        refine G_yes rfl ?_
        refine R_indexStr rfl rfl (by omega) (idx_at (i := 0) (List.length_pos_iff.2 (by assumption))) ?_
        refine G_yes rfl ?_
        refine R_eqI rfl rfl ?_
        refine G_yes rfl ?_
        refine R_mov rfl ?_
        refine G_split (g := 18) rfl (fun h3 => ?_) (fun h3 => ?_)
        · try rw [h3]
          try simp only [decide_eq_true_eq, decide_eq_false_iff_not, Bool.not_eq_eq_eq_not, Bool.not_true, Bool.not_false, Bool.and_eq_true, Bool.and_eq_false_iff, decide_eq_true_eq] at h3
          refine G_yes rfl ?_
          refine R_mov rfl ?_
          refine G_yes rfl ?_
          refine R_lenStr rfl ?_
          refine G_yes rfl ?_
          refine R_gt rfl rfl ?_
          refine G_yes rfl ?_
          refine R_pick rfl rfl ?_
          refine R_pick rfl rfl ?_
          refine hK _ _ (TW_keep (keep_cons rfl (keep_cons rfl (keep_nil))) ?_)
          clear hK K
          refine T_cond rfl (fun h4 => ?_) (fun h4 => ?_)
          · try rw [h4]
            try simp only [decide_eq_true_eq, decide_eq_false_iff_not, Bool.not_eq_eq_eq_not, Bool.not_true, Bool.not_false, Bool.and_eq_true, Bool.and_eq_false_iff, decide_eq_true_eq] at h4
            refine R_seq fun K hK => ?_
            refine R_mov rfl ?_
            refine R_mov rfl ?_
            refine hK _ _ (TW_keep (keep_cons rfl (keep_cons rfl (keep_nil))) ?_)
            clear hK K
            refine T_ret ?_
            refine join_ret ?_
            refine post_tup2 rfl rfl ?_
            first | (rw [num4_len (s := s) (by first | (left; assumption) | (right; omega))]; exact ⟨rfl, rfl⟩) | (rw [num_head (s := s) (by omega) (by assumption)]; exact ⟨rfl, rfl⟩) | (rw [num_dig (s := s) (i := i) (by omega) (by simp [isDig]; omega)]; exact ⟨rfl, rfl⟩) | (rw [num4_ok (s := s) (i := i) hJ (by omega) hI.2.1]; exact ⟨rfl, by simp [argD, D.fz, D.fzS, D.can, D.canS]; omega⟩)
          · try rw [h4]
            try simp only [decide_eq_true_eq, decide_eq_false_iff_not, Bool.not_eq_eq_eq_not, Bool.not_true, Bool.not_false, Bool.and_eq_true, Bool.and_eq_false_iff, decide_eq_true_eq] at h4
            refine T_skip ?_
            refine join_normal () ?_ ?_
            · exact le_keep' (keep_cons rfl (keep_nil))
            · rintro (q | q | q) <;> first | (simp_all; done) | omega | exact head48' (s := s) (by omega) (by assumption) q.2
        · try rw [h3]
          try simp only [decide_eq_true_eq, decide_eq_false_iff_not, Bool.not_eq_eq_eq_not, Bool.not_true, Bool.not_false, Bool.and_eq_true, Bool.and_eq_false_iff, decide_eq_true_eq] at h3
          refine G_no rfl ?_
          refine G_no rfl ?_
          refine G_no rfl ?_
          refine G_yes rfl ?_
          refine R_pick rfl rfl ?_
          refine R_pick rfl rfl ?_
          refine hK _ _ (TW_keep (keep_cons rfl (keep_cons rfl (keep_nil))) ?_)
          clear hK K
          refine T_condF rfl ?_
          refine T_skip ?_
          refine join_normal () ?_ ?_
          · exact le_keep' (keep_cons rfl (keep_nil))
          · rintro (q | q | q) <;> first | (simp_all; done) | omega | exact head48' (s := s) (by omega) (by assumption) q.2
  intro _u hJ
  try dsimp only
  refine R_seq fun K hK => ?_
  refine R_mov rfl ?_
  refine hK _ _ (TW_keep (keep_cons rfl (keep_cons rfl (keep_nil))) ?_)
  clear hK K
  refine T_seq ?_ -- 1
  refine R_seq fun K hK => ?_
  refine R_mov rfl ?_
  refine R_range rfl rfl ?_
  refine hK _ _ (TW_keep (keep_cons rfl (keep_cons rfl (keep_nil))) ?_)
  clear hK K
  refine T_block ?_
  refine T_loop (ι := Nat) (fun i => ⟨[(4, .int .i64 (val (s.take i))), (25, .ref 25 0 0)], [(25, ⟨[], 0, iterCode s i, false⟩)]⟩) (fun i => i ≤ s.length ∧ (s.take i).all isDig = true ∧ s.length ≤ 4 ∧ 0 < s.length) (fun i => s.length - i) 0 ?_ ?_ ?_
  · exact le_eq (l := [4, 25]) (lH := [25]) (keep_cons rfl (keep_cons rfl (keep_nil))) (keepH_cons rfl keepH_nil) (by simp [val]) rfl rfl
  · exact ⟨Nat.zero_le _, rfl, Nat.le_of_not_lt fun h => hJ (.inr (.inl h)), List.length_pos_iff.2 fun h => hJ (.inl h)⟩
  intro i hI
  have hv := val_lt (s := s.take i) hI.2.1
  have hp : 10 ^ (s.take i).length ≤ 10 ^ 4 := Nat.pow_le_pow_right (by omega) (by simp; omega)
  have hI1 := hI.1
  have hI3 := hI.2.2.1
  try dsimp only
  refine R_seq fun K hK => ?_
  rcases Nat.lt_or_ge (i) (s).length with h5 | h5
  · rcases Nat.lt_or_ge (((s)[i]).toNat) 128 with h6 | h6
    · refine R_next rfl rfl h5 (dec_ascii h5 h6) ?_
      refine R_extract rfl rfl ?_
      refine hK _ _ (TW_keep (keep_cons rfl (keep_cons rfl (keep_cons rfl (keep_cons rfl (keep_nil))))) ?_)
      clear hK K
      refine T_seq ?_ -- 2
      refine T_condT rfl ?_
      refine T_skip ?_
      refine seqT_keep (keep_cons rfl (keep_cons rfl (keep_cons rfl (keep_nil)))) ?_
      refine T_block ?_
      refine R_seq fun K hK => ?_
      refine R_extract rfl rfl ?_
      refine R_mov rfl ?_
      refine hK _ _ (TW_keep (keep_cons rfl (keep_cons rfl (keep_cons rfl (keep_nil)))) ?_)
      clear hK K
      refine T_block ?_
      refine R_seq fun K hK => ?_
      refine R_mov rfl ?_
      refine R_ge rfl rfl ?_
      refine R_mov rfl ?_
      refine G_split (g := 32) rfl (fun h7 => ?_) (fun h7 => ?_)
      · try rw [h7]
        try simp only [decide_eq_true_eq, decide_eq_false_iff_not, Bool.not_eq_eq_eq_not, Bool.not_true, Bool.not_false, Bool.and_eq_true, Bool.and_eq_false_iff, decide_eq_true_eq] at h7
        refine G_yes rfl ?_
        refine R_mov rfl ?_
        refine G_yes rfl ?_
        refine R_le rfl rfl ?_
        refine R_pick rfl rfl ?_
        refine R_mov rfl ?_
        refine hK _ _ (TW_keep (keep_cons rfl (keep_cons rfl (keep_cons rfl (keep_cons rfl (keep_nil))))) ?_)
        clear hK K
        refine T_cond rfl (fun h8 => ?_) (fun h8 => ?_)
        · try rw [h8]
          try simp only [decide_eq_true_eq, decide_eq_false_iff_not, Bool.not_eq_eq_eq_not, Bool.not_true, Bool.not_false, Bool.and_eq_true, Bool.and_eq_false_iff, decide_eq_true_eq] at h8
          refine R_last fun K hK => ?_
          refine R_mov rfl ?_
          refine R_mul rfl rfl (by first | exact wrap_i64 (by omega) (by omega) | exact wrap_i32 (by omega) (by omega) | exact wrap_u8 (by omega) (by omega) | rfl) ?_
          refine R_mov rfl ?_
          refine R_sub rfl rfl (by first | exact wrap_i64 (by omega) (by omega) | exact wrap_i32 (by omega) (by omega) | exact wrap_u8 (by omega) (by omega) | rfl) ?_
          refine R_conv rfl (by first | exact wrap_i64 (by omega) (by omega) | exact wrap_i32 (by omega) (by omega) | exact wrap_u8 (by omega) (by omega) | rfl) ?_
          refine R_add rfl rfl (by first | exact wrap_i64 (by omega) (by omega) | exact wrap_i32 (by omega) (by omega) | exact wrap_u8 (by omega) (by omega) | rfl) ?_
          refine R_mov rfl ?_
          refine hK _ ?_
          clear hK K
          refine block_normal ?_
          refine block_normal ?_
          refine round_normal (i + 1) ?_ ?_ ?_
          · first | exact le_eq (l := [4, 25]) (lH := [25]) (keep_cons rfl (keep_cons rfl (keep_nil))) (keepH_cons rfl keepH_nil) rfl rfl rfl | exact le_eq (l := [4, 25]) (lH := [25]) (keep_cons rfl (keep_cons rfl (keep_nil))) (keepH_cons rfl keepH_nil) (by rw [val_take (by omega)]; simp; omega) rfl rfl | (exfalso; omega)
          · first | exact ⟨by omega, take_all (by omega) hI.2.1 (by simp [isDig]; omega), hI.2.2⟩ | (exfalso; omega)
          · first | omega | (simp only; omega) | (dsimp only; omega)
        · try rw [h8]
          try simp only [decide_eq_true_eq, decide_eq_false_iff_not, Bool.not_eq_eq_eq_not, Bool.not_true, Bool.not_false, Bool.and_eq_true, Bool.and_eq_false_iff, decide_eq_true_eq] at h8
          refine R_seq fun K hK => ?_
          refine R_mov rfl ?_
          refine R_mov rfl ?_
          refine hK _ _ (TW_keep (keep_cons rfl (keep_cons rfl (keep_nil))) ?_)
          clear hK K
          refine T_ret ?_
          refine block_ret ?_
          refine block_ret ?_
          refine round_ret ?_
          refine block_ret ?_
          refine seqT_ret ?_
          refine post_tup2 rfl rfl ?_
          first | (rw [num4_len (s := s) (by first | (left; assumption) | (right; omega))]; exact ⟨rfl, rfl⟩) | (rw [num_head (s := s) (by omega) (by assumption)]; exact ⟨rfl, rfl⟩) | (rw [num_dig (s := s) (i := i) (by omega) (by simp [isDig]; omega)]; exact ⟨rfl, rfl⟩) | (rw [num4_ok (s := s) (i := i) hJ (by omega) hI.2.1]; exact ⟨rfl, by simp [argD, D.fz, D.fzS, D.can, D.canS]; omega⟩)
      · try rw [h7]
        try simp only [decide_eq_true_eq, decide_eq_false_iff_not, Bool.not_eq_eq_eq_not, Bool.not_true, Bool.not_false, Bool.and_eq_true, Bool.and_eq_false_iff, decide_eq_true_eq] at h7
        refine G_no rfl ?_
        refine G_no rfl ?_
        refine R_pick rfl rfl ?_
        refine R_mov rfl ?_
        refine hK _ _ (TW_keep (keep_cons rfl (keep_cons rfl (keep_cons rfl (keep_cons rfl (keep_nil))))) ?_)
        clear hK K
        refine T_condF rfl ?_
        refine R_seq fun K hK => ?_
        refine R_mov rfl ?_
        refine R_mov rfl ?_
        refine hK _ _ (TW_keep (keep_cons rfl (keep_cons rfl (keep_nil))) ?_)
        clear hK K
        refine T_ret ?_
        refine block_ret ?_
        refine block_ret ?_
        refine round_ret ?_
        refine block_ret ?_
        refine seqT_ret ?_
        refine post_tup2 rfl rfl ?_
        first | (rw [num4_len (s := s) (by first | (left; assumption) | (right; omega))]; exact ⟨rfl, rfl⟩) | (rw [num_head (s := s) (by omega) (by assumption)]; exact ⟨rfl, rfl⟩) | (rw [num_dig (s := s) (i := i) (by omega) (by simp [isDig]; omega)]; exact ⟨rfl, rfl⟩) | (rw [num4_ok (s := s) (i := i) hJ (by omega) hI.2.1]; exact ⟨rfl, by simp [argD, D.fz, D.fzS, D.can, D.canS]; omega⟩)
    · obtain ⟨cwh6, nwh6, hch6, hdh6⟩ := dec_wide h5 h6
      refine R_next rfl rfl h5 hdh6 ?_
      refine R_extract rfl rfl ?_
      refine hK _ _ (TW_keep (keep_cons rfl (keep_cons rfl (keep_cons rfl (keep_cons rfl (keep_nil))))) ?_)
      clear hK K
      refine T_seq ?_ -- 2
      refine T_condT rfl ?_
      refine T_skip ?_
      refine seqT_keep (keep_cons rfl (keep_cons rfl (keep_cons rfl (keep_nil)))) ?_
      refine T_block ?_
      refine R_seq fun K hK => ?_
      refine R_extract rfl rfl ?_
      refine R_mov rfl ?_
      refine hK _ _ (TW_keep (keep_cons rfl (keep_cons rfl (keep_cons rfl (keep_nil)))) ?_)
      clear hK K
      refine T_block ?_
      refine R_seq fun K hK => ?_
      refine R_mov rfl ?_
      refine R_ge rfl rfl ?_
      refine R_mov rfl ?_
      refine G_split (g := 32) rfl (fun h9 => ?_) (fun h9 => ?_)
      · try rw [h9]
        try simp only [decide_eq_true_eq, decide_eq_false_iff_not, Bool.not_eq_eq_eq_not, Bool.not_true, Bool.not_false, Bool.and_eq_true, Bool.and_eq_false_iff, decide_eq_true_eq] at h9
        refine G_yes rfl ?_
        refine R_mov rfl ?_
        refine G_yes rfl ?_
        refine R_le rfl rfl ?_
        refine R_pick rfl rfl ?_
        refine R_mov rfl ?_
        refine hK _ _ (TW_keep (keep_cons rfl (keep_cons rfl (keep_cons rfl (keep_cons rfl (keep_nil))))) ?_)
        clear hK K
        refine T_cond rfl (fun h10 => ?_) (fun h10 => ?_)
        · try rw [h10]
          try simp only [decide_eq_true_eq, decide_eq_false_iff_not, Bool.not_eq_eq_eq_not, Bool.not_true, Bool.not_false, Bool.and_eq_true, Bool.and_eq_false_iff, decide_eq_true_eq] at h10
          refine R_last fun K hK => ?_
          refine R_mov rfl ?_
          refine R_mul rfl rfl (by first | exact wrap_i64 (by omega) (by omega) | exact wrap_i32 (by omega) (by omega) | exact wrap_u8 (by omega) (by omega) | rfl) ?_
          refine R_mov rfl ?_
          refine R_sub rfl rfl (by first | exact wrap_i64 (by omega) (by omega) | exact wrap_i32 (by omega) (by omega) | exact wrap_u8 (by omega) (by omega) | rfl) ?_
          refine R_conv rfl (by first | exact wrap_i64 (by omega) (by omega) | exact wrap_i32 (by omega) (by omega) | exact wrap_u8 (by omega) (by omega) | rfl) ?_
          refine R_add rfl rfl (by first | exact wrap_i64 (by omega) (by omega) | exact wrap_i32 (by omega) (by omega) | exact wrap_u8 (by omega) (by omega) | rfl) ?_
          refine R_mov rfl ?_
          refine hK _ ?_
          clear hK K
          refine block_normal ?_
          refine block_normal ?_
          refine round_normal (i + 1) ?_ ?_ ?_
          · first | exact le_eq (l := [4, 25]) (lH := [25]) (keep_cons rfl (keep_cons rfl (keep_nil))) (keepH_cons rfl keepH_nil) rfl rfl rfl | exact le_eq (l := [4, 25]) (lH := [25]) (keep_cons rfl (keep_cons rfl (keep_nil))) (keepH_cons rfl keepH_nil) (by rw [val_take (by omega)]; simp; omega) rfl rfl | (exfalso; omega)
          · first | exact ⟨by omega, take_all (by omega) hI.2.1 (by simp [isDig]; omega), hI.2.2⟩ | (exfalso; omega)
          · first | omega | (simp only; omega) | (dsimp only; omega)
        · try rw [h10]
          try simp only [decide_eq_true_eq, decide_eq_false_iff_not, Bool.not_eq_eq_eq_not, Bool.not_true, Bool.not_false, Bool.and_eq_true, Bool.and_eq_false_iff, decide_eq_true_eq] at h10
          refine R_seq fun K hK => ?_
          refine R_mov rfl ?_
          refine R_mov rfl ?_
          refine hK _ _ (TW_keep (keep_cons rfl (keep_cons rfl (keep_nil))) ?_)
          clear hK K
          refine T_ret ?_
          refine block_ret ?_
          refine block_ret ?_
          refine round_ret ?_
          refine block_ret ?_
          refine seqT_ret ?_
          refine post_tup2 rfl rfl ?_
          first | (rw [num4_len (s := s) (by first | (left; assumption) | (right; omega))]; exact ⟨rfl, rfl⟩) | (rw [num_head (s := s) (by omega) (by assumption)]; exact ⟨rfl, rfl⟩) | (rw [num_dig (s := s) (i := i) (by omega) (by simp [isDig]; omega)]; exact ⟨rfl, rfl⟩) | (rw [num4_ok (s := s) (i := i) hJ (by omega) hI.2.1]; exact ⟨rfl, by simp [argD, D.fz, D.fzS, D.can, D.canS]; omega⟩)
      · try rw [h9]
        try simp only [decide_eq_true_eq, decide_eq_false_iff_not, Bool.not_eq_eq_eq_not, Bool.not_true, Bool.not_false, Bool.and_eq_true, Bool.and_eq_false_iff, decide_eq_true_eq] at h9
        refine G_no rfl ?_
        refine G_no rfl ?_
        refine R_pick rfl rfl ?_
        refine R_mov rfl ?_
        refine hK _ _ (TW_keep (keep_cons rfl (keep_cons rfl (keep_cons rfl (keep_cons rfl (keep_nil))))) ?_)
        clear hK K
        refine T_condF rfl ?_
        refine R_seq fun K hK => ?_
        refine R_mov rfl ?_
        refine R_mov rfl ?_
        refine hK _ _ (TW_keep (keep_cons rfl (keep_cons rfl (keep_nil))) ?_)
        clear hK K
        refine T_ret ?_
        refine block_ret ?_
        refine block_ret ?_
        refine round_ret ?_
        refine block_ret ?_
        refine seqT_ret ?_
        refine post_tup2 rfl rfl ?_
        first | (rw [num4_len (s := s) (by first | (left; assumption) | (right; omega))]; exact ⟨rfl, rfl⟩) | (rw [num_head (s := s) (by omega) (by assumption)]; exact ⟨rfl, rfl⟩) | (rw [num_dig (s := s) (i := i) (by omega) (by simp [isDig]; omega)]; exact ⟨rfl, rfl⟩) | (rw [num4_ok (s := s) (i := i) hJ (by omega) hI.2.1]; exact ⟨rfl, by simp [argD, D.fz, D.fzS, D.can, D.canS]; omega⟩)
  · refine R_nextEnd rfl rfl (by omega) ?_
    refine R_extract rfl rfl ?_
    refine hK _ _ (TW_keep (keep_cons rfl (keep_cons rfl (keep_cons rfl (keep_cons rfl (keep_nil))))) ?_)
    clear hK K
    refine T_seq ?_ -- 2
    refine T_condF rfl ?_
    refine T_exit ?_
    refine seqT_exit ?_
    refine round_exit ?_
    refine block_hit ?_
    refine seqT_keep (keep_cons rfl (keep_nil)) ?_
    refine R_seq fun K hK => ?_
    refine R_mov rfl ?_
    refine R_mov rfl ?_
    refine R_le rfl rfl ?_
    refine R_mov rfl ?_
    refine R_mov rfl ?_
    refine hK _ _ (TW_keep (keep_cons rfl (keep_cons rfl (keep_nil))) ?_)
    clear hK K
    refine T_ret ?_
    refine post_tup2 rfl rfl ?_
    first | (rw [num4_len (s := s) (by first | (left; assumption) | (right; omega))]; exact ⟨rfl, rfl⟩) | (rw [num_head (s := s) (by omega) (by assumption)]; exact ⟨rfl, rfl⟩) | (rw [num_dig (s := s) (i := i) (by omega) (by simp [isDig]; omega)]; exact ⟨rfl, rfl⟩) | (rw [num4_ok (s := s) (i := i) hJ (by omega) hI.2.1]; exact ⟨rfl, by simp [argD, D.fz, D.fzS, D.can, D.canS]; omega⟩)

theorem c_version_tags {s : List UInt8} (hl : s.length ≤ 1000000) : Ok Try.prog 36 [.str s] (.bool (mTags1 s)) := by
  refine Ok.ofT tfol Try.func36 tp36 (Nat.le_of_ble_eq_true rfl) ?_
  show TW _ _ tf36.body _ _
  refine R_seq fun K hK => ?_
  refine R_mov rfl ?_
  refine hK _ _ (TW_keep (keep_cons rfl (keep_nil)) ?_)
  clear hK K
  refine T_scope ?_
  refine R_seq fun K hK => ?_
  refine R_mov rfl ?_
  refine R_call (c_ident_Split (by omega)) rfl rfl (.inl rfl) ?_
  refine R_mov rfl ?_
  refine hK _ _ (TW_keep (keep_cons rfl (keep_nil)) ?_)
  clear hK K
  refine R_seq fun K hK => ?_
  refine R_mov rfl ?_
  refine R_len rfl rfl ?_
  refine R_le rfl rfl ?_
  refine R_mov rfl ?_
  refine hK _ _ (TW_keep (keep_cons rfl (keep_cons rfl (keep_nil))) ?_)
  clear hK K
  refine T_seq ?_ -- 0
  refine T_skip ?_
  refine seqT_keep (keep_cons rfl (keep_cons rfl (keep_nil))) ?_
  refine T_seq ?_ -- 1
  refine R_seq fun K hK => ?_
  refine R_mov rfl ?_
  refine R_len rfl rfl ?_
  refine R_mov rfl ?_
  refine hK _ _ (TW_keep (keep_cons rfl (keep_cons rfl (keep_cons rfl (keep_cons rfl (keep_nil))))) ?_)
  clear hK K
  refine T_block ?_
  refine T_loop (ι := Nat) (fun i => ⟨[(4, .bool (decide ((mSplit s 46).length ≤ 4))), (14, .sl (dStrs (mSplit s 46))), (15, .int .i64 (mSplit s 46).length), (16, .int .i64 i)], []⟩) (fun i => i ≤ (mSplit s 46).length ∧ ((mSplit s 46).take i).all mTag = true) (fun i => (mSplit s 46).length - i) 0 ?_ ?_ ?_
  · exact le_eq (l := [4, 14, 15, 16]) (keep_cons rfl (keep_cons rfl (keep_cons rfl (keep_cons rfl (keep_nil))))) keepH_nil (by simp [dStrs_len]; omega) rfl rfl
  · exact ⟨Nat.zero_le _, rfl⟩
  intro i hI
  have sl := split_len (s := s) (c := 46)
  try dsimp only
  refine R_seq fun K hK => ?_
  refine R_lt rfl rfl ?_
  refine hK _ _ (TW_keep (keep_cons rfl (keep_cons rfl (keep_cons rfl (keep_cons rfl (keep_cons rfl (keep_nil)))))) ?_)
  clear hK K
  refine T_seq ?_ -- 2
  refine T_cond rfl (fun h1 => ?_) (fun h1 => ?_)
  · try rw [h1]
    try simp only [decide_eq_true_eq, decide_eq_false_iff_not, Bool.not_eq_eq_eq_not, Bool.not_true, Bool.not_false, dStrs_len] at h1
    refine T_skip ?_
    refine seqT_keep (keep_cons rfl (keep_cons rfl (keep_cons rfl (keep_cons rfl (keep_nil))))) ?_
    refine T_seq ?_ -- 3
    refine T_block ?_
    refine R_seq fun K hK => ?_
    refine R_index rfl rfl rfl (by omega) (idx_strs (by omega)) rfl ?_
    refine R_load rfl rfl rfl ?_
    refine R_mov rfl ?_
    refine hK _ _ (TW_keep (keep_cons rfl (keep_cons rfl (keep_cons rfl (keep_cons rfl (keep_cons rfl (keep_nil)))))) ?_)
    clear hK K
    refine T_seq ?_ -- 4
    refine R_seq fun K hK => ?_
    refine R_mov rfl ?_
    refine R_eqS rfl rfl ?_
    refine R_mov rfl ?_
    refine G_split (g := 22) rfl (fun h2 => ?_) (fun h2 => ?_)
    · try rw [h2]
      try simp only [decide_eq_true_eq, decide_eq_false_iff_not, Bool.not_eq_eq_eq_not, Bool.not_true, Bool.not_false, dStrs_len] at h2
      refine G_no rfl ?_
      refine G_no rfl ?_
      refine G_no rfl ?_
      refine R_pick rfl rfl ?_
      refine hK _ _ (TW_keep (keep_cons rfl (keep_cons rfl (keep_cons rfl (keep_cons rfl (keep_cons rfl (keep_cons rfl (keep_nil))))))) ?_)
      clear hK K
      refine T_condT rfl ?_
      refine R_seq fun K hK => ?_
      refine R_mov rfl ?_
      refine hK _ _ (TW_keep (keep_cons rfl (keep_nil)) ?_)
      clear hK K
      refine T_exit ?_
      refine seqT_exit ?_
      refine block_miss (by decide) ?_
      refine seqT_exit ?_
      refine round_exit ?_
      refine block_hit ?_
      refine seqT_keep (keep_cons rfl (keep_nil)) ?_
      refine R_seq fun K hK => ?_
      refine R_mov rfl ?_
      refine R_mov rfl ?_
      refine hK _ _ (TW_keep (keep_cons rfl (keep_nil)) ?_)
      clear hK K
      refine T_ret ?_
      refine post_retB rfl ?_
      first | exact (tags1_no (i := i) (by omega) (mTag_len (by first | (left; assumption) | (right; omega)))).symm | exact (tags1_no (i := i) (by omega) (mTag_all (all_no (i := j) (by omega) (by simp [isTag]; omega)))).symm | exact (tags1_yes (by omega) hI.2).symm
    · try rw [h2]
      try simp only [decide_eq_true_eq, decide_eq_false_iff_not, Bool.not_eq_eq_eq_not, Bool.not_true, Bool.not_false, dStrs_len] at h2
      refine G_yes rfl ?_
      refine R_mov rfl ?_
      refine G_yes rfl ?_
      refine R_lenStr rfl ?_
      refine G_yes rfl ?_
      refine R_gt rfl rfl ?_
      refine R_pick rfl rfl ?_
      refine hK _ _ (TW_keep (keep_cons rfl (keep_cons rfl (keep_cons rfl (keep_cons rfl (keep_cons rfl (keep_cons rfl (keep_nil))))))) ?_)
      clear hK K
      refine T_cond rfl (fun h3 => ?_) (fun h3 => ?_)
      · try rw [h3]
        try simp only [decide_eq_true_eq, decide_eq_false_iff_not, Bool.not_eq_eq_eq_not, Bool.not_true, Bool.not_false, dStrs_len] at h3
        refine R_seq fun K hK => ?_
        refine R_mov rfl ?_
        refine hK _ _ (TW_keep (keep_cons rfl (keep_nil)) ?_)
        clear hK K
        refine T_exit ?_
        refine seqT_exit ?_
        refine block_miss (by decide) ?_
        refine seqT_exit ?_
        refine round_exit ?_
        refine block_hit ?_
        refine seqT_keep (keep_cons rfl (keep_nil)) ?_
        refine R_seq fun K hK => ?_
        refine R_mov rfl ?_
        refine R_mov rfl ?_
        refine hK _ _ (TW_keep (keep_cons rfl (keep_nil)) ?_)
        clear hK K
        refine T_ret ?_
        refine post_retB rfl ?_
        first | exact (tags1_no (i := i) (by omega) (mTag_len (by first | (left; assumption) | (right; omega)))).symm | exact (tags1_no (i := i) (by omega) (mTag_all (all_no (i := j) (by omega) (by simp [isTag]; omega)))).symm | exact (tags1_yes (by omega) hI.2).symm
      · try rw [h3]
        try simp only [decide_eq_true_eq, decide_eq_false_iff_not, Bool.not_eq_eq_eq_not, Bool.not_true, Bool.not_false, dStrs_len] at h3
        refine T_skip ?_
        refine seqT_keep (keep_cons rfl (keep_cons rfl (keep_cons rfl (keep_cons rfl (keep_cons rfl (keep_nil)))))) ?_
        refine R_seq fun K hK => ?_
        refine R_mov rfl ?_
        refine R_range rfl rfl ?_
        refine hK _ _ (TW_keep (keep_cons rfl (keep_cons rfl (keep_cons rfl (keep_cons rfl (keep_cons rfl (keep_nil)))))) ?_)
        clear hK K
        refine T_block ?_
        have hlt : i < (mSplit s 46).length := by omega
        refine T_loop (ι := Nat) (fun j => ⟨[(4, .bool (decide ((mSplit s 46).length ≤ 4))), (14, .sl (dStrs (mSplit s 46))), (15, .int .i64 (mSplit s 46).length), (16, .int .i64 i), (28, .ref 28 0 0)], [(28, ⟨[], 0, iterCode ((mSplit s 46)[i]'hlt) j, false⟩)]⟩) (fun j => j ≤ ((mSplit s 46)[i]'hlt).length ∧ (((mSplit s 46)[i]'hlt).take j).all isTag = true) (fun j => ((mSplit s 46)[i]'hlt).length - j) 0 ?_ ?_ ?_
        · first | exact le_eq (l := [4, 14, 15, 16, 28]) (lH := [28]) (keep_cons rfl (keep_cons rfl (keep_cons rfl (keep_cons rfl (keep_cons rfl (keep_nil)))))) (keepH_cons rfl keepH_nil) rfl rfl rfl | (exfalso; omega)
        · exact ⟨Nat.zero_le _, rfl⟩
        intro j hJ
        have hJ1 := hJ.1
        try dsimp only
        refine R_seq fun K hK => ?_
        rcases Nat.lt_or_ge (j) (((mSplit s 46)[i]'hlt)).length with h4 | h4
        · rcases Nat.lt_or_ge (((((mSplit s 46)[i]'hlt))[j]).toNat) 128 with h5 | h5
          · refine R_next rfl rfl h4 (dec_ascii h4 h5) ?_
            refine R_extract rfl rfl ?_
            refine hK _ _ (TW_keep (keep_cons rfl (keep_cons rfl (keep_cons rfl (keep_cons rfl (keep_cons rfl (keep_cons rfl (keep_cons rfl (keep_nil)))))))) ?_)
            clear hK K
            refine T_seq ?_ -- 5
            refine T_condT rfl ?_
            refine T_skip ?_
            refine seqT_keep (keep_cons rfl (keep_cons rfl (keep_cons rfl (keep_cons rfl (keep_cons rfl (keep_cons rfl (keep_nil))))))) ?_
            refine T_block ?_
            refine R_seq fun K hK => ?_
            refine R_extract rfl rfl ?_
            refine R_mov rfl ?_
            refine hK _ _ (TW_keep (keep_cons rfl (keep_cons rfl (keep_cons rfl (keep_cons rfl (keep_cons rfl (keep_cons rfl (keep_nil))))))) ?_)
            clear hK K
            refine R_seq fun K hK => ?_
            refine R_mov rfl ?_
            refine R_lt rfl rfl ?_
            refine R_mov rfl ?_
            refine G_split (g := 34) rfl (fun h6 => ?_) (fun h6 => ?_)
            · try rw [h6]
              try simp only [decide_eq_true_eq, decide_eq_false_iff_not, Bool.not_eq_eq_eq_not, Bool.not_true, Bool.not_false, dStrs_len] at h6
              refine G_no rfl ?_
              refine G_no rfl ?_
              refine R_pick rfl rfl ?_
              refine R_mov rfl ?_
              refine G_yes rfl ?_
              refine R_mov rfl ?_
              refine G_yes rfl ?_
              refine R_lt rfl rfl ?_
              refine G_yes rfl ?_
              refine R_mov rfl ?_
              refine G_split (g := 41) rfl (fun h7 => ?_) (fun h7 => ?_)
              · try rw [h7]
                try simp only [decide_eq_true_eq, decide_eq_false_iff_not, Bool.not_eq_eq_eq_not, Bool.not_true, Bool.not_false, dStrs_len] at h7
                refine G_no rfl ?_
                refine G_no rfl ?_
                refine G_yes rfl ?_
                refine R_pick rfl rfl ?_
                refine R_pick rfl rfl ?_
                refine R_mov rfl ?_
                refine G_yes rfl ?_
                refine R_mov rfl ?_
                refine G_yes rfl ?_
                refine R_neI rfl rfl ?_
                refine R_pick rfl rfl ?_
                refine hK _ _ (TW_keep (keep_cons rfl (keep_cons rfl (keep_cons rfl (keep_cons rfl (keep_cons rfl (keep_cons rfl (keep_nil))))))) ?_)
                clear hK K
                refine T_cond rfl (fun h8 => ?_) (fun h8 => ?_)
                · try rw [h8]
                  try simp only [decide_eq_true_eq, decide_eq_false_iff_not, Bool.not_eq_eq_eq_not, Bool.not_true, Bool.not_false, dStrs_len] at h8
                  refine R_seq fun K hK => ?_
                  refine R_mov rfl ?_
                  refine hK _ _ (TW_keep (keep_cons rfl (keep_nil)) ?_)
                  clear hK K
                  refine T_exit ?_
                  refine block_miss (by decide) ?_
                  refine round_exit ?_
                  refine block_miss (by decide) ?_
                  refine block_miss (by decide) ?_
                  refine seqT_exit ?_
                  refine round_exit ?_
                  refine block_hit ?_
                  refine seqT_keep (keep_cons rfl (keep_nil)) ?_
                  refine R_seq fun K hK => ?_
                  refine R_mov rfl ?_
                  refine R_mov rfl ?_
                  refine hK _ _ (TW_keep (keep_cons rfl (keep_nil)) ?_)
                  clear hK K
                  refine T_ret ?_
                  refine post_retB rfl ?_
                  first | exact (tags1_no (i := i) (by omega) (mTag_len (by first | (left; assumption) | (right; omega)))).symm | exact (tags1_no (i := i) (by omega) (mTag_all (all_no (i := j) (by omega) (by simp [isTag]; omega)))).symm | exact (tags1_yes (by omega) hI.2).symm
                · try rw [h8]
                  try simp only [decide_eq_true_eq, decide_eq_false_iff_not, Bool.not_eq_eq_eq_not, Bool.not_true, Bool.not_false, dStrs_len] at h8
                  refine T_skip ?_
                  refine block_normal ?_
                  refine round_normal (j + 1) ?_ ?_ ?_
                  · first | exact le_eq (l := [4, 14, 15, 16, 28]) (lH := [28]) (keep_cons rfl (keep_cons rfl (keep_cons rfl (keep_cons rfl (keep_cons rfl (keep_nil)))))) (keepH_cons rfl keepH_nil) rfl rfl rfl | (exfalso; omega)
                  · first | exact ⟨by omega, take_all (by omega) hJ.2 (by simp [isTag]; omega)⟩ | (exfalso; omega)
                  · first | omega | (simp only; omega) | (dsimp only; omega)
              · try rw [h7]
                try simp only [decide_eq_true_eq, decide_eq_false_iff_not, Bool.not_eq_eq_eq_not, Bool.not_true, Bool.not_false, dStrs_len] at h7
                refine G_yes rfl ?_
                refine R_mov rfl ?_
                refine G_yes rfl ?_
                refine R_gt rfl rfl ?_
                refine G_yes rfl ?_
                refine R_pick rfl rfl ?_
                refine R_pick rfl rfl ?_
                refine R_mov rfl ?_
                refine G_split (g := 46) rfl (fun h9 => ?_) (fun h9 => ?_)
                · try rw [h9]
                  try simp only [decide_eq_true_eq, decide_eq_false_iff_not, Bool.not_eq_eq_eq_not, Bool.not_true, Bool.not_false, dStrs_len] at h9
                  refine G_yes rfl ?_
                  refine R_mov rfl ?_
                  refine G_yes rfl ?_
                  refine R_neI rfl rfl ?_
                  refine R_pick rfl rfl ?_
                  refine hK _ _ (TW_keep (keep_cons rfl (keep_cons rfl (keep_cons rfl (keep_cons rfl (keep_cons rfl (keep_cons rfl (keep_nil))))))) ?_)
                  clear hK K
                  refine T_cond rfl (fun h10 => ?_) (fun h10 => ?_)
                  · try rw [h10]
                    try simp only [decide_eq_true_eq, decide_eq_false_iff_not, Bool.not_eq_eq_eq_not, Bool.not_true, Bool.not_false, dStrs_len] at h10
                    refine R_seq fun K hK => ?_
                    refine R_mov rfl ?_
                    refine hK _ _ (TW_keep (keep_cons rfl (keep_nil)) ?_)
                    clear hK K
                    refine T_exit ?_
                    refine block_miss (by decide) ?_
                    refine round_exit ?_
                    refine block_miss (by decide) ?_
                    refine block_miss (by decide) ?_
                    refine seqT_exit ?_
                    refine round_exit ?_
                    refine block_hit ?_
                    refine seqT_keep (keep_cons rfl (keep_nil)) ?_
                    refine R_seq fun K hK => ?_
                    refine R_mov rfl ?_
                    refine R_mov rfl ?_
                    refine hK _ _ (TW_keep (keep_cons rfl (keep_nil)) ?_)
                    clear hK K
                    refine T_ret ?_
                    refine post_retB rfl ?_
                    first | exact (tags1_no (i := i) (by omega) (mTag_len (by first | (left; assumption) | (right; omega)))).symm | exact (tags1_no (i := i) (by omega) (mTag_all (all_no (i := j) (by omega) (by simp [isTag]; omega)))).symm | exact (tags1_yes (by omega) hI.2).symm
                  · try rw [h10]
                    try simp only [decide_eq_true_eq, decide_eq_false_iff_not, Bool.not_eq_eq_eq_not, Bool.not_true, Bool.not_false, dStrs_len] at h10
                    refine T_skip ?_
                    refine block_normal ?_
                    refine round_normal (j + 1) ?_ ?_ ?_
                    · first | exact le_eq (l := [4, 14, 15, 16, 28]) (lH := [28]) (keep_cons rfl (keep_cons rfl (keep_cons rfl (keep_cons rfl (keep_cons rfl (keep_nil)))))) (keepH_cons rfl keepH_nil) rfl rfl rfl | (exfalso; omega)
                    · first | exact ⟨by omega, take_all (by omega) hJ.2 (by simp [isTag]; omega)⟩ | (exfalso; omega)
                    · first | omega | (simp only; omega) | (dsimp only; omega)
                · try rw [h9]
                  try simp only [decide_eq_true_eq, decide_eq_false_iff_not, Bool.not_eq_eq_eq_not, Bool.not_true, Bool.not_false, dStrs_len] at h9
                  refine G_no rfl ?_
                  refine G_no rfl ?_
                  refine R_pick rfl rfl ?_
                  refine hK _ _ (TW_keep (keep_cons rfl (keep_cons rfl (keep_cons rfl (keep_cons rfl (keep_cons rfl (keep_cons rfl (keep_nil))))))) ?_)
                  clear hK K
                  refine T_condF rfl ?_
                  refine T_skip ?_
                  refine block_normal ?_
                  refine round_normal (j + 1) ?_ ?_ ?_
                  · first | exact le_eq (l := [4, 14, 15, 16, 28]) (lH := [28]) (keep_cons rfl (keep_cons rfl (keep_cons rfl (keep_cons rfl (keep_cons rfl (keep_nil)))))) (keepH_cons rfl keepH_nil) rfl rfl rfl | (exfalso; omega)
                  · first | exact ⟨by omega, take_all (by omega) hJ.2 (by simp [isTag]; omega)⟩ | (exfalso; omega)
                  · first | omega | (simp only; omega) | (dsimp only; omega)
            · try rw [h6]
              try simp only [decide_eq_true_eq, decide_eq_false_iff_not, Bool.not_eq_eq_eq_not, Bool.not_true, Bool.not_false, dStrs_len] at h6
              refine G_yes rfl ?_
              refine R_mov rfl ?_
              refine G_yes rfl ?_
              refine R_gt rfl rfl ?_
              refine R_pick rfl rfl ?_
              refine R_mov rfl ?_
              refine G_split (g := 38) rfl (fun h11 => ?_) (fun h11 => ?_)
              · try rw [h11]
                try simp only [decide_eq_true_eq, decide_eq_false_iff_not, Bool.not_eq_eq_eq_not, Bool.not_true, Bool.not_false, dStrs_len] at h11
                refine G_yes rfl ?_
                refine R_mov rfl ?_
                refine G_yes rfl ?_
                refine R_lt rfl rfl ?_
                refine G_yes rfl ?_
                refine R_mov rfl ?_
                refine G_split (g := 41) rfl (fun h12 => ?_) (fun h12 => ?_)
                · try rw [h12]
                  try simp only [decide_eq_true_eq, decide_eq_false_iff_not, Bool.not_eq_eq_eq_not, Bool.not_true, Bool.not_false, dStrs_len] at h12
                  refine G_no rfl ?_
                  refine G_no rfl ?_
                  refine G_yes rfl ?_
                  refine R_pick rfl rfl ?_
                  refine R_pick rfl rfl ?_
                  refine R_mov rfl ?_
                  refine G_yes rfl ?_
                  refine R_mov rfl ?_
                  refine G_yes rfl ?_
                  refine R_neI rfl rfl ?_
                  refine R_pick rfl rfl ?_
                  refine hK _ _ (TW_keep (keep_cons rfl (keep_cons rfl (keep_cons rfl (keep_cons rfl (keep_cons rfl (keep_cons rfl (keep_nil))))))) ?_)
                  clear hK K
                  refine T_cond rfl (fun h13 => ?_) (fun h13 => ?_)
                  · try rw [h13]
                    try simp only [decide_eq_true_eq, decide_eq_false_iff_not, Bool.not_eq_eq_eq_not, Bool.not_true, Bool.not_false, dStrs_len] at h13
                    refine R_seq fun K hK => ?_
                    refine R_mov rfl ?_
                    refine hK _ _ (TW_keep (keep_cons rfl (keep_nil)) ?_)
                    clear hK K
                    refine T_exit ?_
                    refine block_miss (by decide) ?_
                    refine round_exit ?_
                    refine block_miss (by decide) ?_
                    refine block_miss (by decide) ?_
                    refine seqT_exit ?_
                    refine round_exit ?_
                    refine block_hit ?_
                    refine seqT_keep (keep_cons rfl (keep_nil)) ?_
                    refine R_seq fun K hK => ?_
                    refine R_mov rfl ?_
                    refine R_mov rfl ?_
                    refine hK _ _ (TW_keep (keep_cons rfl (keep_nil)) ?_)
                    clear hK K
                    refine T_ret ?_
                    refine post_retB rfl ?_
                    first | exact (tags1_no (i := i) (by omega) (mTag_len (by first | (left; assumption) | (right; omega)))).symm | exact (tags1_no (i := i) (by omega) (mTag_all (all_no (i := j) (by omega) (by simp [isTag]; omega)))).symm | exact (tags1_yes (by omega) hI.2).symm
                  · try rw [h13]
                    try simp only [decide_eq_true_eq, decide_eq_false_iff_not, Bool.not_eq_eq_eq_not, Bool.not_true, Bool.not_false, dStrs_len] at h13
                    refine T_skip ?_
                    refine block_normal ?_
                    refine round_normal (j + 1) ?_ ?_ ?_
                    · first | exact le_eq (l := [4, 14, 15, 16, 28]) (lH := [28]) (keep_cons rfl (keep_cons rfl (keep_cons rfl (keep_cons rfl (keep_cons rfl (keep_nil)))))) (keepH_cons rfl keepH_nil) rfl rfl rfl | (exfalso; omega)
                    · first | exact ⟨by omega, take_all (by omega) hJ.2 (by simp [isTag]; omega)⟩ | (exfalso; omega)
                    · first | omega | (simp only; omega) | (dsimp only; omega)
                · try rw [h12]
                  try simp only [decide_eq_true_eq, decide_eq_false_iff_not, Bool.not_eq_eq_eq_not, Bool.not_true, Bool.not_false, dStrs_len] at h12
                  refine G_yes rfl ?_
                  refine R_mov rfl ?_
                  refine G_yes rfl ?_
                  refine R_gt rfl rfl ?_
                  refine G_yes rfl ?_
                  refine R_pick rfl rfl ?_
                  refine R_pick rfl rfl ?_
                  refine R_mov rfl ?_
                  refine G_split (g := 46) rfl (fun h14 => ?_) (fun h14 => ?_)
                  · try rw [h14]
                    try simp only [decide_eq_true_eq, decide_eq_false_iff_not, Bool.not_eq_eq_eq_not, Bool.not_true, Bool.not_false, dStrs_len] at h14
                    refine G_yes rfl ?_
                    refine R_mov rfl ?_
                    refine G_yes rfl ?_
                    refine R_neI rfl rfl ?_
                    refine R_pick rfl rfl ?_
                    refine hK _ _ (TW_keep (keep_cons rfl (keep_cons rfl (keep_cons rfl (keep_cons rfl (keep_cons rfl (keep_cons rfl (keep_nil))))))) ?_)
                    clear hK K
                    refine T_cond rfl (fun h15 => ?_) (fun h15 => ?_)
                    · try rw [h15]
                      try simp only [decide_eq_true_eq, decide_eq_false_iff_not, Bool.not_eq_eq_eq_not, Bool.not_true, Bool.not_false, dStrs_len] at h15
                      refine R_seq fun K hK => ?_
                      refine R_mov rfl ?_
                      refine hK _ _ (TW_keep (keep_cons rfl (keep_nil)) ?_)
                      clear hK K
                      refine T_exit ?_
                      refine block_miss (by decide) ?_
                      refine round_exit ?_
                      refine block_miss (by decide) ?_
                      refine block_miss (by decide) ?_
                      refine seqT_exit ?_
                      refine round_exit ?_
                      refine block_hit ?_
                      refine seqT_keep (keep_cons rfl (keep_nil)) ?_
                      refine R_seq fun K hK => ?_
                      refine R_mov rfl ?_
                      refine R_mov rfl ?_
                      refine hK _ _ (TW_keep (keep_cons rfl (keep_nil)) ?_)
                      clear hK K
                      refine T_ret ?_
                      refine post_retB rfl ?_
                      first | exact (tags1_no (i := i) (by omega) (mTag_len (by first | (left; assumption) | (right; omega)))).symm | exact (tags1_no (i := i) (by omega) (mTag_all (all_no (i := j) (by omega) (by simp [isTag]; omega)))).symm | exact (tags1_yes (by omega) hI.2).symm
                    · try rw [h15]
                      try simp only [decide_eq_true_eq, decide_eq_false_iff_not, Bool.not_eq_eq_eq_not, Bool.not_true, Bool.not_false, dStrs_len] at h15
                      refine T_skip ?_
                      refine block_normal ?_
                      refine round_normal (j + 1) ?_ ?_ ?_
                      · first | exact le_eq (l := [4, 14, 15, 16, 28]) (lH := [28]) (keep_cons rfl (keep_cons rfl (keep_cons rfl (keep_cons rfl (keep_cons rfl (keep_nil)))))) (keepH_cons rfl keepH_nil) rfl rfl rfl | (exfalso; omega)
                      · first | exact ⟨by omega, take_all (by omega) hJ.2 (by simp [isTag]; omega)⟩ | (exfalso; omega)
                      · first | omega | (simp only; omega) | (dsimp only; omega)
                  · try rw [h14]
                    try simp only [decide_eq_true_eq, decide_eq_false_iff_not, Bool.not_eq_eq_eq_not, Bool.not_true, Bool.not_false, dStrs_len] at h14
                    refine G_no rfl ?_
                    refine G_no rfl ?_
                    refine R_pick rfl rfl ?_
                    refine hK _ _ (TW_keep (keep_cons rfl (keep_cons rfl (keep_cons rfl (keep_cons rfl (keep_cons rfl (keep_cons rfl (keep_nil))))))) ?_)
                    clear hK K
                    refine T_condF rfl ?_
                    refine T_skip ?_
                    refine block_normal ?_
                    refine round_normal (j + 1) ?_ ?_ ?_
                    · first | exact le_eq (l := [4, 14, 15, 16, 28]) (lH := [28]) (keep_cons rfl (keep_cons rfl (keep_cons rfl (keep_cons rfl (keep_cons rfl (keep_nil)))))) (keepH_cons rfl keepH_nil) rfl rfl rfl | (exfalso; omega)
                    · first | exact ⟨by omega, take_all (by omega) hJ.2 (by simp [isTag]; omega)⟩ | (exfalso; omega)
                    · first | omega | (simp only; omega) | (dsimp only; omega)
              · try rw [h11]
                try simp only [decide_eq_true_eq, decide_eq_false_iff_not, Bool.not_eq_eq_eq_not, Bool.not_true, Bool.not_false, dStrs_len] at h11
                refine G_no rfl ?_
                refine G_no rfl ?_
                refine G_no rfl ?_
                refine G_undef rfl ?_
                refine G_undef rfl ?_
                refine G_no rfl ?_
                refine R_pick rfl rfl ?_
                refine R_mov rfl ?_
                refine G_no rfl ?_
                refine G_no rfl ?_
                refine R_pick rfl rfl ?_
                refine hK _ _ (TW_keep (keep_cons rfl (keep_cons rfl (keep_cons rfl (keep_cons rfl (keep_cons rfl (keep_cons rfl (keep_nil))))))) ?_)
                clear hK K
                refine T_condF rfl ?_
                refine T_skip ?_
                refine block_normal ?_
                refine round_normal (j + 1) ?_ ?_ ?_
                · first | exact le_eq (l := [4, 14, 15, 16, 28]) (lH := [28]) (keep_cons rfl (keep_cons rfl (keep_cons rfl (keep_cons rfl (keep_cons rfl (keep_nil)))))) (keepH_cons rfl keepH_nil) rfl rfl rfl | (exfalso; omega)
                · first | exact ⟨by omega, take_all (by omega) hJ.2 (by simp [isTag]; omega)⟩ | (exfalso; omega)
                · first | omega | (simp only; omega) | (dsimp only; omega)
          · obtain ⟨cwh5, nwh5, hch5, hdh5⟩ := dec_wide h4 h5
            refine R_next rfl rfl h4 hdh5 ?_
            refine R_extract rfl rfl ?_
            refine hK _ _ (TW_keep (keep_cons rfl (keep_cons rfl (keep_cons rfl (keep_cons rfl (keep_cons rfl (keep_cons rfl (keep_cons rfl (keep_nil)))))))) ?_)
            clear hK K
            refine T_seq ?_ -- 5
            refine T_condT rfl ?_
            refine T_skip ?_
            refine seqT_keep (keep_cons rfl (keep_cons rfl (keep_cons rfl (keep_cons rfl (keep_cons rfl (keep_cons rfl (keep_nil))))))) ?_
            refine T_block ?_
            refine R_seq fun K hK => ?_
            refine R_extract rfl rfl ?_
            refine R_mov rfl ?_
            refine hK _ _ (TW_keep (keep_cons rfl (keep_cons rfl (keep_cons rfl (keep_cons rfl (keep_cons rfl (keep_cons rfl (keep_nil))))))) ?_)
            clear hK K
            refine R_seq fun K hK => ?_
            refine R_mov rfl ?_
            refine R_lt rfl rfl ?_
            refine R_mov rfl ?_
            refine G_split (g := 34) rfl (fun h16 => ?_) (fun h16 => ?_)
            · try rw [h16]
              try simp only [decide_eq_true_eq, decide_eq_false_iff_not, Bool.not_eq_eq_eq_not, Bool.not_true, Bool.not_false, dStrs_len] at h16
              refine G_no rfl ?_
              refine G_no rfl ?_
              refine R_pick rfl rfl ?_
              refine R_mov rfl ?_
              refine G_yes rfl ?_
              refine R_mov rfl ?_
              refine G_yes rfl ?_
              refine R_lt rfl rfl ?_
              refine G_yes rfl ?_
              refine R_mov rfl ?_
              refine G_split (g := 41) rfl (fun h17 => ?_) (fun h17 => ?_)
              · try rw [h17]
                try simp only [decide_eq_true_eq, decide_eq_false_iff_not, Bool.not_eq_eq_eq_not, Bool.not_true, Bool.not_false, dStrs_len] at h17
                refine G_no rfl ?_
                refine G_no rfl ?_
                refine G_yes rfl ?_
                refine R_pick rfl rfl ?_
                refine R_pick rfl rfl ?_
                refine R_mov rfl ?_
                refine G_yes rfl ?_
                refine R_mov rfl ?_
                refine G_yes rfl ?_
                refine R_neI rfl rfl ?_
                refine R_pick rfl rfl ?_
                refine hK _ _ (TW_keep (keep_cons rfl (keep_cons rfl (keep_cons rfl (keep_cons rfl (keep_cons rfl (keep_cons rfl (keep_nil))))))) ?_)
                clear hK K
                refine T_cond rfl (fun h18 => ?_) (fun h18 => ?_)
                · try rw [h18]
                  try simp only [decide_eq_true_eq, decide_eq_false_iff_not, Bool.not_eq_eq_eq_not, Bool.not_true, Bool.not_false, dStrs_len] at h18
                  refine R_seq fun K hK => ?_
                  refine R_mov rfl ?_
                  refine hK _ _ (TW_keep (keep_cons rfl (keep_nil)) ?_)
                  clear hK K
                  refine T_exit ?_
                  refine block_miss (by decide) ?_
                  refine round_exit ?_
                  refine block_miss (by decide) ?_
                  refine block_miss (by decide) ?_
                  refine seqT_exit ?_
                  refine round_exit ?_
                  refine block_hit ?_
                  refine seqT_keep (keep_cons rfl (keep_nil)) ?_
                  refine R_seq fun K hK => ?_
                  refine R_mov rfl ?_
                  refine R_mov rfl ?_
                  refine hK _ _ (TW_keep (keep_cons rfl (keep_nil)) ?_)
                  clear hK K
                  refine T_ret ?_
                  refine post_retB rfl ?_
                  first | exact (tags1_no (i := i) (by omega) (mTag_len (by first | (left; assumption) | (right; omega)))).symm | exact (tags1_no (i := i) (by omega) (mTag_all (all_no (i := j) (by omega) (by simp [isTag]; omega)))).symm | exact (tags1_yes (by omega) hI.2).symm
                · try rw [h18]
                  try simp only [decide_eq_true_eq, decide_eq_false_iff_not, Bool.not_eq_eq_eq_not, Bool.not_true, Bool.not_false, dStrs_len] at h18
                  refine T_skip ?_
                  refine block_normal ?_
                  refine round_normal (j + 1) ?_ ?_ ?_
                  · first | exact le_eq (l := [4, 14, 15, 16, 28]) (lH := [28]) (keep_cons rfl (keep_cons rfl (keep_cons rfl (keep_cons rfl (keep_cons rfl (keep_nil)))))) (keepH_cons rfl keepH_nil) rfl rfl rfl | (exfalso; omega)
                  · first | exact ⟨by omega, take_all (by omega) hJ.2 (by simp [isTag]; omega)⟩ | (exfalso; omega)
                  · first | omega | (simp only; omega) | (dsimp only; omega)
              · try rw [h17]
                try simp only [decide_eq_true_eq, decide_eq_false_iff_not, Bool.not_eq_eq_eq_not, Bool.not_true, Bool.not_false, dStrs_len] at h17
                refine G_yes rfl ?_
                refine R_mov rfl ?_
                refine G_yes rfl ?_
                refine R_gt rfl rfl ?_
                refine G_yes rfl ?_
                refine R_pick rfl rfl ?_
                refine R_pick rfl rfl ?_
                refine R_mov rfl ?_
                refine G_split (g := 46) rfl (fun h19 => ?_) (fun h19 => ?_)
                · try rw [h19]
                  try simp only [decide_eq_true_eq, decide_eq_false_iff_not, Bool.not_eq_eq_eq_not, Bool.not_true, Bool.not_false, dStrs_len] at h19
                  refine G_yes rfl ?_
                  refine R_mov rfl ?_
                  refine G_yes rfl ?_
                  refine R_neI rfl rfl ?_
                  refine R_pick rfl rfl ?_
                  refine hK _ _ (TW_keep (keep_cons rfl (keep_cons rfl (keep_cons rfl (keep_cons rfl (keep_cons rfl (keep_cons rfl (keep_nil))))))) ?_)
                  clear hK K
                  refine T_cond rfl (fun h20 => ?_) (fun h20 => ?_)
                  · try rw [h20]
                    try simp only [decide_eq_true_eq, decide_eq_false_iff_not, Bool.not_eq_eq_eq_not, Bool.not_true, Bool.not_false, dStrs_len] at h20
                    refine R_seq fun K hK => ?_
                    refine R_mov rfl ?_
                    refine hK _ _ (TW_keep (keep_cons rfl (keep_nil)) ?_)
                    clear hK K
                    refine T_exit ?_
                    refine block_miss (by decide) ?_
                    refine round_exit ?_
                    refine block_miss (by decide) ?_
                    refine block_miss (by decide) ?_
                    refine seqT_exit ?_
                    refine round_exit ?_
                    refine block_hit ?_
                    refine seqT_keep (keep_cons rfl (keep_nil)) ?_
                    refine R_seq fun K hK => ?_
                    refine R_mov rfl ?_
                    refine R_mov rfl ?_
                    refine hK _ _ (TW_keep (keep_cons rfl (keep_nil)) ?_)
                    clear hK K
                    refine T_ret ?_
                    refine post_retB rfl ?_
                    first | exact (tags1_no (i := i) (by omega) (mTag_len (by first | (left; assumption) | (right; omega)))).symm | exact (tags1_no (i := i) (by omega) (mTag_all (all_no (i := j) (by omega) (by simp [isTag]; omega)))).symm | exact (tags1_yes (by omega) hI.2).symm
                  · try rw [h20]
                    try simp only [decide_eq_true_eq, decide_eq_false_iff_not, Bool.not_eq_eq_eq_not, Bool.not_true, Bool.not_false, dStrs_len] at h20
                    refine T_skip ?_
                    refine block_normal ?_
                    refine round_normal (j + 1) ?_ ?_ ?_
                    · first | exact le_eq (l := [4, 14, 15, 16, 28]) (lH := [28]) (keep_cons rfl (keep_cons rfl (keep_cons rfl (keep_cons rfl (keep_cons rfl (keep_nil)))))) (keepH_cons rfl keepH_nil) rfl rfl rfl | (exfalso; omega)
                    · first | exact ⟨by omega, take_all (by omega) hJ.2 (by simp [isTag]; omega)⟩ | (exfalso; omega)
                    · first | omega | (simp only; omega) | (dsimp only; omega)
                · try rw [h19]
                  try simp only [decide_eq_true_eq, decide_eq_false_iff_not, Bool.not_eq_eq_eq_not, Bool.not_true, Bool.not_false, dStrs_len] at h19
                  refine G_no rfl ?_
                  refine G_no rfl ?_
                  refine R_pick rfl rfl ?_
                  refine hK _ _ (TW_keep (keep_cons rfl (keep_cons rfl (keep_cons rfl (keep_cons rfl (keep_cons rfl (keep_cons rfl (keep_nil))))))) ?_)
                  clear hK K
                  refine T_condF rfl ?_
                  refine T_skip ?_
                  refine block_normal ?_
                  refine round_normal (j + 1) ?_ ?_ ?_
                  · first | exact le_eq (l := [4, 14, 15, 16, 28]) (lH := [28]) (keep_cons rfl (keep_cons rfl (keep_cons rfl (keep_cons rfl (keep_cons rfl (keep_nil)))))) (keepH_cons rfl keepH_nil) rfl rfl rfl | (exfalso; omega)
                  · first | exact ⟨by omega, take_all (by omega) hJ.2 (by simp [isTag]; omega)⟩ | (exfalso; omega)
                  · first | omega | (simp only; omega) | (dsimp only; omega)
            · try rw [h16]
              try simp only [decide_eq_true_eq, decide_eq_false_iff_not, Bool.not_eq_eq_eq_not, Bool.not_true, Bool.not_false, dStrs_len] at h16
              refine G_yes rfl ?_
              refine R_mov rfl ?_
              refine G_yes rfl ?_
              refine R_gt rfl rfl ?_
              refine R_pick rfl rfl ?_
              refine R_mov rfl ?_
              refine G_split (g := 38) rfl (fun h21 => ?_) (fun h21 => ?_)
              · try rw [h21]
                try simp only [decide_eq_true_eq, decide_eq_false_iff_not, Bool.not_eq_eq_eq_not, Bool.not_true, Bool.not_false, dStrs_len] at h21
                refine G_yes rfl ?_
                refine R_mov rfl ?_
                refine G_yes rfl ?_
                refine R_lt rfl rfl ?_
                refine G_yes rfl ?_
                refine R_mov rfl ?_
                refine G_split (g := 41) rfl (fun h22 => ?_) (fun h22 => ?_)
                · try rw [h22]
                  try simp only [decide_eq_true_eq, decide_eq_false_iff_not, Bool.not_eq_eq_eq_not, Bool.not_true, Bool.not_false, dStrs_len] at h22
                  refine G_no rfl ?_
                  refine G_no rfl ?_
                  refine G_yes rfl ?_
                  refine R_pick rfl rfl ?_
                  refine R_pick rfl rfl ?_
                  refine R_mov rfl ?_
                  refine G_yes rfl ?_
                  refine R_mov rfl ?_
                  refine G_yes rfl ?_
                  refine R_neI rfl rfl ?_
                  refine R_pick rfl rfl ?_
                  refine hK _ _ (TW_keep (keep_cons rfl (keep_cons rfl (keep_cons rfl (keep_cons rfl (keep_cons rfl (keep_cons rfl (keep_nil))))))) ?_)
                  clear hK K
                  refine T_cond rfl (fun h23 => ?_) (fun h23 => ?_)
                  · try rw [h23]
                    try simp only [decide_eq_true_eq, decide_eq_false_iff_not, Bool.not_eq_eq_eq_not, Bool.not_true, Bool.not_false, dStrs_len] at h23
                    refine R_seq fun K hK => ?_
                    refine R_mov rfl ?_
                    refine hK _ _ (TW_keep (keep_cons rfl (keep_nil)) ?_)
                    clear hK K
                    refine T_exit ?_
                    refine block_miss (by decide) ?_
                    refine round_exit ?_
                    refine block_miss (by decide) ?_
                    refine block_miss (by decide) ?_
                    refine seqT_exit ?_
                    refine round_exit ?_
                    refine block_hit ?_
                    refine seqT_keep (keep_cons rfl (keep_nil)) ?_
                    refine R_seq fun K hK => ?_
                    refine R_mov rfl ?_
                    refine R_mov rfl ?_
                    refine hK _ _ (TW_keep (keep_cons rfl (keep_nil)) ?_)
                    clear hK K
                    refine T_ret ?_
                    refine post_retB rfl ?_
                    first | exact (tags1_no (i := i) (by omega) (mTag_len (by first | (left; assumption) | (right; omega)))).symm | exact (tags1_no (i := i) (by omega) (mTag_all (all_no (i := j) (by omega) (by simp [isTag]; omega)))).symm | exact (tags1_yes (by omega) hI.2).symm
                  · try rw [h23]
                    try simp only [decide_eq_true_eq, decide_eq_false_iff_not, Bool.not_eq_eq_eq_not, Bool.not_true, Bool.not_false, dStrs_len] at h23
                    refine T_skip ?_
                    refine block_normal ?_
                    refine round_normal (j + 1) ?_ ?_ ?_
                    · first | exact le_eq (l := [4, 14, 15, 16, 28]) (lH := [28]) (keep_cons rfl (keep_cons rfl (keep_cons rfl (keep_cons rfl (keep_cons rfl (keep_nil)))))) (keepH_cons rfl keepH_nil) rfl rfl rfl | (exfalso; omega)
                    · first | exact ⟨by omega, take_all (by omega) hJ.2 (by simp [isTag]; omega)⟩ | (exfalso; omega)
                    · first | omega | (simp only; omega) | (dsimp only; omega)
                · try rw [h22]
                  try simp only [decide_eq_true_eq, decide_eq_false_iff_not, Bool.not_eq_eq_eq_not, Bool.not_true, Bool.not_false, dStrs_len] at h22
                  refine G_yes rfl ?_
                  refine R_mov rfl ?_
                  refine G_yes rfl ?_
                  refine R_gt rfl rfl ?_
                  refine G_yes rfl ?_
                  refine R_pick rfl rfl ?_
                  refine R_pick rfl rfl ?_
                  refine R_mov rfl ?_
                  refine G_split (g := 46) rfl (fun h24 => ?_) (fun h24 => ?_)
                  · try rw [h24]
                    try simp only [decide_eq_true_eq, decide_eq_false_iff_not, Bool.not_eq_eq_eq_not, Bool.not_true, Bool.not_false, dStrs_len] at h24
                    refine G_yes rfl ?_
                    refine R_mov rfl ?_
                    refine G_yes rfl ?_
                    refine R_neI rfl rfl ?_
                    refine R_pick rfl rfl ?_
                    refine hK _ _ (TW_keep (keep_cons rfl (keep_cons rfl (keep_cons rfl (keep_cons rfl (keep_cons rfl (keep_cons rfl (keep_nil))))))) ?_)
                    clear hK K
                    refine T_cond rfl (fun h25 => ?_) (fun h25 => ?_)
                    · try rw [h25]
                      try simp only [decide_eq_true_eq, decide_eq_false_iff_not, Bool.not_eq_eq_eq_not, Bool.not_true, Bool.not_false, dStrs_len] at h25
                      refine R_seq fun K hK => ?_
                      refine R_mov rfl ?_
                      refine hK _ _ (TW_keep (keep_cons rfl (keep_nil)) ?_)
                      clear hK K
                      refine T_exit ?_
                      refine block_miss (by decide) ?_
                      refine round_exit ?_
                      refine block_miss (by decide) ?_
                      refine block_miss (by decide) ?_
                      refine seqT_exit ?_
                      refine round_exit ?_
                      refine block_hit ?_
                      refine seqT_keep (keep_cons rfl (keep_nil)) ?_
                      refine R_seq fun K hK => ?_
                      refine R_mov rfl ?_
                      refine R_mov rfl ?_
                      refine hK _ _ (TW_keep (keep_cons rfl (keep_nil)) ?_)
                      clear hK K
                      refine T_ret ?_
                      refine post_retB rfl ?_
                      first | exact (tags1_no (i := i) (by omega) (mTag_len (by first | (left; assumption) | (right; omega)))).symm | exact (tags1_no (i := i) (by omega) (mTag_all (all_no (i := j) (by omega) (by simp [isTag]; omega)))).symm | exact (tags1_yes (by omega) hI.2).symm
                    · try rw [h25]
                      try simp only [decide_eq_true_eq, decide_eq_false_iff_not, Bool.not_eq_eq_eq_not, Bool.not_true, Bool.not_false, dStrs_len] at h25
                      refine T_skip ?_
                      refine block_normal ?_
                      refine round_normal (j + 1) ?_ ?_ ?_
                      · first | exact le_eq (l := [4, 14, 15, 16, 28]) (lH := [28]) (keep_cons rfl (keep_cons rfl (keep_cons rfl (keep_cons rfl (keep_cons rfl (keep_nil)))))) (keepH_cons rfl keepH_nil) rfl rfl rfl | (exfalso; omega)
                      · first | exact ⟨by omega, take_all (by omega) hJ.2 (by simp [isTag]; omega)⟩ | (exfalso; omega)
                      · first | omega | (simp only; omega) | (dsimp only; omega)
                  · try rw [h24]
                    try simp only [decide_eq_true_eq, decide_eq_false_iff_not, Bool.not_eq_eq_eq_not, Bool.not_true, Bool.not_false, dStrs_len] at h24
                    refine G_no rfl ?_
                    refine G_no rfl ?_
                    refine R_pick rfl rfl ?_
                    refine hK _ _ (TW_keep (keep_cons rfl (keep_cons rfl (keep_cons rfl (keep_cons rfl (keep_cons rfl (keep_cons rfl (keep_nil))))))) ?_)
                    clear hK K
                    refine T_condF rfl ?_
                    refine T_skip ?_
                    refine block_normal ?_
                    refine round_normal (j + 1) ?_ ?_ ?_
                    · first | exact le_eq (l := [4, 14, 15, 16, 28]) (lH := [28]) (keep_cons rfl (keep_cons rfl (keep_cons rfl (keep_cons rfl (keep_cons rfl (keep_nil)))))) (keepH_cons rfl keepH_nil) rfl rfl rfl | (exfalso; omega)
                    · first | exact ⟨by omega, take_all (by omega) hJ.2 (by simp [isTag]; omega)⟩ | (exfalso; omega)
                    · first | omega | (simp only; omega) | (dsimp only; omega)
              · try rw [h21]
                try simp only [decide_eq_true_eq, decide_eq_false_iff_not, Bool.not_eq_eq_eq_not, Bool.not_true, Bool.not_false, dStrs_len] at h21
                refine G_no rfl ?_
                refine G_no rfl ?_
                refine G_no rfl ?_
                refine G_undef rfl ?_
                refine G_undef rfl ?_
                refine G_no rfl ?_
                refine R_pick rfl rfl ?_
                refine R_mov rfl ?_
                refine G_no rfl ?_
                refine G_no rfl ?_
                refine R_pick rfl rfl ?_
                refine hK _ _ (TW_keep (keep_cons rfl (keep_cons rfl (keep_cons rfl (keep_cons rfl (keep_cons rfl (keep_cons rfl (keep_nil))))))) ?_)
                clear hK K
                refine T_condF rfl ?_
                refine T_skip ?_
                refine block_normal ?_
                refine round_normal (j + 1) ?_ ?_ ?_
                · first | exact le_eq (l := [4, 14, 15, 16, 28]) (lH := [28]) (keep_cons rfl (keep_cons rfl (keep_cons rfl (keep_cons rfl (keep_cons rfl (keep_nil)))))) (keepH_cons rfl keepH_nil) rfl rfl rfl | (exfalso; omega)
                · first | exact ⟨by omega, take_all (by omega) hJ.2 (by simp [isTag]; omega)⟩ | (exfalso; omega)
                · first | omega | (simp only; omega) | (dsimp only; omega)
        · refine R_nextEnd rfl rfl (by omega) ?_
          refine R_extract rfl rfl ?_
          refine hK _ _ (TW_keep (keep_cons rfl (keep_cons rfl (keep_cons rfl (keep_cons rfl (keep_cons rfl (keep_cons rfl (keep_cons rfl (keep_nil)))))))) ?_)
          clear hK K
          refine T_seq ?_ -- 5
          refine T_condF rfl ?_
          refine T_exit ?_
          refine seqT_exit ?_
          refine round_exit ?_
          refine block_hit ?_
          refine block_normal ?_
          refine seqT_keep (keep_cons rfl (keep_cons rfl (keep_cons rfl (keep_cons rfl (keep_nil))))) ?_
          refine R_last fun K hK => ?_
          refine R_add rfl rfl (by first | exact wrap_i64 (by omega) (by omega) | exact wrap_i32 (by omega) (by omega) | exact wrap_u8 (by omega) (by omega) | rfl) ?_
          refine R_mov rfl ?_
          refine hK _ ?_
          clear hK K
          refine round_normal (i + 1) ?_ ?_ ?_
          · exact le_eq (l := [4, 14, 15, 16]) (keep_cons rfl (keep_cons rfl (keep_cons rfl (keep_cons rfl (keep_nil))))) keepH_nil rfl rfl rfl
          · exact ⟨by omega, take_all (by omega) hI.2 (mTag_of (by assumption) (by omega) (all_yes (by omega) hJ.2))⟩
          · first | omega | (simp only; omega) | (dsimp only; omega)
  · try rw [h1]
    try simp only [decide_eq_true_eq, decide_eq_false_iff_not, Bool.not_eq_eq_eq_not, Bool.not_true, Bool.not_false, dStrs_len] at h1
    refine T_exit ?_
    refine seqT_exit ?_
    refine round_exit ?_
    refine block_hit ?_
    refine seqT_keep (keep_cons rfl (keep_nil)) ?_
    refine R_seq fun K hK => ?_
    refine R_mov rfl ?_
    refine R_mov rfl ?_
    refine hK _ _ (TW_keep (keep_cons rfl (keep_nil)) ?_)
    clear hK K
    refine T_ret ?_
    refine post_retB rfl ?_
    first | exact (tags1_no (i := i) (by omega) (mTag_len (by first | (left; assumption) | (right; omega)))).symm | exact (tags1_no (i := i) (by omega) (mTag_all (all_no (i := j) (by omega) (by simp [isTag]; omega)))).symm | exact (tags1_yes (by omega) hI.2).symm

end Go.Proofs
