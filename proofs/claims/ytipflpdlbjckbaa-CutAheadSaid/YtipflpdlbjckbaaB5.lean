/- Part 5 of the means of the proof: a verified abstract evaluator, the prepared functions, and contracts of functions. It states nothing of the claim by itself. -/
import Derived.Test.YtipflpdlbjckbaaB4
set_option linter.unusedSimpArgs false
set_option linter.unusedVariables false
namespace Go.Proofs
open Go Go.Abs M3
set_option linter.unusedVariables false
set_option linter.unusedSimpArgs false

theorem c_version_tag {a b : List UInt8} (ha : a.length ≤ 1000000) (hb : b.length ≤ 1000000) : Ok Try.prog 33 [.str a, .str b] (.int .i64 (mOne a b)) := by
  refine Ok.ofT tfol Try.func33 tp33 (Nat.le_of_ble_eq_true rfl) ?_
  show TW _ _ tf33.body _ _
  refine R_seq fun K hK => ?_
  refine R_mov rfl ?_
  refine hK _ _ (TW_keep (keep_cons rfl (keep_cons rfl (keep_nil))) ?_)
  clear hK K
  refine R_seq fun K hK => ?_
  refine R_mov rfl ?_
  refine R_call (c_version_numeric (by omega)) rfl rfl (.inr rfl) ?_
  refine R_mov rfl ?_
  refine R_call (c_version_numeric (by omega)) rfl rfl (.inr rfl) ?_
  refine R_mov rfl ?_
  refine R_mov rfl ?_
  refine hK _ _ (TW_keep (keep_cons rfl (keep_cons rfl (keep_cons rfl (keep_cons rfl (keep_nil))))) ?_)
  clear hK K
  refine T_seq ?_ -- 0
  refine R_seq fun K hK => ?_
  refine R_mov rfl ?_
  refine R_mov rfl ?_
  refine G_split (g := 16) rfl (fun h1 => ?_) (fun h1 => ?_)
  · try rw [h1]
    try simp only [decide_eq_true_eq, decide_eq_false_iff_not, Bool.not_eq_eq_eq_not, Bool.not_true, Bool.not_false] at h1
    refine G_yes rfl ?_
    refine R_mov rfl ?_
    refine R_pick rfl rfl ?_
    refine hK _ _ (TW_keep (keep_cons rfl (keep_cons rfl (keep_cons rfl (keep_cons rfl (keep_cons rfl (keep_nil)))))) ?_)
    clear hK K
    refine T_cond rfl (fun h2 => ?_) (fun h2 => ?_)
    · try rw [h2]
      try simp only [decide_eq_true_eq, decide_eq_false_iff_not, Bool.not_eq_eq_eq_not, Bool.not_true, Bool.not_false] at h2
      refine R_seq fun K hK => ?_
      refine R_mov rfl ?_
      refine R_call (c_ident_Number (by omega)) rfl rfl (.inr rfl) ?_
      refine R_mov rfl ?_
      refine R_extract rfl rfl ?_
      refine R_extract rfl rfl ?_
      refine R_mov rfl ?_
      refine R_mov rfl ?_
      refine hK _ _ (TW_keep (keep_cons rfl (keep_cons rfl (keep_nil))) ?_)
      clear hK K
      refine R_seq fun K hK => ?_
      refine R_mov rfl ?_
      refine R_call (c_ident_Number (by omega)) rfl rfl (.inr rfl) ?_
      refine R_mov rfl ?_
      refine R_extract rfl rfl ?_
      refine R_extract rfl rfl ?_
      refine R_mov rfl ?_
      refine R_mov rfl ?_
      refine hK _ _ (TW_keep (keep_cons rfl (keep_cons rfl (keep_nil))) ?_)
      clear hK K
      refine R_seq fun K hK => ?_
      refine R_mov rfl ?_
      refine R_mov rfl ?_
      refine R_call (c_cmp_Compare_int) rfl rfl (.inr rfl) ?_
      refine R_mov rfl ?_
      refine hK _ _ (TW_keep (keep_cons rfl (keep_nil)) ?_)
      clear hK K
      refine T_ret ?_
      refine seqT_ret ?_
      refine post_retI rfl ?_
      first | (simp [mOne, h1, h2]; done) | (simp_all [mOne]; done)
    · try rw [h2]
      try simp only [decide_eq_true_eq, decide_eq_false_iff_not, Bool.not_eq_eq_eq_not, Bool.not_true, Bool.not_false] at h2
      refine T_skip ?_
      refine seqT_keep (keep_cons rfl (keep_cons rfl (keep_cons rfl (keep_cons rfl (keep_nil))))) ?_
      refine T_seq ?_ -- 1
      refine R_seq fun K hK => ?_
      refine R_mov rfl ?_
      refine R_mov rfl ?_
      refine R_neB rfl rfl ?_
      refine hK _ _ (TW_keep (keep_cons rfl (keep_cons rfl (keep_cons rfl (keep_cons rfl (keep_nil))))) ?_)
      clear hK K
      refine T_cond rfl (fun h3 => ?_) (fun h3 => ?_)
      · try rw [h3]
        try simp only [decide_eq_true_eq, decide_eq_false_iff_not, Bool.not_eq_eq_eq_not, Bool.not_true, Bool.not_false] at h3
        refine T_seq ?_ -- 2
        refine R_seq fun K hK => ?_
        refine R_mov rfl ?_
        refine hK _ _ (TW_keep (keep_cons rfl (keep_nil)) ?_)
        clear hK K
        refine T_condT rfl ?_
        refine R_seq fun K hK => ?_
        refine R_mov rfl ?_
        refine hK _ _ (TW_keep (keep_cons rfl (keep_nil)) ?_)
        clear hK K
        refine T_ret ?_
        refine seqT_ret ?_
        refine seqT_ret ?_
        refine post_retI rfl ?_
        first | (simp [mOne, h1, h2, h3]; done) | (simp_all [mOne]; done)
      · try rw [h3]
        try simp only [decide_eq_true_eq, decide_eq_false_iff_not, Bool.not_eq_eq_eq_not, Bool.not_true, Bool.not_false] at h3
        refine T_skip ?_
        refine seqT_keep (keep_cons rfl (keep_cons rfl (keep_nil))) ?_
        refine R_seq fun K hK => ?_
        refine R_mov rfl ?_
        refine R_mov rfl ?_
        refine R_call (c_cmp_Compare_string) rfl rfl (.inr rfl) ?_
        refine R_mov rfl ?_
        refine hK _ _ (TW_keep (keep_cons rfl (keep_nil)) ?_)
        clear hK K
        refine T_ret ?_
        refine post_retI rfl ?_
        first | (simp [mOne, h1, h2, h3]; done) | (simp_all [mOne]; done)
  · try rw [h1]
    try simp only [decide_eq_true_eq, decide_eq_false_iff_not, Bool.not_eq_eq_eq_not, Bool.not_true, Bool.not_false] at h1
    refine G_no rfl ?_
    refine R_pick rfl rfl ?_
    refine hK _ _ (TW_keep (keep_cons rfl (keep_cons rfl (keep_cons rfl (keep_cons rfl (keep_cons rfl (keep_nil)))))) ?_)
    clear hK K
    refine T_condF rfl ?_
    refine T_skip ?_
    refine seqT_keep (keep_cons rfl (keep_cons rfl (keep_cons rfl (keep_cons rfl (keep_nil))))) ?_
    refine T_seq ?_ -- 1
    refine R_seq fun K hK => ?_
    refine R_mov rfl ?_
    refine R_mov rfl ?_
    refine R_neB rfl rfl ?_
    refine hK _ _ (TW_keep (keep_cons rfl (keep_cons rfl (keep_cons rfl (keep_cons rfl (keep_nil))))) ?_)
    clear hK K
    refine T_cond rfl (fun h4 => ?_) (fun h4 => ?_)
    · try rw [h4]
      try simp only [decide_eq_true_eq, decide_eq_false_iff_not, Bool.not_eq_eq_eq_not, Bool.not_true, Bool.not_false] at h4
      refine T_seq ?_ -- 2
      refine R_seq fun K hK => ?_
      refine R_mov rfl ?_
      refine hK _ _ (TW_keep (keep_cons rfl (keep_nil)) ?_)
      clear hK K
      refine T_condF rfl ?_
      refine T_skip ?_
      refine seqT_keep (keep_nil) ?_
      refine R_seq fun K hK => ?_
      refine R_mov rfl ?_
      refine hK _ _ (TW_keep (keep_cons rfl (keep_nil)) ?_)
      clear hK K
      refine T_ret ?_
      refine seqT_ret ?_
      refine post_retI rfl ?_
      first | (simp [mOne, h1, h4]; done) | (simp_all [mOne]; done)
    · try rw [h4]
      try simp only [decide_eq_true_eq, decide_eq_false_iff_not, Bool.not_eq_eq_eq_not, Bool.not_true, Bool.not_false] at h4
      refine T_skip ?_
      refine seqT_keep (keep_cons rfl (keep_cons rfl (keep_nil))) ?_
      refine R_seq fun K hK => ?_
      refine R_mov rfl ?_
      refine R_mov rfl ?_
      refine R_call (c_cmp_Compare_string) rfl rfl (.inr rfl) ?_
      refine R_mov rfl ?_
      refine hK _ _ (TW_keep (keep_cons rfl (keep_nil)) ?_)
      clear hK K
      refine T_ret ?_
      refine post_retI rfl ?_
      first | (simp [mOne, h1, h4]; done) | (simp_all [mOne]; done)

theorem c_version_pre {s : List UInt8} (hl : s.length ≤ 1000000) : Ok Try.prog 35 [.str s] (.bool (mPre1 s)) := by
  refine Ok.ofT tfol Try.func35 tp35 (Nat.le_of_ble_eq_true rfl) ?_
  show TW _ _ tf35.body _ _
  refine R_seq fun K hK => ?_
  refine R_mov rfl ?_
  refine hK _ _ (TW_keep (keep_cons rfl (keep_nil)) ?_)
  clear hK K
  refine T_seq ?_ -- 0
  refine R_seq fun K hK => ?_
  refine R_mov rfl ?_
  refine R_call (c_version_tags (by omega)) rfl rfl (.inr rfl) ?_
  refine R_not rfl ?_
  refine hK _ _ (TW_keep (keep_cons rfl (keep_cons rfl (keep_nil))) ?_)
  clear hK K
  refine T_cond rfl (fun h1 => ?_) (fun h1 => ?_)
  · try rw [h1]
    try simp only [decide_eq_true_eq, decide_eq_false_iff_not, Bool.not_eq_eq_eq_not, Bool.not_true, Bool.not_false, dStrs_len] at h1
    refine R_seq fun K hK => ?_
    refine R_mov rfl ?_
    refine hK _ _ (TW_keep (keep_cons rfl (keep_nil)) ?_)
    clear hK K
    refine T_ret ?_
    refine seqT_ret ?_
    refine post_retB rfl ?_
    first | (simp [mPre1, h1]; done) | exact (pre1_no (i := i) (by omega) (by simp [preOk, h1])).symm | exact (pre1_yes (i := i) (by assumption) (by omega) hI.2).symm
  · try rw [h1]
    try simp only [decide_eq_true_eq, decide_eq_false_iff_not, Bool.not_eq_eq_eq_not, Bool.not_true, Bool.not_false, dStrs_len] at h1
    refine T_skip ?_
    refine seqT_keep (keep_cons rfl (keep_nil)) ?_
    refine T_seq ?_ -- 1
    refine R_seq fun K hK => ?_
    refine R_mov rfl ?_
    refine R_call (c_ident_Split (by omega)) rfl rfl (.inl rfl) ?_
    refine R_len rfl rfl ?_
    refine R_mov rfl ?_
    refine hK _ _ (TW_keep (keep_cons rfl (keep_cons rfl (keep_cons rfl (keep_nil)))) ?_)
    clear hK K
    refine T_block ?_
    refine T_loop (ι := Nat) (fun i => ⟨[(11, .sl (dStrs (mSplit s 46))), (12, .int .i64 (mSplit s 46).length), (13, .int .i64 i)], []⟩) (fun i => i ≤ (mSplit s 46).length ∧ ((mSplit s 46).take i).all preOk = true) (fun i => (mSplit s 46).length - i) 0 ?_ ?_ ?_
    · exact le_eq (l := [11, 12, 13]) (keep_cons rfl (keep_cons rfl (keep_cons rfl (keep_nil)))) keepH_nil (by simp [dStrs_len]) rfl rfl
    · exact ⟨Nat.zero_le _, rfl⟩
    intro i hI
    have sl := split_len (s := s) (c := 46)
    try dsimp only
    refine R_seq fun K hK => ?_
    refine R_lt rfl rfl ?_
    refine hK _ _ (TW_keep (keep_cons rfl (keep_cons rfl (keep_cons rfl (keep_cons rfl (keep_nil))))) ?_)
    clear hK K
    refine T_seq ?_ -- 2
    refine T_cond rfl (fun h2 => ?_) (fun h2 => ?_)
    · try rw [h2]
      try simp only [decide_eq_true_eq, decide_eq_false_iff_not, Bool.not_eq_eq_eq_not, Bool.not_true, Bool.not_false, dStrs_len] at h2
      refine T_skip ?_
      refine seqT_keep (keep_cons rfl (keep_cons rfl (keep_cons rfl (keep_nil)))) ?_
      refine T_seq ?_ -- 3
      refine T_block ?_
      refine R_seq fun K hK => ?_
      refine R_index rfl rfl rfl (by omega) (idx_strs (by omega)) rfl ?_
      refine R_load rfl rfl rfl ?_
      refine R_mov rfl ?_
      refine hK _ _ (TW_keep (keep_cons rfl (keep_cons rfl (keep_cons rfl (keep_cons rfl (keep_nil))))) ?_)
      clear hK K
      refine R_seq fun K hK => ?_
      refine R_mov rfl ?_
      refine R_call (c_ident_Number (split_at (by omega) hl)) rfl rfl (.inr rfl) ?_
      refine R_mov rfl ?_
      refine R_extract rfl rfl ?_
      refine R_extract rfl rfl ?_
      refine R_mov rfl ?_
      refine R_mov rfl ?_
      refine hK _ _ (TW_keep (keep_cons rfl (keep_cons rfl (keep_cons rfl (keep_cons rfl (keep_cons rfl (keep_nil)))))) ?_)
      clear hK K
      refine R_seq fun K hK => ?_
      refine R_mov rfl ?_
      refine R_call (c_version_numeric (split_at (by omega) hl)) rfl rfl (.inr rfl) ?_
      refine R_mov rfl ?_
      refine G_split (g := 24) rfl (fun h3 => ?_) (fun h3 => ?_)
      · try rw [h3]
        try simp only [decide_eq_true_eq, decide_eq_false_iff_not, Bool.not_eq_eq_eq_not, Bool.not_true, Bool.not_false, dStrs_len] at h3
        refine G_yes rfl ?_
        refine R_mov rfl ?_
        refine G_yes rfl ?_
        refine R_not rfl ?_
        refine R_pick rfl rfl ?_
        refine hK _ _ (TW_keep (keep_cons rfl (keep_cons rfl (keep_cons rfl (keep_cons rfl (keep_nil))))) ?_)
        clear hK K
        refine T_cond rfl (fun h4 => ?_) (fun h4 => ?_)
        · try rw [h4]
          try simp only [decide_eq_true_eq, decide_eq_false_iff_not, Bool.not_eq_eq_eq_not, Bool.not_true, Bool.not_false, dStrs_len] at h4
          refine R_seq fun K hK => ?_
          refine R_mov rfl ?_
          refine hK _ _ (TW_keep (keep_cons rfl (keep_nil)) ?_)
          clear hK K
          refine T_ret ?_
          refine block_ret ?_
          refine seqT_ret ?_
          refine round_ret ?_
          refine block_ret ?_
          refine seqT_ret ?_
          refine post_retB rfl ?_
          first | (simp [mPre1, h1, h2, h3, h4]; done) | exact (pre1_no (i := i) (by omega) (by simp [preOk, h1, h2, h3, h4])).symm | exact (pre1_yes (i := i) (by assumption) (by omega) hI.2).symm
        · try rw [h4]
          try simp only [decide_eq_true_eq, decide_eq_false_iff_not, Bool.not_eq_eq_eq_not, Bool.not_true, Bool.not_false, dStrs_len] at h4
          refine T_skip ?_
          refine block_normal ?_
          refine seqT_keep (keep_cons rfl (keep_cons rfl (keep_cons rfl (keep_nil)))) ?_
          refine R_last fun K hK => ?_
          refine R_add rfl rfl (by first | exact wrap_i64 (by omega) (by omega) | exact wrap_i32 (by omega) (by omega) | exact wrap_u8 (by omega) (by omega) | rfl) ?_
          refine R_mov rfl ?_
          refine hK _ ?_
          clear hK K
          refine round_normal (i + 1) ?_ ?_ ?_
          · exact le_keep' (keep_cons rfl (keep_cons rfl (keep_cons rfl (keep_nil))))
          · exact ⟨by omega, take_all (by omega) hI.2 (by simp [preOk, h1, h2, h3, h4])⟩
          · first | omega | (simp only; omega) | (dsimp only; omega)
      · try rw [h3]
        try simp only [decide_eq_true_eq, decide_eq_false_iff_not, Bool.not_eq_eq_eq_not, Bool.not_true, Bool.not_false, dStrs_len] at h3
        refine G_no rfl ?_
        refine G_no rfl ?_
        refine R_pick rfl rfl ?_
        refine hK _ _ (TW_keep (keep_cons rfl (keep_cons rfl (keep_cons rfl (keep_cons rfl (keep_nil))))) ?_)
        clear hK K
        refine T_condF rfl ?_
        refine T_skip ?_
        refine block_normal ?_
        refine seqT_keep (keep_cons rfl (keep_cons rfl (keep_cons rfl (keep_nil)))) ?_
        refine R_last fun K hK => ?_
        refine R_add rfl rfl (by first | exact wrap_i64 (by omega) (by omega) | exact wrap_i32 (by omega) (by omega) | exact wrap_u8 (by omega) (by omega) | rfl) ?_
        refine R_mov rfl ?_
        refine hK _ ?_
        clear hK K
        refine round_normal (i + 1) ?_ ?_ ?_
        · exact le_keep' (keep_cons rfl (keep_cons rfl (keep_cons rfl (keep_nil))))
        · exact ⟨by omega, take_all (by omega) hI.2 (by simp [preOk, h1, h2, h3])⟩
        · first | omega | (simp only; omega) | (dsimp only; omega)
    · try rw [h2]
      try simp only [decide_eq_true_eq, decide_eq_false_iff_not, Bool.not_eq_eq_eq_not, Bool.not_true, Bool.not_false, dStrs_len] at h2
      refine T_exit ?_
      refine seqT_exit ?_
      refine round_exit ?_
      refine block_hit ?_
      refine seqT_keep (keep_nil) ?_
      refine R_seq fun K hK => ?_
      refine R_mov rfl ?_
      refine hK _ _ (TW_keep (keep_cons rfl (keep_nil)) ?_)
      clear hK K
      refine T_ret ?_
      refine post_retB rfl ?_
      first | (simp [mPre1, h1, h2]; done) | exact (pre1_no (i := i) (by omega) (by simp [preOk, h1, h2])).symm | exact (pre1_yes (i := i) (by assumption) (by omega) hI.2).symm

theorem c_version_May {a b c : Int} {p q : List UInt8} (hp : p.length ≤ 1000000) (hq : q.length ≤ 1000000) : Ok Try.prog 25 [.agg [.int .i64 a, .int .i64 b, .int .i64 c, .str p, .str q]] (.bool (mMay a b c p q)) := by
  refine Ok.ofT tfol Try.func25 tp25 (Nat.le_of_ble_eq_true rfl) ?_
  show TW _ _ tf25.body _ _
  refine R_seq fun K hK => ?_
  refine R_box rfl rfl rfl ?_
  refine R_mov rfl ?_
  refine hK _ _ (TW_keep (keep_cons rfl (keep_nil)) ?_)
  clear hK K
  refine R_seq fun K hK => ?_
  refine R_fieldR rfl rfl ?_
  refine R_load rfl rfl rfl ?_
  refine R_call (c_version_fits) rfl rfl (.inr rfl) ?_
  refine R_mov rfl ?_
  refine G_split (g := 6) rfl (fun h1 => ?_) (fun h1 => ?_)
  · try rw [h1]
    try simp only [decide_eq_true_eq, decide_eq_false_iff_not, Bool.not_eq_eq_eq_not, Bool.not_true, Bool.not_false] at h1
    refine G_yes rfl ?_
    refine R_fieldR rfl rfl ?_
    refine G_yes rfl ?_
    refine R_load rfl rfl rfl ?_
    refine G_yes rfl ?_
    refine R_call (c_version_fits) rfl rfl (.inr rfl) ?_
    refine R_pick rfl rfl ?_
    refine R_mov rfl ?_
    refine G_split (g := 11) rfl (fun h2 => ?_) (fun h2 => ?_)
    · try rw [h2]
      try simp only [decide_eq_true_eq, decide_eq_false_iff_not, Bool.not_eq_eq_eq_not, Bool.not_true, Bool.not_false] at h2
      refine G_yes rfl ?_
      refine R_fieldR rfl rfl ?_
      refine G_yes rfl ?_
      refine R_load rfl rfl rfl ?_
      refine G_yes rfl ?_
      refine R_call (c_version_fits) rfl rfl (.inr rfl) ?_
      refine R_pick rfl rfl ?_
      refine R_mov rfl ?_
      refine G_split (g := 16) rfl (fun h3 => ?_) (fun h3 => ?_)
      · try rw [h3]
        try simp only [decide_eq_true_eq, decide_eq_false_iff_not, Bool.not_eq_eq_eq_not, Bool.not_true, Bool.not_false] at h3
        refine G_yes rfl ?_
        refine R_fieldR rfl rfl ?_
        refine G_yes rfl ?_
        refine R_load rfl rfl rfl ?_
        refine G_yes rfl ?_
        refine R_eqS rfl rfl ?_
        refine G_yes rfl ?_
        refine R_mov rfl ?_
        refine G_split (g := 20) rfl (fun h4 => ?_) (fun h4 => ?_)
        · try rw [h4]
          try simp only [decide_eq_true_eq, decide_eq_false_iff_not, Bool.not_eq_eq_eq_not, Bool.not_true, Bool.not_false] at h4
          refine G_no rfl ?_
          refine G_no rfl ?_
          refine G_no rfl ?_
          refine G_yes rfl ?_
          refine R_pick rfl rfl ?_
          refine R_pick rfl rfl ?_
          refine R_mov rfl ?_
          refine G_yes rfl ?_
          refine R_fieldR rfl rfl ?_
          refine G_yes rfl ?_
          refine R_load rfl rfl rfl ?_
          refine G_yes rfl ?_
          refine R_eqS rfl rfl ?_
          refine G_yes rfl ?_
          refine R_mov rfl ?_
          refine G_split (g := 30) rfl (fun h5 => ?_) (fun h5 => ?_)
          · try rw [h5]
            try simp only [decide_eq_true_eq, decide_eq_false_iff_not, Bool.not_eq_eq_eq_not, Bool.not_true, Bool.not_false] at h5
            refine G_no rfl ?_
            refine G_no rfl ?_
            refine G_no rfl ?_
            refine G_yes rfl ?_
            refine R_pick rfl rfl ?_
            refine R_pick rfl rfl ?_
            refine R_mov rfl ?_
            refine hK _ _ (TW_keep (keep_cons rfl (keep_nil)) ?_)
            clear hK K
            refine T_ret ?_
            refine post_retB rfl ?_
            simp [mMay, mTags_false, mTags_true, h1, h2, h3, h4, h5]
          · try rw [h5]
            try simp only [decide_eq_true_eq, decide_eq_false_iff_not, Bool.not_eq_eq_eq_not, Bool.not_true, Bool.not_false] at h5
            refine G_yes rfl ?_
            refine R_fieldR rfl rfl ?_
            refine G_yes rfl ?_
            refine R_load rfl rfl rfl ?_
            refine G_yes rfl ?_
            refine R_call (c_version_tags (by omega)) rfl rfl (.inr rfl) ?_
            refine G_yes rfl ?_
            refine R_pick rfl rfl ?_
            refine R_pick rfl rfl ?_
            refine R_mov rfl ?_
            refine hK _ _ (TW_keep (keep_cons rfl (keep_nil)) ?_)
            clear hK K
            refine T_ret ?_
            refine post_retB rfl ?_
            simp [mMay, mTags_false, mTags_true, h1, h2, h3, h4, h5]
        · try rw [h4]
          try simp only [decide_eq_true_eq, decide_eq_false_iff_not, Bool.not_eq_eq_eq_not, Bool.not_true, Bool.not_false] at h4
          refine G_yes rfl ?_
          refine R_fieldR rfl rfl ?_
          refine G_yes rfl ?_
          refine R_load rfl rfl rfl ?_
          refine G_yes rfl ?_
          refine R_call (c_version_pre (by omega)) rfl rfl (.inr rfl) ?_
          refine G_yes rfl ?_
          refine R_pick rfl rfl ?_
          refine R_pick rfl rfl ?_
          refine R_mov rfl ?_
          refine G_split (g := 26) rfl (fun h6 => ?_) (fun h6 => ?_)
          · try rw [h6]
            try simp only [decide_eq_true_eq, decide_eq_false_iff_not, Bool.not_eq_eq_eq_not, Bool.not_true, Bool.not_false] at h6
            refine G_yes rfl ?_
            refine R_fieldR rfl rfl ?_
            refine G_yes rfl ?_
            refine R_load rfl rfl rfl ?_
            refine G_yes rfl ?_
            refine R_eqS rfl rfl ?_
            refine G_yes rfl ?_
            refine R_mov rfl ?_
            refine G_split (g := 30) rfl (fun h7 => ?_) (fun h7 => ?_)
            · try rw [h7]
              try simp only [decide_eq_true_eq, decide_eq_false_iff_not, Bool.not_eq_eq_eq_not, Bool.not_true, Bool.not_false] at h7
              refine G_no rfl ?_
              refine G_no rfl ?_
              refine G_no rfl ?_
              refine G_yes rfl ?_
              refine R_pick rfl rfl ?_
              refine R_pick rfl rfl ?_
              refine R_mov rfl ?_
              refine hK _ _ (TW_keep (keep_cons rfl (keep_nil)) ?_)
              clear hK K
              refine T_ret ?_
              refine post_retB rfl ?_
              simp [mMay, mTags_false, mTags_true, h1, h2, h3, h4, h6, h7]
            · try rw [h7]
              try simp only [decide_eq_true_eq, decide_eq_false_iff_not, Bool.not_eq_eq_eq_not, Bool.not_true, Bool.not_false] at h7
              refine G_yes rfl ?_
              refine R_fieldR rfl rfl ?_
              refine G_yes rfl ?_
              refine R_load rfl rfl rfl ?_
              refine G_yes rfl ?_
              refine R_call (c_version_tags (by omega)) rfl rfl (.inr rfl) ?_
              refine G_yes rfl ?_
              refine R_pick rfl rfl ?_
              refine R_pick rfl rfl ?_
              refine R_mov rfl ?_
              refine hK _ _ (TW_keep (keep_cons rfl (keep_nil)) ?_)
              clear hK K
              refine T_ret ?_
              refine post_retB rfl ?_
              simp [mMay, mTags_false, mTags_true, h1, h2, h3, h4, h6, h7]
          · try rw [h6]
            try simp only [decide_eq_true_eq, decide_eq_false_iff_not, Bool.not_eq_eq_eq_not, Bool.not_true, Bool.not_false] at h6
            refine G_no rfl ?_
            refine G_no rfl ?_
            refine G_no rfl ?_
            refine G_no rfl ?_
            refine G_undef rfl ?_
            refine G_undef rfl ?_
            refine G_undef rfl ?_
            refine G_no rfl ?_
            refine R_pick rfl rfl ?_
            refine R_mov rfl ?_
            refine hK _ _ (TW_keep (keep_cons rfl (keep_nil)) ?_)
            clear hK K
            refine T_ret ?_
            refine post_retB rfl ?_
            simp [mMay, mTags_false, mTags_true, h1, h2, h3, h4, h6]
      · try rw [h3]
        try simp only [decide_eq_true_eq, decide_eq_false_iff_not, Bool.not_eq_eq_eq_not, Bool.not_true, Bool.not_false] at h3
        refine G_no rfl ?_
        refine G_no rfl ?_
        refine G_no rfl ?_
        refine G_no rfl ?_
        refine G_undef rfl ?_
        refine G_undef rfl ?_
        refine G_undef rfl ?_
        refine G_no rfl ?_
        refine R_pick rfl rfl ?_
        refine R_mov rfl ?_
        refine G_no rfl ?_
        refine G_no rfl ?_
        refine G_no rfl ?_
        refine G_no rfl ?_
        refine G_undef rfl ?_
        refine G_undef rfl ?_
        refine G_undef rfl ?_
        refine G_no rfl ?_
        refine R_pick rfl rfl ?_
        refine R_mov rfl ?_
        refine hK _ _ (TW_keep (keep_cons rfl (keep_nil)) ?_)
        clear hK K
        refine T_ret ?_
        refine post_retB rfl ?_
        simp [mMay, mTags_false, mTags_true, h1, h2, h3]
    · try rw [h2]
      try simp only [decide_eq_true_eq, decide_eq_false_iff_not, Bool.not_eq_eq_eq_not, Bool.not_true, Bool.not_false] at h2
      refine G_no rfl ?_
      refine G_no rfl ?_
      refine G_no rfl ?_
      refine R_pick rfl rfl ?_
      refine R_mov rfl ?_
      refine G_no rfl ?_
      refine G_no rfl ?_
      refine G_no rfl ?_
      refine G_no rfl ?_
      refine G_undef rfl ?_
      refine G_undef rfl ?_
      refine G_undef rfl ?_
      refine G_no rfl ?_
      refine R_pick rfl rfl ?_
      refine R_mov rfl ?_
      refine G_no rfl ?_
      refine G_no rfl ?_
      refine G_no rfl ?_
      refine G_no rfl ?_
      refine G_undef rfl ?_
      refine G_undef rfl ?_
      refine G_undef rfl ?_
      refine G_no rfl ?_
      refine R_pick rfl rfl ?_
      refine R_mov rfl ?_
      refine hK _ _ (TW_keep (keep_cons rfl (keep_nil)) ?_)
      clear hK K
      refine T_ret ?_
      refine post_retB rfl ?_
      simp [mMay, mTags_false, mTags_true, h1, h2]
  · try rw [h1]
    try simp only [decide_eq_true_eq, decide_eq_false_iff_not, Bool.not_eq_eq_eq_not, Bool.not_true, Bool.not_false] at h1
    refine G_no rfl ?_
    refine G_no rfl ?_
    refine G_no rfl ?_
    refine R_pick rfl rfl ?_
    refine R_mov rfl ?_
    refine G_no rfl ?_
    refine G_no rfl ?_
    refine G_no rfl ?_
    refine R_pick rfl rfl ?_
    refine R_mov rfl ?_
    refine G_no rfl ?_
    refine G_no rfl ?_
    refine G_no rfl ?_
    refine G_no rfl ?_
    refine G_undef rfl ?_
    refine G_undef rfl ?_
    refine G_undef rfl ?_
    refine G_no rfl ?_
    refine R_pick rfl rfl ?_
    refine R_mov rfl ?_
    refine G_no rfl ?_
    refine G_no rfl ?_
    refine G_no rfl ?_
    refine G_no rfl ?_
    refine G_undef rfl ?_
    refine G_undef rfl ?_
    refine G_undef rfl ?_
    refine G_no rfl ?_
    refine R_pick rfl rfl ?_
    refine R_mov rfl ?_
    refine hK _ _ (TW_keep (keep_cons rfl (keep_nil)) ?_)
    clear hK K
    refine T_ret ?_
    refine post_retB rfl ?_
    simp [mMay, mTags_false, mTags_true, h1]

theorem c_version_Compare {a b c : Int} {p q : List UInt8} (hp : p.length ≤ 1000000) (hq : q.length ≤ 1000000) {a' b' c' : Int} {p' q' : List UInt8} (hp' : p'.length ≤ 1000000) (hq' : q'.length ≤ 1000000) : Ok Try.prog 24 [.agg [.int .i64 a, .int .i64 b, .int .i64 c, .str p, .str q], .agg [.int .i64 a', .int .i64 b', .int .i64 c', .str p', .str q']] (.int .i64 (mCmp a b c p q a' b' c' p' q')) := by
  refine Ok.ofT tfol Try.func24 tp24 (Nat.le_of_ble_eq_true rfl) ?_
  show TW _ _ tf24.body _ _
  refine R_seq fun K hK => ?_
  refine R_box rfl rfl rfl ?_
  refine R_box rfl rfl rfl ?_
  refine R_mov rfl ?_
  refine hK _ _ (TW_keep (keep_cons rfl (keep_cons rfl (keep_nil))) ?_)
  clear hK K
  refine T_seq ?_ -- 0
  refine R_seq fun K hK => ?_
  refine R_loadAD (cs := [_, _, _, _, _]) rfl rfl rfl rfl rfl ?_
  refine R_callD (c_version_May (by omega) (by omega)) rfl rfl (.inr rfl) rfl ?_
  refine R_not rfl ?_
  refine R_mov rfl ?_
  refine G_split (g := 13) rfl (fun h1 => ?_) (fun h1 => ?_)
  · try rw [h1]
    try simp only [decide_eq_true_eq, decide_eq_false_iff_not, Bool.not_eq_eq_eq_not, Bool.not_true, Bool.not_false, dStrs_len] at h1
    refine G_no rfl ?_
    refine G_no rfl ?_
    refine G_no rfl ?_
    refine R_pick rfl rfl ?_
    refine R_mov rfl ?_
    refine G_no rfl ?_
    refine G_no rfl ?_
    refine G_no rfl ?_
    refine G_no rfl ?_
    refine G_no rfl ?_
    refine R_pick rfl rfl ?_
    refine hK _ _ (TW_keep (keep_cons rfl (keep_cons rfl (keep_cons rfl (keep_nil)))) ?_)
    clear hK K
    refine T_condT rfl ?_
    refine R_seq fun K hK => ?_
    refine R_mov rfl ?_
    refine hK _ _ (TW_keep (keep_cons rfl (keep_nil)) ?_)
    clear hK K
    refine T_ret ?_
    refine seqT_ret ?_
    refine post_retI rfl ?_
    first | (simp [mCmp, h1]; done) | (exact (cmp_eq (by assumption) (by assumption) (by assumption)).symm) | (exact cmp_num (by assumption) (by assumption) (by assumption)) | (exact (cmp_pre1 (by assumption) (by assumption) (by assumption) (by assumption) (by assumption)).symm) | (exact (cmp_pre2 (by assumption) (by assumption) (by assumption) (by assumption) (by assumption)).symm) | (rw [hI.2.2, mRow_hit (by omega) (by omega) (by assumption)]) | (rw [hI.2.2, mRow_end (by omega) (by omega) (by omega)]; simp [dStrs_len])
  · try rw [h1]
    try simp only [decide_eq_true_eq, decide_eq_false_iff_not, Bool.not_eq_eq_eq_not, Bool.not_true, Bool.not_false, dStrs_len] at h1
    refine G_yes rfl ?_
    refine R_loadAD (cs := [_, _, _, _, _]) rfl rfl rfl rfl rfl ?_
    refine G_yes rfl ?_
    refine R_callD (c_version_May (by omega) (by omega)) rfl rfl (.inr rfl) rfl ?_
    refine G_yes rfl ?_
    refine R_not rfl ?_
    refine R_pick rfl rfl ?_
    refine R_mov rfl ?_
    refine G_split (g := 18) rfl (fun h2 => ?_) (fun h2 => ?_)
    · try rw [h2]
      try simp only [decide_eq_true_eq, decide_eq_false_iff_not, Bool.not_eq_eq_eq_not, Bool.not_true, Bool.not_false, dStrs_len] at h2
      refine G_no rfl ?_
      refine G_no rfl ?_
      refine G_no rfl ?_
      refine G_no rfl ?_
      refine G_no rfl ?_
      refine R_pick rfl rfl ?_
      refine hK _ _ (TW_keep (keep_cons rfl (keep_cons rfl (keep_cons rfl (keep_nil)))) ?_)
      clear hK K
      refine T_condT rfl ?_
      refine R_seq fun K hK => ?_
      refine R_mov rfl ?_
      refine hK _ _ (TW_keep (keep_cons rfl (keep_nil)) ?_)
      clear hK K
      refine T_ret ?_
      refine seqT_ret ?_
      refine post_retI rfl ?_
      first | (simp [mCmp, h1, h2]; done) | (exact (cmp_eq (by assumption) (by assumption) (by assumption)).symm) | (exact cmp_num (by assumption) (by assumption) (by assumption)) | (exact (cmp_pre1 (by assumption) (by assumption) (by assumption) (by assumption) (by assumption)).symm) | (exact (cmp_pre2 (by assumption) (by assumption) (by assumption) (by assumption) (by assumption)).symm) | (rw [hI.2.2, mRow_hit (by omega) (by omega) (by assumption)]) | (rw [hI.2.2, mRow_end (by omega) (by omega) (by omega)]; simp [dStrs_len])
    · try rw [h2]
      try simp only [decide_eq_true_eq, decide_eq_false_iff_not, Bool.not_eq_eq_eq_not, Bool.not_true, Bool.not_false, dStrs_len] at h2
      refine G_yes rfl ?_
      refine R_loadAD (cs := [_, _, _, _, _]) rfl rfl rfl rfl rfl ?_
      refine G_yes rfl ?_
      refine R_callD (c_version_Core) rfl rfl (.inl rfl) rfl ?_
      refine G_yes rfl ?_
      refine R_loadAD (cs := [_, _, _, _, _]) rfl rfl rfl rfl rfl ?_
      refine G_yes rfl ?_
      refine R_callD (c_version_Core) rfl rfl (.inl rfl) rfl ?_
      refine G_yes rfl ?_
      refine R_eqsE rfl rfl rfl ?_
      refine R_pick rfl rfl ?_
      refine hK _ _ (TW_keep (keep_cons rfl (keep_cons rfl (keep_cons rfl (keep_nil)))) ?_)
      clear hK K
      refine T_cond rfl (fun h3 => ?_) (fun h3 => ?_)
      · try rw [h3]
        try simp only [decide_eq_true_eq, decide_eq_false_iff_not, Bool.not_eq_eq_eq_not, Bool.not_true, Bool.not_false, dStrs_len] at h3
        refine R_seq fun K hK => ?_
        refine R_mov rfl ?_
        refine hK _ _ (TW_keep (keep_cons rfl (keep_nil)) ?_)
        clear hK K
        refine T_ret ?_
        refine seqT_ret ?_
        refine post_retI rfl ?_
        first | (simp [mCmp, h1, h2, h3]; done) | (exact (cmp_eq (by assumption) (by assumption) (by assumption)).symm) | (exact cmp_num (by assumption) (by assumption) (by assumption)) | (exact (cmp_pre1 (by assumption) (by assumption) (by assumption) (by assumption) (by assumption)).symm) | (exact (cmp_pre2 (by assumption) (by assumption) (by assumption) (by assumption) (by assumption)).symm) | (rw [hI.2.2, mRow_hit (by omega) (by omega) (by assumption)]) | (rw [hI.2.2, mRow_end (by omega) (by omega) (by omega)]; simp [dStrs_len])
      · try rw [h3]
        try simp only [decide_eq_true_eq, decide_eq_false_iff_not, Bool.not_eq_eq_eq_not, Bool.not_true, Bool.not_false, dStrs_len] at h3
        refine T_skip ?_
        refine seqT_keep (keep_cons rfl (keep_cons rfl (keep_nil))) ?_
        refine T_seq ?_ -- 1
        refine R_seq fun K hK => ?_
        refine R_fieldR rfl rfl ?_
        refine R_loadD rfl rfl rfl rfl ?_
        refine R_fieldR rfl rfl ?_
        refine R_loadD rfl rfl rfl rfl ?_
        refine R_callD (c_cmp_Compare_int) rfl rfl (.inr rfl) rfl ?_
        refine R_fieldR rfl rfl ?_
        refine R_loadD rfl rfl rfl rfl ?_
        refine R_fieldR rfl rfl ?_
        refine R_loadD rfl rfl rfl rfl ?_
        refine R_callD (c_cmp_Compare_int) rfl rfl (.inr rfl) rfl ?_
        refine R_fieldR rfl rfl ?_
        refine R_loadD rfl rfl rfl rfl ?_
        refine R_fieldR rfl rfl ?_
        refine R_loadD rfl rfl rfl rfl ?_
        refine R_callD (c_cmp_Compare_int) rfl rfl (.inr rfl) rfl ?_
        refine R_buildSlice rfl rfl ?_
        refine R_callD (c_cmp_Or_int (l := [mInts a a', mInts b b', mInts c c']) (by simp)) rfl rfl (.inr rfl) rfl ?_
        refine R_mov rfl ?_
        refine hK _ _ (TW_keep (keep_cons rfl (keep_cons rfl (keep_cons rfl (keep_nil)))) ?_)
        clear hK K
        refine R_seq fun K hK => ?_
        refine R_mov rfl ?_
        refine R_neI rfl rfl ?_
        refine hK _ _ (TW_keep (keep_cons rfl (keep_cons rfl (keep_cons rfl (keep_cons rfl (keep_nil))))) ?_)
        clear hK K
        refine T_cond rfl (fun h4 => ?_) (fun h4 => ?_)
        · try rw [h4]
          try simp only [decide_eq_true_eq, decide_eq_false_iff_not, Bool.not_eq_eq_eq_not, Bool.not_true, Bool.not_false, dStrs_len] at h4
          refine R_seq fun K hK => ?_
          refine R_mov rfl ?_
          refine R_mov rfl ?_
          refine hK _ _ (TW_keep (keep_cons rfl (keep_nil)) ?_)
          clear hK K
          refine T_ret ?_
          refine seqT_ret ?_
          refine post_retI rfl ?_
          first | (simp [mCmp, h1, h2, h3, h4]; done) | (exact (cmp_eq (by assumption) (by assumption) (by assumption)).symm) | (exact cmp_num (by assumption) (by assumption) (by assumption)) | (exact (cmp_pre1 (by assumption) (by assumption) (by assumption) (by assumption) (by assumption)).symm) | (exact (cmp_pre2 (by assumption) (by assumption) (by assumption) (by assumption) (by assumption)).symm) | (rw [hI.2.2, mRow_hit (by omega) (by omega) (by assumption)]) | (rw [hI.2.2, mRow_end (by omega) (by omega) (by omega)]; simp [dStrs_len])
        · try rw [h4]
          try simp only [decide_eq_true_eq, decide_eq_false_iff_not, Bool.not_eq_eq_eq_not, Bool.not_true, Bool.not_false, dStrs_len] at h4
          refine T_skip ?_
          refine seqT_keep (keep_cons rfl (keep_cons rfl (keep_nil))) ?_
          refine T_seq ?_ -- 2
          refine R_seq fun K hK => ?_
          refine R_fieldR rfl rfl ?_
          refine R_load rfl rfl rfl ?_
          refine R_eqS rfl rfl ?_
          refine hK _ _ (TW_keep (keep_cons rfl (keep_cons rfl (keep_cons rfl (keep_nil)))) ?_)
          clear hK K
          refine T_cond rfl (fun h5 => ?_) (fun h5 => ?_)
          · try rw [h5]
            try simp only [decide_eq_true_eq, decide_eq_false_iff_not, Bool.not_eq_eq_eq_not, Bool.not_true, Bool.not_false, dStrs_len] at h5
            refine R_seq fun K hK => ?_
            refine R_mov rfl ?_
            refine hK _ _ (TW_keep (keep_cons rfl (keep_nil)) ?_)
            clear hK K
            refine T_ret ?_
            refine seqT_ret ?_
            refine post_retI rfl ?_
            first | (simp [mCmp, h1, h2, h3, h4, h5]; done) | (exact (cmp_eq (by assumption) (by assumption) (by assumption)).symm) | (exact cmp_num (by assumption) (by assumption) (by assumption)) | (exact (cmp_pre1 (by assumption) (by assumption) (by assumption) (by assumption) (by assumption)).symm) | (exact (cmp_pre2 (by assumption) (by assumption) (by assumption) (by assumption) (by assumption)).symm) | (rw [hI.2.2, mRow_hit (by omega) (by omega) (by assumption)]) | (rw [hI.2.2, mRow_end (by omega) (by omega) (by omega)]; simp [dStrs_len])
          · try rw [h5]
            try simp only [decide_eq_true_eq, decide_eq_false_iff_not, Bool.not_eq_eq_eq_not, Bool.not_true, Bool.not_false, dStrs_len] at h5
            refine T_skip ?_
            refine seqT_keep (keep_cons rfl (keep_cons rfl (keep_nil))) ?_
            refine T_seq ?_ -- 3
            refine R_seq fun K hK => ?_
            refine R_fieldR rfl rfl ?_
            refine R_load rfl rfl rfl ?_
            refine R_eqS rfl rfl ?_
            refine hK _ _ (TW_keep (keep_cons rfl (keep_cons rfl (keep_cons rfl (keep_nil)))) ?_)
            clear hK K
            refine T_cond rfl (fun h6 => ?_) (fun h6 => ?_)
            · try rw [h6]
              try simp only [decide_eq_true_eq, decide_eq_false_iff_not, Bool.not_eq_eq_eq_not, Bool.not_true, Bool.not_false, dStrs_len] at h6
              refine R_seq fun K hK => ?_
              refine R_mov rfl ?_
              refine hK _ _ (TW_keep (keep_cons rfl (keep_nil)) ?_)
              clear hK K
              refine T_ret ?_
              refine seqT_ret ?_
              refine post_retI rfl ?_
              first | (simp [mCmp, h1, h2, h3, h4, h5, h6]; done) | (exact (cmp_eq (by assumption) (by assumption) (by assumption)).symm) | (exact cmp_num (by assumption) (by assumption) (by assumption)) | (exact (cmp_pre1 (by assumption) (by assumption) (by assumption) (by assumption) (by assumption)).symm) | (exact (cmp_pre2 (by assumption) (by assumption) (by assumption) (by assumption) (by assumption)).symm) | (rw [hI.2.2, mRow_hit (by omega) (by omega) (by assumption)]) | (rw [hI.2.2, mRow_end (by omega) (by omega) (by omega)]; simp [dStrs_len])
            · try rw [h6]
              try simp only [decide_eq_true_eq, decide_eq_false_iff_not, Bool.not_eq_eq_eq_not, Bool.not_true, Bool.not_false, dStrs_len] at h6
              refine T_skip ?_
              refine seqT_keep (keep_cons rfl (keep_cons rfl (keep_nil))) ?_
              refine R_seq fun K hK => ?_
              refine R_fieldR rfl rfl ?_
              refine R_loadD rfl rfl rfl rfl ?_
              refine R_callD (c_ident_Split (by omega)) rfl rfl (.inl rfl) rfl ?_
              refine R_fieldR rfl rfl ?_
              refine R_loadD rfl rfl rfl rfl ?_
              refine R_callD (c_ident_Split (by omega)) rfl rfl (.inl rfl) rfl ?_
              refine R_mov rfl ?_
              refine R_mov rfl ?_
              refine hK _ _ (TW_keep (keep_cons rfl (keep_cons rfl (keep_nil))) ?_)
              clear hK K
              refine T_seq ?_ -- 4
              refine R_seq fun K hK => ?_
              refine R_mov rfl ?_
              refine hK _ _ (TW_keep (keep_cons rfl (keep_cons rfl (keep_cons rfl (keep_nil)))) ?_)
              clear hK K
              refine T_block ?_
              refine T_loop (ι := Nat) (fun i => ⟨[(6, .sl (dStrs (mSplit p 46))), (7, .sl (dStrs (mSplit p' 46))), (8, .int .i64 i)], []⟩) (fun i => i ≤ (mSplit p 46).length ∧ i ≤ (mSplit p' 46).length ∧ mCmp a b c p q a' b' c' p' q' = mRow ((mSplit p 46).drop i) ((mSplit p' 46).drop i)) (fun i => (mSplit p 46).length - i) 0 ?_ ?_ ?_
              · exact le_eq (l := [6, 7, 8]) (keep_cons rfl (keep_cons rfl (keep_cons rfl (keep_nil)))) keepH_nil rfl rfl rfl
              · exact ⟨Nat.zero_le _, Nat.zero_le _, cmp_row (by assumption) (by assumption) (by assumption) (by assumption) (by assumption) (by assumption)⟩
              intro i hI
              have sl := split_len (s := p) (c := 46)
              try dsimp only
              refine T_seq ?_ -- 5
              refine R_seq fun K hK => ?_
              refine R_mov rfl ?_
              refine R_mov rfl ?_
              refine R_len rfl rfl ?_
              refine R_lt rfl rfl ?_
              refine R_mov rfl ?_
              refine G_split (g := 61) rfl (fun h7 => ?_) (fun h7 => ?_)
              · try rw [h7]
                try simp only [decide_eq_true_eq, decide_eq_false_iff_not, Bool.not_eq_eq_eq_not, Bool.not_true, Bool.not_false, dStrs_len] at h7
                refine G_yes rfl ?_
                refine R_mov rfl ?_
                refine G_yes rfl ?_
                refine R_mov rfl ?_
                refine G_yes rfl ?_
                refine R_len rfl rfl ?_
                refine G_yes rfl ?_
                refine R_lt rfl rfl ?_
                refine R_pick rfl rfl ?_
                refine hK _ _ (TW_keep (keep_cons rfl (keep_cons rfl (keep_cons rfl (keep_cons rfl (keep_nil))))) ?_)
                clear hK K
                refine T_cond rfl (fun h8 => ?_) (fun h8 => ?_)
                · try rw [h8]
                  try simp only [decide_eq_true_eq, decide_eq_false_iff_not, Bool.not_eq_eq_eq_not, Bool.not_true, Bool.not_false, dStrs_len] at h8
                  refine T_skip ?_
                  refine seqT_keep (keep_cons rfl (keep_cons rfl (keep_cons rfl (keep_nil)))) ?_
                  refine T_seq ?_ -- 6
                  refine T_block ?_
                  refine R_seq fun K hK => ?_
                  refine R_mov rfl ?_
                  refine R_mov rfl ?_
                  refine R_index rfl rfl rfl (by omega) (idx_strs (by omega)) rfl ?_
                  refine R_loadD rfl rfl rfl rfl ?_
                  refine R_mov rfl ?_
                  refine R_mov rfl ?_
                  refine R_index rfl rfl rfl (by omega) (idx_strs (by omega)) rfl ?_
                  refine R_loadD rfl rfl rfl rfl ?_
                  refine R_callD (c_version_tag (split_at (by omega) hp) (split_at (by omega) hp')) rfl rfl (.inr rfl) rfl ?_
                  refine R_mov rfl ?_
                  refine hK _ _ (TW_keep (keep_cons rfl (keep_cons rfl (keep_cons rfl (keep_cons rfl (keep_nil))))) ?_)
                  clear hK K
                  refine R_seq fun K hK => ?_
                  refine R_mov rfl ?_
                  refine R_neI rfl rfl ?_
                  refine hK _ _ (TW_keep (keep_cons rfl (keep_cons rfl (keep_cons rfl (keep_cons rfl (keep_cons rfl (keep_nil)))))) ?_)
                  clear hK K
                  refine T_cond rfl (fun h9 => ?_) (fun h9 => ?_)
                  · try rw [h9]
                    try simp only [decide_eq_true_eq, decide_eq_false_iff_not, Bool.not_eq_eq_eq_not, Bool.not_true, Bool.not_false, dStrs_len] at h9
                    refine R_seq fun K hK => ?_
                    refine R_mov rfl ?_
                    refine R_mov rfl ?_
                    refine hK _ _ (TW_keep (keep_cons rfl (keep_nil)) ?_)
                    clear hK K
                    refine T_ret ?_
                    refine block_ret ?_
                    refine seqT_ret ?_
                    refine round_ret ?_
                    refine block_ret ?_
                    refine seqT_ret ?_
                    refine post_retI rfl ?_
                    first | (simp [mCmp, h1, h2, h3, h4, h5, h6, h7, h8, h9]; done) | (exact (cmp_eq (by assumption) (by assumption) (by assumption)).symm) | (exact cmp_num (by assumption) (by assumption) (by assumption)) | (exact (cmp_pre1 (by assumption) (by assumption) (by assumption) (by assumption) (by assumption)).symm) | (exact (cmp_pre2 (by assumption) (by assumption) (by assumption) (by assumption) (by assumption)).symm) | (rw [hI.2.2, mRow_hit (by omega) (by omega) (by assumption)]) | (rw [hI.2.2, mRow_end (by omega) (by omega) (by omega)]; simp [dStrs_len])
                  · try rw [h9]
                    try simp only [decide_eq_true_eq, decide_eq_false_iff_not, Bool.not_eq_eq_eq_not, Bool.not_true, Bool.not_false, dStrs_len] at h9
                    refine T_skip ?_
                    refine block_normal ?_
                    refine seqT_keep (keep_cons rfl (keep_cons rfl (keep_cons rfl (keep_nil)))) ?_
                    refine R_last fun K hK => ?_
                    refine R_mov rfl ?_
                    refine R_add rfl rfl (by first | exact wrap_i64 (by omega) (by omega) | exact wrap_i32 (by omega) (by omega) | exact wrap_u8 (by omega) (by omega) | rfl) ?_
                    refine R_mov rfl ?_
                    refine hK _ ?_
                    clear hK K
                    refine round_normal (i + 1) ?_ ?_ ?_
                    · exact le_keep' (keep_cons rfl (keep_cons rfl (keep_cons rfl (keep_nil))))
                    · exact ⟨by omega, by omega, by rw [hI.2.2, mRow_drop (by omega) (by omega) (by assumption)]⟩
                    · first | omega | (simp only; omega) | (dsimp only; omega)
                · try rw [h8]
                  try simp only [decide_eq_true_eq, decide_eq_false_iff_not, Bool.not_eq_eq_eq_not, Bool.not_true, Bool.not_false, dStrs_len] at h8
                  refine T_exit ?_
                  refine seqT_exit ?_
                  refine round_exit ?_
                  refine block_hit ?_
                  refine seqT_keep (keep_cons rfl (keep_cons rfl (keep_nil))) ?_
                  refine R_seq fun K hK => ?_
                  refine R_mov rfl ?_
                  refine R_len rfl rfl ?_
                  refine R_mov rfl ?_
                  refine R_len rfl rfl ?_
                  refine R_call (c_cmp_Compare_int) rfl rfl (.inr rfl) ?_
                  refine R_mov rfl ?_
                  refine hK _ _ (TW_keep (keep_cons rfl (keep_nil)) ?_)
                  clear hK K
                  refine T_ret ?_
                  refine post_retI rfl ?_
                  first | (simp [mCmp, h1, h2, h3, h4, h5, h6, h7, h8]; done) | (exact (cmp_eq (by assumption) (by assumption) (by assumption)).symm) | (exact cmp_num (by assumption) (by assumption) (by assumption)) | (exact (cmp_pre1 (by assumption) (by assumption) (by assumption) (by assumption) (by assumption)).symm) | (exact (cmp_pre2 (by assumption) (by assumption) (by assumption) (by assumption) (by assumption)).symm) | (rw [hI.2.2, mRow_hit (by omega) (by omega) (by assumption)]) | (rw [hI.2.2, mRow_end (by omega) (by omega) (by omega)]; simp [dStrs_len])
              · try rw [h7]
                try simp only [decide_eq_true_eq, decide_eq_false_iff_not, Bool.not_eq_eq_eq_not, Bool.not_true, Bool.not_false, dStrs_len] at h7
                refine G_no rfl ?_
                refine G_no rfl ?_
                refine G_no rfl ?_
                refine G_no rfl ?_
                refine R_pick rfl rfl ?_
                refine hK _ _ (TW_keep (keep_cons rfl (keep_cons rfl (keep_cons rfl (keep_cons rfl (keep_nil))))) ?_)
                clear hK K
                refine T_condF rfl ?_
                refine T_exit ?_
                refine seqT_exit ?_
                refine round_exit ?_
                refine block_hit ?_
                refine seqT_keep (keep_cons rfl (keep_cons rfl (keep_nil))) ?_
                refine R_seq fun K hK => ?_
                refine R_mov rfl ?_
                refine R_len rfl rfl ?_
                refine R_mov rfl ?_
                refine R_len rfl rfl ?_
                refine R_call (c_cmp_Compare_int) rfl rfl (.inr rfl) ?_
                refine R_mov rfl ?_
                refine hK _ _ (TW_keep (keep_cons rfl (keep_nil)) ?_)
                clear hK K
                refine T_ret ?_
                refine post_retI rfl ?_
                first | (simp [mCmp, h1, h2, h3, h4, h5, h6, h7]; done) | (exact (cmp_eq (by assumption) (by assumption) (by assumption)).symm) | (exact cmp_num (by assumption) (by assumption) (by assumption)) | (exact (cmp_pre1 (by assumption) (by assumption) (by assumption) (by assumption) (by assumption)).symm) | (exact (cmp_pre2 (by assumption) (by assumption) (by assumption) (by assumption) (by assumption)).symm) | (rw [hI.2.2, mRow_hit (by omega) (by omega) (by assumption)]) | (rw [hI.2.2, mRow_end (by omega) (by omega) (by omega)]; simp [dStrs_len])

theorem c_cut_May {e a b c : Int} {p q : List UInt8} {f : Bool} (hp : p.length ≤ 1000000) (hq : q.length ≤ 1000000) : Ok Try.prog 11 [.agg [.int .i64 e, .int .i64 a, .int .i64 b, .int .i64 c, .str p, .str q, .bool f]] (.bool (mCMay e a b c p q f)) := by
  refine Ok.ofT tfol Try.func11 tp11 (Nat.le_of_ble_eq_true rfl) ?_
  show TW _ _ tf11.body _ _
  refine R_seq fun K hK => ?_
  refine R_box rfl rfl rfl ?_
  refine R_mov rfl ?_
  refine hK _ _ (TW_keep (keep_cons rfl (keep_nil)) ?_)
  clear hK K
  refine T_seq ?_ -- 0
  refine R_seq fun K hK => ?_
  refine R_fieldR rfl rfl ?_
  refine R_load rfl rfl rfl ?_
  refine R_eqI rfl rfl ?_
  refine R_mov rfl ?_
  refine G_split (g := 6) rfl (fun h1 => ?_) (fun h1 => ?_)
  · try rw [h1]
    try simp only [decide_eq_true_eq, decide_eq_false_iff_not, Bool.not_eq_eq_eq_not, Bool.not_true, Bool.not_false] at h1
    refine G_no rfl ?_
    refine G_no rfl ?_
    refine G_no rfl ?_
    refine R_pick rfl rfl ?_
    refine hK _ _ (TW_keep (keep_cons rfl (keep_cons rfl (keep_nil))) ?_)
    clear hK K
    refine T_condT rfl ?_
    refine R_seq fun K hK => ?_
    refine R_fieldR rfl rfl ?_
    refine R_loadA (cs := [_, _, _, _, _]) rfl rfl rfl rfl ?_
    refine R_build rfl rfl ?_
    refine R_eqsE rfl rfl rfl ?_
    refine R_mov rfl ?_
    refine G_split (g := 15) rfl (fun h2 => ?_) (fun h2 => ?_)
    · try rw [h2]
      try simp only [decide_eq_true_eq, decide_eq_false_iff_not, Bool.not_eq_eq_eq_not, Bool.not_true, Bool.not_false] at h2
      refine G_yes rfl ?_
      refine R_fieldR rfl rfl ?_
      refine G_yes rfl ?_
      refine R_load rfl rfl rfl ?_
      refine G_yes rfl ?_
      refine R_not rfl ?_
      refine R_pick rfl rfl ?_
      refine R_mov rfl ?_
      refine hK _ _ (TW_keep (keep_cons rfl (keep_nil)) ?_)
      clear hK K
      refine T_ret ?_
      refine seqT_ret ?_
      refine post_retB rfl ?_
      first | (simp_all [mCMay]; done) | (simp_all [mCMay]; omega)
    · try rw [h2]
      try simp only [decide_eq_true_eq, decide_eq_false_iff_not, Bool.not_eq_eq_eq_not, Bool.not_true, Bool.not_false] at h2
      refine G_no rfl ?_
      refine G_no rfl ?_
      refine G_no rfl ?_
      refine R_pick rfl rfl ?_
      refine R_mov rfl ?_
      refine hK _ _ (TW_keep (keep_cons rfl (keep_nil)) ?_)
      clear hK K
      refine T_ret ?_
      refine seqT_ret ?_
      refine post_retB rfl ?_
      first | (simp_all [mCMay]; done) | (simp_all [mCMay]; omega)
  · try rw [h1]
    try simp only [decide_eq_true_eq, decide_eq_false_iff_not, Bool.not_eq_eq_eq_not, Bool.not_true, Bool.not_false] at h1
    refine G_yes rfl ?_
    refine R_fieldR rfl rfl ?_
    refine G_yes rfl ?_
    refine R_load rfl rfl rfl ?_
    refine G_yes rfl ?_
    refine R_eqI rfl rfl ?_
    refine R_pick rfl rfl ?_
    refine hK _ _ (TW_keep (keep_cons rfl (keep_cons rfl (keep_nil))) ?_)
    clear hK K
    refine T_cond rfl (fun h3 => ?_) (fun h3 => ?_)
    · try rw [h3]
      try simp only [decide_eq_true_eq, decide_eq_false_iff_not, Bool.not_eq_eq_eq_not, Bool.not_true, Bool.not_false] at h3
      refine R_seq fun K hK => ?_
      refine R_fieldR rfl rfl ?_
      refine R_loadA (cs := [_, _, _, _, _]) rfl rfl rfl rfl ?_
      refine R_build rfl rfl ?_
      refine R_eqsE rfl rfl rfl ?_
      refine R_mov rfl ?_
      refine G_split (g := 15) rfl (fun h4 => ?_) (fun h4 => ?_)
      · try rw [h4]
        try simp only [decide_eq_true_eq, decide_eq_false_iff_not, Bool.not_eq_eq_eq_not, Bool.not_true, Bool.not_false] at h4
        refine G_yes rfl ?_
        refine R_fieldR rfl rfl ?_
        refine G_yes rfl ?_
        refine R_load rfl rfl rfl ?_
        refine G_yes rfl ?_
        refine R_not rfl ?_
        refine R_pick rfl rfl ?_
        refine R_mov rfl ?_
        refine hK _ _ (TW_keep (keep_cons rfl (keep_nil)) ?_)
        clear hK K
        refine T_ret ?_
        refine seqT_ret ?_
        refine post_retB rfl ?_
        first | (simp_all [mCMay]; done) | (simp_all [mCMay]; omega)
      · try rw [h4]
        try simp only [decide_eq_true_eq, decide_eq_false_iff_not, Bool.not_eq_eq_eq_not, Bool.not_true, Bool.not_false] at h4
        refine G_no rfl ?_
        refine G_no rfl ?_
        refine G_no rfl ?_
        refine R_pick rfl rfl ?_
        refine R_mov rfl ?_
        refine hK _ _ (TW_keep (keep_cons rfl (keep_nil)) ?_)
        clear hK K
        refine T_ret ?_
        refine seqT_ret ?_
        refine post_retB rfl ?_
        first | (simp_all [mCMay]; done) | (simp_all [mCMay]; omega)
    · try rw [h3]
      try simp only [decide_eq_true_eq, decide_eq_false_iff_not, Bool.not_eq_eq_eq_not, Bool.not_true, Bool.not_false] at h3
      refine R_seq fun K hK => ?_
      refine R_fieldR rfl rfl ?_
      refine R_load rfl rfl rfl ?_
      refine R_neI rfl rfl ?_
      refine hK _ _ (TW_keep (keep_cons rfl (keep_cons rfl (keep_nil))) ?_)
      clear hK K
      refine T_cond rfl (fun h5 => ?_) (fun h5 => ?_)
      · try rw [h5]
        try simp only [decide_eq_true_eq, decide_eq_false_iff_not, Bool.not_eq_eq_eq_not, Bool.not_true, Bool.not_false] at h5
        refine R_seq fun K hK => ?_
        refine R_mov rfl ?_
        refine hK _ _ (TW_keep (keep_cons rfl (keep_nil)) ?_)
        clear hK K
        refine T_ret ?_
        refine seqT_ret ?_
        refine post_retB rfl ?_
        first | (simp_all [mCMay]; done) | (simp_all [mCMay]; omega)
      · try rw [h5]
        try simp only [decide_eq_true_eq, decide_eq_false_iff_not, Bool.not_eq_eq_eq_not, Bool.not_true, Bool.not_false] at h5
        refine T_skip ?_
        refine seqT_keep (keep_cons rfl (keep_nil)) ?_
        refine R_seq fun K hK => ?_
        refine R_fieldR rfl rfl ?_
        refine R_loadA (cs := [_, _, _, _, _]) rfl rfl rfl rfl ?_
        refine R_call (c_version_May (by omega) (by omega)) rfl rfl (.inr rfl) ?_
        refine R_mov rfl ?_
        refine G_split (g := 26) rfl (fun h6 => ?_) (fun h6 => ?_)
        · try rw [h6]
          try simp only [decide_eq_true_eq, decide_eq_false_iff_not, Bool.not_eq_eq_eq_not, Bool.not_true, Bool.not_false] at h6
          refine G_yes rfl ?_
          refine R_fieldR rfl rfl ?_
          refine G_yes rfl ?_
          refine R_fieldR rfl rfl ?_
          refine G_yes rfl ?_
          refine R_load rfl rfl rfl ?_
          refine G_yes rfl ?_
          refine R_eqS rfl rfl ?_
          refine R_pick rfl rfl ?_
          refine R_mov rfl ?_
          refine hK _ _ (TW_keep (keep_cons rfl (keep_nil)) ?_)
          clear hK K
          refine T_ret ?_
          refine post_retB rfl ?_
          first | (simp_all [mCMay]; done) | (simp_all [mCMay]; omega)
        · try rw [h6]
          try simp only [decide_eq_true_eq, decide_eq_false_iff_not, Bool.not_eq_eq_eq_not, Bool.not_true, Bool.not_false] at h6
          refine G_no rfl ?_
          refine G_no rfl ?_
          refine G_no rfl ?_
          refine G_no rfl ?_
          refine R_pick rfl rfl ?_
          refine R_mov rfl ?_
          refine hK _ _ (TW_keep (keep_cons rfl (keep_nil)) ?_)
          clear hK K
          refine T_ret ?_
          refine post_retB rfl ?_
          first | (simp_all [mCMay]; done) | (simp_all [mCMay]; omega)

theorem c_cut_Compare {e a b c : Int} {p q : List UInt8} {f : Bool} (hp : p.length ≤ 1000000) (hq : q.length ≤ 1000000) {e' a' b' c' : Int} {p' q' : List UInt8} {f' : Bool} (hp' : p'.length ≤ 1000000) (hq' : q'.length ≤ 1000000) : Ok Try.prog 13 [.agg [.int .i64 e, .int .i64 a, .int .i64 b, .int .i64 c, .str p, .str q, .bool f], .agg [.int .i64 e', .int .i64 a', .int .i64 b', .int .i64 c', .str p', .str q', .bool f']] (.int .i64 (mCCmp e a b c p q f e' a' b' c' p' q' f')) := by
  refine Ok.ofT tfol Try.func13 tp13 (Nat.le_of_ble_eq_true rfl) ?_
  show TW _ _ tf13.body _ _
  refine R_seq fun K hK => ?_
  refine R_box rfl rfl rfl ?_
  refine R_box rfl rfl rfl ?_
  refine R_mov rfl ?_
  refine hK _ _ (TW_keep (keep_cons rfl (keep_cons rfl (keep_nil))) ?_)
  clear hK K
  refine T_seq ?_ -- 0
  refine R_seq fun K hK => ?_
  refine R_loadA (cs := [_, _, _, _, _, _, _]) rfl rfl rfl rfl ?_
  refine R_call (c_cut_May (by omega) (by omega)) rfl rfl (.inr rfl) ?_
  refine R_not rfl ?_
  refine R_mov rfl ?_
  refine G_split (g := 9) rfl (fun h1 => ?_) (fun h1 => ?_)
  · try rw [h1]
    try simp only [decide_eq_true_eq, decide_eq_false_iff_not, Bool.not_eq_eq_eq_not, Bool.not_true, Bool.not_false] at h1
    refine G_no rfl ?_
    refine G_no rfl ?_
    refine G_no rfl ?_
    refine R_pick rfl rfl ?_
    refine hK _ _ (TW_keep (keep_cons rfl (keep_cons rfl (keep_cons rfl (keep_nil)))) ?_)
    clear hK K
    refine T_condT rfl ?_
    refine R_seq fun K hK => ?_
    refine R_mov rfl ?_
    refine hK _ _ (TW_keep (keep_cons rfl (keep_nil)) ?_)
    clear hK K
    refine T_ret ?_
    refine seqT_ret ?_
    refine post_retI rfl ?_
    first | (simp [mCCmp, h1]; done) | exact (ccmp_end (by assumption) (by assumption) (by first | (left; assumption) | (right; assumption))).symm | (simp_all [mCCmp]; done)
  · try rw [h1]
    try simp only [decide_eq_true_eq, decide_eq_false_iff_not, Bool.not_eq_eq_eq_not, Bool.not_true, Bool.not_false] at h1
    refine G_yes rfl ?_
    refine R_loadA (cs := [_, _, _, _, _, _, _]) rfl rfl rfl rfl ?_
    refine G_yes rfl ?_
    refine R_call (c_cut_May (by omega) (by omega)) rfl rfl (.inr rfl) ?_
    refine G_yes rfl ?_
    refine R_not rfl ?_
    refine R_pick rfl rfl ?_
    refine hK _ _ (TW_keep (keep_cons rfl (keep_cons rfl (keep_cons rfl (keep_nil)))) ?_)
    clear hK K
    refine T_cond rfl (fun h2 => ?_) (fun h2 => ?_)
    · try rw [h2]
      try simp only [decide_eq_true_eq, decide_eq_false_iff_not, Bool.not_eq_eq_eq_not, Bool.not_true, Bool.not_false] at h2
      refine R_seq fun K hK => ?_
      refine R_mov rfl ?_
      refine hK _ _ (TW_keep (keep_cons rfl (keep_nil)) ?_)
      clear hK K
      refine T_ret ?_
      refine seqT_ret ?_
      refine post_retI rfl ?_
      first | (simp [mCCmp, h1, h2]; done) | exact (ccmp_end (by assumption) (by assumption) (by first | (left; assumption) | (right; assumption))).symm | (simp_all [mCCmp]; done)
    · try rw [h2]
      try simp only [decide_eq_true_eq, decide_eq_false_iff_not, Bool.not_eq_eq_eq_not, Bool.not_true, Bool.not_false] at h2
      refine R_seq fun K hK => ?_
      refine R_fieldR rfl rfl ?_
      refine R_load rfl rfl rfl ?_
      refine R_neI rfl rfl ?_
      refine R_mov rfl ?_
      refine G_split (g := 17) rfl (fun h3 => ?_) (fun h3 => ?_)
      · try rw [h3]
        try simp only [decide_eq_true_eq, decide_eq_false_iff_not, Bool.not_eq_eq_eq_not, Bool.not_true, Bool.not_false] at h3
        refine G_no rfl ?_
        refine G_no rfl ?_
        refine G_no rfl ?_
        refine R_pick rfl rfl ?_
        refine hK _ _ (TW_keep (keep_cons rfl (keep_cons rfl (keep_cons rfl (keep_nil)))) ?_)
        clear hK K
        refine T_condT rfl ?_
        refine R_seq fun K hK => ?_
        refine R_fieldR rfl rfl ?_
        refine R_load rfl rfl rfl ?_
        refine R_fieldR rfl rfl ?_
        refine R_load rfl rfl rfl ?_
        refine R_call (c_cmp_Compare_int) rfl rfl (.inr rfl) ?_
        refine R_mov rfl ?_
        refine hK _ _ (TW_keep (keep_cons rfl (keep_nil)) ?_)
        clear hK K
        refine T_ret ?_
        refine seqT_ret ?_
        refine post_retI rfl ?_
        first | (simp [mCCmp, h1, h2, h3]; done) | exact (ccmp_end (by assumption) (by assumption) (by first | (left; assumption) | (right; assumption))).symm | (simp_all [mCCmp]; done)
      · try rw [h3]
        try simp only [decide_eq_true_eq, decide_eq_false_iff_not, Bool.not_eq_eq_eq_not, Bool.not_true, Bool.not_false] at h3
        refine G_yes rfl ?_
        refine R_fieldR rfl rfl ?_
        refine G_yes rfl ?_
        refine R_load rfl rfl rfl ?_
        refine G_yes rfl ?_
        refine R_neI rfl rfl ?_
        refine R_pick rfl rfl ?_
        refine hK _ _ (TW_keep (keep_cons rfl (keep_cons rfl (keep_cons rfl (keep_nil)))) ?_)
        clear hK K
        refine T_cond rfl (fun h4 => ?_) (fun h4 => ?_)
        · try rw [h4]
          try simp only [decide_eq_true_eq, decide_eq_false_iff_not, Bool.not_eq_eq_eq_not, Bool.not_true, Bool.not_false] at h4
          refine R_seq fun K hK => ?_
          refine R_fieldR rfl rfl ?_
          refine R_load rfl rfl rfl ?_
          refine R_fieldR rfl rfl ?_
          refine R_load rfl rfl rfl ?_
          refine R_call (c_cmp_Compare_int) rfl rfl (.inr rfl) ?_
          refine R_mov rfl ?_
          refine hK _ _ (TW_keep (keep_cons rfl (keep_nil)) ?_)
          clear hK K
          refine T_ret ?_
          refine seqT_ret ?_
          refine post_retI rfl ?_
          first | (simp [mCCmp, h1, h2, h3, h4]; done) | exact (ccmp_end (by assumption) (by assumption) (by first | (left; assumption) | (right; assumption))).symm | (simp_all [mCCmp]; done)
        · try rw [h4]
          try simp only [decide_eq_true_eq, decide_eq_false_iff_not, Bool.not_eq_eq_eq_not, Bool.not_true, Bool.not_false] at h4
          refine R_seq fun K hK => ?_
          refine R_fieldR rfl rfl ?_
          refine R_loadA (cs := [_, _, _, _, _]) rfl rfl rfl rfl ?_
          refine R_fieldR rfl rfl ?_
          refine R_loadA (cs := [_, _, _, _, _]) rfl rfl rfl rfl ?_
          refine R_call (c_version_Compare (by omega) (by omega) (by omega) (by omega)) rfl rfl (.inr rfl) ?_
          refine R_mov rfl ?_
          refine hK _ _ (TW_keep (keep_cons rfl (keep_cons rfl (keep_cons rfl (keep_nil)))) ?_)
          clear hK K
          refine R_seq fun K hK => ?_
          refine R_mov rfl ?_
          refine R_neI rfl rfl ?_
          refine hK _ _ (TW_keep (keep_cons rfl (keep_cons rfl (keep_cons rfl (keep_cons rfl (keep_nil))))) ?_)
          clear hK K
          refine T_cond rfl (fun h5 => ?_) (fun h5 => ?_)
          · try rw [h5]
            try simp only [decide_eq_true_eq, decide_eq_false_iff_not, Bool.not_eq_eq_eq_not, Bool.not_true, Bool.not_false] at h5
            refine R_seq fun K hK => ?_
            refine R_mov rfl ?_
            refine R_mov rfl ?_
            refine hK _ _ (TW_keep (keep_cons rfl (keep_nil)) ?_)
            clear hK K
            refine T_ret ?_
            refine seqT_ret ?_
            refine post_retI rfl ?_
            first | (simp [mCCmp, h1, h2, h3, h4, h5]; done) | exact (ccmp_end (by assumption) (by assumption) (by first | (left; assumption) | (right; assumption))).symm | (simp_all [mCCmp]; done)
          · try rw [h5]
            try simp only [decide_eq_true_eq, decide_eq_false_iff_not, Bool.not_eq_eq_eq_not, Bool.not_true, Bool.not_false] at h5
            refine R_seq fun K hK => ?_
            refine R_fieldR rfl rfl ?_
            refine R_load rfl rfl rfl ?_
            refine R_fieldR rfl rfl ?_
            refine R_load rfl rfl rfl ?_
            refine R_eqB rfl rfl ?_
            refine hK _ _ (TW_keep (keep_cons rfl (keep_cons rfl (keep_nil))) ?_)
            clear hK K
            refine T_cond rfl (fun h6 => ?_) (fun h6 => ?_)
            · try rw [h6]
              try simp only [decide_eq_true_eq, decide_eq_false_iff_not, Bool.not_eq_eq_eq_not, Bool.not_true, Bool.not_false] at h6
              refine R_seq fun K hK => ?_
              refine R_mov rfl ?_
              refine hK _ _ (TW_keep (keep_cons rfl (keep_nil)) ?_)
              clear hK K
              refine T_ret ?_
              refine seqT_ret ?_
              refine post_retI rfl ?_
              first | (simp [mCCmp, h1, h2, h3, h4, h5, h6]; done) | exact (ccmp_end (by assumption) (by assumption) (by first | (left; assumption) | (right; assumption))).symm | (simp_all [mCCmp]; done)
            · try rw [h6]
              try simp only [decide_eq_true_eq, decide_eq_false_iff_not, Bool.not_eq_eq_eq_not, Bool.not_true, Bool.not_false] at h6
              refine R_seq fun K hK => ?_
              refine R_fieldR rfl rfl ?_
              refine R_load rfl rfl rfl ?_
              refine hK _ _ (TW_keep (keep_cons rfl (keep_nil)) ?_)
              clear hK K
              refine T_cond rfl (fun h7 => ?_) (fun h7 => ?_)
              · try rw [h7]
                try simp only [decide_eq_true_eq, decide_eq_false_iff_not, Bool.not_eq_eq_eq_not, Bool.not_true, Bool.not_false] at h7
                refine R_seq fun K hK => ?_
                refine R_mov rfl ?_
                refine hK _ _ (TW_keep (keep_cons rfl (keep_nil)) ?_)
                clear hK K
                refine T_ret ?_
                refine seqT_ret ?_
                refine post_retI rfl ?_
                first | (simp [mCCmp, h1, h2, h3, h4, h5, h6, h7]; done) | exact (ccmp_end (by assumption) (by assumption) (by first | (left; assumption) | (right; assumption))).symm | (simp_all [mCCmp]; done)
              · try rw [h7]
                try simp only [decide_eq_true_eq, decide_eq_false_iff_not, Bool.not_eq_eq_eq_not, Bool.not_true, Bool.not_false] at h7
                refine T_skip ?_
                refine seqT_keep (keep_nil) ?_
                refine R_seq fun K hK => ?_
                refine R_mov rfl ?_
                refine hK _ _ (TW_keep (keep_cons rfl (keep_nil)) ?_)
                clear hK K
                refine T_ret ?_
                refine post_retI rfl ?_
                first | (simp [mCCmp, h1, h2, h3, h4, h5, h6, h7]; done) | exact (ccmp_end (by assumption) (by assumption) (by first | (left; assumption) | (right; assumption))).symm | (simp_all [mCCmp]; done)

theorem c_cut_Ahead {e a b c : Int} {p q : List UInt8} {f : Bool} (hp : p.length ≤ 1000000) (hq : q.length ≤ 1000000) {a' b' c' : Int} {p' q' : List UInt8} (hp' : p'.length ≤ 1000000) (hq' : q'.length ≤ 1000000) : Ok Try.prog 15 [.agg [.int .i64 e, .int .i64 a, .int .i64 b, .int .i64 c, .str p, .str q, .bool f], .agg [.int .i64 a', .int .i64 b', .int .i64 c', .str p', .str q']] (.bool (mAhead e a b c p q f a' b' c' p' q')) := by
  refine Ok.ofT tfol Try.func15 tp15 (Nat.le_of_ble_eq_true rfl) ?_
  show TW _ _ tf15.body _ _
  refine R_seq fun K hK => ?_
  refine R_box rfl rfl rfl ?_
  refine R_box rfl rfl rfl ?_
  refine R_mov rfl ?_
  refine hK _ _ (TW_keep (keep_cons rfl (keep_cons rfl (keep_nil))) ?_)
  clear hK K
  refine T_seq ?_ -- 0
  refine R_seq fun K hK => ?_
  refine R_loadA (cs := [_, _, _, _, _, _, _]) rfl rfl rfl rfl ?_
  refine R_call (c_cut_May (by omega) (by omega)) rfl rfl (.inr rfl) ?_
  refine R_not rfl ?_
  refine R_mov rfl ?_
  refine G_split (g := 9) rfl (fun h1 => ?_) (fun h1 => ?_)
  · try rw [h1]
    try simp only [decide_eq_true_eq, decide_eq_false_iff_not, Bool.not_eq_eq_eq_not, Bool.not_true, Bool.not_false] at h1
    refine G_no rfl ?_
    refine G_no rfl ?_
    refine G_no rfl ?_
    refine R_pick rfl rfl ?_
    refine hK _ _ (TW_keep (keep_cons rfl (keep_cons rfl (keep_cons rfl (keep_nil)))) ?_)
    clear hK K
    refine T_condT rfl ?_
    refine R_seq fun K hK => ?_
    refine R_mov rfl ?_
    refine hK _ _ (TW_keep (keep_cons rfl (keep_nil)) ?_)
    clear hK K
    refine T_ret ?_
    refine seqT_ret ?_
    refine post_retB rfl ?_
    first | (simp [mAhead, h1]; done) | (simp_all [mAhead]; done)
  · try rw [h1]
    try simp only [decide_eq_true_eq, decide_eq_false_iff_not, Bool.not_eq_eq_eq_not, Bool.not_true, Bool.not_false] at h1
    refine G_yes rfl ?_
    refine R_loadA (cs := [_, _, _, _, _]) rfl rfl rfl rfl ?_
    refine G_yes rfl ?_
    refine R_call (c_version_May (by omega) (by omega)) rfl rfl (.inr rfl) ?_
    refine G_yes rfl ?_
    refine R_not rfl ?_
    refine R_pick rfl rfl ?_
    refine hK _ _ (TW_keep (keep_cons rfl (keep_cons rfl (keep_cons rfl (keep_nil)))) ?_)
    clear hK K
    refine T_cond rfl (fun h2 => ?_) (fun h2 => ?_)
    · try rw [h2]
      try simp only [decide_eq_true_eq, decide_eq_false_iff_not, Bool.not_eq_eq_eq_not, Bool.not_true, Bool.not_false] at h2
      refine R_seq fun K hK => ?_
      refine R_mov rfl ?_
      refine hK _ _ (TW_keep (keep_cons rfl (keep_nil)) ?_)
      clear hK K
      refine T_ret ?_
      refine seqT_ret ?_
      refine post_retB rfl ?_
      first | (simp [mAhead, h1, h2]; done) | (simp_all [mAhead]; done)
    · try rw [h2]
      try simp only [decide_eq_true_eq, decide_eq_false_iff_not, Bool.not_eq_eq_eq_not, Bool.not_true, Bool.not_false] at h2
      refine R_seq fun K hK => ?_
      refine R_fieldR rfl rfl ?_
      refine R_load rfl rfl rfl ?_
      refine R_neI rfl rfl ?_
      refine hK _ _ (TW_keep (keep_cons rfl (keep_cons rfl (keep_cons rfl (keep_nil)))) ?_)
      clear hK K
      refine T_cond rfl (fun h3 => ?_) (fun h3 => ?_)
      · try rw [h3]
        try simp only [decide_eq_true_eq, decide_eq_false_iff_not, Bool.not_eq_eq_eq_not, Bool.not_true, Bool.not_false] at h3
        refine R_seq fun K hK => ?_
        refine R_fieldR rfl rfl ?_
        refine R_load rfl rfl rfl ?_
        refine R_lt rfl rfl ?_
        refine R_mov rfl ?_
        refine hK _ _ (TW_keep (keep_cons rfl (keep_nil)) ?_)
        clear hK K
        refine T_ret ?_
        refine seqT_ret ?_
        refine post_retB rfl ?_
        first | (simp [mAhead, h1, h2, h3]; done) | (simp_all [mAhead]; done)
      · try rw [h3]
        try simp only [decide_eq_true_eq, decide_eq_false_iff_not, Bool.not_eq_eq_eq_not, Bool.not_true, Bool.not_false] at h3
        refine T_skip ?_
        refine seqT_keep (keep_cons rfl (keep_cons rfl (keep_nil))) ?_
        refine R_seq fun K hK => ?_
        refine R_fieldR rfl rfl ?_
        refine R_loadA (cs := [_, _, _, _, _]) rfl rfl rfl rfl ?_
        refine R_loadA (cs := [_, _, _, _, _]) rfl rfl rfl rfl ?_
        refine R_call (c_version_Compare (by omega) (by omega) (by omega) (by omega)) rfl rfl (.inr rfl) ?_
        refine R_mov rfl ?_
        refine hK _ _ (TW_keep (keep_cons rfl (keep_cons rfl (keep_nil))) ?_)
        clear hK K
        refine R_seq fun K hK => ?_
        refine R_mov rfl ?_
        refine R_lt rfl rfl ?_
        refine R_mov rfl ?_
        refine G_split (g := 26) rfl (fun h4 => ?_) (fun h4 => ?_)
        · try rw [h4]
          try simp only [decide_eq_true_eq, decide_eq_false_iff_not, Bool.not_eq_eq_eq_not, Bool.not_true, Bool.not_false] at h4
          refine G_no rfl ?_
          refine G_no rfl ?_
          refine G_no rfl ?_
          refine G_undef rfl ?_
          refine G_undef rfl ?_
          refine G_undef rfl ?_
          refine G_no rfl ?_
          refine R_pick rfl rfl ?_
          refine R_mov rfl ?_
          refine hK _ _ (TW_keep (keep_cons rfl (keep_nil)) ?_)
          clear hK K
          refine T_ret ?_
          refine post_retB rfl ?_
          first | (simp [mAhead, h1, h2, h3, h4]; done) | (simp_all [mAhead]; done)
        · try rw [h4]
          try simp only [decide_eq_true_eq, decide_eq_false_iff_not, Bool.not_eq_eq_eq_not, Bool.not_true, Bool.not_false] at h4
          refine G_yes rfl ?_
          refine R_mov rfl ?_
          refine G_yes rfl ?_
          refine R_eqI rfl rfl ?_
          refine G_yes rfl ?_
          refine R_mov rfl ?_
          refine G_split (g := 29) rfl (fun h5 => ?_) (fun h5 => ?_)
          · try rw [h5]
            try simp only [decide_eq_true_eq, decide_eq_false_iff_not, Bool.not_eq_eq_eq_not, Bool.not_true, Bool.not_false] at h5
            refine G_yes rfl ?_
            refine R_fieldR rfl rfl ?_
            refine G_yes rfl ?_
            refine R_load rfl rfl rfl ?_
            refine G_yes rfl ?_
            refine R_not rfl ?_
            refine G_yes rfl ?_
            refine R_pick rfl rfl ?_
            refine R_pick rfl rfl ?_
            refine R_mov rfl ?_
            refine hK _ _ (TW_keep (keep_cons rfl (keep_nil)) ?_)
            clear hK K
            refine T_ret ?_
            refine post_retB rfl ?_
            first | (simp [mAhead, h1, h2, h3, h4, h5]; done) | (simp_all [mAhead]; done)
          · try rw [h5]
            try simp only [decide_eq_true_eq, decide_eq_false_iff_not, Bool.not_eq_eq_eq_not, Bool.not_true, Bool.not_false] at h5
            refine G_no rfl ?_
            refine G_no rfl ?_
            refine G_no rfl ?_
            refine G_yes rfl ?_
            refine R_pick rfl rfl ?_
            refine R_pick rfl rfl ?_
            refine R_mov rfl ?_
            refine hK _ _ (TW_keep (keep_cons rfl (keep_nil)) ?_)
            clear hK K
            refine T_ret ?_
            refine post_retB rfl ?_
            first | (simp [mAhead, h1, h2, h3, h4, h5]; done) | (simp_all [mAhead]; done)

theorem c_cut_SpanMay {e a b c : Int} {p q : List UInt8} {f : Bool} (hp : p.length ≤ 1000000) (hq : q.length ≤ 1000000) {e' a' b' c' : Int} {p' q' : List UInt8} {f' : Bool} (hp' : p'.length ≤ 1000000) (hq' : q'.length ≤ 1000000) : Ok Try.prog 17 [.agg [.int .i64 e, .int .i64 a, .int .i64 b, .int .i64 c, .str p, .str q, .bool f, .int .i64 e', .int .i64 a', .int .i64 b', .int .i64 c', .str p', .str q', .bool f']] (.bool (mSpan e a b c p q f e' a' b' c' p' q' f')) := by
  refine Ok.ofT tfol Try.func17 tp17 (Nat.le_of_ble_eq_true rfl) ?_
  show TW _ _ tf17.body _ _
  refine R_seq fun K hK => ?_
  refine R_box rfl rfl rfl ?_
  refine R_mov rfl ?_
  refine hK _ _ (TW_keep (keep_cons rfl (keep_nil)) ?_)
  clear hK K
  refine R_seq fun K hK => ?_
  refine R_fieldR rfl rfl ?_
  refine R_loadA (cs := [_, _, _, _, _, _, _]) rfl rfl rfl rfl ?_
  refine R_call (c_cut_May (by omega) (by omega)) rfl rfl (.inr rfl) ?_
  refine R_mov rfl ?_
  refine G_split (g := 6) rfl (fun h1 => ?_) (fun h1 => ?_)
  · try rw [h1]
    try simp only [decide_eq_true_eq, decide_eq_false_iff_not, Bool.not_eq_eq_eq_not, Bool.not_true, Bool.not_false] at h1
    refine G_yes rfl ?_
    refine R_fieldR rfl rfl ?_
    refine G_yes rfl ?_
    refine R_loadA (cs := [_, _, _, _, _, _, _]) rfl rfl rfl rfl ?_
    refine G_yes rfl ?_
    refine R_call (c_cut_May (by omega) (by omega)) rfl rfl (.inr rfl) ?_
    refine R_pick rfl rfl ?_
    refine R_mov rfl ?_
    refine G_split (g := 11) rfl (fun h2 => ?_) (fun h2 => ?_)
    · try rw [h2]
      try simp only [decide_eq_true_eq, decide_eq_false_iff_not, Bool.not_eq_eq_eq_not, Bool.not_true, Bool.not_false] at h2
      refine G_yes rfl ?_
      refine R_fieldR rfl rfl ?_
      refine G_yes rfl ?_
      refine R_loadA (cs := [_, _, _, _, _, _, _]) rfl rfl rfl rfl ?_
      refine G_yes rfl ?_
      refine R_fieldR rfl rfl ?_
      refine G_yes rfl ?_
      refine R_loadA (cs := [_, _, _, _, _, _, _]) rfl rfl rfl rfl ?_
      refine G_yes rfl ?_
      refine R_call (c_cut_Compare (by omega) (by omega) (by omega) (by omega)) rfl rfl (.inr rfl) ?_
      refine G_yes rfl ?_
      refine R_lt rfl rfl ?_
      refine R_pick rfl rfl ?_
      refine R_mov rfl ?_
      refine hK _ _ (TW_keep (keep_cons rfl (keep_nil)) ?_)
      clear hK K
      refine T_ret ?_
      refine post_retB rfl ?_
      first | (simp [mSpan, h1, h2]; done) | (simp_all [mSpan]; done)
    · try rw [h2]
      try simp only [decide_eq_true_eq, decide_eq_false_iff_not, Bool.not_eq_eq_eq_not, Bool.not_true, Bool.not_false] at h2
      refine G_no rfl ?_
      refine G_no rfl ?_
      refine G_no rfl ?_
      refine G_no rfl ?_
      refine G_no rfl ?_
      refine G_no rfl ?_
      refine R_pick rfl rfl ?_
      refine R_mov rfl ?_
      refine hK _ _ (TW_keep (keep_cons rfl (keep_nil)) ?_)
      clear hK K
      refine T_ret ?_
      refine post_retB rfl ?_
      first | (simp [mSpan, h1, h2]; done) | (simp_all [mSpan]; done)
  · try rw [h1]
    try simp only [decide_eq_true_eq, decide_eq_false_iff_not, Bool.not_eq_eq_eq_not, Bool.not_true, Bool.not_false] at h1
    refine G_no rfl ?_
    refine G_no rfl ?_
    refine G_no rfl ?_
    refine R_pick rfl rfl ?_
    refine R_mov rfl ?_
    refine G_no rfl ?_
    refine G_no rfl ?_
    refine G_no rfl ?_
    refine G_no rfl ?_
    refine G_no rfl ?_
    refine G_no rfl ?_
    refine R_pick rfl rfl ?_
    refine R_mov rfl ?_
    refine hK _ _ (TW_keep (keep_cons rfl (keep_nil)) ?_)
    clear hK K
    refine T_ret ?_
    refine post_retB rfl ?_
    first | (simp [mSpan, h1]; done) | (simp_all [mSpan]; done)

theorem c_cut_Holds {e a b c : Int} {p q : List UInt8} {f : Bool} (hp : p.length ≤ 1000000) (hq : q.length ≤ 1000000) {e' a' b' c' : Int} {p' q' : List UInt8} {f' : Bool} (hp' : p'.length ≤ 1000000) (hq' : q'.length ≤ 1000000) {x y z : Int} {r s : List UInt8} (hr : r.length ≤ 1000000) (hs : s.length ≤ 1000000) : Ok Try.prog 19 [.agg [.int .i64 e, .int .i64 a, .int .i64 b, .int .i64 c, .str p, .str q, .bool f, .int .i64 e', .int .i64 a', .int .i64 b', .int .i64 c', .str p', .str q', .bool f'], .agg [.int .i64 x, .int .i64 y, .int .i64 z, .str r, .str s]] (.bool (mHolds e a b c p q f e' a' b' c' p' q' f' x y z r s)) := by
  refine Ok.ofT tfol Try.func19 tp19 (Nat.le_of_ble_eq_true rfl) ?_
  show TW _ _ tf19.body _ _
  refine R_seq fun K hK => ?_
  refine R_box rfl rfl rfl ?_
  refine R_box rfl rfl rfl ?_
  refine R_mov rfl ?_
  refine hK _ _ (TW_keep (keep_cons rfl (keep_cons rfl (keep_nil))) ?_)
  clear hK K
  refine R_seq fun K hK => ?_
  refine R_loadA (cs := [_, _, _, _, _, _, _, _, _, _, _, _, _, _]) rfl rfl rfl rfl ?_
  refine R_call (c_cut_SpanMay (by omega) (by omega) (by omega) (by omega)) rfl rfl (.inr rfl) ?_
  refine R_mov rfl ?_
  refine G_split (g := 7) rfl (fun h1 => ?_) (fun h1 => ?_)
  · try rw [h1]
    try simp only [decide_eq_true_eq, decide_eq_false_iff_not, Bool.not_eq_eq_eq_not, Bool.not_true, Bool.not_false] at h1
    refine G_yes rfl ?_
    refine R_loadA (cs := [_, _, _, _, _]) rfl rfl rfl rfl ?_
    refine G_yes rfl ?_
    refine R_call (c_version_May (by omega) (by omega)) rfl rfl (.inr rfl) ?_
    refine R_pick rfl rfl ?_
    refine R_mov rfl ?_
    refine G_split (g := 11) rfl (fun h2 => ?_) (fun h2 => ?_)
    · try rw [h2]
      try simp only [decide_eq_true_eq, decide_eq_false_iff_not, Bool.not_eq_eq_eq_not, Bool.not_true, Bool.not_false] at h2
      refine G_yes rfl ?_
      refine R_fieldR rfl rfl ?_
      refine G_yes rfl ?_
      refine R_loadA (cs := [_, _, _, _, _, _, _]) rfl rfl rfl rfl ?_
      refine G_yes rfl ?_
      refine R_loadA (cs := [_, _, _, _, _]) rfl rfl rfl rfl ?_
      refine G_yes rfl ?_
      refine R_call (c_cut_Ahead (by omega) (by omega) (by omega) (by omega)) rfl rfl (.inr rfl) ?_
      refine R_pick rfl rfl ?_
      refine R_mov rfl ?_
      refine G_split (g := 17) rfl (fun h3 => ?_) (fun h3 => ?_)
      · try rw [h3]
        try simp only [decide_eq_true_eq, decide_eq_false_iff_not, Bool.not_eq_eq_eq_not, Bool.not_true, Bool.not_false] at h3
        refine G_yes rfl ?_
        refine R_fieldR rfl rfl ?_
        refine G_yes rfl ?_
        refine R_loadA (cs := [_, _, _, _, _, _, _]) rfl rfl rfl rfl ?_
        refine G_yes rfl ?_
        refine R_loadA (cs := [_, _, _, _, _]) rfl rfl rfl rfl ?_
        refine G_yes rfl ?_
        refine R_call (c_cut_Ahead (by omega) (by omega) (by omega) (by omega)) rfl rfl (.inr rfl) ?_
        refine G_yes rfl ?_
        refine R_not rfl ?_
        refine R_pick rfl rfl ?_
        refine R_mov rfl ?_
        refine hK _ _ (TW_keep (keep_cons rfl (keep_nil)) ?_)
        clear hK K
        refine T_ret ?_
        refine post_retB rfl ?_
        first | (simp [mHolds, h1, h2, h3]; done) | (simp_all [mHolds]; done)
      · try rw [h3]
        try simp only [decide_eq_true_eq, decide_eq_false_iff_not, Bool.not_eq_eq_eq_not, Bool.not_true, Bool.not_false] at h3
        refine G_no rfl ?_
        refine G_no rfl ?_
        refine G_no rfl ?_
        refine G_no rfl ?_
        refine G_no rfl ?_
        refine R_pick rfl rfl ?_
        refine R_mov rfl ?_
        refine hK _ _ (TW_keep (keep_cons rfl (keep_nil)) ?_)
        clear hK K
        refine T_ret ?_
        refine post_retB rfl ?_
        first | (simp [mHolds, h1, h2, h3]; done) | (simp_all [mHolds]; done)
    · try rw [h2]
      try simp only [decide_eq_true_eq, decide_eq_false_iff_not, Bool.not_eq_eq_eq_not, Bool.not_true, Bool.not_false] at h2
      refine G_no rfl ?_
      refine G_no rfl ?_
      refine G_no rfl ?_
      refine G_no rfl ?_
      refine R_pick rfl rfl ?_
      refine R_mov rfl ?_
      refine G_no rfl ?_
      refine G_no rfl ?_
      refine G_no rfl ?_
      refine G_no rfl ?_
      refine G_no rfl ?_
      refine R_pick rfl rfl ?_
      refine R_mov rfl ?_
      refine hK _ _ (TW_keep (keep_cons rfl (keep_nil)) ?_)
      clear hK K
      refine T_ret ?_
      refine post_retB rfl ?_
      first | (simp [mHolds, h1, h2]; done) | (simp_all [mHolds]; done)
  · try rw [h1]
    try simp only [decide_eq_true_eq, decide_eq_false_iff_not, Bool.not_eq_eq_eq_not, Bool.not_true, Bool.not_false] at h1
    refine G_no rfl ?_
    refine G_no rfl ?_
    refine R_pick rfl rfl ?_
    refine R_mov rfl ?_
    refine G_no rfl ?_
    refine G_no rfl ?_
    refine G_no rfl ?_
    refine G_no rfl ?_
    refine R_pick rfl rfl ?_
    refine R_mov rfl ?_
    refine G_no rfl ?_
    refine G_no rfl ?_
    refine G_no rfl ?_
    refine G_no rfl ?_
    refine G_no rfl ?_
    refine R_pick rfl rfl ?_
    refine R_mov rfl ?_
    refine hK _ _ (TW_keep (keep_cons rfl (keep_nil)) ?_)
    clear hK K
    refine T_ret ?_
    refine post_retB rfl ?_
    first | (simp [mHolds, h1]; done) | (simp_all [mHolds]; done)

end Go.Proofs
namespace Go.Proofs
open Go Go.Abs M3
set_option linter.unusedVariables false
set_option linter.unusedSimpArgs false

theorem c_linchpinlaw0_Version {l : List Int} {i : Int} (h0 : 0 ≤ i) (h1 : i ≤ 1000000) (hv : ∀ x ∈ l, -9223372036854775808 ≤ x ∧ x ≤ 9223372036854775807) : Ok Try.prog 22 [dInts l, .int .i64 i] (.agg [.int .i64 (vNum l i), .int .i64 (vNum l (i + 1)), .int .i64 (vNum l (i + 2)), .str (vPre l (i + 3)), .str (vBuild l (i + 4))]) := by
  refine Ok.ofT tfol Try.func22 tp22 (Nat.le_of_ble_eq_true rfl) ?_
  show TW _ _ tf22.body _ _
  refine R_seq fun K hK => ?_
  refine R_alloc rfl ?_
  refine hK _ _ (TW_keep (keep_cons rfl (keep_cons rfl (keep_cons rfl (keep_nil)))) ?_)
  clear hK K
  refine R_seq fun K hK => ?_
  refine R_build rfl rfl ?_
  refine R_alloc rfl ?_
  refine R_store rfl rfl rfl rfl rfl rfl rfl rfl ?_
  refine hK _ _ (TW_keep (keep_cons rfl (keep_cons rfl (keep_cons rfl (keep_cons rfl (keep_nil))))) ?_)
  clear hK K
  refine R_seq fun K hK => ?_
  refine R_build rfl rfl ?_
  refine R_alloc rfl ?_
  refine R_store rfl rfl rfl rfl rfl rfl rfl rfl ?_
  refine hK _ _ (TW_keep (keep_cons rfl (keep_cons rfl (keep_cons rfl (keep_cons rfl (keep_cons rfl (keep_nil)))))) ?_)
  clear hK K
  refine R_seq fun K hK => ?_
  refine R_build rfl rfl ?_
  refine R_alloc rfl ?_
  refine R_store rfl rfl rfl rfl rfl rfl rfl rfl ?_
  refine hK _ _ (TW_keep (keep_cons rfl (keep_cons rfl (keep_cons rfl (keep_cons rfl (keep_cons rfl (keep_cons rfl (keep_nil))))))) ?_)
  clear hK K
  refine R_seq fun K hK => ?_
  refine R_mov rfl ?_
  refine R_mov rfl ?_
  refine R_callD (c_linchpinlaw0_From (by omega) hv) rfl rfl (.inr rfl) rfl ?_
  refine R_arrR rfl rfl (place_lo (by omega)) (place_hi (by omega)) rfl ?_
  refine R_loadD rfl rfl (head_map (fun x => D.int .i64 x) numT 0 (by have q1 := place_lo (v := mAt l (i)) (n := 8) (by omega); have q2 := place_hi (v := mAt l (i)) (n := 8) (by omega); simp only [mFrom]; simp [numT]; omega)) rfl ?_
  refine R_mov rfl ?_
  refine R_mov rfl ?_
  refine R_add rfl rfl (by first | exact wrap_i64 (by omega) (by omega) | exact wrap_i32 (by omega) (by omega) | exact wrap_u8 (by omega) (by omega) | rfl) ?_
  refine R_callD (c_linchpinlaw0_From (by omega) hv) rfl rfl (.inr rfl) rfl ?_
  refine R_arrR rfl rfl (place_lo (by omega)) (place_hi (by omega)) rfl ?_
  refine R_loadD rfl rfl (head_map (fun x => D.int .i64 x) numT 0 (by have q1 := place_lo (v := mAt l (i + 1)) (n := 8) (by omega); have q2 := place_hi (v := mAt l (i + 1)) (n := 8) (by omega); simp only [mFrom]; simp [numT]; omega)) rfl ?_
  refine R_mov rfl ?_
  refine R_mov rfl ?_
  refine R_add rfl rfl (by first | exact wrap_i64 (by omega) (by omega) | exact wrap_i32 (by omega) (by omega) | exact wrap_u8 (by omega) (by omega) | rfl) ?_
  refine R_callD (c_linchpinlaw0_From (by omega) hv) rfl rfl (.inr rfl) rfl ?_
  refine R_arrR rfl rfl (place_lo (by omega)) (place_hi (by omega)) rfl ?_
  refine R_loadD rfl rfl (head_map (fun x => D.int .i64 x) numT 0 (by have q1 := place_lo (v := mAt l (i + 2)) (n := 8) (by omega); have q2 := place_hi (v := mAt l (i + 2)) (n := 8) (by omega); simp only [mFrom]; simp [numT]; omega)) rfl ?_
  refine R_mov rfl ?_
  refine R_mov rfl ?_
  refine R_add rfl rfl (by first | exact wrap_i64 (by omega) (by omega) | exact wrap_i32 (by omega) (by omega) | exact wrap_u8 (by omega) (by omega) | rfl) ?_
  refine R_callD (c_linchpinlaw0_From (by omega) hv) rfl rfl (.inr rfl) rfl ?_
  refine R_arrR rfl rfl (place_lo (by omega)) (place_hi (by omega)) rfl ?_
  refine R_loadD rfl rfl (head_map (fun x => D.str x) preT [] (by have q1 := place_lo (v := mAt l (i + 3)) (n := 14) (by omega); have q2 := place_hi (v := mAt l (i + 3)) (n := 14) (by omega); simp only [mFrom]; simp [preT]; omega)) rfl ?_
  refine R_mov rfl ?_
  refine R_mov rfl ?_
  refine R_add rfl rfl (by first | exact wrap_i64 (by omega) (by omega) | exact wrap_i32 (by omega) (by omega) | exact wrap_u8 (by omega) (by omega) | rfl) ?_
  refine R_callD (c_linchpinlaw0_From (by omega) hv) rfl rfl (.inr rfl) rfl ?_
  refine R_arrR rfl rfl (place_lo (by omega)) (place_hi (by omega)) rfl ?_
  refine R_loadD rfl rfl (head_map (fun x => D.str x) buildT [] (by have q1 := place_lo (v := mAt l (i + 4)) (n := 6) (by omega); have q2 := place_hi (v := mAt l (i + 4)) (n := 6) (by omega); simp only [mFrom]; simp [buildT]; omega)) rfl ?_
  refine R_build rfl rfl ?_
  refine R_storeD rfl rfl rfl rfl rfl rfl rfl rfl rfl ?_
  refine hK _ _ (TW_keep (keep_cons rfl (keep_nil)) ?_)
  clear hK K
  refine T_ret ?_
  refine post_cell (cs := [_, _, _, _, _]) rfl rfl rfl rfl ?_
  exact rfl

theorem c_linchpinlaw0_Cut {l : List Int} {i : Int} (h0 : 0 ≤ i) (h1 : i ≤ 1000000) (hv : ∀ x ∈ l, -9223372036854775808 ≤ x ∧ x ≤ 9223372036854775807) : Ok Try.prog 21 [dInts l, .int .i64 i] (.agg [.int .i64 (cu l i).e, .int .i64 (cu l i).a, .int .i64 (cu l i).b, .int .i64 (cu l i).c, .str (cu l i).p, .str (cu l i).q, .bool (cu l i).f]) := by
  refine Ok.ofT tfol Try.func21 tp21 (Nat.le_of_ble_eq_true rfl) ?_
  show TW _ _ tf21.body _ _
  have q1 := place_lo (v := mAt l (i + 5)) (n := 9) (by omega)
  have q2 := place_hi (v := mAt l (i + 5)) (n := 9) (by omega)
  change 0 ≤ mFrom l (i + 5) 9 at q1
  change mFrom l (i + 5) 9 < 9 at q2
  refine R_seq fun K hK => ?_
  refine R_alloc rfl ?_
  refine hK _ _ (TW_keep (keep_cons rfl (keep_cons rfl (keep_cons rfl (keep_nil)))) ?_)
  clear hK K
  refine T_seq ?_ -- 0
  refine R_seq fun K hK => ?_
  refine R_mov rfl ?_
  refine R_mov rfl ?_
  refine R_add rfl rfl (by first | exact wrap_i64 (by omega) (by omega) | exact wrap_i32 (by omega) (by omega) | exact wrap_u8 (by omega) (by omega) | rfl) ?_
  refine R_call (c_linchpinlaw0_From (by omega) hv) rfl rfl (.inr rfl) ?_
  refine R_mov rfl ?_
  refine hK _ _ (TW_keep (keep_cons rfl (keep_cons rfl (keep_cons rfl (keep_cons rfl (keep_nil))))) ?_)
  clear hK K
  refine R_seq fun K hK => ?_
  refine R_mov rfl ?_
  refine R_lt rfl rfl ?_
  refine hK _ _ (TW_keep (keep_cons rfl (keep_cons rfl (keep_cons rfl (keep_cons rfl (keep_cons rfl (keep_nil)))))) ?_)
  clear hK K
  refine T_cond rfl (fun h1 => ?_) (fun h1 => ?_)
  · try rw [h1]
    try simp only [decide_eq_true_eq, decide_eq_false_iff_not, Bool.not_eq_eq_eq_not, Bool.not_true, Bool.not_false] at h1
    refine R_seq fun K hK => ?_
    refine R_mov rfl ?_
    refine R_mul rfl rfl (by first | exact wrap_i64 (by omega) (by omega) | exact wrap_i32 (by omega) (by omega) | exact wrap_u8 (by omega) (by omega) | rfl) ?_
    refine R_sub rfl rfl (by first | exact wrap_i64 (by omega) (by omega) | exact wrap_i32 (by omega) (by omega) | exact wrap_u8 (by omega) (by omega) | rfl) ?_
    refine R_build rfl rfl ?_
    refine R_store rfl rfl rfl rfl rfl rfl rfl rfl ?_
    refine hK _ _ (TW_keep (keep_cons rfl (keep_nil)) ?_)
    clear hK K
    refine T_ret ?_
    refine seqT_ret ?_
    refine post_cell (cs := [_, _, _, _, _, _, _]) rfl rfl rfl rfl ?_
    simp [cu, h1, argD, D.fz, D.fzS, D.can, D.canS]
  · try rw [h1]
    try simp only [decide_eq_true_eq, decide_eq_false_iff_not, Bool.not_eq_eq_eq_not, Bool.not_true, Bool.not_false] at h1
    refine T_skip ?_
    refine seqT_keep (keep_cons rfl (keep_cons rfl (keep_cons rfl (keep_nil)))) ?_
    refine R_seq fun K hK => ?_
    refine R_mov rfl ?_
    refine R_mov rfl ?_
    refine R_call (c_linchpinlaw0_Version (by omega) (by omega) hv) rfl rfl (.inl rfl) ?_
    refine R_alloc rfl ?_
    refine R_store rfl rfl rfl rfl rfl rfl rfl rfl ?_
    refine hK _ _ (TW_keep (keep_cons rfl (keep_cons rfl (keep_cons rfl (keep_cons rfl (keep_nil))))) ?_)
    clear hK K
    refine R_seq fun K hK => ?_
    refine R_fieldR rfl rfl ?_
    refine R_store rfl rfl rfl rfl rfl rfl rfl rfl ?_
    refine hK _ _ (TW_keep (keep_cons rfl (keep_cons rfl (keep_cons rfl (keep_cons rfl (keep_nil))))) ?_)
    clear hK K
    refine R_seq fun K hK => ?_
    refine R_loadAD (cs := [_, _, _, _, _]) rfl rfl rfl rfl rfl ?_
    refine R_mov rfl ?_
    refine R_mov rfl ?_
    refine R_add rfl rfl (by first | exact wrap_i64 (by omega) (by omega) | exact wrap_i32 (by omega) (by omega) | exact wrap_u8 (by omega) (by omega) | rfl) ?_
    refine R_callD (c_linchpinlaw0_From (by omega) hv) rfl rfl (.inr rfl) rfl ?_
    refine R_eqI rfl rfl ?_
    refine R_build rfl rfl ?_
    refine R_storeD rfl rfl rfl rfl rfl rfl rfl rfl rfl ?_
    refine hK _ _ (TW_keep (keep_cons rfl (keep_nil)) ?_)
    clear hK K
    refine T_ret ?_
    refine post_cell (cs := [_, _, _, _, _, _, _]) rfl rfl rfl rfl ?_
    simp [cu, h1, argD, D.fz, D.fzS, D.can, D.canS]

theorem c_linchpinlaw3_short {e a b c : Int} {p q : List UInt8} {f : Bool} : Ok Try.prog 9 [.agg [.int .i64 e, .int .i64 a, .int .i64 b, .int .i64 c, .str p, .str q, .bool f]] (.bool (decide (p.length ≤ 100) && decide (q.length ≤ 100))) := by
  refine Ok.ofT tfol Try.func9 tp9 (Nat.le_of_ble_eq_true rfl) ?_
  show TW _ _ tf9.body _ _
  refine R_seq fun K hK => ?_
  refine R_box rfl rfl rfl ?_
  refine R_mov rfl ?_
  refine hK _ _ (TW_keep (keep_cons rfl (keep_nil)) ?_)
  clear hK K
  refine R_seq fun K hK => ?_
  refine R_fieldR rfl rfl ?_
  refine R_fieldR rfl rfl ?_
  refine R_load rfl rfl rfl ?_
  refine R_lenStr rfl ?_
  refine R_le rfl rfl ?_
  refine R_mov rfl ?_
  refine G_split (g := 8) rfl (fun h1 => ?_) (fun h1 => ?_)
  · try rw [h1]
    try simp only [decide_eq_true_eq, decide_eq_false_iff_not, Bool.not_eq_eq_eq_not, Bool.not_true, Bool.not_false] at h1
    refine G_yes rfl ?_
    refine R_fieldR rfl rfl ?_
    refine G_yes rfl ?_
    refine R_fieldR rfl rfl ?_
    refine G_yes rfl ?_
    refine R_load rfl rfl rfl ?_
    refine G_yes rfl ?_
    refine R_lenStr rfl ?_
    refine G_yes rfl ?_
    refine R_le rfl rfl ?_
    refine R_pick rfl rfl ?_
    refine R_mov rfl ?_
    refine hK _ _ (TW_keep (keep_cons rfl (keep_nil)) ?_)
    clear hK K
    refine T_ret ?_
    refine post_retB rfl ?_
    rw [Bool.eq_iff_iff]; simp <;> omega
  · try rw [h1]
    try simp only [decide_eq_true_eq, decide_eq_false_iff_not, Bool.not_eq_eq_eq_not, Bool.not_true, Bool.not_false] at h1
    refine G_no rfl ?_
    refine G_no rfl ?_
    refine G_no rfl ?_
    refine G_no rfl ?_
    refine G_no rfl ?_
    refine R_pick rfl rfl ?_
    refine R_mov rfl ?_
    refine hK _ _ (TW_keep (keep_cons rfl (keep_nil)) ?_)
    clear hK K
    refine T_ret ?_
    refine post_retB rfl ?_
    rw [Bool.eq_iff_iff]; simp <;> omega

theorem c_linchpinlaw3_awake  : Ok Try.prog 10 [] (.bool true) := by
  refine Ok.ofT tfol Try.func10 tp10 (Nat.le_of_ble_eq_true rfl) ?_
  show TW _ _ tf10.body _ _
  refine R_seq fun K hK => ?_
  refine R_mov rfl ?_
  refine hK _ _ (TW_keep (keep_nil) ?_)
  clear hK K
  refine R_seq fun K hK => ?_
  refine R_build rfl rfl ?_
  refine R_alloc rfl ?_
  refine R_store rfl rfl rfl rfl rfl rfl rfl rfl ?_
  refine hK _ _ (TW_keep (keep_cons rfl (keep_nil)) ?_)
  clear hK K
  refine R_seq fun K hK => ?_
  refine R_loadAD (cs := [_, _, _, _, _]) rfl rfl rfl rfl rfl ?_
  refine R_build rfl rfl ?_
  refine R_loadAD (cs := [_, _, _, _, _]) rfl rfl rfl rfl rfl ?_
  refine R_build rfl rfl ?_
  refine R_alloc rfl ?_
  refine R_alloc rfl ?_
  refine R_storeD rfl rfl rfl rfl rfl rfl rfl rfl rfl ?_
  refine R_storeD rfl rfl rfl rfl rfl rfl rfl rfl rfl ?_
  refine hK _ _ (TW_keep (keep_cons rfl (keep_cons rfl (keep_cons rfl (keep_nil)))) ?_)
  clear hK K
  refine R_seq fun K hK => ?_
  refine R_loadA (cs := [_, _, _, _, _, _, _]) rfl rfl rfl rfl ?_
  refine R_loadA (cs := [_, _, _, _, _, _, _]) rfl rfl rfl rfl ?_
  refine R_call (c_cut_Compare (by decide) (by decide) (by decide) (by decide)) rfl rfl (.inr rfl) ?_
  refine R_eqI rfl rfl ?_
  refine R_mov rfl ?_
  refine G_split (g := 13) rfl (fun h1 => ?_) (fun h1 => ?_)
  · try rw [h1]
    try simp only [decide_eq_true_eq, decide_eq_false_iff_not, Bool.not_eq_eq_eq_not, Bool.not_true, Bool.not_false] at h1
    first
      | exfalso; revert h1; decide
      | skip
        refine G_yes rfl ?_
        refine R_loadA (cs := [_, _, _, _, _, _, _]) rfl rfl rfl rfl ?_
        refine G_yes rfl ?_
        refine R_loadA (cs := [_, _, _, _, _]) rfl rfl rfl rfl ?_
        refine G_yes rfl ?_
        refine R_call (c_cut_Ahead (by decide) (by decide) (by decide) (by decide)) rfl rfl (.inr rfl) ?_
        refine R_pick rfl rfl ?_
        refine R_mov rfl ?_
        refine G_split (g := 18) rfl (fun h2 => ?_) (fun h2 => ?_)
        · try rw [h2]
          try simp only [decide_eq_true_eq, decide_eq_false_iff_not, Bool.not_eq_eq_eq_not, Bool.not_true, Bool.not_false] at h2
          first
            | exfalso; revert h2; decide
            | skip
              refine G_yes rfl ?_
              refine R_loadA (cs := [_, _, _, _, _, _, _]) rfl rfl rfl rfl ?_
              refine G_yes rfl ?_
              refine R_loadA (cs := [_, _, _, _, _]) rfl rfl rfl rfl ?_
              refine G_yes rfl ?_
              refine R_call (c_cut_Ahead (by decide) (by decide) (by decide) (by decide)) rfl rfl (.inr rfl) ?_
              refine G_yes rfl ?_
              refine R_not rfl ?_
              refine R_pick rfl rfl ?_
              refine R_mov rfl ?_
              refine G_split (g := 24) rfl (fun h3 => ?_) (fun h3 => ?_)
              · try rw [h3]
                try simp only [decide_eq_true_eq, decide_eq_false_iff_not, Bool.not_eq_eq_eq_not, Bool.not_true, Bool.not_false] at h3
                first
                  | exfalso; revert h3; decide
                  | skip
                    refine G_yes rfl ?_
                    refine R_loadA (cs := [_, _, _, _, _, _, _]) rfl rfl rfl rfl ?_
                    refine G_yes rfl ?_
                    refine R_loadA (cs := [_, _, _, _, _, _, _]) rfl rfl rfl rfl ?_
                    refine G_yes rfl ?_
                    refine R_build rfl rfl ?_
                    refine G_yes rfl ?_
                    refine R_loadA (cs := [_, _, _, _, _]) rfl rfl rfl rfl ?_
                    refine G_yes rfl ?_
                    refine R_call (c_cut_Holds (by decide) (by decide) (by decide) (by decide) (by decide) (by decide)) rfl rfl (.inr rfl) ?_
                    refine R_pick rfl rfl ?_
                    refine R_mov rfl ?_
                    refine G_split (g := 31) rfl (fun h4 => ?_) (fun h4 => ?_)
                    · try rw [h4]
                      try simp only [decide_eq_true_eq, decide_eq_false_iff_not, Bool.not_eq_eq_eq_not, Bool.not_true, Bool.not_false] at h4
                      first
                        | exfalso; revert h4; decide
                        | skip
                          refine G_yes rfl ?_
                          refine R_build rfl rfl ?_
                          refine G_yes rfl ?_
                          refine R_call (c_cut_May (by decide) (by decide)) rfl rfl (.inr rfl) ?_
                          refine R_pick rfl rfl ?_
                          refine R_mov rfl ?_
                          refine G_split (g := 35) rfl (fun h5 => ?_) (fun h5 => ?_)
                          · try rw [h5]
                            try simp only [decide_eq_true_eq, decide_eq_false_iff_not, Bool.not_eq_eq_eq_not, Bool.not_true, Bool.not_false] at h5
                            first
                              | exfalso; revert h5; decide
                              | skip
                                refine G_yes rfl ?_
                                refine R_build rfl rfl ?_
                                refine G_yes rfl ?_
                                refine R_call (c_cut_May (by decide) (by decide)) rfl rfl (.inr rfl) ?_
                                refine G_yes rfl ?_
                                refine R_not rfl ?_
                                refine R_pick rfl rfl ?_
                                refine R_mov rfl ?_
                                refine hK _ _ (TW_keep (keep_cons rfl (keep_nil)) ?_)
                                clear hK K
                                refine T_ret ?_
                                refine post_retB rfl ?_
                                decide
                          · try rw [h5]
                            try simp only [decide_eq_true_eq, decide_eq_false_iff_not, Bool.not_eq_eq_eq_not, Bool.not_true, Bool.not_false] at h5
                            first
                              | exfalso; revert h5; decide
                              | skip
                                refine G_no rfl ?_
                                refine G_no rfl ?_
                                refine G_no rfl ?_
                                refine R_pick rfl rfl ?_
                                refine R_mov rfl ?_
                                refine hK _ _ (TW_keep (keep_cons rfl (keep_nil)) ?_)
                                clear hK K
                                refine T_ret ?_
                                refine post_retB rfl ?_
                                decide
                    · try rw [h4]
                      try simp only [decide_eq_true_eq, decide_eq_false_iff_not, Bool.not_eq_eq_eq_not, Bool.not_true, Bool.not_false] at h4
                      first
                        | exfalso; revert h4; decide
                        | skip
                          refine G_no rfl ?_
                          refine G_no rfl ?_
                          refine R_pick rfl rfl ?_
                          refine R_mov rfl ?_
                          refine G_no rfl ?_
                          refine G_no rfl ?_
                          refine G_no rfl ?_
                          refine R_pick rfl rfl ?_
                          refine R_mov rfl ?_
                          refine hK _ _ (TW_keep (keep_cons rfl (keep_nil)) ?_)
                          clear hK K
                          refine T_ret ?_
                          refine post_retB rfl ?_
                          decide
              · try rw [h3]
                try simp only [decide_eq_true_eq, decide_eq_false_iff_not, Bool.not_eq_eq_eq_not, Bool.not_true, Bool.not_false] at h3
                first
                  | exfalso; revert h3; decide
                  | skip
                    refine G_no rfl ?_
                    refine G_no rfl ?_
                    refine G_no rfl ?_
                    refine G_no rfl ?_
                    refine G_no rfl ?_
                    refine R_pick rfl rfl ?_
                    refine R_mov rfl ?_
                    refine G_no rfl ?_
                    refine G_no rfl ?_
                    refine R_pick rfl rfl ?_
                    refine R_mov rfl ?_
                    refine G_no rfl ?_
                    refine G_no rfl ?_
                    refine G_no rfl ?_
                    refine R_pick rfl rfl ?_
                    refine R_mov rfl ?_
                    refine hK _ _ (TW_keep (keep_cons rfl (keep_nil)) ?_)
                    clear hK K
                    refine T_ret ?_
                    refine post_retB rfl ?_
                    decide
        · try rw [h2]
          try simp only [decide_eq_true_eq, decide_eq_false_iff_not, Bool.not_eq_eq_eq_not, Bool.not_true, Bool.not_false] at h2
          first
            | exfalso; revert h2; decide
            | skip
              refine G_no rfl ?_
              refine G_no rfl ?_
              refine G_no rfl ?_
              refine G_no rfl ?_
              refine R_pick rfl rfl ?_
              refine R_mov rfl ?_
              refine G_no rfl ?_
              refine G_no rfl ?_
              refine G_no rfl ?_
              refine G_no rfl ?_
              refine G_no rfl ?_
              refine R_pick rfl rfl ?_
              refine R_mov rfl ?_
              refine G_no rfl ?_
              refine G_no rfl ?_
              refine R_pick rfl rfl ?_
              refine R_mov rfl ?_
              refine G_no rfl ?_
              refine G_no rfl ?_
              refine G_no rfl ?_
              refine R_pick rfl rfl ?_
              refine R_mov rfl ?_
              refine hK _ _ (TW_keep (keep_cons rfl (keep_nil)) ?_)
              clear hK K
              refine T_ret ?_
              refine post_retB rfl ?_
              decide
  · try rw [h1]
    try simp only [decide_eq_true_eq, decide_eq_false_iff_not, Bool.not_eq_eq_eq_not, Bool.not_true, Bool.not_false] at h1
    first
      | exfalso; revert h1; decide
      | skip
        refine G_no rfl ?_
        refine G_no rfl ?_
        refine G_no rfl ?_
        refine R_pick rfl rfl ?_
        refine R_mov rfl ?_
        refine G_no rfl ?_
        refine G_no rfl ?_
        refine G_no rfl ?_
        refine G_no rfl ?_
        refine R_pick rfl rfl ?_
        refine R_mov rfl ?_
        refine G_no rfl ?_
        refine G_no rfl ?_
        refine G_no rfl ?_
        refine G_no rfl ?_
        refine G_no rfl ?_
        refine R_pick rfl rfl ?_
        refine R_mov rfl ?_
        refine G_no rfl ?_
        refine G_no rfl ?_
        refine R_pick rfl rfl ?_
        refine R_mov rfl ?_
        refine G_no rfl ?_
        refine G_no rfl ?_
        refine G_no rfl ?_
        refine R_pick rfl rfl ?_
        refine R_mov rfl ?_
        refine hK _ _ (TW_keep (keep_cons rfl (keep_nil)) ?_)
        clear hK K
        refine T_ret ?_
        refine post_retB rfl ?_
        decide

end Go.Proofs
namespace Go.Proofs
open Go Go.Abs M3
set_option linter.unusedVariables false
set_option linter.unusedSimpArgs false

theorem c_linchpinlaw3_CutRaw {e a b c : Int} {p q : List UInt8} {f : Bool} {e' a' b' c' : Int} {p' q' : List UInt8} {f' : Bool} {x y z : Int} {r s : List UInt8} : Ok Try.prog 3 [.agg [.int .i64 e, .int .i64 a, .int .i64 b, .int .i64 c, .str p, .str q, .bool f], .agg [.int .i64 e', .int .i64 a', .int .i64 b', .int .i64 c', .str p', .str q', .bool f'], .agg [.int .i64 x, .int .i64 y, .int .i64 z, .str r, .str s]] (.bool true) := by
  refine Ok.ofT tfol Try.func3 tp3 (Nat.le_of_ble_eq_true rfl) ?_
  show TW _ _ tf3.body _ _
  refine R_seq fun K hK => ?_
  refine R_box rfl rfl rfl ?_
  refine R_box rfl rfl rfl ?_
  refine R_box rfl rfl rfl ?_
  refine R_mov rfl ?_
  refine hK _ _ (TW_keep (keep_cons rfl (keep_cons rfl (keep_cons rfl (keep_nil)))) ?_)
  clear hK K
  refine T_seq ?_ -- 0
  refine R_seq fun K hK => ?_
  refine R_loadA (cs := [_, _, _, _, _, _, _]) rfl rfl rfl rfl ?_
  refine R_call (c_linchpinlaw3_short) rfl rfl (.inr rfl) ?_
  refine R_not rfl ?_
  refine R_mov rfl ?_
  refine G_split (g := 10) rfl (fun h1 => ?_) (fun h1 => ?_)
  · try rw [h1]
    try simp only [decide_eq_true_eq, decide_eq_false_iff_not, Bool.not_eq_eq_eq_not, Bool.not_true, Bool.not_false, Bool.and_eq_true, decide_eq_true_eq] at h1
    refine G_no rfl ?_
    refine G_no rfl ?_
    refine G_no rfl ?_
    refine R_pick rfl rfl ?_
    refine R_mov rfl ?_
    refine G_no rfl ?_
    refine G_no rfl ?_
    refine G_no rfl ?_
    refine G_no rfl ?_
    refine R_pick rfl rfl ?_
    refine R_mov rfl ?_
    refine G_no rfl ?_
    refine G_no rfl ?_
    refine G_no rfl ?_
    refine G_no rfl ?_
    refine R_pick rfl rfl ?_
    refine hK _ _ (TW_keep (keep_cons rfl (keep_cons rfl (keep_cons rfl (keep_cons rfl (keep_nil))))) ?_)
    clear hK K
    refine T_condT rfl ?_
    refine R_seq fun K hK => ?_
    refine R_call (c_linchpinlaw3_awake) rfl rfl (.inr rfl) ?_
    refine R_mov rfl ?_
    refine hK _ _ (TW_keep (keep_cons rfl (keep_nil)) ?_)
    clear hK K
    refine T_ret ?_
    refine seqT_ret ?_
    refine post_retB rfl ?_
    first | rfl | (simp_all; done)
  · try rw [h1]
    try simp only [decide_eq_true_eq, decide_eq_false_iff_not, Bool.not_eq_eq_eq_not, Bool.not_true, Bool.not_false, Bool.and_eq_true, decide_eq_true_eq] at h1
    refine G_yes rfl ?_
    refine R_loadA (cs := [_, _, _, _, _, _, _]) rfl rfl rfl rfl ?_
    refine G_yes rfl ?_
    refine R_call (c_linchpinlaw3_short) rfl rfl (.inr rfl) ?_
    refine G_yes rfl ?_
    refine R_not rfl ?_
    refine R_pick rfl rfl ?_
    refine R_mov rfl ?_
    refine G_split (g := 15) rfl (fun h2 => ?_) (fun h2 => ?_)
    · try rw [h2]
      try simp only [decide_eq_true_eq, decide_eq_false_iff_not, Bool.not_eq_eq_eq_not, Bool.not_true, Bool.not_false, Bool.and_eq_true, decide_eq_true_eq] at h2
      refine G_no rfl ?_
      refine G_no rfl ?_
      refine G_no rfl ?_
      refine G_no rfl ?_
      refine R_pick rfl rfl ?_
      refine R_mov rfl ?_
      refine G_no rfl ?_
      refine G_no rfl ?_
      refine G_no rfl ?_
      refine G_no rfl ?_
      refine R_pick rfl rfl ?_
      refine hK _ _ (TW_keep (keep_cons rfl (keep_cons rfl (keep_cons rfl (keep_cons rfl (keep_nil))))) ?_)
      clear hK K
      refine T_condT rfl ?_
      refine R_seq fun K hK => ?_
      refine R_call (c_linchpinlaw3_awake) rfl rfl (.inr rfl) ?_
      refine R_mov rfl ?_
      refine hK _ _ (TW_keep (keep_cons rfl (keep_nil)) ?_)
      clear hK K
      refine T_ret ?_
      refine seqT_ret ?_
      refine post_retB rfl ?_
      first | rfl | (simp_all; done)
    · try rw [h2]
      try simp only [decide_eq_true_eq, decide_eq_false_iff_not, Bool.not_eq_eq_eq_not, Bool.not_true, Bool.not_false, Bool.and_eq_true, decide_eq_true_eq] at h2
      refine G_yes rfl ?_
      refine R_fieldR rfl rfl ?_
      refine G_yes rfl ?_
      refine R_load rfl rfl rfl ?_
      refine G_yes rfl ?_
      refine R_lenStr rfl ?_
      refine G_yes rfl ?_
      refine R_gt rfl rfl ?_
      refine R_pick rfl rfl ?_
      refine R_mov rfl ?_
      refine G_split (g := 21) rfl (fun h3 => ?_) (fun h3 => ?_)
      · try rw [h3]
        try simp only [decide_eq_true_eq, decide_eq_false_iff_not, Bool.not_eq_eq_eq_not, Bool.not_true, Bool.not_false, Bool.and_eq_true, decide_eq_true_eq] at h3
        refine G_no rfl ?_
        refine G_no rfl ?_
        refine G_no rfl ?_
        refine G_no rfl ?_
        refine R_pick rfl rfl ?_
        refine hK _ _ (TW_keep (keep_cons rfl (keep_cons rfl (keep_cons rfl (keep_cons rfl (keep_nil))))) ?_)
        clear hK K
        refine T_condT rfl ?_
        refine R_seq fun K hK => ?_
        refine R_call (c_linchpinlaw3_awake) rfl rfl (.inr rfl) ?_
        refine R_mov rfl ?_
        refine hK _ _ (TW_keep (keep_cons rfl (keep_nil)) ?_)
        clear hK K
        refine T_ret ?_
        refine seqT_ret ?_
        refine post_retB rfl ?_
        first | rfl | (simp_all; done)
      · try rw [h3]
        try simp only [decide_eq_true_eq, decide_eq_false_iff_not, Bool.not_eq_eq_eq_not, Bool.not_true, Bool.not_false, Bool.and_eq_true, decide_eq_true_eq] at h3
        refine G_yes rfl ?_
        refine R_fieldR rfl rfl ?_
        refine G_yes rfl ?_
        refine R_load rfl rfl rfl ?_
        refine G_yes rfl ?_
        refine R_lenStr rfl ?_
        refine G_yes rfl ?_
        refine R_gt rfl rfl ?_
        refine R_pick rfl rfl ?_
        refine hK _ _ (TW_keep (keep_cons rfl (keep_cons rfl (keep_cons rfl (keep_cons rfl (keep_nil))))) ?_)
        clear hK K
        refine T_cond rfl (fun h4 => ?_) (fun h4 => ?_)
        · try rw [h4]
          try simp only [decide_eq_true_eq, decide_eq_false_iff_not, Bool.not_eq_eq_eq_not, Bool.not_true, Bool.not_false, Bool.and_eq_true, decide_eq_true_eq] at h4
          refine R_seq fun K hK => ?_
          refine R_call (c_linchpinlaw3_awake) rfl rfl (.inr rfl) ?_
          refine R_mov rfl ?_
          refine hK _ _ (TW_keep (keep_cons rfl (keep_nil)) ?_)
          clear hK K
          refine T_ret ?_
          refine seqT_ret ?_
          refine post_retB rfl ?_
          first | rfl | (simp_all; done)
        · try rw [h4]
          try simp only [decide_eq_true_eq, decide_eq_false_iff_not, Bool.not_eq_eq_eq_not, Bool.not_true, Bool.not_false, Bool.and_eq_true, decide_eq_true_eq] at h4
          refine T_skip ?_
          refine seqT_keep (keep_cons rfl (keep_cons rfl (keep_cons rfl (keep_nil)))) ?_
          refine R_seq fun K hK => ?_
          refine R_callD (c_linchpinlaw3_awake) rfl rfl (.inr rfl) rfl ?_
          refine R_mov rfl ?_
          refine G_yes rfl ?_
          refine R_loadAD (cs := [_, _, _, _, _, _, _]) rfl rfl rfl rfl rfl ?_
          refine G_yes rfl ?_
          refine R_callD (c_cut_May (by omega) (by omega)) rfl rfl (.inr rfl) rfl ?_
          refine G_yes rfl ?_
          refine R_loadAD (cs := [_, _, _, _, _, _, _]) rfl rfl rfl rfl rfl ?_
          refine G_yes rfl ?_
          refine R_callD (c_linchpinref3_May (by omega) (by omega)) rfl rfl (.inr rfl) rfl ?_
          refine G_yes rfl ?_
          refine R_eqB rfl rfl ?_
          refine R_pick rfl rfl ?_
          refine R_mov rfl ?_
          refine G_split (g := 36) rfl (fun h5 => ?_) (fun h5 => ?_)
          · try rw [h5]
            try simp only [decide_eq_true_eq, decide_eq_false_iff_not, Bool.not_eq_eq_eq_not, Bool.not_true, Bool.not_false, Bool.and_eq_true, decide_eq_true_eq] at h5
            refine G_yes rfl ?_
            refine R_loadAD (cs := [_, _, _, _, _, _, _]) rfl rfl rfl rfl rfl ?_
            refine G_yes rfl ?_
            refine R_loadAD (cs := [_, _, _, _, _, _, _]) rfl rfl rfl rfl rfl ?_
            refine G_yes rfl ?_
            refine R_callD (c_cut_Compare (by omega) (by omega) (by omega) (by omega)) rfl rfl (.inr rfl) rfl ?_
            refine G_yes rfl ?_
            refine R_loadAD (cs := [_, _, _, _, _, _, _]) rfl rfl rfl rfl rfl ?_
            refine G_yes rfl ?_
            refine R_loadAD (cs := [_, _, _, _, _, _, _]) rfl rfl rfl rfl rfl ?_
            refine G_yes rfl ?_
            refine R_callD (c_linchpinref3_Compare (by omega) (by omega) (by omega) (by omega)) rfl rfl (.inr rfl) rfl ?_
            refine G_yes rfl ?_
            refine R_eqI rfl rfl ?_
            refine R_pick rfl rfl ?_
            refine R_mov rfl ?_
            refine G_split (g := 45) rfl (fun h6 => ?_) (fun h6 => ?_)
            · try rw [h6]
              try simp only [decide_eq_true_eq, decide_eq_false_iff_not, Bool.not_eq_eq_eq_not, Bool.not_true, Bool.not_false, Bool.and_eq_true, decide_eq_true_eq] at h6
              refine G_yes rfl ?_
              refine R_loadAD (cs := [_, _, _, _, _, _, _]) rfl rfl rfl rfl rfl ?_
              refine G_yes rfl ?_
              refine R_loadAD (cs := [_, _, _, _, _]) rfl rfl rfl rfl rfl ?_
              refine G_yes rfl ?_
              refine R_callD (c_cut_Ahead (by omega) (by omega) (by omega) (by omega)) rfl rfl (.inr rfl) rfl ?_
              refine G_yes rfl ?_
              refine R_loadAD (cs := [_, _, _, _, _, _, _]) rfl rfl rfl rfl rfl ?_
              refine G_yes rfl ?_
              refine R_loadAD (cs := [_, _, _, _, _]) rfl rfl rfl rfl rfl ?_
              refine G_yes rfl ?_
              refine R_callD (c_linchpinref3_Ahead (by omega) (by omega) (by omega) (by omega)) rfl rfl (.inr rfl) rfl ?_
              refine G_yes rfl ?_
              refine R_eqB rfl rfl ?_
              refine R_pick rfl rfl ?_
              refine R_mov rfl ?_
              refine hK _ _ (TW_keep (keep_cons rfl (keep_nil)) ?_)
              clear hK K
              refine T_ret ?_
              refine post_retB rfl ?_
              first | rfl | (simp_all; done)
            · try rw [h6]
              try simp only [decide_eq_true_eq, decide_eq_false_iff_not, Bool.not_eq_eq_eq_not, Bool.not_true, Bool.not_false, Bool.and_eq_true, decide_eq_true_eq] at h6
              refine G_no rfl ?_
              refine G_no rfl ?_
              refine G_no rfl ?_
              refine G_no rfl ?_
              refine G_no rfl ?_
              refine G_no rfl ?_
              refine G_no rfl ?_
              refine R_pick rfl rfl ?_
              refine R_mov rfl ?_
              refine hK _ _ (TW_keep (keep_cons rfl (keep_nil)) ?_)
              clear hK K
              refine T_ret ?_
              refine post_retB rfl ?_
              first | rfl | (simp_all; done)
          · try rw [h5]
            try simp only [decide_eq_true_eq, decide_eq_false_iff_not, Bool.not_eq_eq_eq_not, Bool.not_true, Bool.not_false, Bool.and_eq_true, decide_eq_true_eq] at h5
            refine G_no rfl ?_
            refine G_no rfl ?_
            refine G_no rfl ?_
            refine G_no rfl ?_
            refine G_no rfl ?_
            refine G_no rfl ?_
            refine G_no rfl ?_
            refine R_pick rfl rfl ?_
            refine R_mov rfl ?_
            refine G_no rfl ?_
            refine G_no rfl ?_
            refine G_no rfl ?_
            refine G_no rfl ?_
            refine G_no rfl ?_
            refine G_no rfl ?_
            refine G_no rfl ?_
            refine R_pick rfl rfl ?_
            refine R_mov rfl ?_
            refine hK _ _ (TW_keep (keep_cons rfl (keep_nil)) ?_)
            clear hK K
            refine T_ret ?_
            refine post_retB rfl ?_
            first | rfl | (simp_all; done)

theorem c_linchpinlaw3_CutSpans {e a b c : Int} {p q : List UInt8} {f : Bool} {e' a' b' c' : Int} {p' q' : List UInt8} {f' : Bool} {x y z : Int} {r s : List UInt8} : Ok Try.prog 4 [.agg [.int .i64 e, .int .i64 a, .int .i64 b, .int .i64 c, .str p, .str q, .bool f, .int .i64 e', .int .i64 a', .int .i64 b', .int .i64 c', .str p', .str q', .bool f'], .agg [.int .i64 x, .int .i64 y, .int .i64 z, .str r, .str s]] (.bool true) := by
  refine Ok.ofT tfol Try.func4 tp4 (Nat.le_of_ble_eq_true rfl) ?_
  show TW _ _ tf4.body _ _
  refine R_seq fun K hK => ?_
  refine R_box rfl rfl rfl ?_
  refine R_box rfl rfl rfl ?_
  refine R_mov rfl ?_
  refine hK _ _ (TW_keep (keep_cons rfl (keep_cons rfl (keep_nil))) ?_)
  clear hK K
  refine T_seq ?_ -- 0
  refine R_seq fun K hK => ?_
  refine R_fieldR rfl rfl ?_
  refine R_loadA (cs := [_, _, _, _, _, _, _]) rfl rfl rfl rfl ?_
  refine R_call (c_linchpinlaw3_short) rfl rfl (.inr rfl) ?_
  refine R_not rfl ?_
  refine R_mov rfl ?_
  refine G_split (g := 9) rfl (fun h1 => ?_) (fun h1 => ?_)
  · try rw [h1]
    try simp only [decide_eq_true_eq, decide_eq_false_iff_not, Bool.not_eq_eq_eq_not, Bool.not_true, Bool.not_false, Bool.and_eq_true, decide_eq_true_eq] at h1
    refine G_no rfl ?_
    refine G_no rfl ?_
    refine G_no rfl ?_
    refine G_no rfl ?_
    refine R_pick rfl rfl ?_
    refine R_mov rfl ?_
    refine G_no rfl ?_
    refine G_no rfl ?_
    refine G_no rfl ?_
    refine G_no rfl ?_
    refine R_pick rfl rfl ?_
    refine R_mov rfl ?_
    refine G_no rfl ?_
    refine G_no rfl ?_
    refine G_no rfl ?_
    refine G_no rfl ?_
    refine R_pick rfl rfl ?_
    refine hK _ _ (TW_keep (keep_cons rfl (keep_cons rfl (keep_cons rfl (keep_nil)))) ?_)
    clear hK K
    refine T_condT rfl ?_
    refine R_seq fun K hK => ?_
    refine R_call (c_linchpinlaw3_awake) rfl rfl (.inr rfl) ?_
    refine R_mov rfl ?_
    refine hK _ _ (TW_keep (keep_cons rfl (keep_nil)) ?_)
    clear hK K
    refine T_ret ?_
    refine seqT_ret ?_
    refine post_retB rfl ?_
    first | rfl | (simp_all; done)
  · try rw [h1]
    try simp only [decide_eq_true_eq, decide_eq_false_iff_not, Bool.not_eq_eq_eq_not, Bool.not_true, Bool.not_false, Bool.and_eq_true, decide_eq_true_eq] at h1
    refine G_yes rfl ?_
    refine R_fieldR rfl rfl ?_
    refine G_yes rfl ?_
    refine R_loadA (cs := [_, _, _, _, _, _, _]) rfl rfl rfl rfl ?_
    refine G_yes rfl ?_
    refine R_call (c_linchpinlaw3_short) rfl rfl (.inr rfl) ?_
    refine G_yes rfl ?_
    refine R_not rfl ?_
    refine R_pick rfl rfl ?_
    refine R_mov rfl ?_
    refine G_split (g := 15) rfl (fun h2 => ?_) (fun h2 => ?_)
    · try rw [h2]
      try simp only [decide_eq_true_eq, decide_eq_false_iff_not, Bool.not_eq_eq_eq_not, Bool.not_true, Bool.not_false, Bool.and_eq_true, decide_eq_true_eq] at h2
      refine G_no rfl ?_
      refine G_no rfl ?_
      refine G_no rfl ?_
      refine G_no rfl ?_
      refine R_pick rfl rfl ?_
      refine R_mov rfl ?_
      refine G_no rfl ?_
      refine G_no rfl ?_
      refine G_no rfl ?_
      refine G_no rfl ?_
      refine R_pick rfl rfl ?_
      refine hK _ _ (TW_keep (keep_cons rfl (keep_cons rfl (keep_cons rfl (keep_nil)))) ?_)
      clear hK K
      refine T_condT rfl ?_
      refine R_seq fun K hK => ?_
      refine R_call (c_linchpinlaw3_awake) rfl rfl (.inr rfl) ?_
      refine R_mov rfl ?_
      refine hK _ _ (TW_keep (keep_cons rfl (keep_nil)) ?_)
      clear hK K
      refine T_ret ?_
      refine seqT_ret ?_
      refine post_retB rfl ?_
      first | rfl | (simp_all; done)
    · try rw [h2]
      try simp only [decide_eq_true_eq, decide_eq_false_iff_not, Bool.not_eq_eq_eq_not, Bool.not_true, Bool.not_false, Bool.and_eq_true, decide_eq_true_eq] at h2
      refine G_yes rfl ?_
      refine R_fieldR rfl rfl ?_
      refine G_yes rfl ?_
      refine R_load rfl rfl rfl ?_
      refine G_yes rfl ?_
      refine R_lenStr rfl ?_
      refine G_yes rfl ?_
      refine R_gt rfl rfl ?_
      refine R_pick rfl rfl ?_
      refine R_mov rfl ?_
      refine G_split (g := 21) rfl (fun h3 => ?_) (fun h3 => ?_)
      · try rw [h3]
        try simp only [decide_eq_true_eq, decide_eq_false_iff_not, Bool.not_eq_eq_eq_not, Bool.not_true, Bool.not_false, Bool.and_eq_true, decide_eq_true_eq] at h3
        refine G_no rfl ?_
        refine G_no rfl ?_
        refine G_no rfl ?_
        refine G_no rfl ?_
        refine R_pick rfl rfl ?_
        refine hK _ _ (TW_keep (keep_cons rfl (keep_cons rfl (keep_cons rfl (keep_nil)))) ?_)
        clear hK K
        refine T_condT rfl ?_
        refine R_seq fun K hK => ?_
        refine R_call (c_linchpinlaw3_awake) rfl rfl (.inr rfl) ?_
        refine R_mov rfl ?_
        refine hK _ _ (TW_keep (keep_cons rfl (keep_nil)) ?_)
        clear hK K
        refine T_ret ?_
        refine seqT_ret ?_
        refine post_retB rfl ?_
        first | rfl | (simp_all; done)
      · try rw [h3]
        try simp only [decide_eq_true_eq, decide_eq_false_iff_not, Bool.not_eq_eq_eq_not, Bool.not_true, Bool.not_false, Bool.and_eq_true, decide_eq_true_eq] at h3
        refine G_yes rfl ?_
        refine R_fieldR rfl rfl ?_
        refine G_yes rfl ?_
        refine R_load rfl rfl rfl ?_
        refine G_yes rfl ?_
        refine R_lenStr rfl ?_
        refine G_yes rfl ?_
        refine R_gt rfl rfl ?_
        refine R_pick rfl rfl ?_
        refine hK _ _ (TW_keep (keep_cons rfl (keep_cons rfl (keep_cons rfl (keep_nil)))) ?_)
        clear hK K
        refine T_cond rfl (fun h4 => ?_) (fun h4 => ?_)
        · try rw [h4]
          try simp only [decide_eq_true_eq, decide_eq_false_iff_not, Bool.not_eq_eq_eq_not, Bool.not_true, Bool.not_false, Bool.and_eq_true, decide_eq_true_eq] at h4
          refine R_seq fun K hK => ?_
          refine R_call (c_linchpinlaw3_awake) rfl rfl (.inr rfl) ?_
          refine R_mov rfl ?_
          refine hK _ _ (TW_keep (keep_cons rfl (keep_nil)) ?_)
          clear hK K
          refine T_ret ?_
          refine seqT_ret ?_
          refine post_retB rfl ?_
          first | rfl | (simp_all; done)
        · try rw [h4]
          try simp only [decide_eq_true_eq, decide_eq_false_iff_not, Bool.not_eq_eq_eq_not, Bool.not_true, Bool.not_false, Bool.and_eq_true, decide_eq_true_eq] at h4
          refine T_skip ?_
          refine seqT_keep (keep_cons rfl (keep_cons rfl (keep_nil))) ?_
          refine R_seq fun K hK => ?_
          refine R_callD (c_linchpinlaw3_awake) rfl rfl (.inr rfl) rfl ?_
          refine R_mov rfl ?_
          refine G_yes rfl ?_
          refine R_loadAD (cs := [_, _, _, _, _, _, _, _, _, _, _, _, _, _]) rfl rfl rfl rfl rfl ?_
          refine G_yes rfl ?_
          refine R_callD (c_cut_SpanMay (by omega) (by omega) (by omega) (by omega)) rfl rfl (.inr rfl) rfl ?_
          refine G_yes rfl ?_
          refine R_loadAD (cs := [_, _, _, _, _, _, _, _, _, _, _, _, _, _]) rfl rfl rfl rfl rfl ?_
          refine G_yes rfl ?_
          refine R_callD (c_linchpinref3_SpanMay (by omega) (by omega) (by omega) (by omega)) rfl rfl (.inr rfl) rfl ?_
          refine G_yes rfl ?_
          refine R_eqB rfl rfl ?_
          refine R_pick rfl rfl ?_
          refine R_mov rfl ?_
          refine G_split (g := 36) rfl (fun h5 => ?_) (fun h5 => ?_)
          · try rw [h5]
            try simp only [decide_eq_true_eq, decide_eq_false_iff_not, Bool.not_eq_eq_eq_not, Bool.not_true, Bool.not_false, Bool.and_eq_true, decide_eq_true_eq] at h5
            refine G_yes rfl ?_
            refine R_loadAD (cs := [_, _, _, _, _, _, _, _, _, _, _, _, _, _]) rfl rfl rfl rfl rfl ?_
            refine G_yes rfl ?_
            refine R_loadAD (cs := [_, _, _, _, _]) rfl rfl rfl rfl rfl ?_
            refine G_yes rfl ?_
            refine R_callD (c_cut_Holds (by omega) (by omega) (by omega) (by omega) (by omega) (by omega)) rfl rfl (.inr rfl) rfl ?_
            refine G_yes rfl ?_
            refine R_loadAD (cs := [_, _, _, _, _, _, _, _, _, _, _, _, _, _]) rfl rfl rfl rfl rfl ?_
            refine G_yes rfl ?_
            refine R_loadAD (cs := [_, _, _, _, _]) rfl rfl rfl rfl rfl ?_
            refine G_yes rfl ?_
            refine R_callD (c_linchpinref3_Holds (by omega) (by omega) (by omega) (by omega) (by omega) (by omega)) rfl rfl (.inr rfl) rfl ?_
            refine G_yes rfl ?_
            refine R_eqB rfl rfl ?_
            refine R_pick rfl rfl ?_
            refine R_mov rfl ?_
            refine hK _ _ (TW_keep (keep_cons rfl (keep_nil)) ?_)
            clear hK K
            refine T_ret ?_
            refine post_retB rfl ?_
            first | rfl | (simp_all; done)
          · try rw [h5]
            try simp only [decide_eq_true_eq, decide_eq_false_iff_not, Bool.not_eq_eq_eq_not, Bool.not_true, Bool.not_false, Bool.and_eq_true, decide_eq_true_eq] at h5
            refine G_no rfl ?_
            refine G_no rfl ?_
            refine G_no rfl ?_
            refine G_no rfl ?_
            refine G_no rfl ?_
            refine G_no rfl ?_
            refine G_no rfl ?_
            refine R_pick rfl rfl ?_
            refine R_mov rfl ?_
            refine hK _ _ (TW_keep (keep_cons rfl (keep_nil)) ?_)
            clear hK K
            refine T_ret ?_
            refine post_retB rfl ?_
            first | rfl | (simp_all; done)

end Go.Proofs
