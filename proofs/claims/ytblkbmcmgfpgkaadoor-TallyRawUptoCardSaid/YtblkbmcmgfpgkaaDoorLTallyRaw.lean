/- The law TallyRaw of linchpinlaw20 returns true at every input, and leaves its arguments as they were. It holds for every input of the bulk that the row tells; the one listed variable reads as the program's text lays it (the tie is given). -/
import Derived.Test.YtblkbmcmgfpgkaaDoorB6
import Derived.Test.YtblkbmcmgfpgkaaDoorRows
import Derived.Test.YtblkbmcmgfpgkaaDoorCards
import Derived.Test.YtblkbmcmgfpgkaaDoorTie
import Derived.OpenShut
import Derived.Deep.DeepHandedRow
namespace Go.Proofs.YtblkbmcmgfpgkaaDoor
open Go Go.ChangeShapes Go.WideShapes Go.ChangeAt Go.RowKit Go.Abs M3 M25

theorem tallyRaw_own : ownKnob Tryd.prog.godebug = none := by kernel_rfl
theorem tallyRaw_laid : laidOutB Tryd.prog = true := by kernel_rfl

theorem tallyRaw_args {Ds : List D} (h : SatAs [.agg [.sl [.str, .str, .sl [.int .i64, .int .i64, .int .i64, .str, .str, .int .i64, .sl [.sl [.int .i64, .sl [.int .i64, .int .i64, .int .i64, .int .i64, .str, .str, .bool, .int .i64, .int .i64, .int .i64, .int .i64, .str, .str, .bool], .sl [.int .i64, .int .i64, .int .i64, .int .i64, .str, .str, .bool, .int .i64, .int .i64, .int .i64, .int .i64, .str, .str, .bool]]], .sl [.int .i64, .sl [.int .i64, .int .i64, .int .i64, .int .i64, .str, .str, .bool, .int .i64, .int .i64, .int .i64, .int .i64, .str, .str, .bool], .sl [.int .i64, .int .i64, .int .i64, .int .i64, .str, .str, .bool, .int .i64, .int .i64, .int .i64, .int .i64, .str, .str, .bool]]]]], .one (.int .i64)] Ds) : Ok Tryd.prog 4 (Ds ++ [zeroG]) (.bool true) := by
  obtain ⟨w, n, rfl, hw, hn⟩ := sat_argsN h
  exact c_linchpinlaw20_TallyRaw hw hn

mutual
theorem tallyRaw_b1 {H : Type} : ∀ d : DataW H, bulkW d = Rows.uptoBulk d
  | .lit l => by cases l <;> simp only [bulkW, Rows.uptoBulk]
  | .nil => by simp only [bulkW, Rows.uptoBulk]
  | .ptr d => by simp only [bulkW, Rows.uptoBulk]; rw [tallyRaw_b1 d]
  | .slice a b => by simp only [bulkW, Rows.uptoBulk]; rw [tallyRaw_b2 a, tallyRaw_b2 b]
  | .agg l => by simp only [bulkW, Rows.uptoBulk]; rw [tallyRaw_b2 l]
  | .iface t d => by simp only [bulkW, Rows.uptoBulk]; rw [tallyRaw_b1 d]
  | .map l => by simp only [bulkW, Rows.uptoBulk]; rw [tallyRaw_b3 l]
  | .held h => by simp only [bulkW, Rows.uptoBulk]
theorem tallyRaw_b2 {H : Type} : ∀ l : List (DataW H), bulkL l = Rows.uptoBulkAll l
  | [] => by simp only [bulkL, Rows.uptoBulkAll]
  | d :: r => by simp only [bulkL, Rows.uptoBulkAll]; rw [tallyRaw_b1 d, tallyRaw_b2 r]
theorem tallyRaw_b3 {H : Type} : ∀ l : List (Lit × DataW H), bulkM l = Rows.uptoBulkEntries l
  | [] => by simp only [bulkM, Rows.uptoBulkEntries]
  | x :: r => by simp only [bulkM, Rows.uptoBulkEntries]; rw [tallyRaw_b4 x, tallyRaw_b3 r]
theorem tallyRaw_b4 {H : Type} : ∀ x : Lit × DataW H, bulkE x = Rows.uptoBulkEntry x
  | (k, d) => by cases k <;> simp only [bulkE, Rows.uptoBulkEntry] <;> rw [tallyRaw_b1 d]
end

theorem tallyRaw_met (os : Os) (args : Array Value) : laidMetH Tryd.prog Rows.tallyRawUptoRow.laid ((World.holding Tryd.prog os ⟨#[], #[], []⟩).forCall (fun _ _ => 0) ⟨#[], args, []⟩).memory := by
  rw [MakeChecks.laidMetH_plain _ _ _ (by kernel_rfl)]
  exact laidMet_of_run' 8 (by kernel_rfl) (by kernel_rfl)

theorem tallyRaw_reads (os : Os) {H : Type} (enc : TypeId × Value → H) : ∃ ds places, DataW.whole enc Tryd.prog ((World.holding Tryd.prog os ⟨#[], #[], []⟩).forCall (fun _ _ => 0) ⟨#[], #[.agg #[.slice none 0 0], .int .i64 0], []⟩).memory Tryd.f4.params.toList Rows.tallyRawSpec.vars false (#[.agg #[.slice none 0 0], .int .i64 0] : Array Value).toList 8 = some (ds, [], places) ∧ Rows.uptoSmall H (ds ++ []) = true :=
  ⟨[.agg [.nil], .lit (.int .i64 0)], [], by kernel_rfl, by kernel_rfl⟩

set_option maxRecDepth 100000 in
theorem tallyRaw_lifted (os : Os) (started : os.Started) (H : Type) (enc : TypeId × Value → H) (F : Stop.Interp) :
    ReturnsInHanded {} Tryd.checked os 4 .any ((Rows.OpenSpec.upto Rows.tallyRawSpec).preRow enc Tryd.prog Tryd.f4 Rows.tallyRawUptoRow.domain false Rows.tallyRawUptoRow.laid) (((Rows.OpenSpec.upto Rows.tallyRawSpec).at F).post enc Tryd.prog Tryd.f4 false true false false) := by
  obtain ⟨ds, places, hx, hsm⟩ := tallyRaw_reads os enc
  refine returnsInHanded_of_row (C := Tryd.checked) (s := Rows.OpenSpec.upto Rows.tallyRawSpec) tallyRaw_own started (by kernel_rfl) Tryd.func4
    (witness_row_at (enc := enc) (C := Tryd.checked) false (World.holding Tryd.prog os ⟨#[], #[], []⟩) #[.agg #[.slice none 0 0], .int .i64 0] rfl (by kernel_rfl) (by kernel_rfl) (by kernel_rfl)
      (OpenSpec.preRow_of_cond 8 hx (by kernel_rfl) (fun k hk => by cases hk; exact hsm) (by kernel_rfl) (tallyRaw_met os _))) ?_
  intro W base args ds gs before hval hW _ hcond _ hL _ _
  have hb : bulkL (ds ++ gs) ≤ 1048576 := by
    rw [tallyRaw_b2]
    exact of_decide_eq_true (hcond _ rfl)
  exact law_callsU (C := Tryd.checked) (tb := 4) (nm := "linchpin/set.first") rfl tallyRaw_laid (by rw [show Tryd.f4.params.toList = [24, 3] from by kernel_rfl]; simp only [List.mem_cons, List.not_mem_nil, or_false, forall_eq_or_imp, forall_eq]; exact ⟨⟨by kernel_rfl, of_decide_eq_true (by kernel_rfl)⟩, by kernel_rfl, of_decide_eq_true (by kernel_rfl)⟩) (by kernel_rfl) (by kernel_rfl)
    (shs := [.agg [.sl [.str, .str, .sl [.int .i64, .int .i64, .int .i64, .str, .str, .int .i64, .sl [.sl [.int .i64, .sl [.int .i64, .int .i64, .int .i64, .int .i64, .str, .str, .bool, .int .i64, .int .i64, .int .i64, .int .i64, .str, .str, .bool], .sl [.int .i64, .int .i64, .int .i64, .int .i64, .str, .str, .bool, .int .i64, .int .i64, .int .i64, .int .i64, .str, .str, .bool]]], .sl [.int .i64, .sl [.int .i64, .int .i64, .int .i64, .int .i64, .str, .str, .bool, .int .i64, .int .i64, .int .i64, .int .i64, .str, .str, .bool], .sl [.int .i64, .int .i64, .int .i64, .int .i64, .str, .str, .bool, .int .i64, .int .i64, .int .i64, .int .i64, .str, .str, .bool]]]]], .one (.int .i64)]) (by kernel_rfl)
    (fun ds h => by
      rw [show Tryd.f4.params.toList = [24, 3] from by kernel_rfl] at h
      match ds, h with
      | [a0, a1], _ => rfl)
    (by kernel_rfl) (tg := 41) (by kernel_rfl) Tryd.underlying41 (by kernel_rfl)
    (fun Ds h => tallyRaw_args h) hval hW hL hb

theorem tallyRaw_row : Rows.TallyRawUptoSaid :=
  OpenClaim.holds_of_cond 4 Tryd.f4 rfl rfl rfl rfl rfl rfl rfl ⟨rfl, rfl, rfl, rfl, rfl⟩ rfl rfl rfl rfl rfl (by kernel_rfl) Tryd.func4 (by kernel_rfl)
    (of_decide_eq_true (by kernel_rfl)) (by unfold Func.isWrapper; first | (rw [if_pos (by decide +kernel)]; kernel_rfl) | (rw [if_neg (by decide +kernel)]; exact ⟨rfl, rfl⟩))
    (fun os started H enc _ F => by rw [OpenClaim.pre_eq_preRow]; exact tallyRaw_lifted os started H enc F)

theorem tallyRaw_holds : Rows.TallyRawUptoCardSaid :=
  Claim7.holds_tied_plain_at .later [] [.data] true (true, "38986b50d1fe7abd51f43060357de0c96f2b8db015d3d8a8d2b4ce0d62037c68") false
    tallyRaw_row (fun _ h => by cases h) (by kernel_rfl) (fun _ h => by cases h) tallyRawUpto_row_tie rfl ⟨rfl, rfl⟩ (by kernel_rfl) rfl
    (fun f fn hf hfn => by
      obtain rfl : f = 4 := Option.some.inj ((show Tryd.prog.funcNamed "linchpin/linchpinlaw20.TallyRaw" = some 4 by kernel_rfl).symm.trans hf) |>.symm
      obtain rfl : fn = Tryd.f4 := (Option.some.inj (Tryd.func4.symm.trans hfn)).symm
      refine ⟨by kernel_rfl, fun j t ht => ?_⟩
      have hm : t ∈ Tryd.f4.params.toList := by
        obtain ⟨hj, e⟩ := Array.getElem?_eq_some_iff.1 ht
        rw [← e]; simp
      rw [show Tryd.f4.params.toList = [24, 3] from by kernel_rfl] at hm
      simp only [List.mem_cons, List.not_mem_nil, or_false] at hm
      rcases hm with rfl | rfl
      · exact (show Tryd.prog.wantsStandIn 24 = false by kernel_rfl)
      · exact (show Tryd.prog.wantsStandIn 3 = false by kernel_rfl))
    (by kernel_rfl)

#print axioms tallyRaw_holds
end Go.Proofs.YtblkbmcmgfpgkaaDoor
