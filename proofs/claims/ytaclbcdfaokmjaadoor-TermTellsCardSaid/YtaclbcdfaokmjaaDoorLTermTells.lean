/- The law TermTells of linchpinlaw21 returns true at every input, and leaves its arguments as they were. It holds for every input, of whatever size; the one listed variable reads as the program's text lays it (the tie is given). -/
import Derived.Test.YtaclbcdfaokmjaaDoorB4
import Derived.Test.YtaclbcdfaokmjaaDoorRows
import Derived.Test.YtaclbcdfaokmjaaDoorCards
import Derived.Test.YtaclbcdfaokmjaaDoorTie
namespace Go.Proofs.YtaclbcdfaokmjaaDoor
open Go Go.Abs M3 M25

theorem termTells_own : ownKnob Tryd.prog.godebug = none := by kernel_rfl
theorem termTells_laid : laidOutB Tryd.prog = true := by kernel_rfl

theorem termTells_args {Ds : List D} (h : SatAs [.one (.int .i64), .one (.int .i64), .one (.int .i64)] Ds) : Ok Tryd.prog 4 (Ds ++ [zeroG]) (.bool true) := by
  simp only [SatAs, SatA, Sat] at h
  obtain ⟨_, _, rfl, ⟨n1, rfl, v1⟩, _, _, rfl, ⟨n2, rfl, v2⟩, _, _, rfl, ⟨n3, rfl, v3⟩, rfl⟩ := h
  exact c_linchpinlaw21_TermTells v1 v2 v3

theorem termTells_met (os : Os) (args : Array Value) : laidMetH Tryd.prog [("linchpin/set.first", zeroV)] ((World.holding Tryd.prog os ⟨#[], #[], []⟩).forCall (fun _ _ => 0) ⟨#[], args, []⟩).memory := by
  rw [MakeChecks.laidMetH_plain _ _ _ (by kernel_rfl)]
  exact laidMet_of_run' 8 (by kernel_rfl) (by kernel_rfl)

set_option maxRecDepth 100000 in
theorem termTells_lifted (os : Os) (started : os.Started) (H : Type) (enc : TypeId × Value → H) :
    ReturnsInHanded {} Tryd.checked os 4 .any (fun w args => (Rows.termTellsSpec.pre enc Tryd.prog Tryd.f4 Rows.termTellsRow.domain false w args ∧ laidMetH Tryd.prog [("linchpin/set.first", zeroV)] w) ∧ sizedMet enc Tryd.prog Tryd.f4 (OpenSpec.ofChange Rows.termTellsSpec) false w args)
      (Rows.termTellsSpec.post enc Tryd.prog Tryd.f4 false true false false) :=
  law_liftL (C := Tryd.checked) (tb := 4) (nm := "linchpin/set.first") termTells_own started (by kernel_rfl) Tryd.func4 rfl
    (ChangeSpec.witness_at (enc := enc) (C := Tryd.checked) (os := os) (X := fun w _ => laidMetH Tryd.prog [("linchpin/set.first", zeroV)] w) false (World.holding Tryd.prog os ⟨#[], #[], []⟩) #[.int .i64 0, .int .i64 0, .int .i64 0] 8 rfl (by kernel_rfl) (by kernel_rfl) (by kernel_rfl) (by kernel_rfl) (by kernel_rfl) (termTells_met os _))
    termTells_laid (by rw [show Tryd.f4.params.toList = [3, 3, 3] from by kernel_rfl]; simp only [List.mem_cons, List.not_mem_nil, or_false, forall_eq_or_imp, forall_eq]; exact ⟨⟨by kernel_rfl, of_decide_eq_true (by kernel_rfl)⟩, ⟨by kernel_rfl, of_decide_eq_true (by kernel_rfl)⟩, by kernel_rfl, of_decide_eq_true (by kernel_rfl)⟩) (by kernel_rfl) (by kernel_rfl)
    (shs := [.one (.int .i64), .one (.int .i64), .one (.int .i64)]) (by kernel_rfl)
    (fun ds h => by
      rw [show Tryd.f4.params.toList = [3, 3, 3] from by kernel_rfl] at h
      match ds, h with
      | [a0, a1, a2], _ => rfl)
    (by kernel_rfl) (tg := 49) (by kernel_rfl) Tryd.underlying49 (by kernel_rfl)
    (fun Ds h => termTells_args h)

theorem termTells_row : Rows.TermTellsSaid :=
  OpenClaim.holds_of_wide 4 Tryd.f4 rfl rfl rfl rfl rfl rfl rfl ⟨rfl, rfl, rfl, rfl, rfl⟩ rfl rfl rfl rfl rfl (by kernel_rfl) Tryd.func4 (by kernel_rfl)
    (of_decide_eq_true (by kernel_rfl)) (by unfold Func.isWrapper; first | (rw [if_pos (by decide +kernel)]; kernel_rfl) | (rw [if_neg (by decide +kernel)]; exact ⟨rfl, rfl⟩))
    (fun os started H enc _ => termTells_lifted os started H enc)

theorem termTells_holds : Rows.TermTellsCardSaid :=
  Claim7.holds_tied_plain_at .later [] [.data] true (true, "be32ec52564042927736dd51a0a3724be50de45bd02930097676238269c1edf6") false
    termTells_row (fun _ h => by cases h) (by kernel_rfl) (fun _ h => by cases h) termTells_row_tie rfl ⟨rfl, rfl⟩ (by kernel_rfl) rfl
    (fun f fn hf hfn => by
      obtain rfl : f = 4 := Option.some.inj ((show Tryd.prog.funcNamed "linchpin/linchpinlaw21.TermTells" = some 4 by kernel_rfl).symm.trans hf) |>.symm
      obtain rfl : fn = Tryd.f4 := (Option.some.inj (Tryd.func4.symm.trans hfn)).symm
      refine ⟨by kernel_rfl, fun j t ht => ?_⟩
      have hm : t ∈ Tryd.f4.params.toList := by
        obtain ⟨hj, e⟩ := Array.getElem?_eq_some_iff.1 ht
        rw [← e]; simp
      rw [show Tryd.f4.params.toList = [3, 3, 3] from by kernel_rfl] at hm
      simp only [List.mem_cons, List.not_mem_nil, or_false] at hm
      rcases hm with rfl | rfl | rfl <;> first | exact (show Tryd.prog.wantsStandIn 3 = false by kernel_rfl))
    (by kernel_rfl)

#print axioms termTells_holds
end Go.Proofs.YtaclbcdfaokmjaaDoor
