/- The law TermEach of linchpinlaw21 returns true at every input, and leaves its arguments as they were. It holds for every input, of whatever size; the one listed variable reads as the program's text lays it (the tie is given). -/
import Derived.Test.YtaclbcdfaokmjaaDoorB4
import Derived.Test.YtaclbcdfaokmjaaDoorRows
import Derived.Test.YtaclbcdfaokmjaaDoorCards
import Derived.Test.YtaclbcdfaokmjaaDoorTie
namespace Go.Proofs.YtaclbcdfaokmjaaDoor
open Go Go.Abs M3 M25

theorem termEach_own : ownKnob Tryd.prog.godebug = none := by kernel_rfl
theorem termEach_laid : laidOutB Tryd.prog = true := by kernel_rfl

theorem termEach_args {Ds : List D} (h : SatAs [.one (.int .i64), .one (.int .i64)] Ds) : Ok Tryd.prog 5 (Ds ++ [zeroG]) (.bool true) := by
  simp only [SatAs, SatA, Sat] at h
  obtain ⟨_, _, rfl, ⟨n1, rfl, v1⟩, _, _, rfl, ⟨n2, rfl, v2⟩, rfl⟩ := h
  exact c_linchpinlaw21_TermEach v1 v2

theorem termEach_met (os : Os) (args : Array Value) : laidMetH Tryd.prog [("linchpin/set.first", zeroV)] ((World.holding Tryd.prog os ⟨#[], #[], []⟩).forCall (fun _ _ => 0) ⟨#[], args, []⟩).memory := by
  rw [MakeChecks.laidMetH_plain _ _ _ (by kernel_rfl)]
  exact laidMet_of_run' 8 (by kernel_rfl) (by kernel_rfl)

set_option maxRecDepth 100000 in
theorem termEach_lifted (os : Os) (started : os.Started) (H : Type) (enc : TypeId × Value → H) :
    ReturnsInHanded {} Tryd.checked os 5 .any (fun w args => (Rows.termEachSpec.pre enc Tryd.prog Tryd.f5 Rows.termEachRow.domain false w args ∧ laidMetH Tryd.prog [("linchpin/set.first", zeroV)] w) ∧ sizedMet enc Tryd.prog Tryd.f5 (OpenSpec.ofChange Rows.termEachSpec) false w args)
      (Rows.termEachSpec.post enc Tryd.prog Tryd.f5 false true false false) :=
  law_liftL (C := Tryd.checked) (tb := 4) (nm := "linchpin/set.first") termEach_own started (by kernel_rfl) Tryd.func5 rfl
    (ChangeSpec.witness_at (enc := enc) (C := Tryd.checked) (os := os) (X := fun w _ => laidMetH Tryd.prog [("linchpin/set.first", zeroV)] w) false (World.holding Tryd.prog os ⟨#[], #[], []⟩) #[.int .i64 0, .int .i64 0] 8 rfl (by kernel_rfl) (by kernel_rfl) (by kernel_rfl) (by kernel_rfl) (by kernel_rfl) (termEach_met os _))
    termEach_laid (by rw [show Tryd.f5.params.toList = [3, 3] from by kernel_rfl]; simp only [List.mem_cons, List.not_mem_nil, or_false, forall_eq_or_imp, forall_eq]; exact ⟨⟨by kernel_rfl, of_decide_eq_true (by kernel_rfl)⟩, by kernel_rfl, of_decide_eq_true (by kernel_rfl)⟩) (by kernel_rfl) (by kernel_rfl)
    (shs := [.one (.int .i64), .one (.int .i64)]) (by kernel_rfl)
    (fun ds h => by
      rw [show Tryd.f5.params.toList = [3, 3] from by kernel_rfl] at h
      match ds, h with
      | [a0, a1], _ => rfl)
    (by kernel_rfl) (tg := 49) (by kernel_rfl) Tryd.underlying49 (by kernel_rfl)
    (fun Ds h => termEach_args h)

theorem termEach_row : Rows.TermEachSaid :=
  OpenClaim.holds_of_wide 5 Tryd.f5 rfl rfl rfl rfl rfl rfl rfl ⟨rfl, rfl, rfl, rfl, rfl⟩ rfl rfl rfl rfl rfl (by kernel_rfl) Tryd.func5 (by kernel_rfl)
    (of_decide_eq_true (by kernel_rfl)) (by unfold Func.isWrapper; first | (rw [if_pos (by decide +kernel)]; kernel_rfl) | (rw [if_neg (by decide +kernel)]; exact ⟨rfl, rfl⟩))
    (fun os started H enc _ => termEach_lifted os started H enc)

theorem termEach_holds : Rows.TermEachCardSaid :=
  Claim7.holds_tied_plain_at .later [] [.data] true (true, "be32ec52564042927736dd51a0a3724be50de45bd02930097676238269c1edf6") false
    termEach_row (fun _ h => by cases h) (by kernel_rfl) (fun _ h => by cases h) termEach_row_tie rfl ⟨rfl, rfl⟩ (by kernel_rfl) rfl
    (fun f fn hf hfn => by
      obtain rfl : f = 5 := Option.some.inj ((show Tryd.prog.funcNamed "linchpin/linchpinlaw21.TermEach" = some 5 by kernel_rfl).symm.trans hf) |>.symm
      obtain rfl : fn = Tryd.f5 := (Option.some.inj (Tryd.func5.symm.trans hfn)).symm
      refine ⟨by kernel_rfl, fun j t ht => ?_⟩
      have hm : t ∈ Tryd.f5.params.toList := by
        obtain ⟨hj, e⟩ := Array.getElem?_eq_some_iff.1 ht
        rw [← e]; simp
      rw [show Tryd.f5.params.toList = [3, 3] from by kernel_rfl] at hm
      simp only [List.mem_cons, List.not_mem_nil, or_false] at hm
      rcases hm with rfl | rfl
      · exact (show Tryd.prog.wantsStandIn 3 = false by kernel_rfl)
      · exact (show Tryd.prog.wantsStandIn 3 = false by kernel_rfl))
    (by kernel_rfl)

#print axioms termEach_holds
end Go.Proofs.YtaclbcdfaokmjaaDoor
