/- The law TermBoth of linchpinlaw21 returns true at every input, and leaves its arguments as they were. It holds for every input, of whatever size; the one listed variable reads as the program's text lays it (the tie is given). -/
import Derived.Test.YtaclbcdfaokmjaaDoorB5
import Derived.Test.YtaclbcdfaokmjaaDoorRows
import Derived.Test.YtaclbcdfaokmjaaDoorCards
import Derived.Test.YtaclbcdfaokmjaaDoorTie
namespace Go.Proofs.YtaclbcdfaokmjaaDoor
open Go Go.Abs M3 M25

theorem termBoth_own : ownKnob Tryd.prog.godebug = none := by kernel_rfl
theorem termBoth_laid : laidOutB Tryd.prog = true := by kernel_rfl

theorem termBoth_args {Ds : List D} (h : SatAs [.one (.sl [.int .i64]), .one (.int .i64), .one (.int .i64), .one (.int .i64)] Ds) : Ok Tryd.prog 8 (Ds ++ [zeroG]) (.bool true) := by
  simp only [SatAs, SatA, Sat] at h
  obtain ⟨_, _, rfl, ⟨r1, rfl, _, q1⟩, _, _, rfl, ⟨n2, rfl, v2⟩, _, _, rfl, ⟨n3, rfl, v3⟩, _, _, rfl, ⟨n4, rfl, v4⟩, rfl⟩ := h
  obtain ⟨l1, rfl, v1⟩ := sat_ints q1
  exact c_linchpinlaw21_TermBoth v1 v2 v3 v4

theorem termBoth_met (os : Os) (args : Array Value) : laidMetH Tryd.prog [("linchpin/set.first", zeroV)] ((World.holding Tryd.prog os ⟨#[], #[], []⟩).forCall (fun _ _ => 0) ⟨#[], args, []⟩).memory := by
  rw [MakeChecks.laidMetH_plain _ _ _ (by kernel_rfl)]
  exact laidMet_of_run' 8 (by kernel_rfl) (by kernel_rfl)

set_option maxRecDepth 100000 in
theorem termBoth_lifted (os : Os) (started : os.Started) (H : Type) (enc : TypeId × Value → H) :
    ReturnsInHanded {} Tryd.checked os 8 .any (fun w args => (Rows.termBothSpec.pre enc Tryd.prog Tryd.f8 Rows.termBothRow.domain false w args ∧ laidMetH Tryd.prog [("linchpin/set.first", zeroV)] w) ∧ sizedMet enc Tryd.prog Tryd.f8 (OpenSpec.ofChange Rows.termBothSpec) false w args)
      (Rows.termBothSpec.post enc Tryd.prog Tryd.f8 false true false false) :=
  law_liftL (C := Tryd.checked) (tb := 4) (nm := "linchpin/set.first") termBoth_own started (by kernel_rfl) Tryd.func8 rfl
    (ChangeSpec.witness_at (enc := enc) (C := Tryd.checked) (os := os) (X := fun w _ => laidMetH Tryd.prog [("linchpin/set.first", zeroV)] w) false (World.holding Tryd.prog os ⟨#[], #[], []⟩) #[.slice none 0 0, .int .i64 0, .int .i64 0, .int .i64 0] 8 rfl (by kernel_rfl) (by kernel_rfl) (by kernel_rfl) (by kernel_rfl) (by kernel_rfl) (termBoth_met os _))
    termBoth_laid (by rw [show Tryd.f8.params.toList = [22, 3, 3, 3] from by kernel_rfl]; simp only [List.mem_cons, List.not_mem_nil, or_false, forall_eq_or_imp, forall_eq]; exact ⟨⟨by kernel_rfl, of_decide_eq_true (by kernel_rfl)⟩, ⟨by kernel_rfl, of_decide_eq_true (by kernel_rfl)⟩, ⟨by kernel_rfl, of_decide_eq_true (by kernel_rfl)⟩, by kernel_rfl, of_decide_eq_true (by kernel_rfl)⟩) (by kernel_rfl) (by kernel_rfl)
    (shs := [.one (.sl [.int .i64]), .one (.int .i64), .one (.int .i64), .one (.int .i64)]) (by kernel_rfl)
    (fun ds h => by
      rw [show Tryd.f8.params.toList = [22, 3, 3, 3] from by kernel_rfl] at h
      match ds, h with
      | [a0, a1, a2, a3], _ => rfl)
    (by kernel_rfl) (tg := 49) (by kernel_rfl) Tryd.underlying49 (by kernel_rfl)
    (fun Ds h => termBoth_args h)

theorem termBoth_row : Rows.TermBothSaid :=
  OpenClaim.holds_of_wide 8 Tryd.f8 rfl rfl rfl rfl rfl rfl rfl ⟨rfl, rfl, rfl, rfl, rfl⟩ rfl rfl rfl rfl rfl (by kernel_rfl) Tryd.func8 (by kernel_rfl)
    (of_decide_eq_true (by kernel_rfl)) (by unfold Func.isWrapper; first | (rw [if_pos (by decide +kernel)]; kernel_rfl) | (rw [if_neg (by decide +kernel)]; exact ⟨rfl, rfl⟩))
    (fun os started H enc _ => termBoth_lifted os started H enc)

theorem termBoth_holds : Rows.TermBothCardSaid :=
  Claim7.holds_tied_plain_at .later [] [.data] true (true, "be32ec52564042927736dd51a0a3724be50de45bd02930097676238269c1edf6") false
    termBoth_row (fun _ h => by cases h) (by kernel_rfl) (fun _ h => by cases h) termBoth_row_tie rfl ⟨rfl, rfl⟩ (by kernel_rfl) rfl
    (fun f fn hf hfn => by
      obtain rfl : f = 8 := Option.some.inj ((show Tryd.prog.funcNamed "linchpin/linchpinlaw21.TermBoth" = some 8 by kernel_rfl).symm.trans hf) |>.symm
      obtain rfl : fn = Tryd.f8 := (Option.some.inj (Tryd.func8.symm.trans hfn)).symm
      refine ⟨by kernel_rfl, fun j t ht => ?_⟩
      have hm : t ∈ Tryd.f8.params.toList := by
        obtain ⟨hj, e⟩ := Array.getElem?_eq_some_iff.1 ht
        rw [← e]; simp
      rw [show Tryd.f8.params.toList = [22, 3, 3, 3] from by kernel_rfl] at hm
      simp only [List.mem_cons, List.not_mem_nil, or_false] at hm
      rcases hm with rfl | rfl | rfl | rfl
      · exact (show Tryd.prog.wantsStandIn 22 = false by kernel_rfl)
      · exact (show Tryd.prog.wantsStandIn 3 = false by kernel_rfl)
      · exact (show Tryd.prog.wantsStandIn 3 = false by kernel_rfl)
      · exact (show Tryd.prog.wantsStandIn 3 = false by kernel_rfl))
    (by kernel_rfl)

#print axioms termBoth_holds
end Go.Proofs.YtaclbcdfaokmjaaDoor
