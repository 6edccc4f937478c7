/- The law TermSets of linchpinlaw21 returns true at every input, and leaves its arguments as they were. It holds for every input, of whatever size; the one listed variable reads as the program's text lays it (the tie is given). -/
import Derived.Test.YthcgjgfjoodliaaDoorB5
import Derived.Test.YthcgjgfjoodliaaDoorRows
import Derived.Test.YthcgjgfjoodliaaDoorCards
import Derived.Test.YthcgjgfjoodliaaDoorTie
namespace Go.Proofs.YthcgjgfjoodliaaDoor
open Go Go.Abs M3 M25

theorem termSets_own : ownKnob Tryd.prog.godebug = none := by kernel_rfl
theorem termSets_laid : laidOutB Tryd.prog = true := by kernel_rfl

theorem termSets_args {Ds : List D} (h : SatAs [.one (.sl [.int .i64]), .one (.int .i64), .one (.int .i64)] Ds) : Ok Tryd.prog 3 (Ds ++ [zeroG]) (.bool true) := by
  simp only [SatAs, SatA, Sat] at h
  obtain ⟨_, _, rfl, ⟨r1, rfl, _, q1⟩, _, _, rfl, ⟨n2, rfl, v2⟩, _, _, rfl, ⟨n3, rfl, v3⟩, rfl⟩ := h
  obtain ⟨l1, rfl, v1⟩ := sat_ints q1
  exact c_linchpinlaw21_TermSets v1 v2 v3

theorem termSets_met (os : Os) (args : Array Value) : laidMetH Tryd.prog [("linchpin/set.first", zeroV)] ((World.holding Tryd.prog os ⟨#[], #[], []⟩).forCall (fun _ _ => 0) ⟨#[], args, []⟩).memory := by
  rw [MakeChecks.laidMetH_plain _ _ _ (by kernel_rfl)]
  exact laidMet_of_run' 8 (by kernel_rfl) (by kernel_rfl)

set_option maxRecDepth 100000 in
theorem termSets_lifted (os : Os) (started : os.Started) (H : Type) (enc : TypeId × Value → H) :
    ReturnsInHanded {} Tryd.checked os 3 .any (fun w args => (Rows.termSetsSpec.pre enc Tryd.prog Tryd.f3 Rows.termSetsRow.domain false w args ∧ laidMetH Tryd.prog [("linchpin/set.first", zeroV)] w) ∧ sizedMet enc Tryd.prog Tryd.f3 (OpenSpec.ofChange Rows.termSetsSpec) false w args)
      (Rows.termSetsSpec.post enc Tryd.prog Tryd.f3 false true false false) :=
  law_liftL (C := Tryd.checked) (tb := 4) (nm := "linchpin/set.first") termSets_own started (by kernel_rfl) Tryd.func3 rfl
    (ChangeSpec.witness_at (enc := enc) (C := Tryd.checked) (os := os) (X := fun w _ => laidMetH Tryd.prog [("linchpin/set.first", zeroV)] w) false (World.holding Tryd.prog os ⟨#[], #[], []⟩) #[.slice none 0 0, .int .i64 0, .int .i64 0] 8 rfl (by kernel_rfl) (by kernel_rfl) (by kernel_rfl) (by kernel_rfl) (by kernel_rfl) (termSets_met os _))
    termSets_laid (by rw [show Tryd.f3.params.toList = [22, 3, 3] from by kernel_rfl]; simp only [List.mem_cons, List.not_mem_nil, or_false, forall_eq_or_imp, forall_eq]; exact ⟨⟨by kernel_rfl, of_decide_eq_true (by kernel_rfl)⟩, ⟨by kernel_rfl, of_decide_eq_true (by kernel_rfl)⟩, by kernel_rfl, of_decide_eq_true (by kernel_rfl)⟩) (by kernel_rfl) (by kernel_rfl)
    (shs := [.one (.sl [.int .i64]), .one (.int .i64), .one (.int .i64)]) (by kernel_rfl)
    (fun ds h => by
      rw [show Tryd.f3.params.toList = [22, 3, 3] from by kernel_rfl] at h
      match ds, h with
      | [a0, a1, a2], _ => rfl)
    (by kernel_rfl) (tg := 46) (by kernel_rfl) Tryd.underlying46 (by kernel_rfl)
    (fun Ds h => termSets_args h)

theorem termSets_row : Rows.TermSetsSaid :=
  OpenClaim.holds_of_wide 3 Tryd.f3 rfl rfl rfl rfl rfl rfl rfl ⟨rfl, rfl, rfl, rfl, rfl⟩ rfl rfl rfl rfl rfl (by kernel_rfl) Tryd.func3 (by kernel_rfl)
    (of_decide_eq_true (by kernel_rfl)) (by unfold Func.isWrapper; first | (rw [if_pos (by decide +kernel)]; kernel_rfl) | (rw [if_neg (by decide +kernel)]; exact ⟨rfl, rfl⟩))
    (fun os started H enc _ => termSets_lifted os started H enc)

theorem termSets_holds : Rows.TermSetsCardSaid :=
  Claim7.holds_tied_plain_at .later [] [.data] true (true, "e9569634d9466e4e4e22cb3f61dfb09175f3c7fe32b13125d878c9ffdb66e55e") false
    termSets_row (fun _ h => by cases h) (by kernel_rfl) (fun _ h => by cases h) termSets_row_tie rfl ⟨rfl, rfl⟩ (by kernel_rfl) rfl
    (fun f fn hf hfn => by
      obtain rfl : f = 3 := Option.some.inj ((show Tryd.prog.funcNamed "linchpin/linchpinlaw21.TermSets" = some 3 by kernel_rfl).symm.trans hf) |>.symm
      obtain rfl : fn = Tryd.f3 := (Option.some.inj (Tryd.func3.symm.trans hfn)).symm
      refine ⟨by kernel_rfl, fun j t ht => ?_⟩
      have hm : t ∈ Tryd.f3.params.toList := by
        obtain ⟨hj, e⟩ := Array.getElem?_eq_some_iff.1 ht
        rw [← e]; simp
      rw [show Tryd.f3.params.toList = [22, 3, 3] from by kernel_rfl] at hm
      simp only [List.mem_cons, List.not_mem_nil, or_false] at hm
      rcases hm with rfl | rfl | rfl
      · exact (show Tryd.prog.wantsStandIn 22 = false by kernel_rfl)
      · exact (show Tryd.prog.wantsStandIn 3 = false by kernel_rfl)
      · exact (show Tryd.prog.wantsStandIn 3 = false by kernel_rfl))
    (by kernel_rfl)

#print axioms termSets_holds
end Go.Proofs.YthcgjgfjoodliaaDoor
