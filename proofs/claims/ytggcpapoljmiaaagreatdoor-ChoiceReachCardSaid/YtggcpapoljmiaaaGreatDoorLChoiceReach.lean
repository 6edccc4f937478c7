/- The law ChoiceReach of linchpinlaw19 returns true at every input, and leaves its arguments as they were. It holds for every input, of whatever size; the one listed variable reads as the program's text lays it (the tie is given). -/
import Derived.Test.YtggcpapoljmiaaaGreatDoorR1
import Derived.Test.YtggcpapoljmiaaaGreatDoorRows
import Derived.Test.YtggcpapoljmiaaaGreatDoorCards
import Derived.Test.YtggcpapoljmiaaaGreatDoorTie
namespace Go.Proofs.YtggcpapoljmiaaaGreatDoor
open Go Go.Abs M3 M25

theorem choiceReach_own : ownKnob Tryz.prog.godebug = none := by kernel_rfl
theorem choiceReach_laid : laidOutB Tryz.prog = true := by kernel_rfl

theorem choiceReach_args {Ds : List D} (h : SatAs [.one (.sl [.int .i64]), .one (.sl [.int .i64]), .one (.bool)] Ds) : Ok Tryz.prog 8 (Ds ++ [zeroG]) (.bool true) := by
  simp only [SatAs, SatA, Sat] at h
  obtain ⟨_, _, rfl, ⟨r1, rfl, _, q1⟩, _, _, rfl, ⟨r2, rfl, _, q2⟩, _, _, rfl, ⟨b, rfl⟩, rfl⟩ := h
  obtain ⟨l1, rfl, v1⟩ := sat_ints q1
  obtain ⟨l2, rfl, v2⟩ := sat_ints q2
  obtain ⟨w, hw, hW⟩ := world_ok tfol v1
  exact c_linchpinlaw19_ChoiceReach hW hw.raw hw.v v2

theorem choiceReach_met (os : Os) (args : Array Value) : laidMetH Tryz.prog [("linchpin/set.first", zeroV)] ((World.holding Tryz.prog os ⟨#[], #[], []⟩).forCall (fun _ _ => 0) ⟨#[], args, []⟩).memory := by
  rw [MakeChecks.laidMetH_plain _ _ _ (by kernel_rfl)]
  exact laidMet_of_run' 8 (by kernel_rfl) (by kernel_rfl)

set_option maxRecDepth 100000 in
theorem choiceReach_lifted (os : Os) (started : os.Started) (H : Type) (enc : TypeId × Value → H) :
    ReturnsInHanded {} Tryz.checked os 8 .any (fun w args => (Rows.choiceReachSpec.pre enc Tryz.prog Tryz.f8 Rows.choiceReachRow.domain false w args ∧ laidMetH Tryz.prog [("linchpin/set.first", zeroV)] w) ∧ sizedMet enc Tryz.prog Tryz.f8 (OpenSpec.ofChange Rows.choiceReachSpec) false w args)
      (Rows.choiceReachSpec.post enc Tryz.prog Tryz.f8 false true false false) :=
  law_liftL (C := Tryz.checked) (tb := 4) (nm := "linchpin/set.first") choiceReach_own started (by kernel_rfl) Tryz.func8 rfl
    (ChangeSpec.witness_at (enc := enc) (C := Tryz.checked) (os := os) (X := fun w _ => laidMetH Tryz.prog [("linchpin/set.first", zeroV)] w) false (World.holding Tryz.prog os ⟨#[], #[], []⟩) #[.slice none 0 0, .slice none 0 0, .bool false] 8 rfl (by kernel_rfl) (by kernel_rfl) (by kernel_rfl) (by kernel_rfl) (by kernel_rfl) (choiceReach_met os _))
    choiceReach_laid (by rw [show Tryz.f8.params.toList = [22, 22, 4] from by kernel_rfl]; simp only [List.mem_cons, List.not_mem_nil, or_false, forall_eq_or_imp, forall_eq]; exact ⟨⟨by kernel_rfl, of_decide_eq_true (by kernel_rfl)⟩, ⟨by kernel_rfl, of_decide_eq_true (by kernel_rfl)⟩, by kernel_rfl, of_decide_eq_true (by kernel_rfl)⟩) (by kernel_rfl) (by kernel_rfl)
    (shs := [.one (.sl [.int .i64]), .one (.sl [.int .i64]), .one (.bool)]) (by kernel_rfl)
    (fun ds h => by
      rw [show Tryz.f8.params.toList = [22, 22, 4] from by kernel_rfl] at h
      match ds, h with
      | [a0, a1, a2], _ => rfl)
    (by kernel_rfl) (tg := 66) (by kernel_rfl) Tryz.underlying66 (by kernel_rfl)
    (fun Ds h => choiceReach_args h)

theorem choiceReach_j1 : (Rows.choiceReachRow.wf (OpenSpec.ofChange Rows.choiceReachSpec)) = true := by kernel_rfl
theorem choiceReach_j2 : (laidOutB Tryz.prog) = true := by kernel_rfl
theorem choiceReach_j3 : (mapsRowed Tryz.prog) = true := by kernel_rfl
theorem choiceReach_j4 : (Tryz.f8.params.all (Tryz.prog.readableRec ·)) = true := by kernel_rfl
theorem choiceReach_j5 : (namedTie Tryz.prog Rows.choiceReachRow.named Rows.choiceReachSpec.vars) = true := by kernel_rfl
theorem choiceReach_j6 : ((Rows.choiceReachRow.stops == [])) = true := by kernel_rfl
theorem choiceReach_j7 : ((Tryz.prog.stops == [])) = true := by kernel_rfl
theorem choiceReach_j8 : ((Rows.choiceReachRow.knobs == [])) = true := by kernel_rfl
theorem choiceReach_j9 : ((Tryz.prog.stopKnobs == [])) = true := by kernel_rfl
theorem choiceReach_j10 : ((Rows.choiceReachRow.inPlace == Tryz.prog.inPlace 8)) = true := by kernel_rfl
theorem choiceReach_j11 : ((Rows.choiceReachRow.unfollowed == Tryz.prog.unfollowed 8)) = true := by kernel_rfl
theorem choiceReach_j12 : ((Rows.choiceReachRow.recurses == Tryz.prog.recurses 8)) = true := by kernel_rfl
theorem choiceReach_j13 : ((Rows.choiceReachRow.named == Tryz.prog.varsNamed 8)) = true := by kernel_rfl
theorem choiceReach_j14 : ((Rows.choiceReachRow.maps == (Tryz.f8.params.toList ++ Rows.choiceReachSpec.plain.varTypes Tryz.prog).any (Tryz.prog.mapsRec ·))) = true := by kernel_rfl
theorem choiceReach_j15 : ((Rows.choiceReachRow.ifaces == (Tryz.f8.params.toList ++ Rows.choiceReachSpec.plain.varTypes Tryz.prog).any (Tryz.prog.ifacesRec ·))) = true := by kernel_rfl
theorem choiceReach_j16 : ((Rows.choiceReachRow.mapsOut == Tryz.prog.mapsAmong Tryz.f8.resultTypes.toList)) = true := by kernel_rfl
theorem choiceReach_j17 : ((Rows.choiceReachRow.loops == (Tryz.f8.params.toList ++ Rows.choiceReachSpec.plain.varTypes Tryz.prog).any (Tryz.prog.loopsFrom ·))) = true := by kernel_rfl
theorem choiceReach_j18 : ((Rows.choiceReachRow.wideKeys == (Tryz.f8.params.toList ++ Rows.choiceReachSpec.plain.varTypes Tryz.prog ++ Tryz.f8.resultTypes.toList).any (Tryz.prog.wideKeysFrom ·))) = true := by kernel_rfl
theorem choiceReach_j19 : (Rows.choiceReachSpec.vars.all (Tryz.prog.varReadable ·)) = true := by kernel_rfl
theorem choiceReach_j20 : (Tryz.f8.resultTypes.all (fun t => Tryz.prog.readableRec t && decide (t < Tryz.prog.types.size))) = true := by kernel_rfl
theorem choiceReach_j21 : ((Rows.choiceReachRow.ifacesOut == Tryz.f8.resultTypes.toList.any (Tryz.prog.ifacesRec ·))) = true := by kernel_rfl
theorem choiceReach_j22 : ((Rows.choiceReachRow.loopsOut == Tryz.f8.resultTypes.toList.any (Tryz.prog.loopsFrom ·))) = true := by kernel_rfl
theorem choiceReach_j23 : ((Rows.choiceReachRow.plainKeys == Tryz.prog.plainKeys)) = true := by kernel_rfl
theorem choiceReach_j24 : (Rows.choiceReachRow.shortTexts.isNone) = true := by kernel_rfl
theorem choiceReach_j25 : (Tryz.prog.stopsHeard) = true := by kernel_rfl
theorem choiceReach_j26 : (Tryz.prog.mayEnter) = true := by kernel_rfl
theorem choiceReach_j27 : ((Rows.choiceReachRow.lifted == Tryz.prog.liftsFinal)) = true := by kernel_rfl
theorem choiceReach_j28 : ((Tryz.prog.make == some Rows.choiceReachRow.make)) = true := by kernel_rfl
theorem choiceReach_j29 : ((Rows.choiceReachRow.kinds == (if Rows.choiceReachRow.domain.isEmpty then [] else Tryz.f8.params.toList.map fun t => match Tryz.prog.underlying t with | some (.int k) => some k | _ => none))) = true := by kernel_rfl
theorem choiceReach_j30 : ((Rows.choiceReachRow.pinned == Rows.choiceReachRow.pinnedBy)) = true := by kernel_rfl
theorem choiceReach_j31 : ((Rows.choiceReachRow.veiled == (Tryz.f8.params.toList ++ Rows.choiceReachSpec.plain.varTypes Tryz.prog ++ Tryz.f8.resultTypes.toList).any (Tryz.prog.veiledRec ·))) = true := by kernel_rfl
theorem choiceReach_j32 : (Rows.choiceReachRow.veiledFits Tryz.prog Tryz.f8.params.toList (Tryz.f8.params.toList ++ Rows.choiceReachSpec.plain.varTypes Tryz.prog ++ Tryz.f8.resultTypes.toList)) = true := by kernel_rfl
theorem choiceReach_a2 {a b : Bool} (h : a = true) (i : b = true) : (a && b) = true := by rw [h, i]; rfl
set_option maxRecDepth 100000 in
theorem choiceReach_joined : joinedFacts Tryz.prog 8 Tryz.f8 Rows.choiceReachSpec Rows.choiceReachRow = true := by
  unfold joinedFacts
  exact (choiceReach_a2 (choiceReach_a2 (choiceReach_a2 (choiceReach_a2 (choiceReach_a2 (choiceReach_a2 (choiceReach_a2 (choiceReach_a2 (choiceReach_a2 (choiceReach_a2 (choiceReach_a2 (choiceReach_a2 (choiceReach_a2 (choiceReach_a2 (choiceReach_a2 (choiceReach_a2 (choiceReach_a2 (choiceReach_a2 (choiceReach_a2 (choiceReach_a2 (choiceReach_a2 (choiceReach_a2 (choiceReach_a2 (choiceReach_a2 (choiceReach_a2 (choiceReach_a2 (choiceReach_a2 (choiceReach_a2 (choiceReach_a2 (choiceReach_a2 (choiceReach_a2 choiceReach_j1 choiceReach_j2) choiceReach_j3) choiceReach_j4) choiceReach_j5) choiceReach_j6) choiceReach_j7) choiceReach_j8) choiceReach_j9) choiceReach_j10) choiceReach_j11) choiceReach_j12) choiceReach_j13) choiceReach_j14) choiceReach_j15) choiceReach_j16) choiceReach_j17) choiceReach_j18) choiceReach_j19) choiceReach_j20) choiceReach_j21) choiceReach_j22) choiceReach_j23) choiceReach_j24) choiceReach_j25) choiceReach_j26) choiceReach_j27) choiceReach_j28) choiceReach_j29) choiceReach_j30) choiceReach_j31) choiceReach_j32)


theorem choiceReach_row : Rows.ChoiceReachSaid :=
  OpenClaim.holds_of_wide 8 Tryz.f8 rfl rfl rfl rfl rfl rfl rfl ⟨rfl, rfl, rfl, rfl, rfl⟩ rfl rfl rfl rfl rfl (by kernel_rfl) Tryz.func8 choiceReach_joined
    (of_decide_eq_true (by kernel_rfl)) (by unfold Func.isWrapper; first | (rw [if_pos (by decide +kernel)]; kernel_rfl) | (rw [if_neg (by decide +kernel)]; exact ⟨rfl, rfl⟩))
    (fun os started H enc _ => choiceReach_lifted os started H enc)

theorem choiceReach_wf : Rows.choiceReachRow.wfByText (OpenSpec.ofChange Rows.choiceReachSpec) = true := by kernel_rfl
theorem choiceReach_main : Tryz.prog.mainIs = some ((true, "2fe50029c293f50de3d044661aee7a6c77d90537ffb7f51e24c63b5d42cee2a6").1, (true, "2fe50029c293f50de3d044661aee7a6c77d90537ffb7f51e24c63b5d42cee2a6").2.toList) := by kernel_rfl
theorem choiceReach_look : false = Tryz.prog.looks [] := by kernel_rfl
theorem choiceReach_goes : false = Rows.choiceReachRow.goesBy Tryz.prog := by kernel_rfl

theorem choiceReach_holds : Rows.ChoiceReachCardSaid :=
  Claim7.holds_tied_plain_at .later [] [.data] true (true, "2fe50029c293f50de3d044661aee7a6c77d90537ffb7f51e24c63b5d42cee2a6") false
    choiceReach_row (fun _ h => by cases h) choiceReach_wf (fun _ h => by cases h) choiceReach_row_tie rfl ⟨rfl, rfl⟩ choiceReach_main rfl
    (fun f fn hf hfn => by
      obtain rfl : f = 8 := Option.some.inj ((show Tryz.prog.funcNamed "linchpin/linchpinlaw19.ChoiceReach" = some 8 by kernel_rfl).symm.trans hf) |>.symm
      obtain rfl : fn = Tryz.f8 := (Option.some.inj (Tryz.func8.symm.trans hfn)).symm
      refine ⟨choiceReach_look, fun j t ht => ?_⟩
      have hm : t ∈ Tryz.f8.params.toList := by
        obtain ⟨hj, e⟩ := Array.getElem?_eq_some_iff.1 ht
        rw [← e]; simp
      rw [show Tryz.f8.params.toList = [22, 22, 4] from by kernel_rfl] at hm
      simp only [List.mem_cons, List.not_mem_nil, or_false] at hm
      rcases hm with rfl | rfl | rfl
      · exact (show Tryz.prog.wantsStandIn 22 = false by kernel_rfl)
      · exact (show Tryz.prog.wantsStandIn 22 = false by kernel_rfl)
      · exact (show Tryz.prog.wantsStandIn 4 = false by kernel_rfl))
    choiceReach_goes

#print axioms choiceReach_holds
end Go.Proofs.YtggcpapoljmiaaaGreatDoor
