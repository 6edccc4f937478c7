/- The law ChoiceUnder of linchpinlaw19 returns true at every input, and leaves its arguments as they were. It holds for every input, of whatever size; the one listed variable reads as the program's text lays it (the tie is given). -/
import Derived.Test.YtggcpapoljmiaaaGreatDoorB6
import Derived.Test.YtggcpapoljmiaaaGreatDoorRows
import Derived.Test.YtggcpapoljmiaaaGreatDoorCards
import Derived.Test.YtggcpapoljmiaaaGreatDoorTie
namespace Go.Proofs.YtggcpapoljmiaaaGreatDoor
open Go Go.Abs M3 M25

theorem choiceUnder_own : ownKnob Tryz.prog.godebug = none := by kernel_rfl
theorem choiceUnder_laid : laidOutB Tryz.prog = true := by kernel_rfl

theorem choiceUnder_args {Ds : List D} (h : SatAs [.one (.sl [.int .i64]), .one (.int .i64), .one (.int .i64)] Ds) : Ok Tryz.prog 9 (Ds ++ [zeroG]) (.bool true) := by
  simp only [SatAs, SatA, Sat] at h
  obtain ⟨_, _, rfl, ⟨r1, rfl, _, q1⟩, _, _, rfl, ⟨n2, rfl, v2⟩, _, _, rfl, ⟨n3, rfl, v3⟩, rfl⟩ := h
  obtain ⟨l1, rfl, v1⟩ := sat_ints q1
  obtain ⟨_, _, _, _, _, _, _, hS, hV, hB, hw, _, hx, hn⟩ := law_build tfol v1
  exact c_linchpinlaw19_ChoiceUnder hS hV hB hw v2 v3

theorem choiceUnder_met (os : Os) (args : Array Value) : laidMetH Tryz.prog [("linchpin/set.first", zeroV)] ((World.holding Tryz.prog os ⟨#[], #[], []⟩).forCall (fun _ _ => 0) ⟨#[], args, []⟩).memory := by
  rw [MakeChecks.laidMetH_plain _ _ _ (by kernel_rfl)]
  exact laidMet_of_run' 8 (by kernel_rfl) (by kernel_rfl)

set_option maxRecDepth 100000 in
theorem choiceUnder_lifted (os : Os) (started : os.Started) (H : Type) (enc : TypeId × Value → H) :
    ReturnsInHanded {} Tryz.checked os 9 .any (fun w args => (Rows.choiceUnderSpec.pre enc Tryz.prog Tryz.f9 Rows.choiceUnderRow.domain false w args ∧ laidMetH Tryz.prog [("linchpin/set.first", zeroV)] w) ∧ sizedMet enc Tryz.prog Tryz.f9 (OpenSpec.ofChange Rows.choiceUnderSpec) false w args)
      (Rows.choiceUnderSpec.post enc Tryz.prog Tryz.f9 false true false false) :=
  law_liftL (C := Tryz.checked) (tb := 4) (nm := "linchpin/set.first") choiceUnder_own started (by kernel_rfl) Tryz.func9 rfl
    (ChangeSpec.witness_at (enc := enc) (C := Tryz.checked) (os := os) (X := fun w _ => laidMetH Tryz.prog [("linchpin/set.first", zeroV)] w) false (World.holding Tryz.prog os ⟨#[], #[], []⟩) #[.slice none 0 0, .int .i64 0, .int .i64 0] 8 rfl (by kernel_rfl) (by kernel_rfl) (by kernel_rfl) (by kernel_rfl) (by kernel_rfl) (choiceUnder_met os _))
    choiceUnder_laid (by rw [show Tryz.f9.params.toList = [22, 3, 3] from by kernel_rfl]; simp only [List.mem_cons, List.not_mem_nil, or_false, forall_eq_or_imp, forall_eq]; exact ⟨⟨by kernel_rfl, of_decide_eq_true (by kernel_rfl)⟩, ⟨by kernel_rfl, of_decide_eq_true (by kernel_rfl)⟩, by kernel_rfl, of_decide_eq_true (by kernel_rfl)⟩) (by kernel_rfl) (by kernel_rfl)
    (shs := [.one (.sl [.int .i64]), .one (.int .i64), .one (.int .i64)]) (by kernel_rfl)
    (fun ds h => by
      rw [show Tryz.f9.params.toList = [22, 3, 3] from by kernel_rfl] at h
      match ds, h with
      | [a0, a1, a2], _ => rfl)
    (by kernel_rfl) (tg := 66) (by kernel_rfl) Tryz.underlying66 (by kernel_rfl)
    (fun Ds h => choiceUnder_args h)

theorem choiceUnder_j1 : (Rows.choiceUnderRow.wf (OpenSpec.ofChange Rows.choiceUnderSpec)) = true := by kernel_rfl
theorem choiceUnder_j2 : (laidOutB Tryz.prog) = true := by kernel_rfl
theorem choiceUnder_j3 : (mapsRowed Tryz.prog) = true := by kernel_rfl
theorem choiceUnder_j4 : (Tryz.f9.params.all (Tryz.prog.readableRec ·)) = true := by kernel_rfl
theorem choiceUnder_j5 : (namedTie Tryz.prog Rows.choiceUnderRow.named Rows.choiceUnderSpec.vars) = true := by kernel_rfl
theorem choiceUnder_j6 : ((Rows.choiceUnderRow.stops == [])) = true := by kernel_rfl
theorem choiceUnder_j7 : ((Tryz.prog.stops == [])) = true := by kernel_rfl
theorem choiceUnder_j8 : ((Rows.choiceUnderRow.knobs == [])) = true := by kernel_rfl
theorem choiceUnder_j9 : ((Tryz.prog.stopKnobs == [])) = true := by kernel_rfl
theorem choiceUnder_j10 : ((Rows.choiceUnderRow.inPlace == Tryz.prog.inPlace 9)) = true := by kernel_rfl
theorem choiceUnder_j11 : ((Rows.choiceUnderRow.unfollowed == Tryz.prog.unfollowed 9)) = true := by kernel_rfl
theorem choiceUnder_j12 : ((Rows.choiceUnderRow.recurses == Tryz.prog.recurses 9)) = true := by kernel_rfl
theorem choiceUnder_j13 : ((Rows.choiceUnderRow.named == Tryz.prog.varsNamed 9)) = true := by kernel_rfl
theorem choiceUnder_j14 : ((Rows.choiceUnderRow.maps == (Tryz.f9.params.toList ++ Rows.choiceUnderSpec.plain.varTypes Tryz.prog).any (Tryz.prog.mapsRec ·))) = true := by kernel_rfl
theorem choiceUnder_j15 : ((Rows.choiceUnderRow.ifaces == (Tryz.f9.params.toList ++ Rows.choiceUnderSpec.plain.varTypes Tryz.prog).any (Tryz.prog.ifacesRec ·))) = true := by kernel_rfl
theorem choiceUnder_j16 : ((Rows.choiceUnderRow.mapsOut == Tryz.prog.mapsAmong Tryz.f9.resultTypes.toList)) = true := by kernel_rfl
theorem choiceUnder_j17 : ((Rows.choiceUnderRow.loops == (Tryz.f9.params.toList ++ Rows.choiceUnderSpec.plain.varTypes Tryz.prog).any (Tryz.prog.loopsFrom ·))) = true := by kernel_rfl
theorem choiceUnder_j18 : ((Rows.choiceUnderRow.wideKeys == (Tryz.f9.params.toList ++ Rows.choiceUnderSpec.plain.varTypes Tryz.prog ++ Tryz.f9.resultTypes.toList).any (Tryz.prog.wideKeysFrom ·))) = true := by kernel_rfl
theorem choiceUnder_j19 : (Rows.choiceUnderSpec.vars.all (Tryz.prog.varReadable ·)) = true := by kernel_rfl
theorem choiceUnder_j20 : (Tryz.f9.resultTypes.all (fun t => Tryz.prog.readableRec t && decide (t < Tryz.prog.types.size))) = true := by kernel_rfl
theorem choiceUnder_j21 : ((Rows.choiceUnderRow.ifacesOut == Tryz.f9.resultTypes.toList.any (Tryz.prog.ifacesRec ·))) = true := by kernel_rfl
theorem choiceUnder_j22 : ((Rows.choiceUnderRow.loopsOut == Tryz.f9.resultTypes.toList.any (Tryz.prog.loopsFrom ·))) = true := by kernel_rfl
theorem choiceUnder_j23 : ((Rows.choiceUnderRow.plainKeys == Tryz.prog.plainKeys)) = true := by kernel_rfl
theorem choiceUnder_j24 : (Rows.choiceUnderRow.shortTexts.isNone) = true := by kernel_rfl
theorem choiceUnder_j25 : (Tryz.prog.stopsHeard) = true := by kernel_rfl
theorem choiceUnder_j26 : (Tryz.prog.mayEnter) = true := by kernel_rfl
theorem choiceUnder_j27 : ((Rows.choiceUnderRow.lifted == Tryz.prog.liftsFinal)) = true := by kernel_rfl
theorem choiceUnder_j28 : ((Tryz.prog.make == some Rows.choiceUnderRow.make)) = true := by kernel_rfl
theorem choiceUnder_j29 : ((Rows.choiceUnderRow.kinds == (if Rows.choiceUnderRow.domain.isEmpty then [] else Tryz.f9.params.toList.map fun t => match Tryz.prog.underlying t with | some (.int k) => some k | _ => none))) = true := by kernel_rfl
theorem choiceUnder_j30 : ((Rows.choiceUnderRow.pinned == Rows.choiceUnderRow.pinnedBy)) = true := by kernel_rfl
theorem choiceUnder_j31 : ((Rows.choiceUnderRow.veiled == (Tryz.f9.params.toList ++ Rows.choiceUnderSpec.plain.varTypes Tryz.prog ++ Tryz.f9.resultTypes.toList).any (Tryz.prog.veiledRec ·))) = true := by kernel_rfl
theorem choiceUnder_j32 : (Rows.choiceUnderRow.veiledFits Tryz.prog Tryz.f9.params.toList (Tryz.f9.params.toList ++ Rows.choiceUnderSpec.plain.varTypes Tryz.prog ++ Tryz.f9.resultTypes.toList)) = true := by kernel_rfl
theorem choiceUnder_a2 {a b : Bool} (h : a = true) (i : b = true) : (a && b) = true := by rw [h, i]; rfl
set_option maxRecDepth 100000 in
theorem choiceUnder_joined : joinedFacts Tryz.prog 9 Tryz.f9 Rows.choiceUnderSpec Rows.choiceUnderRow = true := by
  unfold joinedFacts
  exact (choiceUnder_a2 (choiceUnder_a2 (choiceUnder_a2 (choiceUnder_a2 (choiceUnder_a2 (choiceUnder_a2 (choiceUnder_a2 (choiceUnder_a2 (choiceUnder_a2 (choiceUnder_a2 (choiceUnder_a2 (choiceUnder_a2 (choiceUnder_a2 (choiceUnder_a2 (choiceUnder_a2 (choiceUnder_a2 (choiceUnder_a2 (choiceUnder_a2 (choiceUnder_a2 (choiceUnder_a2 (choiceUnder_a2 (choiceUnder_a2 (choiceUnder_a2 (choiceUnder_a2 (choiceUnder_a2 (choiceUnder_a2 (choiceUnder_a2 (choiceUnder_a2 (choiceUnder_a2 (choiceUnder_a2 (choiceUnder_a2 choiceUnder_j1 choiceUnder_j2) choiceUnder_j3) choiceUnder_j4) choiceUnder_j5) choiceUnder_j6) choiceUnder_j7) choiceUnder_j8) choiceUnder_j9) choiceUnder_j10) choiceUnder_j11) choiceUnder_j12) choiceUnder_j13) choiceUnder_j14) choiceUnder_j15) choiceUnder_j16) choiceUnder_j17) choiceUnder_j18) choiceUnder_j19) choiceUnder_j20) choiceUnder_j21) choiceUnder_j22) choiceUnder_j23) choiceUnder_j24) choiceUnder_j25) choiceUnder_j26) choiceUnder_j27) choiceUnder_j28) choiceUnder_j29) choiceUnder_j30) choiceUnder_j31) choiceUnder_j32)


theorem choiceUnder_row : Rows.ChoiceUnderSaid :=
  OpenClaim.holds_of_wide 9 Tryz.f9 rfl rfl rfl rfl rfl rfl rfl ⟨rfl, rfl, rfl, rfl, rfl⟩ rfl rfl rfl rfl rfl (by kernel_rfl) Tryz.func9 choiceUnder_joined
    (of_decide_eq_true (by kernel_rfl)) (by unfold Func.isWrapper; first | (rw [if_pos (by decide +kernel)]; kernel_rfl) | (rw [if_neg (by decide +kernel)]; exact ⟨rfl, rfl⟩))
    (fun os started H enc _ => choiceUnder_lifted os started H enc)

theorem choiceUnder_wf : Rows.choiceUnderRow.wfByText (OpenSpec.ofChange Rows.choiceUnderSpec) = true := by kernel_rfl
theorem choiceUnder_main : Tryz.prog.mainIs = some ((true, "2fe50029c293f50de3d044661aee7a6c77d90537ffb7f51e24c63b5d42cee2a6").1, (true, "2fe50029c293f50de3d044661aee7a6c77d90537ffb7f51e24c63b5d42cee2a6").2.toList) := by kernel_rfl
theorem choiceUnder_look : false = Tryz.prog.looks [] := by kernel_rfl
theorem choiceUnder_goes : false = Rows.choiceUnderRow.goesBy Tryz.prog := by kernel_rfl

theorem choiceUnder_holds : Rows.ChoiceUnderCardSaid :=
  Claim7.holds_tied_plain_at .later [] [.data] true (true, "2fe50029c293f50de3d044661aee7a6c77d90537ffb7f51e24c63b5d42cee2a6") false
    choiceUnder_row (fun _ h => by cases h) choiceUnder_wf (fun _ h => by cases h) choiceUnder_row_tie rfl ⟨rfl, rfl⟩ choiceUnder_main rfl
    (fun f fn hf hfn => by
      obtain rfl : f = 9 := Option.some.inj ((show Tryz.prog.funcNamed "linchpin/linchpinlaw19.ChoiceUnder" = some 9 by kernel_rfl).symm.trans hf) |>.symm
      obtain rfl : fn = Tryz.f9 := (Option.some.inj (Tryz.func9.symm.trans hfn)).symm
      refine ⟨choiceUnder_look, fun j t ht => ?_⟩
      have hm : t ∈ Tryz.f9.params.toList := by
        obtain ⟨hj, e⟩ := Array.getElem?_eq_some_iff.1 ht
        rw [← e]; simp
      rw [show Tryz.f9.params.toList = [22, 3, 3] from by kernel_rfl] at hm
      simp only [List.mem_cons, List.not_mem_nil, or_false] at hm
      rcases hm with rfl | rfl | rfl
      · exact (show Tryz.prog.wantsStandIn 22 = false by kernel_rfl)
      · exact (show Tryz.prog.wantsStandIn 3 = false by kernel_rfl)
      · exact (show Tryz.prog.wantsStandIn 3 = false by kernel_rfl))
    choiceUnder_goes

#print axioms choiceUnder_holds
end Go.Proofs.YtggcpapoljmiaaaGreatDoor
