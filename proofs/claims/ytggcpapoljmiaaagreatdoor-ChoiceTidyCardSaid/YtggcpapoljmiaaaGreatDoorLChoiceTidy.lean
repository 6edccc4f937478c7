/- The law ChoiceTidy of linchpinlaw19 returns true at every input, and leaves its arguments as they were. It holds for every input, of whatever size; the one listed variable reads as the program's text lays it (the tie is given). -/
import Derived.Test.YtggcpapoljmiaaaGreatDoorT1
import Derived.Test.YtggcpapoljmiaaaGreatDoorRows
import Derived.Test.YtggcpapoljmiaaaGreatDoorCards
import Derived.Test.YtggcpapoljmiaaaGreatDoorTie
namespace Go.Proofs.YtggcpapoljmiaaaGreatDoor
open Go Go.Abs M3 M25

theorem choiceTidy_own : ownKnob Tryz.prog.godebug = none := by kernel_rfl
theorem choiceTidy_laid : laidOutB Tryz.prog = true := by kernel_rfl

theorem choiceTidy_args {Ds : List D} (h : SatAs [.one (.sl [.int .i64]), .one (.sl [.int .i64]), .one (.bool)] Ds) : Ok Tryz.prog 4 (Ds ++ [zeroG]) (.bool true) := by
  simp only [SatAs, SatA, Sat] at h
  obtain ⟨_, _, rfl, ⟨r1, rfl, _, q1⟩, _, _, rfl, ⟨r2, rfl, _, q2⟩, _, _, rfl, ⟨b, rfl⟩, rfl⟩ := h
  obtain ⟨l1, rfl, v1⟩ := sat_ints q1
  obtain ⟨l2, rfl, v2⟩ := sat_ints q2
  obtain ⟨w, hw, hW⟩ := world_ok tfol v1
  exact c_linchpinlaw19_ChoiceTidy hW hw.raw hw.v v2

theorem choiceTidy_met (os : Os) (args : Array Value) : laidMetH Tryz.prog [("linchpin/set.first", zeroV)] ((World.holding Tryz.prog os ⟨#[], #[], []⟩).forCall (fun _ _ => 0) ⟨#[], args, []⟩).memory := by
  rw [MakeChecks.laidMetH_plain _ _ _ (by kernel_rfl)]
  exact laidMet_of_run' 8 (by kernel_rfl) (by kernel_rfl)

set_option maxRecDepth 100000 in
theorem choiceTidy_lifted (os : Os) (started : os.Started) (H : Type) (enc : TypeId × Value → H) :
    ReturnsInHanded {} Tryz.checked os 4 .any (fun w args => (Rows.choiceTidySpec.pre enc Tryz.prog Tryz.f4 Rows.choiceTidyRow.domain false w args ∧ laidMetH Tryz.prog [("linchpin/set.first", zeroV)] w) ∧ sizedMet enc Tryz.prog Tryz.f4 (OpenSpec.ofChange Rows.choiceTidySpec) false w args)
      (Rows.choiceTidySpec.post enc Tryz.prog Tryz.f4 false true false false) :=
  law_liftL (C := Tryz.checked) (tb := 4) (nm := "linchpin/set.first") choiceTidy_own started (by kernel_rfl) Tryz.func4 rfl
    (ChangeSpec.witness_at (enc := enc) (C := Tryz.checked) (os := os) (X := fun w _ => laidMetH Tryz.prog [("linchpin/set.first", zeroV)] w) false (World.holding Tryz.prog os ⟨#[], #[], []⟩) #[.slice none 0 0, .slice none 0 0, .bool false] 8 rfl (by kernel_rfl) (by kernel_rfl) (by kernel_rfl) (by kernel_rfl) (by kernel_rfl) (choiceTidy_met os _))
    choiceTidy_laid (by rw [show Tryz.f4.params.toList = [22, 22, 4] from by kernel_rfl]; simp only [List.mem_cons, List.not_mem_nil, or_false, forall_eq_or_imp, forall_eq]; exact ⟨⟨by kernel_rfl, of_decide_eq_true (by kernel_rfl)⟩, ⟨by kernel_rfl, of_decide_eq_true (by kernel_rfl)⟩, by kernel_rfl, of_decide_eq_true (by kernel_rfl)⟩) (by kernel_rfl) (by kernel_rfl)
    (shs := [.one (.sl [.int .i64]), .one (.sl [.int .i64]), .one (.bool)]) (by kernel_rfl)
    (fun ds h => by
      rw [show Tryz.f4.params.toList = [22, 22, 4] from by kernel_rfl] at h
      match ds, h with
      | [a0, a1, a2], _ => rfl)
    (by kernel_rfl) (tg := 66) (by kernel_rfl) Tryz.underlying66 (by kernel_rfl)
    (fun Ds h => choiceTidy_args h)

theorem choiceTidy_j1 : (Rows.choiceTidyRow.wf (OpenSpec.ofChange Rows.choiceTidySpec)) = true := by kernel_rfl
theorem choiceTidy_j2 : (laidOutB Tryz.prog) = true := by kernel_rfl
theorem choiceTidy_j3 : (mapsRowed Tryz.prog) = true := by kernel_rfl
theorem choiceTidy_j4 : (Tryz.f4.params.all (Tryz.prog.readableRec ·)) = true := by kernel_rfl
theorem choiceTidy_j5 : (namedTie Tryz.prog Rows.choiceTidyRow.named Rows.choiceTidySpec.vars) = true := by kernel_rfl
theorem choiceTidy_j6 : ((Rows.choiceTidyRow.stops == [])) = true := by kernel_rfl
theorem choiceTidy_j7 : ((Tryz.prog.stops == [])) = true := by kernel_rfl
theorem choiceTidy_j8 : ((Rows.choiceTidyRow.knobs == [])) = true := by kernel_rfl
theorem choiceTidy_j9 : ((Tryz.prog.stopKnobs == [])) = true := by kernel_rfl
theorem choiceTidy_j10 : ((Rows.choiceTidyRow.inPlace == Tryz.prog.inPlace 4)) = true := by kernel_rfl
theorem choiceTidy_j11 : ((Rows.choiceTidyRow.unfollowed == Tryz.prog.unfollowed 4)) = true := by kernel_rfl
theorem choiceTidy_j12 : ((Rows.choiceTidyRow.recurses == Tryz.prog.recurses 4)) = true := by kernel_rfl
theorem choiceTidy_j13 : ((Rows.choiceTidyRow.named == Tryz.prog.varsNamed 4)) = true := by kernel_rfl
theorem choiceTidy_j14 : ((Rows.choiceTidyRow.maps == (Tryz.f4.params.toList ++ Rows.choiceTidySpec.plain.varTypes Tryz.prog).any (Tryz.prog.mapsRec ·))) = true := by kernel_rfl
theorem choiceTidy_j15 : ((Rows.choiceTidyRow.ifaces == (Tryz.f4.params.toList ++ Rows.choiceTidySpec.plain.varTypes Tryz.prog).any (Tryz.prog.ifacesRec ·))) = true := by kernel_rfl
theorem choiceTidy_j16 : ((Rows.choiceTidyRow.mapsOut == Tryz.prog.mapsAmong Tryz.f4.resultTypes.toList)) = true := by kernel_rfl
theorem choiceTidy_j17 : ((Rows.choiceTidyRow.loops == (Tryz.f4.params.toList ++ Rows.choiceTidySpec.plain.varTypes Tryz.prog).any (Tryz.prog.loopsFrom ·))) = true := by kernel_rfl
theorem choiceTidy_j18 : ((Rows.choiceTidyRow.wideKeys == (Tryz.f4.params.toList ++ Rows.choiceTidySpec.plain.varTypes Tryz.prog ++ Tryz.f4.resultTypes.toList).any (Tryz.prog.wideKeysFrom ·))) = true := by kernel_rfl
theorem choiceTidy_j19 : (Rows.choiceTidySpec.vars.all (Tryz.prog.varReadable ·)) = true := by kernel_rfl
theorem choiceTidy_j20 : (Tryz.f4.resultTypes.all (fun t => Tryz.prog.readableRec t && decide (t < Tryz.prog.types.size))) = true := by kernel_rfl
theorem choiceTidy_j21 : ((Rows.choiceTidyRow.ifacesOut == Tryz.f4.resultTypes.toList.any (Tryz.prog.ifacesRec ·))) = true := by kernel_rfl
theorem choiceTidy_j22 : ((Rows.choiceTidyRow.loopsOut == Tryz.f4.resultTypes.toList.any (Tryz.prog.loopsFrom ·))) = true := by kernel_rfl
theorem choiceTidy_j23 : ((Rows.choiceTidyRow.plainKeys == Tryz.prog.plainKeys)) = true := by kernel_rfl
theorem choiceTidy_j24 : (Rows.choiceTidyRow.shortTexts.isNone) = true := by kernel_rfl
theorem choiceTidy_j25 : (Tryz.prog.stopsHeard) = true := by kernel_rfl
theorem choiceTidy_j26 : (Tryz.prog.mayEnter) = true := by kernel_rfl
theorem choiceTidy_j27 : ((Rows.choiceTidyRow.lifted == Tryz.prog.liftsFinal)) = true := by kernel_rfl
theorem choiceTidy_j28 : ((Tryz.prog.make == some Rows.choiceTidyRow.make)) = true := by kernel_rfl
theorem choiceTidy_j29 : ((Rows.choiceTidyRow.kinds == (if Rows.choiceTidyRow.domain.isEmpty then [] else Tryz.f4.params.toList.map fun t => match Tryz.prog.underlying t with | some (.int k) => some k | _ => none))) = true := by kernel_rfl
theorem choiceTidy_j30 : ((Rows.choiceTidyRow.pinned == Rows.choiceTidyRow.pinnedBy)) = true := by kernel_rfl
theorem choiceTidy_j31 : ((Rows.choiceTidyRow.veiled == (Tryz.f4.params.toList ++ Rows.choiceTidySpec.plain.varTypes Tryz.prog ++ Tryz.f4.resultTypes.toList).any (Tryz.prog.veiledRec ·))) = true := by kernel_rfl
theorem choiceTidy_j32 : (Rows.choiceTidyRow.veiledFits Tryz.prog Tryz.f4.params.toList (Tryz.f4.params.toList ++ Rows.choiceTidySpec.plain.varTypes Tryz.prog ++ Tryz.f4.resultTypes.toList)) = true := by kernel_rfl
theorem choiceTidy_a2 {a b : Bool} (h : a = true) (i : b = true) : (a && b) = true := by rw [h, i]; rfl
set_option maxRecDepth 100000 in
theorem choiceTidy_joined : joinedFacts Tryz.prog 4 Tryz.f4 Rows.choiceTidySpec Rows.choiceTidyRow = true := by
  unfold joinedFacts
  exact (choiceTidy_a2 (choiceTidy_a2 (choiceTidy_a2 (choiceTidy_a2 (choiceTidy_a2 (choiceTidy_a2 (choiceTidy_a2 (choiceTidy_a2 (choiceTidy_a2 (choiceTidy_a2 (choiceTidy_a2 (choiceTidy_a2 (choiceTidy_a2 (choiceTidy_a2 (choiceTidy_a2 (choiceTidy_a2 (choiceTidy_a2 (choiceTidy_a2 (choiceTidy_a2 (choiceTidy_a2 (choiceTidy_a2 (choiceTidy_a2 (choiceTidy_a2 (choiceTidy_a2 (choiceTidy_a2 (choiceTidy_a2 (choiceTidy_a2 (choiceTidy_a2 (choiceTidy_a2 (choiceTidy_a2 (choiceTidy_a2 choiceTidy_j1 choiceTidy_j2) choiceTidy_j3) choiceTidy_j4) choiceTidy_j5) choiceTidy_j6) choiceTidy_j7) choiceTidy_j8) choiceTidy_j9) choiceTidy_j10) choiceTidy_j11) choiceTidy_j12) choiceTidy_j13) choiceTidy_j14) choiceTidy_j15) choiceTidy_j16) choiceTidy_j17) choiceTidy_j18) choiceTidy_j19) choiceTidy_j20) choiceTidy_j21) choiceTidy_j22) choiceTidy_j23) choiceTidy_j24) choiceTidy_j25) choiceTidy_j26) choiceTidy_j27) choiceTidy_j28) choiceTidy_j29) choiceTidy_j30) choiceTidy_j31) choiceTidy_j32)


theorem choiceTidy_row : Rows.ChoiceTidySaid :=
  OpenClaim.holds_of_wide 4 Tryz.f4 rfl rfl rfl rfl rfl rfl rfl ⟨rfl, rfl, rfl, rfl, rfl⟩ rfl rfl rfl rfl rfl (by kernel_rfl) Tryz.func4 choiceTidy_joined
    (of_decide_eq_true (by kernel_rfl)) (by unfold Func.isWrapper; first | (rw [if_pos (by decide +kernel)]; kernel_rfl) | (rw [if_neg (by decide +kernel)]; exact ⟨rfl, rfl⟩))
    (fun os started H enc _ => choiceTidy_lifted os started H enc)

theorem choiceTidy_wf : Rows.choiceTidyRow.wfByText (OpenSpec.ofChange Rows.choiceTidySpec) = true := by kernel_rfl
theorem choiceTidy_main : Tryz.prog.mainIs = some ((true, "2fe50029c293f50de3d044661aee7a6c77d90537ffb7f51e24c63b5d42cee2a6").1, (true, "2fe50029c293f50de3d044661aee7a6c77d90537ffb7f51e24c63b5d42cee2a6").2.toList) := by kernel_rfl
theorem choiceTidy_look : false = Tryz.prog.looks [] := by kernel_rfl
theorem choiceTidy_goes : false = Rows.choiceTidyRow.goesBy Tryz.prog := by kernel_rfl

theorem choiceTidy_holds : Rows.ChoiceTidyCardSaid :=
  Claim7.holds_tied_plain_at .later [] [.data] true (true, "2fe50029c293f50de3d044661aee7a6c77d90537ffb7f51e24c63b5d42cee2a6") false
    choiceTidy_row (fun _ h => by cases h) choiceTidy_wf (fun _ h => by cases h) choiceTidy_row_tie rfl ⟨rfl, rfl⟩ choiceTidy_main rfl
    (fun f fn hf hfn => by
      obtain rfl : f = 4 := Option.some.inj ((show Tryz.prog.funcNamed "linchpin/linchpinlaw19.ChoiceTidy" = some 4 by kernel_rfl).symm.trans hf) |>.symm
      obtain rfl : fn = Tryz.f4 := (Option.some.inj (Tryz.func4.symm.trans hfn)).symm
      refine ⟨choiceTidy_look, fun j t ht => ?_⟩
      have hm : t ∈ Tryz.f4.params.toList := by
        obtain ⟨hj, e⟩ := Array.getElem?_eq_some_iff.1 ht
        rw [← e]; simp
      rw [show Tryz.f4.params.toList = [22, 22, 4] from by kernel_rfl] at hm
      simp only [List.mem_cons, List.not_mem_nil, or_false] at hm
      rcases hm with rfl | rfl | rfl
      · exact (show Tryz.prog.wantsStandIn 22 = false by kernel_rfl)
      · exact (show Tryz.prog.wantsStandIn 22 = false by kernel_rfl)
      · exact (show Tryz.prog.wantsStandIn 4 = false by kernel_rfl))
    choiceTidy_goes

#print axioms choiceTidy_holds
end Go.Proofs.YtggcpapoljmiaaaGreatDoor
