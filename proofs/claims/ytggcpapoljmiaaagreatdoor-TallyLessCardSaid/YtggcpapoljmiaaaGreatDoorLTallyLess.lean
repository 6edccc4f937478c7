/- The law TallyLess of linchpinlaw20 returns true at every input, and leaves its arguments as they were. It holds for every input, of whatever size; the one listed variable reads as the program's text lays it (the tie is given). -/
import Derived.Test.YtggcpapoljmiaaaGreatDoorB6
import Derived.Test.YtggcpapoljmiaaaGreatDoorRows
import Derived.Test.YtggcpapoljmiaaaGreatDoorCards
import Derived.Test.YtggcpapoljmiaaaGreatDoorTie
namespace Go.Proofs.YtggcpapoljmiaaaGreatDoor
open Go Go.Abs M3 M25

theorem tallyLess_own : ownKnob Tryz.prog.godebug = none := by kernel_rfl
theorem tallyLess_laid : laidOutB Tryz.prog = true := by kernel_rfl

theorem tallyLess_args {Ds : List D} (h : SatAs [.one (.sl [.int .i64]), .one (.int .i64), .one (.int .i64), .one (.bool)] Ds) : Ok Tryz.prog 13 (Ds ++ [zeroG]) (.bool true) := by
  simp only [SatAs, SatA, Sat] at h
  obtain ⟨_, _, rfl, ⟨r1, rfl, _, q1⟩, _, _, rfl, ⟨n2, rfl, v2⟩, _, _, rfl, ⟨n3, rfl, v3⟩, _, _, rfl, ⟨b4, rfl⟩, rfl⟩ := h
  obtain ⟨l1, rfl, v1⟩ := sat_ints q1
  obtain ⟨_, _, _, _, _, _, _, hS, hV, hB, hw, _, hx, hn⟩ := law_build tfol v1
  exact c_linchpinlaw20_TallyLess hS hV hB hw hn v2 v3

theorem tallyLess_met (os : Os) (args : Array Value) : laidMetH Tryz.prog [("linchpin/set.first", zeroV)] ((World.holding Tryz.prog os ⟨#[], #[], []⟩).forCall (fun _ _ => 0) ⟨#[], args, []⟩).memory := by
  rw [MakeChecks.laidMetH_plain _ _ _ (by kernel_rfl)]
  exact laidMet_of_run' 8 (by kernel_rfl) (by kernel_rfl)

set_option maxRecDepth 100000 in
theorem tallyLess_lifted (os : Os) (started : os.Started) (H : Type) (enc : TypeId × Value → H) :
    ReturnsInHanded {} Tryz.checked os 13 .any (fun w args => (Rows.tallyLessSpec.pre enc Tryz.prog Tryz.f13 Rows.tallyLessRow.domain false w args ∧ laidMetH Tryz.prog [("linchpin/set.first", zeroV)] w) ∧ sizedMet enc Tryz.prog Tryz.f13 (OpenSpec.ofChange Rows.tallyLessSpec) false w args)
      (Rows.tallyLessSpec.post enc Tryz.prog Tryz.f13 false true false false) :=
  law_liftL (C := Tryz.checked) (tb := 4) (nm := "linchpin/set.first") tallyLess_own started (by kernel_rfl) Tryz.func13 rfl
    (ChangeSpec.witness_at (enc := enc) (C := Tryz.checked) (os := os) (X := fun w _ => laidMetH Tryz.prog [("linchpin/set.first", zeroV)] w) false (World.holding Tryz.prog os ⟨#[], #[], []⟩) #[.slice none 0 0, .int .i64 0, .int .i64 0, .bool false] 8 rfl (by kernel_rfl) (by kernel_rfl) (by kernel_rfl) (by kernel_rfl) (by kernel_rfl) (tallyLess_met os _))
    tallyLess_laid (by rw [show Tryz.f13.params.toList = [22, 3, 3, 4] from by kernel_rfl]; simp only [List.mem_cons, List.not_mem_nil, or_false, forall_eq_or_imp, forall_eq]; exact ⟨⟨by kernel_rfl, of_decide_eq_true (by kernel_rfl)⟩, ⟨by kernel_rfl, of_decide_eq_true (by kernel_rfl)⟩, ⟨by kernel_rfl, of_decide_eq_true (by kernel_rfl)⟩, by kernel_rfl, of_decide_eq_true (by kernel_rfl)⟩) (by kernel_rfl) (by kernel_rfl)
    (shs := [.one (.sl [.int .i64]), .one (.int .i64), .one (.int .i64), .one (.bool)]) (by kernel_rfl)
    (fun ds h => by
      rw [show Tryz.f13.params.toList = [22, 3, 3, 4] from by kernel_rfl] at h
      match ds, h with
      | [a0, a1, a2, a3], _ => rfl)
    (by kernel_rfl) (tg := 66) (by kernel_rfl) Tryz.underlying66 (by kernel_rfl)
    (fun Ds h => tallyLess_args h)

theorem tallyLess_j1 : (Rows.tallyLessRow.wf (OpenSpec.ofChange Rows.tallyLessSpec)) = true := by kernel_rfl
theorem tallyLess_j2 : (laidOutB Tryz.prog) = true := by kernel_rfl
theorem tallyLess_j3 : (mapsRowed Tryz.prog) = true := by kernel_rfl
theorem tallyLess_j4 : (Tryz.f13.params.all (Tryz.prog.readableRec ·)) = true := by kernel_rfl
theorem tallyLess_j5 : (namedTie Tryz.prog Rows.tallyLessRow.named Rows.tallyLessSpec.vars) = true := by kernel_rfl
theorem tallyLess_j6 : ((Rows.tallyLessRow.stops == [])) = true := by kernel_rfl
theorem tallyLess_j7 : ((Tryz.prog.stops == [])) = true := by kernel_rfl
theorem tallyLess_j8 : ((Rows.tallyLessRow.knobs == [])) = true := by kernel_rfl
theorem tallyLess_j9 : ((Tryz.prog.stopKnobs == [])) = true := by kernel_rfl
theorem tallyLess_j10 : ((Rows.tallyLessRow.inPlace == Tryz.prog.inPlace 13)) = true := by kernel_rfl
theorem tallyLess_j11 : ((Rows.tallyLessRow.unfollowed == Tryz.prog.unfollowed 13)) = true := by kernel_rfl
theorem tallyLess_j12 : ((Rows.tallyLessRow.recurses == Tryz.prog.recurses 13)) = true := by kernel_rfl
theorem tallyLess_j13 : ((Rows.tallyLessRow.named == Tryz.prog.varsNamed 13)) = true := by kernel_rfl
theorem tallyLess_j14 : ((Rows.tallyLessRow.maps == (Tryz.f13.params.toList ++ Rows.tallyLessSpec.plain.varTypes Tryz.prog).any (Tryz.prog.mapsRec ·))) = true := by kernel_rfl
theorem tallyLess_j15 : ((Rows.tallyLessRow.ifaces == (Tryz.f13.params.toList ++ Rows.tallyLessSpec.plain.varTypes Tryz.prog).any (Tryz.prog.ifacesRec ·))) = true := by kernel_rfl
theorem tallyLess_j16 : ((Rows.tallyLessRow.mapsOut == Tryz.prog.mapsAmong Tryz.f13.resultTypes.toList)) = true := by kernel_rfl
theorem tallyLess_j17 : ((Rows.tallyLessRow.loops == (Tryz.f13.params.toList ++ Rows.tallyLessSpec.plain.varTypes Tryz.prog).any (Tryz.prog.loopsFrom ·))) = true := by kernel_rfl
theorem tallyLess_j18 : ((Rows.tallyLessRow.wideKeys == (Tryz.f13.params.toList ++ Rows.tallyLessSpec.plain.varTypes Tryz.prog ++ Tryz.f13.resultTypes.toList).any (Tryz.prog.wideKeysFrom ·))) = true := by kernel_rfl
theorem tallyLess_j19 : (Rows.tallyLessSpec.vars.all (Tryz.prog.varReadable ·)) = true := by kernel_rfl
theorem tallyLess_j20 : (Tryz.f13.resultTypes.all (fun t => Tryz.prog.readableRec t && decide (t < Tryz.prog.types.size))) = true := by kernel_rfl
theorem tallyLess_j21 : ((Rows.tallyLessRow.ifacesOut == Tryz.f13.resultTypes.toList.any (Tryz.prog.ifacesRec ·))) = true := by kernel_rfl
theorem tallyLess_j22 : ((Rows.tallyLessRow.loopsOut == Tryz.f13.resultTypes.toList.any (Tryz.prog.loopsFrom ·))) = true := by kernel_rfl
theorem tallyLess_j23 : ((Rows.tallyLessRow.plainKeys == Tryz.prog.plainKeys)) = true := by kernel_rfl
theorem tallyLess_j24 : (Rows.tallyLessRow.shortTexts.isNone) = true := by kernel_rfl
theorem tallyLess_j25 : (Tryz.prog.stopsHeard) = true := by kernel_rfl
theorem tallyLess_j26 : (Tryz.prog.mayEnter) = true := by kernel_rfl
theorem tallyLess_j27 : ((Rows.tallyLessRow.lifted == Tryz.prog.liftsFinal)) = true := by kernel_rfl
theorem tallyLess_j28 : ((Tryz.prog.make == some Rows.tallyLessRow.make)) = true := by kernel_rfl
theorem tallyLess_j29 : ((Rows.tallyLessRow.kinds == (if Rows.tallyLessRow.domain.isEmpty then [] else Tryz.f13.params.toList.map fun t => match Tryz.prog.underlying t with | some (.int k) => some k | _ => none))) = true := by kernel_rfl
theorem tallyLess_j30 : ((Rows.tallyLessRow.pinned == Rows.tallyLessRow.pinnedBy)) = true := by kernel_rfl
theorem tallyLess_j31 : ((Rows.tallyLessRow.veiled == (Tryz.f13.params.toList ++ Rows.tallyLessSpec.plain.varTypes Tryz.prog ++ Tryz.f13.resultTypes.toList).any (Tryz.prog.veiledRec ·))) = true := by kernel_rfl
theorem tallyLess_j32 : (Rows.tallyLessRow.veiledFits Tryz.prog Tryz.f13.params.toList (Tryz.f13.params.toList ++ Rows.tallyLessSpec.plain.varTypes Tryz.prog ++ Tryz.f13.resultTypes.toList)) = true := by kernel_rfl
theorem tallyLess_a2 {a b : Bool} (h : a = true) (i : b = true) : (a && b) = true := by rw [h, i]; rfl
set_option maxRecDepth 100000 in
theorem tallyLess_joined : joinedFacts Tryz.prog 13 Tryz.f13 Rows.tallyLessSpec Rows.tallyLessRow = true := by
  unfold joinedFacts
  exact (tallyLess_a2 (tallyLess_a2 (tallyLess_a2 (tallyLess_a2 (tallyLess_a2 (tallyLess_a2 (tallyLess_a2 (tallyLess_a2 (tallyLess_a2 (tallyLess_a2 (tallyLess_a2 (tallyLess_a2 (tallyLess_a2 (tallyLess_a2 (tallyLess_a2 (tallyLess_a2 (tallyLess_a2 (tallyLess_a2 (tallyLess_a2 (tallyLess_a2 (tallyLess_a2 (tallyLess_a2 (tallyLess_a2 (tallyLess_a2 (tallyLess_a2 (tallyLess_a2 (tallyLess_a2 (tallyLess_a2 (tallyLess_a2 (tallyLess_a2 (tallyLess_a2 tallyLess_j1 tallyLess_j2) tallyLess_j3) tallyLess_j4) tallyLess_j5) tallyLess_j6) tallyLess_j7) tallyLess_j8) tallyLess_j9) tallyLess_j10) tallyLess_j11) tallyLess_j12) tallyLess_j13) tallyLess_j14) tallyLess_j15) tallyLess_j16) tallyLess_j17) tallyLess_j18) tallyLess_j19) tallyLess_j20) tallyLess_j21) tallyLess_j22) tallyLess_j23) tallyLess_j24) tallyLess_j25) tallyLess_j26) tallyLess_j27) tallyLess_j28) tallyLess_j29) tallyLess_j30) tallyLess_j31) tallyLess_j32)


theorem tallyLess_row : Rows.TallyLessSaid :=
  OpenClaim.holds_of_wide 13 Tryz.f13 rfl rfl rfl rfl rfl rfl rfl ⟨rfl, rfl, rfl, rfl, rfl⟩ rfl rfl rfl rfl rfl (by kernel_rfl) Tryz.func13 tallyLess_joined
    (of_decide_eq_true (by kernel_rfl)) (by unfold Func.isWrapper; first | (rw [if_pos (by decide +kernel)]; kernel_rfl) | (rw [if_neg (by decide +kernel)]; exact ⟨rfl, rfl⟩))
    (fun os started H enc _ => tallyLess_lifted os started H enc)

theorem tallyLess_wf : Rows.tallyLessRow.wfByText (OpenSpec.ofChange Rows.tallyLessSpec) = true := by kernel_rfl
theorem tallyLess_main : Tryz.prog.mainIs = some ((true, "2fe50029c293f50de3d044661aee7a6c77d90537ffb7f51e24c63b5d42cee2a6").1, (true, "2fe50029c293f50de3d044661aee7a6c77d90537ffb7f51e24c63b5d42cee2a6").2.toList) := by kernel_rfl
theorem tallyLess_look : false = Tryz.prog.looks [] := by kernel_rfl
theorem tallyLess_goes : false = Rows.tallyLessRow.goesBy Tryz.prog := by kernel_rfl

theorem tallyLess_holds : Rows.TallyLessCardSaid :=
  Claim7.holds_tied_plain_at .later [] [.data] true (true, "2fe50029c293f50de3d044661aee7a6c77d90537ffb7f51e24c63b5d42cee2a6") false
    tallyLess_row (fun _ h => by cases h) tallyLess_wf (fun _ h => by cases h) tallyLess_row_tie rfl ⟨rfl, rfl⟩ tallyLess_main rfl
    (fun f fn hf hfn => by
      obtain rfl : f = 13 := Option.some.inj ((show Tryz.prog.funcNamed "linchpin/linchpinlaw20.TallyLess" = some 13 by kernel_rfl).symm.trans hf) |>.symm
      obtain rfl : fn = Tryz.f13 := (Option.some.inj (Tryz.func13.symm.trans hfn)).symm
      refine ⟨tallyLess_look, fun j t ht => ?_⟩
      have hm : t ∈ Tryz.f13.params.toList := by
        obtain ⟨hj, e⟩ := Array.getElem?_eq_some_iff.1 ht
        rw [← e]; simp
      rw [show Tryz.f13.params.toList = [22, 3, 3, 4] from by kernel_rfl] at hm
      simp only [List.mem_cons, List.not_mem_nil, or_false] at hm
      rcases hm with rfl | rfl | rfl | rfl
      · exact (show Tryz.prog.wantsStandIn 22 = false by kernel_rfl)
      · exact (show Tryz.prog.wantsStandIn 3 = false by kernel_rfl)
      · exact (show Tryz.prog.wantsStandIn 3 = false by kernel_rfl)
      · exact (show Tryz.prog.wantsStandIn 4 = false by kernel_rfl))
    tallyLess_goes

#print axioms tallyLess_holds
end Go.Proofs.YtggcpapoljmiaaaGreatDoor
