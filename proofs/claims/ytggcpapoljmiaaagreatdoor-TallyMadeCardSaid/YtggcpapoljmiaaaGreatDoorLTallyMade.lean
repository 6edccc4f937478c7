/- The law TallyMade of linchpinlaw20 returns true at every input, and leaves its arguments as they were. It holds for every input, of whatever size; the one listed variable reads as the program's text lays it (the tie is given). -/
import Derived.Test.YtggcpapoljmiaaaGreatDoorB6
import Derived.Test.YtggcpapoljmiaaaGreatDoorRows
import Derived.Test.YtggcpapoljmiaaaGreatDoorCards
import Derived.Test.YtggcpapoljmiaaaGreatDoorTie
namespace Go.Proofs.YtggcpapoljmiaaaGreatDoor
open Go Go.Abs M3 M25

theorem tallyMade_own : ownKnob Tryz.prog.godebug = none := by kernel_rfl
theorem tallyMade_laid : laidOutB Tryz.prog = true := by kernel_rfl

theorem tallyMade_args {Ds : List D} (h : SatAs [.one (.sl [.int .i64]), .one (.int .i64)] Ds) : Ok Tryz.prog 10 (Ds ++ [zeroG]) (.bool true) := by
  simp only [SatAs, SatA, Sat] at h
  obtain ⟨_, _, rfl, ⟨r1, rfl, _, q1⟩, _, _, rfl, ⟨n2, rfl, v2⟩, rfl⟩ := h
  obtain ⟨l1, rfl, v1⟩ := sat_ints q1
  obtain ⟨_, _, _, _, _, _, _, hS, hV, hB, hw, _, _⟩ := law_build tfol v1
  exact c_linchpinlaw20_TallyMade hS hV hB hw v2

theorem tallyMade_met (os : Os) (args : Array Value) : laidMetH Tryz.prog [("linchpin/set.first", zeroV)] ((World.holding Tryz.prog os ⟨#[], #[], []⟩).forCall (fun _ _ => 0) ⟨#[], args, []⟩).memory := by
  rw [MakeChecks.laidMetH_plain _ _ _ (by kernel_rfl)]
  exact laidMet_of_run' 8 (by kernel_rfl) (by kernel_rfl)

set_option maxRecDepth 100000 in
theorem tallyMade_lifted (os : Os) (started : os.Started) (H : Type) (enc : TypeId × Value → H) :
    ReturnsInHanded {} Tryz.checked os 10 .any (fun w args => (Rows.tallyMadeSpec.pre enc Tryz.prog Tryz.f10 Rows.tallyMadeRow.domain false w args ∧ laidMetH Tryz.prog [("linchpin/set.first", zeroV)] w) ∧ sizedMet enc Tryz.prog Tryz.f10 (OpenSpec.ofChange Rows.tallyMadeSpec) false w args)
      (Rows.tallyMadeSpec.post enc Tryz.prog Tryz.f10 false true false false) :=
  law_liftL (C := Tryz.checked) (tb := 4) (nm := "linchpin/set.first") tallyMade_own started (by kernel_rfl) Tryz.func10 rfl
    (ChangeSpec.witness_at (enc := enc) (C := Tryz.checked) (os := os) (X := fun w _ => laidMetH Tryz.prog [("linchpin/set.first", zeroV)] w) false (World.holding Tryz.prog os ⟨#[], #[], []⟩) #[.slice none 0 0, .int .i64 0] 8 rfl (by kernel_rfl) (by kernel_rfl) (by kernel_rfl) (by kernel_rfl) (by kernel_rfl) (tallyMade_met os _))
    tallyMade_laid (by rw [show Tryz.f10.params.toList = [22, 3] from by kernel_rfl]; simp only [List.mem_cons, List.not_mem_nil, or_false, forall_eq_or_imp, forall_eq]; exact ⟨⟨by kernel_rfl, of_decide_eq_true (by kernel_rfl)⟩, by kernel_rfl, of_decide_eq_true (by kernel_rfl)⟩) (by kernel_rfl) (by kernel_rfl)
    (shs := [.one (.sl [.int .i64]), .one (.int .i64)]) (by kernel_rfl)
    (fun ds h => by
      rw [show Tryz.f10.params.toList = [22, 3] from by kernel_rfl] at h
      match ds, h with
      | [a0, a1], _ => rfl)
    (by kernel_rfl) (tg := 66) (by kernel_rfl) Tryz.underlying66 (by kernel_rfl)
    (fun Ds h => tallyMade_args h)

theorem tallyMade_j1 : (Rows.tallyMadeRow.wf (OpenSpec.ofChange Rows.tallyMadeSpec)) = true := by kernel_rfl
theorem tallyMade_j2 : (laidOutB Tryz.prog) = true := by kernel_rfl
theorem tallyMade_j3 : (mapsRowed Tryz.prog) = true := by kernel_rfl
theorem tallyMade_j4 : (Tryz.f10.params.all (Tryz.prog.readableRec ·)) = true := by kernel_rfl
theorem tallyMade_j5 : (namedTie Tryz.prog Rows.tallyMadeRow.named Rows.tallyMadeSpec.vars) = true := by kernel_rfl
theorem tallyMade_j6 : ((Rows.tallyMadeRow.stops == [])) = true := by kernel_rfl
theorem tallyMade_j7 : ((Tryz.prog.stops == [])) = true := by kernel_rfl
theorem tallyMade_j8 : ((Rows.tallyMadeRow.knobs == [])) = true := by kernel_rfl
theorem tallyMade_j9 : ((Tryz.prog.stopKnobs == [])) = true := by kernel_rfl
theorem tallyMade_j10 : ((Rows.tallyMadeRow.inPlace == Tryz.prog.inPlace 10)) = true := by kernel_rfl
theorem tallyMade_j11 : ((Rows.tallyMadeRow.unfollowed == Tryz.prog.unfollowed 10)) = true := by kernel_rfl
theorem tallyMade_j12 : ((Rows.tallyMadeRow.recurses == Tryz.prog.recurses 10)) = true := by kernel_rfl
theorem tallyMade_j13 : ((Rows.tallyMadeRow.named == Tryz.prog.varsNamed 10)) = true := by kernel_rfl
theorem tallyMade_j14 : ((Rows.tallyMadeRow.maps == (Tryz.f10.params.toList ++ Rows.tallyMadeSpec.plain.varTypes Tryz.prog).any (Tryz.prog.mapsRec ·))) = true := by kernel_rfl
theorem tallyMade_j15 : ((Rows.tallyMadeRow.ifaces == (Tryz.f10.params.toList ++ Rows.tallyMadeSpec.plain.varTypes Tryz.prog).any (Tryz.prog.ifacesRec ·))) = true := by kernel_rfl
theorem tallyMade_j16 : ((Rows.tallyMadeRow.mapsOut == Tryz.prog.mapsAmong Tryz.f10.resultTypes.toList)) = true := by kernel_rfl
theorem tallyMade_j17 : ((Rows.tallyMadeRow.loops == (Tryz.f10.params.toList ++ Rows.tallyMadeSpec.plain.varTypes Tryz.prog).any (Tryz.prog.loopsFrom ·))) = true := by kernel_rfl
theorem tallyMade_j18 : ((Rows.tallyMadeRow.wideKeys == (Tryz.f10.params.toList ++ Rows.tallyMadeSpec.plain.varTypes Tryz.prog ++ Tryz.f10.resultTypes.toList).any (Tryz.prog.wideKeysFrom ·))) = true := by kernel_rfl
theorem tallyMade_j19 : (Rows.tallyMadeSpec.vars.all (Tryz.prog.varReadable ·)) = true := by kernel_rfl
theorem tallyMade_j20 : (Tryz.f10.resultTypes.all (fun t => Tryz.prog.readableRec t && decide (t < Tryz.prog.types.size))) = true := by kernel_rfl
theorem tallyMade_j21 : ((Rows.tallyMadeRow.ifacesOut == Tryz.f10.resultTypes.toList.any (Tryz.prog.ifacesRec ·))) = true := by kernel_rfl
theorem tallyMade_j22 : ((Rows.tallyMadeRow.loopsOut == Tryz.f10.resultTypes.toList.any (Tryz.prog.loopsFrom ·))) = true := by kernel_rfl
theorem tallyMade_j23 : ((Rows.tallyMadeRow.plainKeys == Tryz.prog.plainKeys)) = true := by kernel_rfl
theorem tallyMade_j24 : (Rows.tallyMadeRow.shortTexts.isNone) = true := by kernel_rfl
theorem tallyMade_j25 : (Tryz.prog.stopsHeard) = true := by kernel_rfl
theorem tallyMade_j26 : (Tryz.prog.mayEnter) = true := by kernel_rfl
theorem tallyMade_j27 : ((Rows.tallyMadeRow.lifted == Tryz.prog.liftsFinal)) = true := by kernel_rfl
theorem tallyMade_j28 : ((Tryz.prog.make == some Rows.tallyMadeRow.make)) = true := by kernel_rfl
theorem tallyMade_j29 : ((Rows.tallyMadeRow.kinds == (if Rows.tallyMadeRow.domain.isEmpty then [] else Tryz.f10.params.toList.map fun t => match Tryz.prog.underlying t with | some (.int k) => some k | _ => none))) = true := by kernel_rfl
theorem tallyMade_j30 : ((Rows.tallyMadeRow.pinned == Rows.tallyMadeRow.pinnedBy)) = true := by kernel_rfl
theorem tallyMade_j31 : ((Rows.tallyMadeRow.veiled == (Tryz.f10.params.toList ++ Rows.tallyMadeSpec.plain.varTypes Tryz.prog ++ Tryz.f10.resultTypes.toList).any (Tryz.prog.veiledRec ·))) = true := by kernel_rfl
theorem tallyMade_j32 : (Rows.tallyMadeRow.veiledFits Tryz.prog Tryz.f10.params.toList (Tryz.f10.params.toList ++ Rows.tallyMadeSpec.plain.varTypes Tryz.prog ++ Tryz.f10.resultTypes.toList)) = true := by kernel_rfl
theorem tallyMade_a2 {a b : Bool} (h : a = true) (i : b = true) : (a && b) = true := by rw [h, i]; rfl
set_option maxRecDepth 100000 in
theorem tallyMade_joined : joinedFacts Tryz.prog 10 Tryz.f10 Rows.tallyMadeSpec Rows.tallyMadeRow = true := by
  unfold joinedFacts
  exact (tallyMade_a2 (tallyMade_a2 (tallyMade_a2 (tallyMade_a2 (tallyMade_a2 (tallyMade_a2 (tallyMade_a2 (tallyMade_a2 (tallyMade_a2 (tallyMade_a2 (tallyMade_a2 (tallyMade_a2 (tallyMade_a2 (tallyMade_a2 (tallyMade_a2 (tallyMade_a2 (tallyMade_a2 (tallyMade_a2 (tallyMade_a2 (tallyMade_a2 (tallyMade_a2 (tallyMade_a2 (tallyMade_a2 (tallyMade_a2 (tallyMade_a2 (tallyMade_a2 (tallyMade_a2 (tallyMade_a2 (tallyMade_a2 (tallyMade_a2 (tallyMade_a2 tallyMade_j1 tallyMade_j2) tallyMade_j3) tallyMade_j4) tallyMade_j5) tallyMade_j6) tallyMade_j7) tallyMade_j8) tallyMade_j9) tallyMade_j10) tallyMade_j11) tallyMade_j12) tallyMade_j13) tallyMade_j14) tallyMade_j15) tallyMade_j16) tallyMade_j17) tallyMade_j18) tallyMade_j19) tallyMade_j20) tallyMade_j21) tallyMade_j22) tallyMade_j23) tallyMade_j24) tallyMade_j25) tallyMade_j26) tallyMade_j27) tallyMade_j28) tallyMade_j29) tallyMade_j30) tallyMade_j31) tallyMade_j32)


theorem tallyMade_row : Rows.TallyMadeSaid :=
  OpenClaim.holds_of_wide 10 Tryz.f10 rfl rfl rfl rfl rfl rfl rfl ⟨rfl, rfl, rfl, rfl, rfl⟩ rfl rfl rfl rfl rfl (by kernel_rfl) Tryz.func10 tallyMade_joined
    (of_decide_eq_true (by kernel_rfl)) (by unfold Func.isWrapper; first | (rw [if_pos (by decide +kernel)]; kernel_rfl) | (rw [if_neg (by decide +kernel)]; exact ⟨rfl, rfl⟩))
    (fun os started H enc _ => tallyMade_lifted os started H enc)

theorem tallyMade_wf : Rows.tallyMadeRow.wfByText (OpenSpec.ofChange Rows.tallyMadeSpec) = true := by kernel_rfl
theorem tallyMade_main : Tryz.prog.mainIs = some ((true, "2fe50029c293f50de3d044661aee7a6c77d90537ffb7f51e24c63b5d42cee2a6").1, (true, "2fe50029c293f50de3d044661aee7a6c77d90537ffb7f51e24c63b5d42cee2a6").2.toList) := by kernel_rfl
theorem tallyMade_look : false = Tryz.prog.looks [] := by kernel_rfl
theorem tallyMade_goes : false = Rows.tallyMadeRow.goesBy Tryz.prog := by kernel_rfl

theorem tallyMade_holds : Rows.TallyMadeCardSaid :=
  Claim7.holds_tied_plain_at .later [] [.data] true (true, "2fe50029c293f50de3d044661aee7a6c77d90537ffb7f51e24c63b5d42cee2a6") false
    tallyMade_row (fun _ h => by cases h) tallyMade_wf (fun _ h => by cases h) tallyMade_row_tie rfl ⟨rfl, rfl⟩ tallyMade_main rfl
    (fun f fn hf hfn => by
      obtain rfl : f = 10 := Option.some.inj ((show Tryz.prog.funcNamed "linchpin/linchpinlaw20.TallyMade" = some 10 by kernel_rfl).symm.trans hf) |>.symm
      obtain rfl : fn = Tryz.f10 := (Option.some.inj (Tryz.func10.symm.trans hfn)).symm
      refine ⟨tallyMade_look, fun j t ht => ?_⟩
      have hm : t ∈ Tryz.f10.params.toList := by
        obtain ⟨hj, e⟩ := Array.getElem?_eq_some_iff.1 ht
        rw [← e]; simp
      rw [show Tryz.f10.params.toList = [22, 3] from by kernel_rfl] at hm
      simp only [List.mem_cons, List.not_mem_nil, or_false] at hm
      rcases hm with rfl | rfl
      · exact (show Tryz.prog.wantsStandIn 22 = false by kernel_rfl)
      · exact (show Tryz.prog.wantsStandIn 3 = false by kernel_rfl))
    tallyMade_goes

#print axioms tallyMade_holds
end Go.Proofs.YtggcpapoljmiaaaGreatDoor
