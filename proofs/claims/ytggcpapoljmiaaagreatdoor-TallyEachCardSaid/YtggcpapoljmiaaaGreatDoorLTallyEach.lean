/- The law TallyEach of linchpinlaw20 returns true at every input, and leaves its arguments as they were. It holds for every input, of whatever size; the one listed variable reads as the program's text lays it (the tie is given). -/
import Derived.Test.YtggcpapoljmiaaaGreatDoorB6
import Derived.Test.YtggcpapoljmiaaaGreatDoorRows
import Derived.Test.YtggcpapoljmiaaaGreatDoorCards
import Derived.Test.YtggcpapoljmiaaaGreatDoorTie
namespace Go.Proofs.YtggcpapoljmiaaaGreatDoor
open Go Go.Abs M3 M25

theorem tallyEach_own : ownKnob Tryz.prog.godebug = none := by kernel_rfl
theorem tallyEach_laid : laidOutB Tryz.prog = true := by kernel_rfl

theorem tallyEach_args {Ds : List D} (h : SatAs [.one (.sl [.int .i64]), .one (.int .i64)] Ds) : Ok Tryz.prog 11 (Ds ++ [zeroG]) (.bool true) := by
  simp only [SatAs, SatA, Sat] at h
  obtain ⟨_, _, rfl, ⟨r1, rfl, _, q1⟩, _, _, rfl, ⟨n2, rfl, v2⟩, rfl⟩ := h
  obtain ⟨l1, rfl, v1⟩ := sat_ints q1
  obtain ⟨_, _, _, _, _, _, _, hS, hV, hB, hw, _, hx, hn⟩ := law_build tfol v1
  exact c_linchpinlaw20_TallyEach hS hV hB hw hx v2

theorem tallyEach_met (os : Os) (args : Array Value) : laidMetH Tryz.prog [("linchpin/set.first", zeroV)] ((World.holding Tryz.prog os ⟨#[], #[], []⟩).forCall (fun _ _ => 0) ⟨#[], args, []⟩).memory := by
  rw [MakeChecks.laidMetH_plain _ _ _ (by kernel_rfl)]
  exact laidMet_of_run' 8 (by kernel_rfl) (by kernel_rfl)

set_option maxRecDepth 100000 in
theorem tallyEach_lifted (os : Os) (started : os.Started) (H : Type) (enc : TypeId × Value → H) :
    ReturnsInHanded {} Tryz.checked os 11 .any (fun w args => (Rows.tallyEachSpec.pre enc Tryz.prog Tryz.f11 Rows.tallyEachRow.domain false w args ∧ laidMetH Tryz.prog [("linchpin/set.first", zeroV)] w) ∧ sizedMet enc Tryz.prog Tryz.f11 (OpenSpec.ofChange Rows.tallyEachSpec) false w args)
      (Rows.tallyEachSpec.post enc Tryz.prog Tryz.f11 false true false false) :=
  law_liftL (C := Tryz.checked) (tb := 4) (nm := "linchpin/set.first") tallyEach_own started (by kernel_rfl) Tryz.func11 rfl
    (ChangeSpec.witness_at (enc := enc) (C := Tryz.checked) (os := os) (X := fun w _ => laidMetH Tryz.prog [("linchpin/set.first", zeroV)] w) false (World.holding Tryz.prog os ⟨#[], #[], []⟩) #[.slice none 0 0, .int .i64 0] 8 rfl (by kernel_rfl) (by kernel_rfl) (by kernel_rfl) (by kernel_rfl) (by kernel_rfl) (tallyEach_met os _))
    tallyEach_laid (by rw [show Tryz.f11.params.toList = [22, 3] from by kernel_rfl]; simp only [List.mem_cons, List.not_mem_nil, or_false, forall_eq_or_imp, forall_eq]; exact ⟨⟨by kernel_rfl, of_decide_eq_true (by kernel_rfl)⟩, by kernel_rfl, of_decide_eq_true (by kernel_rfl)⟩) (by kernel_rfl) (by kernel_rfl)
    (shs := [.one (.sl [.int .i64]), .one (.int .i64)]) (by kernel_rfl)
    (fun ds h => by
      rw [show Tryz.f11.params.toList = [22, 3] from by kernel_rfl] at h
      match ds, h with
      | [a0, a1], _ => rfl)
    (by kernel_rfl) (tg := 66) (by kernel_rfl) Tryz.underlying66 (by kernel_rfl)
    (fun Ds h => tallyEach_args h)

theorem tallyEach_j1 : (Rows.tallyEachRow.wf (OpenSpec.ofChange Rows.tallyEachSpec)) = true := by kernel_rfl
theorem tallyEach_j2 : (laidOutB Tryz.prog) = true := by kernel_rfl
theorem tallyEach_j3 : (mapsRowed Tryz.prog) = true := by kernel_rfl
theorem tallyEach_j4 : (Tryz.f11.params.all (Tryz.prog.readableRec ·)) = true := by kernel_rfl
theorem tallyEach_j5 : (namedTie Tryz.prog Rows.tallyEachRow.named Rows.tallyEachSpec.vars) = true := by kernel_rfl
theorem tallyEach_j6 : ((Rows.tallyEachRow.stops == [])) = true := by kernel_rfl
theorem tallyEach_j7 : ((Tryz.prog.stops == [])) = true := by kernel_rfl
theorem tallyEach_j8 : ((Rows.tallyEachRow.knobs == [])) = true := by kernel_rfl
theorem tallyEach_j9 : ((Tryz.prog.stopKnobs == [])) = true := by kernel_rfl
theorem tallyEach_j10 : ((Rows.tallyEachRow.inPlace == Tryz.prog.inPlace 11)) = true := by kernel_rfl
theorem tallyEach_j11 : ((Rows.tallyEachRow.unfollowed == Tryz.prog.unfollowed 11)) = true := by kernel_rfl
theorem tallyEach_j12 : ((Rows.tallyEachRow.recurses == Tryz.prog.recurses 11)) = true := by kernel_rfl
theorem tallyEach_j13 : ((Rows.tallyEachRow.named == Tryz.prog.varsNamed 11)) = true := by kernel_rfl
theorem tallyEach_j14 : ((Rows.tallyEachRow.maps == (Tryz.f11.params.toList ++ Rows.tallyEachSpec.plain.varTypes Tryz.prog).any (Tryz.prog.mapsRec ·))) = true := by kernel_rfl
theorem tallyEach_j15 : ((Rows.tallyEachRow.ifaces == (Tryz.f11.params.toList ++ Rows.tallyEachSpec.plain.varTypes Tryz.prog).any (Tryz.prog.ifacesRec ·))) = true := by kernel_rfl
theorem tallyEach_j16 : ((Rows.tallyEachRow.mapsOut == Tryz.prog.mapsAmong Tryz.f11.resultTypes.toList)) = true := by kernel_rfl
theorem tallyEach_j17 : ((Rows.tallyEachRow.loops == (Tryz.f11.params.toList ++ Rows.tallyEachSpec.plain.varTypes Tryz.prog).any (Tryz.prog.loopsFrom ·))) = true := by kernel_rfl
theorem tallyEach_j18 : ((Rows.tallyEachRow.wideKeys == (Tryz.f11.params.toList ++ Rows.tallyEachSpec.plain.varTypes Tryz.prog ++ Tryz.f11.resultTypes.toList).any (Tryz.prog.wideKeysFrom ·))) = true := by kernel_rfl
theorem tallyEach_j19 : (Rows.tallyEachSpec.vars.all (Tryz.prog.varReadable ·)) = true := by kernel_rfl
theorem tallyEach_j20 : (Tryz.f11.resultTypes.all (fun t => Tryz.prog.readableRec t && decide (t < Tryz.prog.types.size))) = true := by kernel_rfl
theorem tallyEach_j21 : ((Rows.tallyEachRow.ifacesOut == Tryz.f11.resultTypes.toList.any (Tryz.prog.ifacesRec ·))) = true := by kernel_rfl
theorem tallyEach_j22 : ((Rows.tallyEachRow.loopsOut == Tryz.f11.resultTypes.toList.any (Tryz.prog.loopsFrom ·))) = true := by kernel_rfl
theorem tallyEach_j23 : ((Rows.tallyEachRow.plainKeys == Tryz.prog.plainKeys)) = true := by kernel_rfl
theorem tallyEach_j24 : (Rows.tallyEachRow.shortTexts.isNone) = true := by kernel_rfl
theorem tallyEach_j25 : (Tryz.prog.stopsHeard) = true := by kernel_rfl
theorem tallyEach_j26 : (Tryz.prog.mayEnter) = true := by kernel_rfl
theorem tallyEach_j27 : ((Rows.tallyEachRow.lifted == Tryz.prog.liftsFinal)) = true := by kernel_rfl
theorem tallyEach_j28 : ((Tryz.prog.make == some Rows.tallyEachRow.make)) = true := by kernel_rfl
theorem tallyEach_j29 : ((Rows.tallyEachRow.kinds == (if Rows.tallyEachRow.domain.isEmpty then [] else Tryz.f11.params.toList.map fun t => match Tryz.prog.underlying t with | some (.int k) => some k | _ => none))) = true := by kernel_rfl
theorem tallyEach_j30 : ((Rows.tallyEachRow.pinned == Rows.tallyEachRow.pinnedBy)) = true := by kernel_rfl
theorem tallyEach_j31 : ((Rows.tallyEachRow.veiled == (Tryz.f11.params.toList ++ Rows.tallyEachSpec.plain.varTypes Tryz.prog ++ Tryz.f11.resultTypes.toList).any (Tryz.prog.veiledRec ·))) = true := by kernel_rfl
theorem tallyEach_j32 : (Rows.tallyEachRow.veiledFits Tryz.prog Tryz.f11.params.toList (Tryz.f11.params.toList ++ Rows.tallyEachSpec.plain.varTypes Tryz.prog ++ Tryz.f11.resultTypes.toList)) = true := by kernel_rfl
theorem tallyEach_a2 {a b : Bool} (h : a = true) (i : b = true) : (a && b) = true := by rw [h, i]; rfl
set_option maxRecDepth 100000 in
theorem tallyEach_joined : joinedFacts Tryz.prog 11 Tryz.f11 Rows.tallyEachSpec Rows.tallyEachRow = true := by
  unfold joinedFacts
  exact (tallyEach_a2 (tallyEach_a2 (tallyEach_a2 (tallyEach_a2 (tallyEach_a2 (tallyEach_a2 (tallyEach_a2 (tallyEach_a2 (tallyEach_a2 (tallyEach_a2 (tallyEach_a2 (tallyEach_a2 (tallyEach_a2 (tallyEach_a2 (tallyEach_a2 (tallyEach_a2 (tallyEach_a2 (tallyEach_a2 (tallyEach_a2 (tallyEach_a2 (tallyEach_a2 (tallyEach_a2 (tallyEach_a2 (tallyEach_a2 (tallyEach_a2 (tallyEach_a2 (tallyEach_a2 (tallyEach_a2 (tallyEach_a2 (tallyEach_a2 (tallyEach_a2 tallyEach_j1 tallyEach_j2) tallyEach_j3) tallyEach_j4) tallyEach_j5) tallyEach_j6) tallyEach_j7) tallyEach_j8) tallyEach_j9) tallyEach_j10) tallyEach_j11) tallyEach_j12) tallyEach_j13) tallyEach_j14) tallyEach_j15) tallyEach_j16) tallyEach_j17) tallyEach_j18) tallyEach_j19) tallyEach_j20) tallyEach_j21) tallyEach_j22) tallyEach_j23) tallyEach_j24) tallyEach_j25) tallyEach_j26) tallyEach_j27) tallyEach_j28) tallyEach_j29) tallyEach_j30) tallyEach_j31) tallyEach_j32)


theorem tallyEach_row : Rows.TallyEachSaid :=
  OpenClaim.holds_of_wide 11 Tryz.f11 rfl rfl rfl rfl rfl rfl rfl ⟨rfl, rfl, rfl, rfl, rfl⟩ rfl rfl rfl rfl rfl (by kernel_rfl) Tryz.func11 tallyEach_joined
    (of_decide_eq_true (by kernel_rfl)) (by unfold Func.isWrapper; first | (rw [if_pos (by decide +kernel)]; kernel_rfl) | (rw [if_neg (by decide +kernel)]; exact ⟨rfl, rfl⟩))
    (fun os started H enc _ => tallyEach_lifted os started H enc)

theorem tallyEach_wf : Rows.tallyEachRow.wfByText (OpenSpec.ofChange Rows.tallyEachSpec) = true := by kernel_rfl
theorem tallyEach_main : Tryz.prog.mainIs = some ((true, "2fe50029c293f50de3d044661aee7a6c77d90537ffb7f51e24c63b5d42cee2a6").1, (true, "2fe50029c293f50de3d044661aee7a6c77d90537ffb7f51e24c63b5d42cee2a6").2.toList) := by kernel_rfl
theorem tallyEach_look : false = Tryz.prog.looks [] := by kernel_rfl
theorem tallyEach_goes : false = Rows.tallyEachRow.goesBy Tryz.prog := by kernel_rfl

theorem tallyEach_holds : Rows.TallyEachCardSaid :=
  Claim7.holds_tied_plain_at .later [] [.data] true (true, "2fe50029c293f50de3d044661aee7a6c77d90537ffb7f51e24c63b5d42cee2a6") false
    tallyEach_row (fun _ h => by cases h) tallyEach_wf (fun _ h => by cases h) tallyEach_row_tie rfl ⟨rfl, rfl⟩ tallyEach_main rfl
    (fun f fn hf hfn => by
      obtain rfl : f = 11 := Option.some.inj ((show Tryz.prog.funcNamed "linchpin/linchpinlaw20.TallyEach" = some 11 by kernel_rfl).symm.trans hf) |>.symm
      obtain rfl : fn = Tryz.f11 := (Option.some.inj (Tryz.func11.symm.trans hfn)).symm
      refine ⟨tallyEach_look, fun j t ht => ?_⟩
      have hm : t ∈ Tryz.f11.params.toList := by
        obtain ⟨hj, e⟩ := Array.getElem?_eq_some_iff.1 ht
        rw [← e]; simp
      rw [show Tryz.f11.params.toList = [22, 3] from by kernel_rfl] at hm
      simp only [List.mem_cons, List.not_mem_nil, or_false] at hm
      rcases hm with rfl | rfl
      · exact (show Tryz.prog.wantsStandIn 22 = false by kernel_rfl)
      · exact (show Tryz.prog.wantsStandIn 3 = false by kernel_rfl))
    tallyEach_goes

#print axioms tallyEach_holds
end Go.Proofs.YtggcpapoljmiaaaGreatDoor
