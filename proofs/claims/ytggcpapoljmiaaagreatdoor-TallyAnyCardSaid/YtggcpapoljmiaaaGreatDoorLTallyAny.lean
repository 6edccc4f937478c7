/- The law TallyAny of linchpinlaw20 returns true at every input, and leaves its arguments as they were. It holds for every input, of whatever size; the one listed variable reads as the program's text lays it (the tie is given). -/
import Derived.Test.YtggcpapoljmiaaaGreatDoorB6
import Derived.Test.YtggcpapoljmiaaaGreatDoorRows
import Derived.Test.YtggcpapoljmiaaaGreatDoorCards
import Derived.Test.YtggcpapoljmiaaaGreatDoorTie
namespace Go.Proofs.YtggcpapoljmiaaaGreatDoor
open Go Go.Abs M3 M25

theorem tallyAny_own : ownKnob Tryz.prog.godebug = none := by kernel_rfl
theorem tallyAny_laid : laidOutB Tryz.prog = true := by kernel_rfl

theorem tallyAny_args {Ds : List D} (h : SatAs [.one (.sl [.int .i64]), .one (.sl [.int .i64]), .one (.bool)] Ds) : Ok Tryz.prog 12 (Ds ++ [zeroG]) (.bool true) := by
  simp only [SatAs, SatA, Sat] at h
  obtain ⟨_, _, rfl, ⟨r1, rfl, _, q1⟩, _, _, rfl, ⟨r2, rfl, _, q2⟩, _, _, rfl, ⟨b3, rfl⟩, rfl⟩ := h
  obtain ⟨l1, rfl, v1⟩ := sat_ints q1
  obtain ⟨_, _, _, _, _, _, _, hS, hV, hB, hw, _, hx, hn⟩ := law_build tfol v1
  obtain ⟨l2, rfl, v2⟩ := sat_ints q2
  exact c_linchpinlaw20_TallyAny hS hV hB hw v2

theorem tallyAny_met (os : Os) (args : Array Value) : laidMetH Tryz.prog [("linchpin/set.first", zeroV)] ((World.holding Tryz.prog os ⟨#[], #[], []⟩).forCall (fun _ _ => 0) ⟨#[], args, []⟩).memory := by
  rw [MakeChecks.laidMetH_plain _ _ _ (by kernel_rfl)]
  exact laidMet_of_run' 8 (by kernel_rfl) (by kernel_rfl)

set_option maxRecDepth 100000 in
theorem tallyAny_lifted (os : Os) (started : os.Started) (H : Type) (enc : TypeId × Value → H) :
    ReturnsInHanded {} Tryz.checked os 12 .any (fun w args => (Rows.tallyAnySpec.pre enc Tryz.prog Tryz.f12 Rows.tallyAnyRow.domain false w args ∧ laidMetH Tryz.prog [("linchpin/set.first", zeroV)] w) ∧ sizedMet enc Tryz.prog Tryz.f12 (OpenSpec.ofChange Rows.tallyAnySpec) false w args)
      (Rows.tallyAnySpec.post enc Tryz.prog Tryz.f12 false true false false) :=
  law_liftL (C := Tryz.checked) (tb := 4) (nm := "linchpin/set.first") tallyAny_own started (by kernel_rfl) Tryz.func12 rfl
    (ChangeSpec.witness_at (enc := enc) (C := Tryz.checked) (os := os) (X := fun w _ => laidMetH Tryz.prog [("linchpin/set.first", zeroV)] w) false (World.holding Tryz.prog os ⟨#[], #[], []⟩) #[.slice none 0 0, .slice none 0 0, .bool false] 8 rfl (by kernel_rfl) (by kernel_rfl) (by kernel_rfl) (by kernel_rfl) (by kernel_rfl) (tallyAny_met os _))
    tallyAny_laid (by rw [show Tryz.f12.params.toList = [22, 22, 4] from by kernel_rfl]; simp only [List.mem_cons, List.not_mem_nil, or_false, forall_eq_or_imp, forall_eq]; exact ⟨⟨by kernel_rfl, of_decide_eq_true (by kernel_rfl)⟩, ⟨by kernel_rfl, of_decide_eq_true (by kernel_rfl)⟩, by kernel_rfl, of_decide_eq_true (by kernel_rfl)⟩) (by kernel_rfl) (by kernel_rfl)
    (shs := [.one (.sl [.int .i64]), .one (.sl [.int .i64]), .one (.bool)]) (by kernel_rfl)
    (fun ds h => by
      rw [show Tryz.f12.params.toList = [22, 22, 4] from by kernel_rfl] at h
      match ds, h with
      | [a0, a1, a2], _ => rfl)
    (by kernel_rfl) (tg := 66) (by kernel_rfl) Tryz.underlying66 (by kernel_rfl)
    (fun Ds h => tallyAny_args h)

theorem tallyAny_j1 : (Rows.tallyAnyRow.wf (OpenSpec.ofChange Rows.tallyAnySpec)) = true := by kernel_rfl
theorem tallyAny_j2 : (laidOutB Tryz.prog) = true := by kernel_rfl
theorem tallyAny_j3 : (mapsRowed Tryz.prog) = true := by kernel_rfl
theorem tallyAny_j4 : (Tryz.f12.params.all (Tryz.prog.readableRec ·)) = true := by kernel_rfl
theorem tallyAny_j5 : (namedTie Tryz.prog Rows.tallyAnyRow.named Rows.tallyAnySpec.vars) = true := by kernel_rfl
theorem tallyAny_j6 : ((Rows.tallyAnyRow.stops == [])) = true := by kernel_rfl
theorem tallyAny_j7 : ((Tryz.prog.stops == [])) = true := by kernel_rfl
theorem tallyAny_j8 : ((Rows.tallyAnyRow.knobs == [])) = true := by kernel_rfl
theorem tallyAny_j9 : ((Tryz.prog.stopKnobs == [])) = true := by kernel_rfl
theorem tallyAny_j10 : ((Rows.tallyAnyRow.inPlace == Tryz.prog.inPlace 12)) = true := by kernel_rfl
theorem tallyAny_j11 : ((Rows.tallyAnyRow.unfollowed == Tryz.prog.unfollowed 12)) = true := by kernel_rfl
theorem tallyAny_j12 : ((Rows.tallyAnyRow.recurses == Tryz.prog.recurses 12)) = true := by kernel_rfl
theorem tallyAny_j13 : ((Rows.tallyAnyRow.named == Tryz.prog.varsNamed 12)) = true := by kernel_rfl
theorem tallyAny_j14 : ((Rows.tallyAnyRow.maps == (Tryz.f12.params.toList ++ Rows.tallyAnySpec.plain.varTypes Tryz.prog).any (Tryz.prog.mapsRec ·))) = true := by kernel_rfl
theorem tallyAny_j15 : ((Rows.tallyAnyRow.ifaces == (Tryz.f12.params.toList ++ Rows.tallyAnySpec.plain.varTypes Tryz.prog).any (Tryz.prog.ifacesRec ·))) = true := by kernel_rfl
theorem tallyAny_j16 : ((Rows.tallyAnyRow.mapsOut == Tryz.prog.mapsAmong Tryz.f12.resultTypes.toList)) = true := by kernel_rfl
theorem tallyAny_j17 : ((Rows.tallyAnyRow.loops == (Tryz.f12.params.toList ++ Rows.tallyAnySpec.plain.varTypes Tryz.prog).any (Tryz.prog.loopsFrom ·))) = true := by kernel_rfl
theorem tallyAny_j18 : ((Rows.tallyAnyRow.wideKeys == (Tryz.f12.params.toList ++ Rows.tallyAnySpec.plain.varTypes Tryz.prog ++ Tryz.f12.resultTypes.toList).any (Tryz.prog.wideKeysFrom ·))) = true := by kernel_rfl
theorem tallyAny_j19 : (Rows.tallyAnySpec.vars.all (Tryz.prog.varReadable ·)) = true := by kernel_rfl
theorem tallyAny_j20 : (Tryz.f12.resultTypes.all (fun t => Tryz.prog.readableRec t && decide (t < Tryz.prog.types.size))) = true := by kernel_rfl
theorem tallyAny_j21 : ((Rows.tallyAnyRow.ifacesOut == Tryz.f12.resultTypes.toList.any (Tryz.prog.ifacesRec ·))) = true := by kernel_rfl
theorem tallyAny_j22 : ((Rows.tallyAnyRow.loopsOut == Tryz.f12.resultTypes.toList.any (Tryz.prog.loopsFrom ·))) = true := by kernel_rfl
theorem tallyAny_j23 : ((Rows.tallyAnyRow.plainKeys == Tryz.prog.plainKeys)) = true := by kernel_rfl
theorem tallyAny_j24 : (Rows.tallyAnyRow.shortTexts.isNone) = true := by kernel_rfl
theorem tallyAny_j25 : (Tryz.prog.stopsHeard) = true := by kernel_rfl
theorem tallyAny_j26 : (Tryz.prog.mayEnter) = true := by kernel_rfl
theorem tallyAny_j27 : ((Rows.tallyAnyRow.lifted == Tryz.prog.liftsFinal)) = true := by kernel_rfl
theorem tallyAny_j28 : ((Tryz.prog.make == some Rows.tallyAnyRow.make)) = true := by kernel_rfl
theorem tallyAny_j29 : ((Rows.tallyAnyRow.kinds == (if Rows.tallyAnyRow.domain.isEmpty then [] else Tryz.f12.params.toList.map fun t => match Tryz.prog.underlying t with | some (.int k) => some k | _ => none))) = true := by kernel_rfl
theorem tallyAny_j30 : ((Rows.tallyAnyRow.pinned == Rows.tallyAnyRow.pinnedBy)) = true := by kernel_rfl
theorem tallyAny_j31 : ((Rows.tallyAnyRow.veiled == (Tryz.f12.params.toList ++ Rows.tallyAnySpec.plain.varTypes Tryz.prog ++ Tryz.f12.resultTypes.toList).any (Tryz.prog.veiledRec ·))) = true := by kernel_rfl
theorem tallyAny_j32 : (Rows.tallyAnyRow.veiledFits Tryz.prog Tryz.f12.params.toList (Tryz.f12.params.toList ++ Rows.tallyAnySpec.plain.varTypes Tryz.prog ++ Tryz.f12.resultTypes.toList)) = true := by kernel_rfl
theorem tallyAny_a2 {a b : Bool} (h : a = true) (i : b = true) : (a && b) = true := by rw [h, i]; rfl
set_option maxRecDepth 100000 in
theorem tallyAny_joined : joinedFacts Tryz.prog 12 Tryz.f12 Rows.tallyAnySpec Rows.tallyAnyRow = true := by
  unfold joinedFacts
  exact (tallyAny_a2 (tallyAny_a2 (tallyAny_a2 (tallyAny_a2 (tallyAny_a2 (tallyAny_a2 (tallyAny_a2 (tallyAny_a2 (tallyAny_a2 (tallyAny_a2 (tallyAny_a2 (tallyAny_a2 (tallyAny_a2 (tallyAny_a2 (tallyAny_a2 (tallyAny_a2 (tallyAny_a2 (tallyAny_a2 (tallyAny_a2 (tallyAny_a2 (tallyAny_a2 (tallyAny_a2 (tallyAny_a2 (tallyAny_a2 (tallyAny_a2 (tallyAny_a2 (tallyAny_a2 (tallyAny_a2 (tallyAny_a2 (tallyAny_a2 (tallyAny_a2 tallyAny_j1 tallyAny_j2) tallyAny_j3) tallyAny_j4) tallyAny_j5) tallyAny_j6) tallyAny_j7) tallyAny_j8) tallyAny_j9) tallyAny_j10) tallyAny_j11) tallyAny_j12) tallyAny_j13) tallyAny_j14) tallyAny_j15) tallyAny_j16) tallyAny_j17) tallyAny_j18) tallyAny_j19) tallyAny_j20) tallyAny_j21) tallyAny_j22) tallyAny_j23) tallyAny_j24) tallyAny_j25) tallyAny_j26) tallyAny_j27) tallyAny_j28) tallyAny_j29) tallyAny_j30) tallyAny_j31) tallyAny_j32)


theorem tallyAny_row : Rows.TallyAnySaid :=
  OpenClaim.holds_of_wide 12 Tryz.f12 rfl rfl rfl rfl rfl rfl rfl ⟨rfl, rfl, rfl, rfl, rfl⟩ rfl rfl rfl rfl rfl (by kernel_rfl) Tryz.func12 tallyAny_joined
    (of_decide_eq_true (by kernel_rfl)) (by unfold Func.isWrapper; first | (rw [if_pos (by decide +kernel)]; kernel_rfl) | (rw [if_neg (by decide +kernel)]; exact ⟨rfl, rfl⟩))
    (fun os started H enc _ => tallyAny_lifted os started H enc)

theorem tallyAny_wf : Rows.tallyAnyRow.wfByText (OpenSpec.ofChange Rows.tallyAnySpec) = true := by kernel_rfl
theorem tallyAny_main : Tryz.prog.mainIs = some ((true, "2fe50029c293f50de3d044661aee7a6c77d90537ffb7f51e24c63b5d42cee2a6").1, (true, "2fe50029c293f50de3d044661aee7a6c77d90537ffb7f51e24c63b5d42cee2a6").2.toList) := by kernel_rfl
theorem tallyAny_look : false = Tryz.prog.looks [] := by kernel_rfl
theorem tallyAny_goes : false = Rows.tallyAnyRow.goesBy Tryz.prog := by kernel_rfl

theorem tallyAny_holds : Rows.TallyAnyCardSaid :=
  Claim7.holds_tied_plain_at .later [] [.data] true (true, "2fe50029c293f50de3d044661aee7a6c77d90537ffb7f51e24c63b5d42cee2a6") false
    tallyAny_row (fun _ h => by cases h) tallyAny_wf (fun _ h => by cases h) tallyAny_row_tie rfl ⟨rfl, rfl⟩ tallyAny_main rfl
    (fun f fn hf hfn => by
      obtain rfl : f = 12 := Option.some.inj ((show Tryz.prog.funcNamed "linchpin/linchpinlaw20.TallyAny" = some 12 by kernel_rfl).symm.trans hf) |>.symm
      obtain rfl : fn = Tryz.f12 := (Option.some.inj (Tryz.func12.symm.trans hfn)).symm
      refine ⟨tallyAny_look, fun j t ht => ?_⟩
      have hm : t ∈ Tryz.f12.params.toList := by
        obtain ⟨hj, e⟩ := Array.getElem?_eq_some_iff.1 ht
        rw [← e]; simp
      rw [show Tryz.f12.params.toList = [22, 22, 4] from by kernel_rfl] at hm
      simp only [List.mem_cons, List.not_mem_nil, or_false] at hm
      rcases hm with rfl | rfl | rfl
      · exact (show Tryz.prog.wantsStandIn 22 = false by kernel_rfl)
      · exact (show Tryz.prog.wantsStandIn 22 = false by kernel_rfl)
      · exact (show Tryz.prog.wantsStandIn 4 = false by kernel_rfl))
    tallyAny_goes

#print axioms tallyAny_holds
end Go.Proofs.YtggcpapoljmiaaaGreatDoor
