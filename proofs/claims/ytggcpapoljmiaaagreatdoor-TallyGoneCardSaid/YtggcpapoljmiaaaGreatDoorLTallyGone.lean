/- The law TallyGone of linchpinlaw20 returns true at every input, and leaves its arguments as they were. It holds for every input, of whatever size; the one listed variable reads as the program's text lays it (the tie is given). -/
import Derived.Test.YtggcpapoljmiaaaGreatDoorB6
import Derived.Test.YtggcpapoljmiaaaGreatDoorRows
import Derived.Test.YtggcpapoljmiaaaGreatDoorCards
import Derived.Test.YtggcpapoljmiaaaGreatDoorTie
namespace Go.Proofs.YtggcpapoljmiaaaGreatDoor
open Go Go.Abs M3 M25

theorem tallyGone_own : ownKnob Tryz.prog.godebug = none := by kernel_rfl
theorem tallyGone_laid : laidOutB Tryz.prog = true := by kernel_rfl

theorem tallyGone_args {Ds : List D} (h : SatAs [.one (.sl [.int .i64]), .one (.int .i64)] Ds) : Ok Tryz.prog 14 (Ds ++ [zeroG]) (.bool true) := by
  simp only [SatAs, SatA, Sat] at h
  obtain ⟨_, _, rfl, ⟨r1, rfl, _, q1⟩, _, _, rfl, ⟨n2, rfl, v2⟩, rfl⟩ := h
  obtain ⟨l1, rfl, v1⟩ := sat_ints q1
  obtain ⟨_, _, _, _, _, _, _, hS, hV, hB, hw, _, hx, hn⟩ := law_build tfol v1
  exact c_linchpinlaw20_TallyGone hS hV hB hw hx v2

theorem tallyGone_met (os : Os) (args : Array Value) : laidMetH Tryz.prog [("linchpin/set.first", zeroV)] ((World.holding Tryz.prog os ⟨#[], #[], []⟩).forCall (fun _ _ => 0) ⟨#[], args, []⟩).memory := by
  rw [MakeChecks.laidMetH_plain _ _ _ (by kernel_rfl)]
  exact laidMet_of_run' 8 (by kernel_rfl) (by kernel_rfl)

set_option maxRecDepth 100000 in
theorem tallyGone_lifted (os : Os) (started : os.Started) (H : Type) (enc : TypeId × Value → H) :
    ReturnsInHanded {} Tryz.checked os 14 .any (fun w args => (Rows.tallyGoneSpec.pre enc Tryz.prog Tryz.f14 Rows.tallyGoneRow.domain false w args ∧ laidMetH Tryz.prog [("linchpin/set.first", zeroV)] w) ∧ sizedMet enc Tryz.prog Tryz.f14 (OpenSpec.ofChange Rows.tallyGoneSpec) false w args)
      (Rows.tallyGoneSpec.post enc Tryz.prog Tryz.f14 false true false false) :=
  law_liftL (C := Tryz.checked) (tb := 4) (nm := "linchpin/set.first") tallyGone_own started (by kernel_rfl) Tryz.func14 rfl
    (ChangeSpec.witness_at (enc := enc) (C := Tryz.checked) (os := os) (X := fun w _ => laidMetH Tryz.prog [("linchpin/set.first", zeroV)] w) false (World.holding Tryz.prog os ⟨#[], #[], []⟩) #[.slice none 0 0, .int .i64 0] 8 rfl (by kernel_rfl) (by kernel_rfl) (by kernel_rfl) (by kernel_rfl) (by kernel_rfl) (tallyGone_met os _))
    tallyGone_laid (by rw [show Tryz.f14.params.toList = [22, 3] from by kernel_rfl]; simp only [List.mem_cons, List.not_mem_nil, or_false, forall_eq_or_imp, forall_eq]; exact ⟨⟨by kernel_rfl, of_decide_eq_true (by kernel_rfl)⟩, by kernel_rfl, of_decide_eq_true (by kernel_rfl)⟩) (by kernel_rfl) (by kernel_rfl)
    (shs := [.one (.sl [.int .i64]), .one (.int .i64)]) (by kernel_rfl)
    (fun ds h => by
      rw [show Tryz.f14.params.toList = [22, 3] from by kernel_rfl] at h
      match ds, h with
      | [a0, a1], _ => rfl)
    (by kernel_rfl) (tg := 66) (by kernel_rfl) Tryz.underlying66 (by kernel_rfl)
    (fun Ds h => tallyGone_args h)

theorem tallyGone_j1 : (Rows.tallyGoneRow.wf (OpenSpec.ofChange Rows.tallyGoneSpec)) = true := by kernel_rfl
theorem tallyGone_j2 : (laidOutB Tryz.prog) = true := by kernel_rfl
theorem tallyGone_j3 : (mapsRowed Tryz.prog) = true := by kernel_rfl
theorem tallyGone_j4 : (Tryz.f14.params.all (Tryz.prog.readableRec ·)) = true := by kernel_rfl
theorem tallyGone_j5 : (namedTie Tryz.prog Rows.tallyGoneRow.named Rows.tallyGoneSpec.vars) = true := by kernel_rfl
theorem tallyGone_j6 : ((Rows.tallyGoneRow.stops == [])) = true := by kernel_rfl
theorem tallyGone_j7 : ((Tryz.prog.stops == [])) = true := by kernel_rfl
theorem tallyGone_j8 : ((Rows.tallyGoneRow.knobs == [])) = true := by kernel_rfl
theorem tallyGone_j9 : ((Tryz.prog.stopKnobs == [])) = true := by kernel_rfl
theorem tallyGone_j10 : ((Rows.tallyGoneRow.inPlace == Tryz.prog.inPlace 14)) = true := by kernel_rfl
theorem tallyGone_j11 : ((Rows.tallyGoneRow.unfollowed == Tryz.prog.unfollowed 14)) = true := by kernel_rfl
theorem tallyGone_j12 : ((Rows.tallyGoneRow.recurses == Tryz.prog.recurses 14)) = true := by kernel_rfl
theorem tallyGone_j13 : ((Rows.tallyGoneRow.named == Tryz.prog.varsNamed 14)) = true := by kernel_rfl
theorem tallyGone_j14 : ((Rows.tallyGoneRow.maps == (Tryz.f14.params.toList ++ Rows.tallyGoneSpec.plain.varTypes Tryz.prog).any (Tryz.prog.mapsRec ·))) = true := by kernel_rfl
theorem tallyGone_j15 : ((Rows.tallyGoneRow.ifaces == (Tryz.f14.params.toList ++ Rows.tallyGoneSpec.plain.varTypes Tryz.prog).any (Tryz.prog.ifacesRec ·))) = true := by kernel_rfl
theorem tallyGone_j16 : ((Rows.tallyGoneRow.mapsOut == Tryz.prog.mapsAmong Tryz.f14.resultTypes.toList)) = true := by kernel_rfl
theorem tallyGone_j17 : ((Rows.tallyGoneRow.loops == (Tryz.f14.params.toList ++ Rows.tallyGoneSpec.plain.varTypes Tryz.prog).any (Tryz.prog.loopsFrom ·))) = true := by kernel_rfl
theorem tallyGone_j18 : ((Rows.tallyGoneRow.wideKeys == (Tryz.f14.params.toList ++ Rows.tallyGoneSpec.plain.varTypes Tryz.prog ++ Tryz.f14.resultTypes.toList).any (Tryz.prog.wideKeysFrom ·))) = true := by kernel_rfl
theorem tallyGone_j19 : (Rows.tallyGoneSpec.vars.all (Tryz.prog.varReadable ·)) = true := by kernel_rfl
theorem tallyGone_j20 : (Tryz.f14.resultTypes.all (fun t => Tryz.prog.readableRec t && decide (t < Tryz.prog.types.size))) = true := by kernel_rfl
theorem tallyGone_j21 : ((Rows.tallyGoneRow.ifacesOut == Tryz.f14.resultTypes.toList.any (Tryz.prog.ifacesRec ·))) = true := by kernel_rfl
theorem tallyGone_j22 : ((Rows.tallyGoneRow.loopsOut == Tryz.f14.resultTypes.toList.any (Tryz.prog.loopsFrom ·))) = true := by kernel_rfl
theorem tallyGone_j23 : ((Rows.tallyGoneRow.plainKeys == Tryz.prog.plainKeys)) = true := by kernel_rfl
theorem tallyGone_j24 : (Rows.tallyGoneRow.shortTexts.isNone) = true := by kernel_rfl
theorem tallyGone_j25 : (Tryz.prog.stopsHeard) = true := by kernel_rfl
theorem tallyGone_j26 : (Tryz.prog.mayEnter) = true := by kernel_rfl
theorem tallyGone_j27 : ((Rows.tallyGoneRow.lifted == Tryz.prog.liftsFinal)) = true := by kernel_rfl
theorem tallyGone_j28 : ((Tryz.prog.make == some Rows.tallyGoneRow.make)) = true := by kernel_rfl
theorem tallyGone_j29 : ((Rows.tallyGoneRow.kinds == (if Rows.tallyGoneRow.domain.isEmpty then [] else Tryz.f14.params.toList.map fun t => match Tryz.prog.underlying t with | some (.int k) => some k | _ => none))) = true := by kernel_rfl
theorem tallyGone_j30 : ((Rows.tallyGoneRow.pinned == Rows.tallyGoneRow.pinnedBy)) = true := by kernel_rfl
theorem tallyGone_j31 : ((Rows.tallyGoneRow.veiled == (Tryz.f14.params.toList ++ Rows.tallyGoneSpec.plain.varTypes Tryz.prog ++ Tryz.f14.resultTypes.toList).any (Tryz.prog.veiledRec ·))) = true := by kernel_rfl
theorem tallyGone_j32 : (Rows.tallyGoneRow.veiledFits Tryz.prog Tryz.f14.params.toList (Tryz.f14.params.toList ++ Rows.tallyGoneSpec.plain.varTypes Tryz.prog ++ Tryz.f14.resultTypes.toList)) = true := by kernel_rfl
theorem tallyGone_a2 {a b : Bool} (h : a = true) (i : b = true) : (a && b) = true := by rw [h, i]; rfl
set_option maxRecDepth 100000 in
theorem tallyGone_joined : joinedFacts Tryz.prog 14 Tryz.f14 Rows.tallyGoneSpec Rows.tallyGoneRow = true := by
  unfold joinedFacts
  exact (tallyGone_a2 (tallyGone_a2 (tallyGone_a2 (tallyGone_a2 (tallyGone_a2 (tallyGone_a2 (tallyGone_a2 (tallyGone_a2 (tallyGone_a2 (tallyGone_a2 (tallyGone_a2 (tallyGone_a2 (tallyGone_a2 (tallyGone_a2 (tallyGone_a2 (tallyGone_a2 (tallyGone_a2 (tallyGone_a2 (tallyGone_a2 (tallyGone_a2 (tallyGone_a2 (tallyGone_a2 (tallyGone_a2 (tallyGone_a2 (tallyGone_a2 (tallyGone_a2 (tallyGone_a2 (tallyGone_a2 (tallyGone_a2 (tallyGone_a2 (tallyGone_a2 tallyGone_j1 tallyGone_j2) tallyGone_j3) tallyGone_j4) tallyGone_j5) tallyGone_j6) tallyGone_j7) tallyGone_j8) tallyGone_j9) tallyGone_j10) tallyGone_j11) tallyGone_j12) tallyGone_j13) tallyGone_j14) tallyGone_j15) tallyGone_j16) tallyGone_j17) tallyGone_j18) tallyGone_j19) tallyGone_j20) tallyGone_j21) tallyGone_j22) tallyGone_j23) tallyGone_j24) tallyGone_j25) tallyGone_j26) tallyGone_j27) tallyGone_j28) tallyGone_j29) tallyGone_j30) tallyGone_j31) tallyGone_j32)


theorem tallyGone_row : Rows.TallyGoneSaid :=
  OpenClaim.holds_of_wide 14 Tryz.f14 rfl rfl rfl rfl rfl rfl rfl ⟨rfl, rfl, rfl, rfl, rfl⟩ rfl rfl rfl rfl rfl (by kernel_rfl) Tryz.func14 tallyGone_joined
    (of_decide_eq_true (by kernel_rfl)) (by unfold Func.isWrapper; first | (rw [if_pos (by decide +kernel)]; kernel_rfl) | (rw [if_neg (by decide +kernel)]; exact ⟨rfl, rfl⟩))
    (fun os started H enc _ => tallyGone_lifted os started H enc)

theorem tallyGone_wf : Rows.tallyGoneRow.wfByText (OpenSpec.ofChange Rows.tallyGoneSpec) = true := by kernel_rfl
theorem tallyGone_main : Tryz.prog.mainIs = some ((true, "2fe50029c293f50de3d044661aee7a6c77d90537ffb7f51e24c63b5d42cee2a6").1, (true, "2fe50029c293f50de3d044661aee7a6c77d90537ffb7f51e24c63b5d42cee2a6").2.toList) := by kernel_rfl
theorem tallyGone_look : false = Tryz.prog.looks [] := by kernel_rfl
theorem tallyGone_goes : false = Rows.tallyGoneRow.goesBy Tryz.prog := by kernel_rfl

theorem tallyGone_holds : Rows.TallyGoneCardSaid :=
  Claim7.holds_tied_plain_at .later [] [.data] true (true, "2fe50029c293f50de3d044661aee7a6c77d90537ffb7f51e24c63b5d42cee2a6") false
    tallyGone_row (fun _ h => by cases h) tallyGone_wf (fun _ h => by cases h) tallyGone_row_tie rfl ⟨rfl, rfl⟩ tallyGone_main rfl
    (fun f fn hf hfn => by
      obtain rfl : f = 14 := Option.some.inj ((show Tryz.prog.funcNamed "linchpin/linchpinlaw20.TallyGone" = some 14 by kernel_rfl).symm.trans hf) |>.symm
      obtain rfl : fn = Tryz.f14 := (Option.some.inj (Tryz.func14.symm.trans hfn)).symm
      refine ⟨tallyGone_look, fun j t ht => ?_⟩
      have hm : t ∈ Tryz.f14.params.toList := by
        obtain ⟨hj, e⟩ := Array.getElem?_eq_some_iff.1 ht
        rw [← e]; simp
      rw [show Tryz.f14.params.toList = [22, 3] from by kernel_rfl] at hm
      simp only [List.mem_cons, List.not_mem_nil, or_false] at hm
      rcases hm with rfl | rfl
      · exact (show Tryz.prog.wantsStandIn 22 = false by kernel_rfl)
      · exact (show Tryz.prog.wantsStandIn 3 = false by kernel_rfl))
    tallyGone_goes

#print axioms tallyGone_holds
end Go.Proofs.YtggcpapoljmiaaaGreatDoor
