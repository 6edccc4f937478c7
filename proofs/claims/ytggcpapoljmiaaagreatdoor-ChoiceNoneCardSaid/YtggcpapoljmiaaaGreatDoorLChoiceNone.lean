/- The law ChoiceNone of linchpinlaw19 returns true at every input, and leaves its arguments as they were. It holds for every input, of whatever size; the one listed variable reads as the program's text lays it (the tie is given). -/
import Derived.Test.YtggcpapoljmiaaaGreatDoorC43
import Derived.Test.YtggcpapoljmiaaaGreatDoorRows
import Derived.Test.YtggcpapoljmiaaaGreatDoorCards
import Derived.Test.YtggcpapoljmiaaaGreatDoorTie
namespace Go.Proofs.YtggcpapoljmiaaaGreatDoor
open Go Go.Abs M3 M25

theorem choiceNone_own : ownKnob Tryz.prog.godebug = none := by kernel_rfl
theorem choiceNone_laid : laidOutB Tryz.prog = true := by kernel_rfl

theorem choiceNone_args {Ds : List D} (h : SatAs [.one (.sl [.int .i64]), .one (.int .i64)] Ds) : Ok Tryz.prog 7 (Ds ++ [zeroG]) (.bool true) := by
  simp only [SatAs, SatA, Sat] at h
  obtain ⟨_, _, rfl, ⟨r1, rfl, _, q1⟩, _, _, rfl, ⟨n2, rfl, v2⟩, rfl⟩ := h
  obtain ⟨l1, rfl, v1⟩ := sat_ints q1
  obtain ⟨w, hw, hW⟩ := world_ok tfol v1
  exact c_linchpinlaw19_ChoiceNone hW hw v2

theorem choiceNone_met (os : Os) (args : Array Value) : laidMetH Tryz.prog [("linchpin/set.first", zeroV)] ((World.holding Tryz.prog os ⟨#[], #[], []⟩).forCall (fun _ _ => 0) ⟨#[], args, []⟩).memory := by
  rw [MakeChecks.laidMetH_plain _ _ _ (by kernel_rfl)]
  exact laidMet_of_run' 8 (by kernel_rfl) (by kernel_rfl)

set_option maxRecDepth 100000 in
theorem choiceNone_lifted (os : Os) (started : os.Started) (H : Type) (enc : TypeId × Value → H) :
    ReturnsInHanded {} Tryz.checked os 7 .any (fun w args => (Rows.choiceNoneSpec.pre enc Tryz.prog Tryz.f7 Rows.choiceNoneRow.domain false w args ∧ laidMetH Tryz.prog [("linchpin/set.first", zeroV)] w) ∧ sizedMet enc Tryz.prog Tryz.f7 (OpenSpec.ofChange Rows.choiceNoneSpec) false w args)
      (Rows.choiceNoneSpec.post enc Tryz.prog Tryz.f7 false true false false) :=
  law_liftL (C := Tryz.checked) (tb := 4) (nm := "linchpin/set.first") choiceNone_own started (by kernel_rfl) Tryz.func7 rfl
    (ChangeSpec.witness_at (enc := enc) (C := Tryz.checked) (os := os) (X := fun w _ => laidMetH Tryz.prog [("linchpin/set.first", zeroV)] w) false (World.holding Tryz.prog os ⟨#[], #[], []⟩) #[.slice none 0 0, .int .i64 0] 8 rfl (by kernel_rfl) (by kernel_rfl) (by kernel_rfl) (by kernel_rfl) (by kernel_rfl) (choiceNone_met os _))
    choiceNone_laid (by rw [show Tryz.f7.params.toList = [22, 3] from by kernel_rfl]; simp only [List.mem_cons, List.not_mem_nil, or_false, forall_eq_or_imp, forall_eq]; exact ⟨⟨by kernel_rfl, of_decide_eq_true (by kernel_rfl)⟩, by kernel_rfl, of_decide_eq_true (by kernel_rfl)⟩) (by kernel_rfl) (by kernel_rfl)
    (shs := [.one (.sl [.int .i64]), .one (.int .i64)]) (by kernel_rfl)
    (fun ds h => by
      rw [show Tryz.f7.params.toList = [22, 3] from by kernel_rfl] at h
      match ds, h with
      | [a0, a1], _ => rfl)
    (by kernel_rfl) (tg := 66) (by kernel_rfl) Tryz.underlying66 (by kernel_rfl)
    (fun Ds h => choiceNone_args h)

theorem choiceNone_j1 : (Rows.choiceNoneRow.wf (OpenSpec.ofChange Rows.choiceNoneSpec)) = true := by kernel_rfl
theorem choiceNone_j2 : (laidOutB Tryz.prog) = true := by kernel_rfl
theorem choiceNone_j3 : (mapsRowed Tryz.prog) = true := by kernel_rfl
theorem choiceNone_j4 : (Tryz.f7.params.all (Tryz.prog.readableRec ·)) = true := by kernel_rfl
theorem choiceNone_j5 : (namedTie Tryz.prog Rows.choiceNoneRow.named Rows.choiceNoneSpec.vars) = true := by kernel_rfl
theorem choiceNone_j6 : ((Rows.choiceNoneRow.stops == [])) = true := by kernel_rfl
theorem choiceNone_j7 : ((Tryz.prog.stops == [])) = true := by kernel_rfl
theorem choiceNone_j8 : ((Rows.choiceNoneRow.knobs == [])) = true := by kernel_rfl
theorem choiceNone_j9 : ((Tryz.prog.stopKnobs == [])) = true := by kernel_rfl
theorem choiceNone_j10 : ((Rows.choiceNoneRow.inPlace == Tryz.prog.inPlace 7)) = true := by kernel_rfl
theorem choiceNone_j11 : ((Rows.choiceNoneRow.unfollowed == Tryz.prog.unfollowed 7)) = true := by kernel_rfl
theorem choiceNone_j12 : ((Rows.choiceNoneRow.recurses == Tryz.prog.recurses 7)) = true := by kernel_rfl
theorem choiceNone_j13 : ((Rows.choiceNoneRow.named == Tryz.prog.varsNamed 7)) = true := by kernel_rfl
theorem choiceNone_j14 : ((Rows.choiceNoneRow.maps == (Tryz.f7.params.toList ++ Rows.choiceNoneSpec.plain.varTypes Tryz.prog).any (Tryz.prog.mapsRec ·))) = true := by kernel_rfl
theorem choiceNone_j15 : ((Rows.choiceNoneRow.ifaces == (Tryz.f7.params.toList ++ Rows.choiceNoneSpec.plain.varTypes Tryz.prog).any (Tryz.prog.ifacesRec ·))) = true := by kernel_rfl
theorem choiceNone_j16 : ((Rows.choiceNoneRow.mapsOut == Tryz.prog.mapsAmong Tryz.f7.resultTypes.toList)) = true := by kernel_rfl
theorem choiceNone_j17 : ((Rows.choiceNoneRow.loops == (Tryz.f7.params.toList ++ Rows.choiceNoneSpec.plain.varTypes Tryz.prog).any (Tryz.prog.loopsFrom ·))) = true := by kernel_rfl
theorem choiceNone_j18 : ((Rows.choiceNoneRow.wideKeys == (Tryz.f7.params.toList ++ Rows.choiceNoneSpec.plain.varTypes Tryz.prog ++ Tryz.f7.resultTypes.toList).any (Tryz.prog.wideKeysFrom ·))) = true := by kernel_rfl
theorem choiceNone_j19 : (Rows.choiceNoneSpec.vars.all (Tryz.prog.varReadable ·)) = true := by kernel_rfl
theorem choiceNone_j20 : (Tryz.f7.resultTypes.all (fun t => Tryz.prog.readableRec t && decide (t < Tryz.prog.types.size))) = true := by kernel_rfl
theorem choiceNone_j21 : ((Rows.choiceNoneRow.ifacesOut == Tryz.f7.resultTypes.toList.any (Tryz.prog.ifacesRec ·))) = true := by kernel_rfl
theorem choiceNone_j22 : ((Rows.choiceNoneRow.loopsOut == Tryz.f7.resultTypes.toList.any (Tryz.prog.loopsFrom ·))) = true := by kernel_rfl
theorem choiceNone_j23 : ((Rows.choiceNoneRow.plainKeys == Tryz.prog.plainKeys)) = true := by kernel_rfl
theorem choiceNone_j24 : (Rows.choiceNoneRow.shortTexts.isNone) = true := by kernel_rfl
theorem choiceNone_j25 : (Tryz.prog.stopsHeard) = true := by kernel_rfl
theorem choiceNone_j26 : (Tryz.prog.mayEnter) = true := by kernel_rfl
theorem choiceNone_j27 : ((Rows.choiceNoneRow.lifted == Tryz.prog.liftsFinal)) = true := by kernel_rfl
theorem choiceNone_j28 : ((Tryz.prog.make == some Rows.choiceNoneRow.make)) = true := by kernel_rfl
theorem choiceNone_j29 : ((Rows.choiceNoneRow.kinds == (if Rows.choiceNoneRow.domain.isEmpty then [] else Tryz.f7.params.toList.map fun t => match Tryz.prog.underlying t with | some (.int k) => some k | _ => none))) = true := by kernel_rfl
theorem choiceNone_j30 : ((Rows.choiceNoneRow.pinned == Rows.choiceNoneRow.pinnedBy)) = true := by kernel_rfl
theorem choiceNone_j31 : ((Rows.choiceNoneRow.veiled == (Tryz.f7.params.toList ++ Rows.choiceNoneSpec.plain.varTypes Tryz.prog ++ Tryz.f7.resultTypes.toList).any (Tryz.prog.veiledRec ·))) = true := by kernel_rfl
theorem choiceNone_j32 : (Rows.choiceNoneRow.veiledFits Tryz.prog Tryz.f7.params.toList (Tryz.f7.params.toList ++ Rows.choiceNoneSpec.plain.varTypes Tryz.prog ++ Tryz.f7.resultTypes.toList)) = true := by kernel_rfl
theorem choiceNone_a2 {a b : Bool} (h : a = true) (i : b = true) : (a && b) = true := by rw [h, i]; rfl
set_option maxRecDepth 100000 in
theorem choiceNone_joined : joinedFacts Tryz.prog 7 Tryz.f7 Rows.choiceNoneSpec Rows.choiceNoneRow = true := by
  unfold joinedFacts
  exact (choiceNone_a2 (choiceNone_a2 (choiceNone_a2 (choiceNone_a2 (choiceNone_a2 (choiceNone_a2 (choiceNone_a2 (choiceNone_a2 (choiceNone_a2 (choiceNone_a2 (choiceNone_a2 (choiceNone_a2 (choiceNone_a2 (choiceNone_a2 (choiceNone_a2 (choiceNone_a2 (choiceNone_a2 (choiceNone_a2 (choiceNone_a2 (choiceNone_a2 (choiceNone_a2 (choiceNone_a2 (choiceNone_a2 (choiceNone_a2 (choiceNone_a2 (choiceNone_a2 (choiceNone_a2 (choiceNone_a2 (choiceNone_a2 (choiceNone_a2 (choiceNone_a2 choiceNone_j1 choiceNone_j2) choiceNone_j3) choiceNone_j4) choiceNone_j5) choiceNone_j6) choiceNone_j7) choiceNone_j8) choiceNone_j9) choiceNone_j10) choiceNone_j11) choiceNone_j12) choiceNone_j13) choiceNone_j14) choiceNone_j15) choiceNone_j16) choiceNone_j17) choiceNone_j18) choiceNone_j19) choiceNone_j20) choiceNone_j21) choiceNone_j22) choiceNone_j23) choiceNone_j24) choiceNone_j25) choiceNone_j26) choiceNone_j27) choiceNone_j28) choiceNone_j29) choiceNone_j30) choiceNone_j31) choiceNone_j32)


theorem choiceNone_row : Rows.ChoiceNoneSaid :=
  OpenClaim.holds_of_wide 7 Tryz.f7 rfl rfl rfl rfl rfl rfl rfl ⟨rfl, rfl, rfl, rfl, rfl⟩ rfl rfl rfl rfl rfl (by kernel_rfl) Tryz.func7 choiceNone_joined
    (of_decide_eq_true (by kernel_rfl)) (by unfold Func.isWrapper; first | (rw [if_pos (by decide +kernel)]; kernel_rfl) | (rw [if_neg (by decide +kernel)]; exact ⟨rfl, rfl⟩))
    (fun os started H enc _ => choiceNone_lifted os started H enc)

theorem choiceNone_wf : Rows.choiceNoneRow.wfByText (OpenSpec.ofChange Rows.choiceNoneSpec) = true := by kernel_rfl
theorem choiceNone_main : Tryz.prog.mainIs = some ((true, "2fe50029c293f50de3d044661aee7a6c77d90537ffb7f51e24c63b5d42cee2a6").1, (true, "2fe50029c293f50de3d044661aee7a6c77d90537ffb7f51e24c63b5d42cee2a6").2.toList) := by kernel_rfl
theorem choiceNone_look : false = Tryz.prog.looks [] := by kernel_rfl
theorem choiceNone_goes : false = Rows.choiceNoneRow.goesBy Tryz.prog := by kernel_rfl

theorem choiceNone_holds : Rows.ChoiceNoneCardSaid :=
  Claim7.holds_tied_plain_at .later [] [.data] true (true, "2fe50029c293f50de3d044661aee7a6c77d90537ffb7f51e24c63b5d42cee2a6") false
    choiceNone_row (fun _ h => by cases h) choiceNone_wf (fun _ h => by cases h) choiceNone_row_tie rfl ⟨rfl, rfl⟩ choiceNone_main rfl
    (fun f fn hf hfn => by
      obtain rfl : f = 7 := Option.some.inj ((show Tryz.prog.funcNamed "linchpin/linchpinlaw19.ChoiceNone" = some 7 by kernel_rfl).symm.trans hf) |>.symm
      obtain rfl : fn = Tryz.f7 := (Option.some.inj (Tryz.func7.symm.trans hfn)).symm
      refine ⟨choiceNone_look, fun j t ht => ?_⟩
      have hm : t ∈ Tryz.f7.params.toList := by
        obtain ⟨hj, e⟩ := Array.getElem?_eq_some_iff.1 ht
        rw [← e]; simp
      rw [show Tryz.f7.params.toList = [22, 3] from by kernel_rfl] at hm
      simp only [List.mem_cons, List.not_mem_nil, or_false] at hm
      rcases hm with rfl | rfl
      · exact (show Tryz.prog.wantsStandIn 22 = false by kernel_rfl)
      · exact (show Tryz.prog.wantsStandIn 3 = false by kernel_rfl))
    choiceNone_goes

#print axioms choiceNone_holds
end Go.Proofs.YtggcpapoljmiaaaGreatDoor
