/- The law ChoiceBent of linchpinlaw19 returns true at every input, and leaves its arguments as they were. It holds for every input, of whatever size; the one listed variable reads as the program's text lays it (the tie is given). -/
import Derived.Test.YtggcpapoljmiaaaGreatDoorB6
import Derived.Test.YtggcpapoljmiaaaGreatDoorRows
import Derived.Test.YtggcpapoljmiaaaGreatDoorCards
import Derived.Test.YtggcpapoljmiaaaGreatDoorTie
namespace Go.Proofs.YtggcpapoljmiaaaGreatDoor
open Go Go.Abs M3 M25

theorem choiceBent_own : ownKnob Tryz.prog.godebug = none := by kernel_rfl
theorem choiceBent_laid : laidOutB Tryz.prog = true := by kernel_rfl

theorem choiceBent_args {Ds : List D} (h : SatAs [.one (.sl [.int .i64]), .one (.int .i64), .one (.int .i64)] Ds) : Ok Tryz.prog 5 (Ds ++ [zeroG]) (.bool true) := by
  simp only [SatAs, SatA, Sat] at h
  obtain ⟨_, _, rfl, ⟨r1, rfl, _, q1⟩, _, _, rfl, ⟨n2, rfl, v2⟩, _, _, rfl, ⟨n3, rfl, v3⟩, rfl⟩ := h
  obtain ⟨l1, rfl, v1⟩ := sat_ints q1
  obtain ⟨_, _, _, _, _, _, _, hS, hV, hB, hw, _, hx, hn⟩ := law_build tfol v1
  exact c_linchpinlaw19_ChoiceBent hS hV hB hw v2 v3

theorem choiceBent_met (os : Os) (args : Array Value) : laidMetH Tryz.prog [("linchpin/set.first", zeroV)] ((World.holding Tryz.prog os ⟨#[], #[], []⟩).forCall (fun _ _ => 0) ⟨#[], args, []⟩).memory := by
  rw [MakeChecks.laidMetH_plain _ _ _ (by kernel_rfl)]
  exact laidMet_of_run' 8 (by kernel_rfl) (by kernel_rfl)

set_option maxRecDepth 100000 in
theorem choiceBent_lifted (os : Os) (started : os.Started) (H : Type) (enc : TypeId × Value → H) :
    ReturnsInHanded {} Tryz.checked os 5 .any (fun w args => (Rows.choiceBentSpec.pre enc Tryz.prog Tryz.f5 Rows.choiceBentRow.domain false w args ∧ laidMetH Tryz.prog [("linchpin/set.first", zeroV)] w) ∧ sizedMet enc Tryz.prog Tryz.f5 (OpenSpec.ofChange Rows.choiceBentSpec) false w args)
      (Rows.choiceBentSpec.post enc Tryz.prog Tryz.f5 false true false false) :=
  law_liftL (C := Tryz.checked) (tb := 4) (nm := "linchpin/set.first") choiceBent_own started (by kernel_rfl) Tryz.func5 rfl
    (ChangeSpec.witness_at (enc := enc) (C := Tryz.checked) (os := os) (X := fun w _ => laidMetH Tryz.prog [("linchpin/set.first", zeroV)] w) false (World.holding Tryz.prog os ⟨#[], #[], []⟩) #[.slice none 0 0, .int .i64 0, .int .i64 0] 8 rfl (by kernel_rfl) (by kernel_rfl) (by kernel_rfl) (by kernel_rfl) (by kernel_rfl) (choiceBent_met os _))
    choiceBent_laid (by rw [show Tryz.f5.params.toList = [22, 3, 3] from by kernel_rfl]; simp only [List.mem_cons, List.not_mem_nil, or_false, forall_eq_or_imp, forall_eq]; exact ⟨⟨by kernel_rfl, of_decide_eq_true (by kernel_rfl)⟩, ⟨by kernel_rfl, of_decide_eq_true (by kernel_rfl)⟩, by kernel_rfl, of_decide_eq_true (by kernel_rfl)⟩) (by kernel_rfl) (by kernel_rfl)
    (shs := [.one (.sl [.int .i64]), .one (.int .i64), .one (.int .i64)]) (by kernel_rfl)
    (fun ds h => by
      rw [show Tryz.f5.params.toList = [22, 3, 3] from by kernel_rfl] at h
      match ds, h with
      | [a0, a1, a2], _ => rfl)
    (by kernel_rfl) (tg := 66) (by kernel_rfl) Tryz.underlying66 (by kernel_rfl)
    (fun Ds h => choiceBent_args h)

theorem choiceBent_j1 : (Rows.choiceBentRow.wf (OpenSpec.ofChange Rows.choiceBentSpec)) = true := by kernel_rfl
theorem choiceBent_j2 : (laidOutB Tryz.prog) = true := by kernel_rfl
theorem choiceBent_j3 : (mapsRowed Tryz.prog) = true := by kernel_rfl
theorem choiceBent_j4 : (Tryz.f5.params.all (Tryz.prog.readableRec ·)) = true := by kernel_rfl
theorem choiceBent_j5 : (namedTie Tryz.prog Rows.choiceBentRow.named Rows.choiceBentSpec.vars) = true := by kernel_rfl
theorem choiceBent_j6 : ((Rows.choiceBentRow.stops == [])) = true := by kernel_rfl
theorem choiceBent_j7 : ((Tryz.prog.stops == [])) = true := by kernel_rfl
theorem choiceBent_j8 : ((Rows.choiceBentRow.knobs == [])) = true := by kernel_rfl
theorem choiceBent_j9 : ((Tryz.prog.stopKnobs == [])) = true := by kernel_rfl
theorem choiceBent_j10 : ((Rows.choiceBentRow.inPlace == Tryz.prog.inPlace 5)) = true := by kernel_rfl
theorem choiceBent_j11 : ((Rows.choiceBentRow.unfollowed == Tryz.prog.unfollowed 5)) = true := by kernel_rfl
theorem choiceBent_j12 : ((Rows.choiceBentRow.recurses == Tryz.prog.recurses 5)) = true := by kernel_rfl
theorem choiceBent_j13 : ((Rows.choiceBentRow.named == Tryz.prog.varsNamed 5)) = true := by kernel_rfl
theorem choiceBent_j14 : ((Rows.choiceBentRow.maps == (Tryz.f5.params.toList ++ Rows.choiceBentSpec.plain.varTypes Tryz.prog).any (Tryz.prog.mapsRec ·))) = true := by kernel_rfl
theorem choiceBent_j15 : ((Rows.choiceBentRow.ifaces == (Tryz.f5.params.toList ++ Rows.choiceBentSpec.plain.varTypes Tryz.prog).any (Tryz.prog.ifacesRec ·))) = true := by kernel_rfl
theorem choiceBent_j16 : ((Rows.choiceBentRow.mapsOut == Tryz.prog.mapsAmong Tryz.f5.resultTypes.toList)) = true := by kernel_rfl
theorem choiceBent_j17 : ((Rows.choiceBentRow.loops == (Tryz.f5.params.toList ++ Rows.choiceBentSpec.plain.varTypes Tryz.prog).any (Tryz.prog.loopsFrom ·))) = true := by kernel_rfl
theorem choiceBent_j18 : ((Rows.choiceBentRow.wideKeys == (Tryz.f5.params.toList ++ Rows.choiceBentSpec.plain.varTypes Tryz.prog ++ Tryz.f5.resultTypes.toList).any (Tryz.prog.wideKeysFrom ·))) = true := by kernel_rfl
theorem choiceBent_j19 : (Rows.choiceBentSpec.vars.all (Tryz.prog.varReadable ·)) = true := by kernel_rfl
theorem choiceBent_j20 : (Tryz.f5.resultTypes.all (fun t => Tryz.prog.readableRec t && decide (t < Tryz.prog.types.size))) = true := by kernel_rfl
theorem choiceBent_j21 : ((Rows.choiceBentRow.ifacesOut == Tryz.f5.resultTypes.toList.any (Tryz.prog.ifacesRec ·))) = true := by kernel_rfl
theorem choiceBent_j22 : ((Rows.choiceBentRow.loopsOut == Tryz.f5.resultTypes.toList.any (Tryz.prog.loopsFrom ·))) = true := by kernel_rfl
theorem choiceBent_j23 : ((Rows.choiceBentRow.plainKeys == Tryz.prog.plainKeys)) = true := by kernel_rfl
theorem choiceBent_j24 : (Rows.choiceBentRow.shortTexts.isNone) = true := by kernel_rfl
theorem choiceBent_j25 : (Tryz.prog.stopsHeard) = true := by kernel_rfl
theorem choiceBent_j26 : (Tryz.prog.mayEnter) = true := by kernel_rfl
theorem choiceBent_j27 : ((Rows.choiceBentRow.lifted == Tryz.prog.liftsFinal)) = true := by kernel_rfl
theorem choiceBent_j28 : ((Tryz.prog.make == some Rows.choiceBentRow.make)) = true := by kernel_rfl
theorem choiceBent_j29 : ((Rows.choiceBentRow.kinds == (if Rows.choiceBentRow.domain.isEmpty then [] else Tryz.f5.params.toList.map fun t => match Tryz.prog.underlying t with | some (.int k) => some k | _ => none))) = true := by kernel_rfl
theorem choiceBent_j30 : ((Rows.choiceBentRow.pinned == Rows.choiceBentRow.pinnedBy)) = true := by kernel_rfl
theorem choiceBent_j31 : ((Rows.choiceBentRow.veiled == (Tryz.f5.params.toList ++ Rows.choiceBentSpec.plain.varTypes Tryz.prog ++ Tryz.f5.resultTypes.toList).any (Tryz.prog.veiledRec ·))) = true := by kernel_rfl
theorem choiceBent_j32 : (Rows.choiceBentRow.veiledFits Tryz.prog Tryz.f5.params.toList (Tryz.f5.params.toList ++ Rows.choiceBentSpec.plain.varTypes Tryz.prog ++ Tryz.f5.resultTypes.toList)) = true := by kernel_rfl
theorem choiceBent_a2 {a b : Bool} (h : a = true) (i : b = true) : (a && b) = true := by rw [h, i]; rfl
set_option maxRecDepth 100000 in
theorem choiceBent_joined : joinedFacts Tryz.prog 5 Tryz.f5 Rows.choiceBentSpec Rows.choiceBentRow = true := by
  unfold joinedFacts
  exact (choiceBent_a2 (choiceBent_a2 (choiceBent_a2 (choiceBent_a2 (choiceBent_a2 (choiceBent_a2 (choiceBent_a2 (choiceBent_a2 (choiceBent_a2 (choiceBent_a2 (choiceBent_a2 (choiceBent_a2 (choiceBent_a2 (choiceBent_a2 (choiceBent_a2 (choiceBent_a2 (choiceBent_a2 (choiceBent_a2 (choiceBent_a2 (choiceBent_a2 (choiceBent_a2 (choiceBent_a2 (choiceBent_a2 (choiceBent_a2 (choiceBent_a2 (choiceBent_a2 (choiceBent_a2 (choiceBent_a2 (choiceBent_a2 (choiceBent_a2 (choiceBent_a2 choiceBent_j1 choiceBent_j2) choiceBent_j3) choiceBent_j4) choiceBent_j5) choiceBent_j6) choiceBent_j7) choiceBent_j8) choiceBent_j9) choiceBent_j10) choiceBent_j11) choiceBent_j12) choiceBent_j13) choiceBent_j14) choiceBent_j15) choiceBent_j16) choiceBent_j17) choiceBent_j18) choiceBent_j19) choiceBent_j20) choiceBent_j21) choiceBent_j22) choiceBent_j23) choiceBent_j24) choiceBent_j25) choiceBent_j26) choiceBent_j27) choiceBent_j28) choiceBent_j29) choiceBent_j30) choiceBent_j31) choiceBent_j32)


theorem choiceBent_row : Rows.ChoiceBentSaid :=
  OpenClaim.holds_of_wide 5 Tryz.f5 rfl rfl rfl rfl rfl rfl rfl ⟨rfl, rfl, rfl, rfl, rfl⟩ rfl rfl rfl rfl rfl (by kernel_rfl) Tryz.func5 choiceBent_joined
    (of_decide_eq_true (by kernel_rfl)) (by unfold Func.isWrapper; first | (rw [if_pos (by decide +kernel)]; kernel_rfl) | (rw [if_neg (by decide +kernel)]; exact ⟨rfl, rfl⟩))
    (fun os started H enc _ => choiceBent_lifted os started H enc)

theorem choiceBent_wf : Rows.choiceBentRow.wfByText (OpenSpec.ofChange Rows.choiceBentSpec) = true := by kernel_rfl
theorem choiceBent_main : Tryz.prog.mainIs = some ((true, "2fe50029c293f50de3d044661aee7a6c77d90537ffb7f51e24c63b5d42cee2a6").1, (true, "2fe50029c293f50de3d044661aee7a6c77d90537ffb7f51e24c63b5d42cee2a6").2.toList) := by kernel_rfl
theorem choiceBent_look : false = Tryz.prog.looks [] := by kernel_rfl
theorem choiceBent_goes : false = Rows.choiceBentRow.goesBy Tryz.prog := by kernel_rfl

theorem choiceBent_holds : Rows.ChoiceBentCardSaid :=
  Claim7.holds_tied_plain_at .later [] [.data] true (true, "2fe50029c293f50de3d044661aee7a6c77d90537ffb7f51e24c63b5d42cee2a6") false
    choiceBent_row (fun _ h => by cases h) choiceBent_wf (fun _ h => by cases h) choiceBent_row_tie rfl ⟨rfl, rfl⟩ choiceBent_main rfl
    (fun f fn hf hfn => by
      obtain rfl : f = 5 := Option.some.inj ((show Tryz.prog.funcNamed "linchpin/linchpinlaw19.ChoiceBent" = some 5 by kernel_rfl).symm.trans hf) |>.symm
      obtain rfl : fn = Tryz.f5 := (Option.some.inj (Tryz.func5.symm.trans hfn)).symm
      refine ⟨choiceBent_look, fun j t ht => ?_⟩
      have hm : t ∈ Tryz.f5.params.toList := by
        obtain ⟨hj, e⟩ := Array.getElem?_eq_some_iff.1 ht
        rw [← e]; simp
      rw [show Tryz.f5.params.toList = [22, 3, 3] from by kernel_rfl] at hm
      simp only [List.mem_cons, List.not_mem_nil, or_false] at hm
      rcases hm with rfl | rfl | rfl
      · exact (show Tryz.prog.wantsStandIn 22 = false by kernel_rfl)
      · exact (show Tryz.prog.wantsStandIn 3 = false by kernel_rfl)
      · exact (show Tryz.prog.wantsStandIn 3 = false by kernel_rfl))
    choiceBent_goes

#print axioms choiceBent_holds
end Go.Proofs.YtggcpapoljmiaaaGreatDoor
