/- The law ChoiceMade of linchpinlaw19 returns true at every input, and leaves its arguments as they were. It holds for every input, of whatever size; the one listed variable reads as the program's text lays it (the tie is given). -/
import Derived.Test.YtggcpapoljmiaaaGreatDoorB37
import Derived.Test.YtggcpapoljmiaaaGreatDoorRows
import Derived.Test.YtggcpapoljmiaaaGreatDoorCards
import Derived.Test.YtggcpapoljmiaaaGreatDoorTie
namespace Go.Proofs.YtggcpapoljmiaaaGreatDoor
open Go Go.Abs M3 M25

theorem choiceMade_own : ownKnob Tryz.prog.godebug = none := by kernel_rfl
theorem choiceMade_laid : laidOutB Tryz.prog = true := by kernel_rfl

theorem choiceMade_args {Ds : List D} (h : SatAs [.one (.sl [.int .i64]), .one (.sl [.int .i64]), .one (.bool)] Ds) : Ok Tryz.prog 3 (Ds ++ [zeroG]) (.bool true) := by
  simp only [SatAs, SatA, Sat] at h
  obtain ⟨_, _, rfl, ⟨r1, rfl, _, q1⟩, _, _, rfl, ⟨r2, rfl, _, q2⟩, _, _, rfl, ⟨b, rfl⟩, rfl⟩ := h
  obtain ⟨l1, rfl, v1⟩ := sat_ints q1
  obtain ⟨l2, rfl, v2⟩ := sat_ints q2
  obtain ⟨w, hw, hW⟩ := world_ok tfol v1
  exact c_linchpinlaw19_ChoiceMade hW hw.raw (pick_may hw.v) v2

theorem choiceMade_met (os : Os) (args : Array Value) : laidMetH Tryz.prog [("linchpin/set.first", zeroV)] ((World.holding Tryz.prog os ⟨#[], #[], []⟩).forCall (fun _ _ => 0) ⟨#[], args, []⟩).memory := by
  rw [MakeChecks.laidMetH_plain _ _ _ (by kernel_rfl)]
  exact laidMet_of_run' 8 (by kernel_rfl) (by kernel_rfl)

set_option maxRecDepth 100000 in
theorem choiceMade_lifted (os : Os) (started : os.Started) (H : Type) (enc : TypeId × Value → H) :
    ReturnsInHanded {} Tryz.checked os 3 .any (fun w args => (Rows.choiceMadeSpec.pre enc Tryz.prog Tryz.f3 Rows.choiceMadeRow.domain false w args ∧ laidMetH Tryz.prog [("linchpin/set.first", zeroV)] w) ∧ sizedMet enc Tryz.prog Tryz.f3 (OpenSpec.ofChange Rows.choiceMadeSpec) false w args)
      (Rows.choiceMadeSpec.post enc Tryz.prog Tryz.f3 false true false false) :=
  law_liftL (C := Tryz.checked) (tb := 4) (nm := "linchpin/set.first") choiceMade_own started (by kernel_rfl) Tryz.func3 rfl
    (ChangeSpec.witness_at (enc := enc) (C := Tryz.checked) (os := os) (X := fun w _ => laidMetH Tryz.prog [("linchpin/set.first", zeroV)] w) false (World.holding Tryz.prog os ⟨#[], #[], []⟩) #[.slice none 0 0, .slice none 0 0, .bool false] 8 rfl (by kernel_rfl) (by kernel_rfl) (by kernel_rfl) (by kernel_rfl) (by kernel_rfl) (choiceMade_met os _))
    choiceMade_laid (by rw [show Tryz.f3.params.toList = [22, 22, 4] from by kernel_rfl]; simp only [List.mem_cons, List.not_mem_nil, or_false, forall_eq_or_imp, forall_eq]; exact ⟨⟨by kernel_rfl, of_decide_eq_true (by kernel_rfl)⟩, ⟨by kernel_rfl, of_decide_eq_true (by kernel_rfl)⟩, by kernel_rfl, of_decide_eq_true (by kernel_rfl)⟩) (by kernel_rfl) (by kernel_rfl)
    (shs := [.one (.sl [.int .i64]), .one (.sl [.int .i64]), .one (.bool)]) (by kernel_rfl)
    (fun ds h => by
      rw [show Tryz.f3.params.toList = [22, 22, 4] from by kernel_rfl] at h
      match ds, h with
      | [a0, a1, a2], _ => rfl)
    (by kernel_rfl) (tg := 66) (by kernel_rfl) Tryz.underlying66 (by kernel_rfl)
    (fun Ds h => choiceMade_args h)

theorem choiceMade_j1 : (Rows.choiceMadeRow.wf (OpenSpec.ofChange Rows.choiceMadeSpec)) = true := by kernel_rfl
theorem choiceMade_j2 : (laidOutB Tryz.prog) = true := by kernel_rfl
theorem choiceMade_j3 : (mapsRowed Tryz.prog) = true := by kernel_rfl
theorem choiceMade_j4 : (Tryz.f3.params.all (Tryz.prog.readableRec ·)) = true := by kernel_rfl
theorem choiceMade_j5 : (namedTie Tryz.prog Rows.choiceMadeRow.named Rows.choiceMadeSpec.vars) = true := by kernel_rfl
theorem choiceMade_j6 : ((Rows.choiceMadeRow.stops == [])) = true := by kernel_rfl
theorem choiceMade_j7 : ((Tryz.prog.stops == [])) = true := by kernel_rfl
theorem choiceMade_j8 : ((Rows.choiceMadeRow.knobs == [])) = true := by kernel_rfl
theorem choiceMade_j9 : ((Tryz.prog.stopKnobs == [])) = true := by kernel_rfl
theorem choiceMade_j10 : ((Rows.choiceMadeRow.inPlace == Tryz.prog.inPlace 3)) = true := by kernel_rfl
theorem choiceMade_j11 : ((Rows.choiceMadeRow.unfollowed == Tryz.prog.unfollowed 3)) = true := by kernel_rfl
theorem choiceMade_j12 : ((Rows.choiceMadeRow.recurses == Tryz.prog.recurses 3)) = true := by kernel_rfl
theorem choiceMade_j13 : ((Rows.choiceMadeRow.named == Tryz.prog.varsNamed 3)) = true := by kernel_rfl
theorem choiceMade_j14 : ((Rows.choiceMadeRow.maps == (Tryz.f3.params.toList ++ Rows.choiceMadeSpec.plain.varTypes Tryz.prog).any (Tryz.prog.mapsRec ·))) = true := by kernel_rfl
theorem choiceMade_j15 : ((Rows.choiceMadeRow.ifaces == (Tryz.f3.params.toList ++ Rows.choiceMadeSpec.plain.varTypes Tryz.prog).any (Tryz.prog.ifacesRec ·))) = true := by kernel_rfl
theorem choiceMade_j16 : ((Rows.choiceMadeRow.mapsOut == Tryz.prog.mapsAmong Tryz.f3.resultTypes.toList)) = true := by kernel_rfl
theorem choiceMade_j17 : ((Rows.choiceMadeRow.loops == (Tryz.f3.params.toList ++ Rows.choiceMadeSpec.plain.varTypes Tryz.prog).any (Tryz.prog.loopsFrom ·))) = true := by kernel_rfl
theorem choiceMade_j18 : ((Rows.choiceMadeRow.wideKeys == (Tryz.f3.params.toList ++ Rows.choiceMadeSpec.plain.varTypes Tryz.prog ++ Tryz.f3.resultTypes.toList).any (Tryz.prog.wideKeysFrom ·))) = true := by kernel_rfl
theorem choiceMade_j19 : (Rows.choiceMadeSpec.vars.all (Tryz.prog.varReadable ·)) = true := by kernel_rfl
theorem choiceMade_j20 : (Tryz.f3.resultTypes.all (fun t => Tryz.prog.readableRec t && decide (t < Tryz.prog.types.size))) = true := by kernel_rfl
theorem choiceMade_j21 : ((Rows.choiceMadeRow.ifacesOut == Tryz.f3.resultTypes.toList.any (Tryz.prog.ifacesRec ·))) = true := by kernel_rfl
theorem choiceMade_j22 : ((Rows.choiceMadeRow.loopsOut == Tryz.f3.resultTypes.toList.any (Tryz.prog.loopsFrom ·))) = true := by kernel_rfl
theorem choiceMade_j23 : ((Rows.choiceMadeRow.plainKeys == Tryz.prog.plainKeys)) = true := by kernel_rfl
theorem choiceMade_j24 : (Rows.choiceMadeRow.shortTexts.isNone) = true := by kernel_rfl
theorem choiceMade_j25 : (Tryz.prog.stopsHeard) = true := by kernel_rfl
theorem choiceMade_j26 : (Tryz.prog.mayEnter) = true := by kernel_rfl
theorem choiceMade_j27 : ((Rows.choiceMadeRow.lifted == Tryz.prog.liftsFinal)) = true := by kernel_rfl
theorem choiceMade_j28 : ((Tryz.prog.make == some Rows.choiceMadeRow.make)) = true := by kernel_rfl
theorem choiceMade_j29 : ((Rows.choiceMadeRow.kinds == (if Rows.choiceMadeRow.domain.isEmpty then [] else Tryz.f3.params.toList.map fun t => match Tryz.prog.underlying t with | some (.int k) => some k | _ => none))) = true := by kernel_rfl
theorem choiceMade_j30 : ((Rows.choiceMadeRow.pinned == Rows.choiceMadeRow.pinnedBy)) = true := by kernel_rfl
theorem choiceMade_j31 : ((Rows.choiceMadeRow.veiled == (Tryz.f3.params.toList ++ Rows.choiceMadeSpec.plain.varTypes Tryz.prog ++ Tryz.f3.resultTypes.toList).any (Tryz.prog.veiledRec ·))) = true := by kernel_rfl
theorem choiceMade_j32 : (Rows.choiceMadeRow.veiledFits Tryz.prog Tryz.f3.params.toList (Tryz.f3.params.toList ++ Rows.choiceMadeSpec.plain.varTypes Tryz.prog ++ Tryz.f3.resultTypes.toList)) = true := by kernel_rfl
theorem choiceMade_a2 {a b : Bool} (h : a = true) (i : b = true) : (a && b) = true := by rw [h, i]; rfl
set_option maxRecDepth 100000 in
theorem choiceMade_joined : joinedFacts Tryz.prog 3 Tryz.f3 Rows.choiceMadeSpec Rows.choiceMadeRow = true := by
  unfold joinedFacts
  exact (choiceMade_a2 (choiceMade_a2 (choiceMade_a2 (choiceMade_a2 (choiceMade_a2 (choiceMade_a2 (choiceMade_a2 (choiceMade_a2 (choiceMade_a2 (choiceMade_a2 (choiceMade_a2 (choiceMade_a2 (choiceMade_a2 (choiceMade_a2 (choiceMade_a2 (choiceMade_a2 (choiceMade_a2 (choiceMade_a2 (choiceMade_a2 (choiceMade_a2 (choiceMade_a2 (choiceMade_a2 (choiceMade_a2 (choiceMade_a2 (choiceMade_a2 (choiceMade_a2 (choiceMade_a2 (choiceMade_a2 (choiceMade_a2 (choiceMade_a2 (choiceMade_a2 choiceMade_j1 choiceMade_j2) choiceMade_j3) choiceMade_j4) choiceMade_j5) choiceMade_j6) choiceMade_j7) choiceMade_j8) choiceMade_j9) choiceMade_j10) choiceMade_j11) choiceMade_j12) choiceMade_j13) choiceMade_j14) choiceMade_j15) choiceMade_j16) choiceMade_j17) choiceMade_j18) choiceMade_j19) choiceMade_j20) choiceMade_j21) choiceMade_j22) choiceMade_j23) choiceMade_j24) choiceMade_j25) choiceMade_j26) choiceMade_j27) choiceMade_j28) choiceMade_j29) choiceMade_j30) choiceMade_j31) choiceMade_j32)


theorem choiceMade_row : Rows.ChoiceMadeSaid :=
  OpenClaim.holds_of_wide 3 Tryz.f3 rfl rfl rfl rfl rfl rfl rfl ⟨rfl, rfl, rfl, rfl, rfl⟩ rfl rfl rfl rfl rfl (by kernel_rfl) Tryz.func3 choiceMade_joined
    (of_decide_eq_true (by kernel_rfl)) (by unfold Func.isWrapper; first | (rw [if_pos (by decide +kernel)]; kernel_rfl) | (rw [if_neg (by decide +kernel)]; exact ⟨rfl, rfl⟩))
    (fun os started H enc _ => choiceMade_lifted os started H enc)

theorem choiceMade_wf : Rows.choiceMadeRow.wfByText (OpenSpec.ofChange Rows.choiceMadeSpec) = true := by kernel_rfl
theorem choiceMade_main : Tryz.prog.mainIs = some ((true, "2fe50029c293f50de3d044661aee7a6c77d90537ffb7f51e24c63b5d42cee2a6").1, (true, "2fe50029c293f50de3d044661aee7a6c77d90537ffb7f51e24c63b5d42cee2a6").2.toList) := by kernel_rfl
theorem choiceMade_look : false = Tryz.prog.looks [] := by kernel_rfl
theorem choiceMade_goes : false = Rows.choiceMadeRow.goesBy Tryz.prog := by kernel_rfl

theorem choiceMade_holds : Rows.ChoiceMadeCardSaid :=
  Claim7.holds_tied_plain_at .later [] [.data] true (true, "2fe50029c293f50de3d044661aee7a6c77d90537ffb7f51e24c63b5d42cee2a6") false
    choiceMade_row (fun _ h => by cases h) choiceMade_wf (fun _ h => by cases h) choiceMade_row_tie rfl ⟨rfl, rfl⟩ choiceMade_main rfl
    (fun f fn hf hfn => by
      obtain rfl : f = 3 := Option.some.inj ((show Tryz.prog.funcNamed "linchpin/linchpinlaw19.ChoiceMade" = some 3 by kernel_rfl).symm.trans hf) |>.symm
      obtain rfl : fn = Tryz.f3 := (Option.some.inj (Tryz.func3.symm.trans hfn)).symm
      refine ⟨choiceMade_look, fun j t ht => ?_⟩
      have hm : t ∈ Tryz.f3.params.toList := by
        obtain ⟨hj, e⟩ := Array.getElem?_eq_some_iff.1 ht
        rw [← e]; simp
      rw [show Tryz.f3.params.toList = [22, 22, 4] from by kernel_rfl] at hm
      simp only [List.mem_cons, List.not_mem_nil, or_false] at hm
      rcases hm with rfl | rfl | rfl
      · exact (show Tryz.prog.wantsStandIn 22 = false by kernel_rfl)
      · exact (show Tryz.prog.wantsStandIn 22 = false by kernel_rfl)
      · exact (show Tryz.prog.wantsStandIn 4 = false by kernel_rfl))
    choiceMade_goes

#print axioms choiceMade_holds
end Go.Proofs.YtggcpapoljmiaaaGreatDoor
