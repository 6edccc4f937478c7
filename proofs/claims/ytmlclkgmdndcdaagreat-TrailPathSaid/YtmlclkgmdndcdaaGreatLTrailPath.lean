/- The law TrailPath of linchpinlaw24 returns true at every input, and leaves its arguments as they were. It holds for every input, of whatever size, with no condition. -/
import Derived.Test.YtmlclkgmdndcdaaGreatB6
import Derived.Test.YtmlclkgmdndcdaaGreatRows
namespace Go.Proofs.YtmlclkgmdndcdaaGreat
open Go Go.Abs M3 M25

theorem trailPath_own : ownKnob Tryz.prog.godebug = none := by kernel_rfl
theorem trailPath_laid : laidOutB Tryz.prog = true := by kernel_rfl

theorem trailPath_args {Ds : List D} (h : SatAs [.one (.sl [.int .i64]), .one (.sl [.int .i64])] Ds) : Ok Tryz.prog 5 Ds (.bool true) := by
  simp only [SatAs, SatA, Sat] at h
  obtain ⟨_, _, rfl, ⟨r1, rfl, _, q1⟩, _, _, rfl, ⟨r2, rfl, _, q2⟩, rfl⟩ := h
  obtain ⟨l1, rfl, v1⟩ := sat_ints q1
  obtain ⟨l2, rfl, v2⟩ := sat_ints q2
  exact c_linchpinlaw24_TrailPath v1 v2

set_option maxRecDepth 100000 in
theorem trailPath_lifted (os : Os) (started : os.Started) (H : Type) (enc : TypeId × Value → H) :
    ReturnsInHanded {} Tryz.checked os 5 .any (Rows.trailPathSpec.pre6 enc Tryz.prog Tryz.f5 Rows.trailPathRow.domain false) (Rows.trailPathSpec.post enc Tryz.prog Tryz.f5 false true false false) :=
  law_lift (C := Tryz.checked) (tb := 4) trailPath_own started (by kernel_rfl) Tryz.func5 rfl
    (ChangeSpec.witness6 (enc := enc) (C := Tryz.checked) false ⟨#[], #[.slice none 0 0, .slice none 0 0], []⟩ 8 (by kernel_rfl) (by kernel_rfl) (by kernel_rfl) (by kernel_rfl))
    trailPath_laid (by rw [show Tryz.f5.params.toList = [22, 22] from by kernel_rfl]; simp only [List.mem_cons, List.not_mem_nil, or_false, forall_eq_or_imp, forall_eq]; exact ⟨⟨by kernel_rfl, of_decide_eq_true (by kernel_rfl)⟩, by kernel_rfl, of_decide_eq_true (by kernel_rfl)⟩) (by kernel_rfl) (by kernel_rfl)
    (shs := [.one (.sl [.int .i64]), .one (.sl [.int .i64])]) (by kernel_rfl)
    (fun ds h => by
      rw [show Tryz.f5.params.toList = [22, 22] from by kernel_rfl] at h
      match ds, h with
      | [a0, a1], _ => rfl)
    (fun Ds h => trailPath_args h)

theorem trailPath_holds : Rows.TrailPathSaid :=
  OpenClaim.holds_of_wide 5 Tryz.f5 rfl rfl rfl rfl rfl rfl rfl ⟨rfl, rfl, rfl, rfl, rfl⟩ rfl rfl rfl rfl rfl (by kernel_rfl) Tryz.func5 (by kernel_rfl)
    (of_decide_eq_true (by kernel_rfl)) (by unfold Func.isWrapper; first | (rw [if_pos (by decide +kernel)]; kernel_rfl) | (rw [if_neg (by decide +kernel)]; exact ⟨rfl, rfl⟩))
    (fun os started H enc _ => trailPath_lifted os started H enc)

#print axioms trailPath_holds
end Go.Proofs.YtmlclkgmdndcdaaGreat
