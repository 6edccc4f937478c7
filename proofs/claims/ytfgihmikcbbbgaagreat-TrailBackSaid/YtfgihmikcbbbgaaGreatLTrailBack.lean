/- The law TrailBack of linchpinlaw24 returns true at every input, and leaves its arguments as they were. It holds for every input, of whatever size, with no condition. -/
import Derived.Test.YtfgihmikcbbbgaaGreatB5
import Derived.Test.YtfgihmikcbbbgaaGreatRows
namespace Go.Proofs.YtfgihmikcbbbgaaGreat
open Go Go.Abs M3 M25

theorem trailBack_own : ownKnob Tryz.prog.godebug = none := by kernel_rfl
theorem trailBack_laid : laidOutB Tryz.prog = true := by kernel_rfl

theorem trailBack_args {Ds : List D} (h : SatAs [.one (.sl [.int .i64]), .one (.sl [.int .i64]), .one (.int .i64), .one (.int .i64), .one (.int .i64)] Ds) : Ok Tryz.prog 4 Ds (.bool true) := by
  simp only [SatAs, SatA, Sat] at h
  obtain ⟨_, _, rfl, ⟨r1, rfl, _, q1⟩, _, _, rfl, ⟨r2, rfl, _, q2⟩, _, _, rfl, ⟨n3, rfl, v3⟩, _, _, rfl, ⟨n4, rfl, v4⟩, _, _, rfl, ⟨n5, rfl, v5⟩, rfl⟩ := h
  obtain ⟨l1, rfl, v1⟩ := sat_ints q1
  obtain ⟨l2, rfl, v2⟩ := sat_ints q2
  exact c_linchpinlaw24_TrailBack v1 v2 v3 v4 v5

set_option maxRecDepth 100000 in
theorem trailBack_lifted (os : Os) (started : os.Started) (H : Type) (enc : TypeId × Value → H) :
    ReturnsInHanded {} Tryz.checked os 4 .any (Rows.trailBackSpec.pre6 enc Tryz.prog Tryz.f4 Rows.trailBackRow.domain false) (Rows.trailBackSpec.post enc Tryz.prog Tryz.f4 false true false false) :=
  law_lift (C := Tryz.checked) (tb := 4) trailBack_own started (by kernel_rfl) Tryz.func4 rfl
    (ChangeSpec.witness6 (enc := enc) (C := Tryz.checked) false ⟨#[], #[.slice none 0 0, .slice none 0 0, .int .i64 0, .int .i64 0, .int .i64 0], []⟩ 8 (by kernel_rfl) (by kernel_rfl) (by kernel_rfl) (by kernel_rfl))
    trailBack_laid (by rw [show Tryz.f4.params.toList = [22, 22, 3, 3, 3] from by kernel_rfl]; simp only [List.mem_cons, List.not_mem_nil, or_false, forall_eq_or_imp, forall_eq]; exact ⟨⟨by kernel_rfl, of_decide_eq_true (by kernel_rfl)⟩, ⟨by kernel_rfl, of_decide_eq_true (by kernel_rfl)⟩, ⟨by kernel_rfl, of_decide_eq_true (by kernel_rfl)⟩, ⟨by kernel_rfl, of_decide_eq_true (by kernel_rfl)⟩, by kernel_rfl, of_decide_eq_true (by kernel_rfl)⟩) (by kernel_rfl) (by kernel_rfl)
    (shs := [.one (.sl [.int .i64]), .one (.sl [.int .i64]), .one (.int .i64), .one (.int .i64), .one (.int .i64)]) (by kernel_rfl)
    (fun ds h => by
      rw [show Tryz.f4.params.toList = [22, 22, 3, 3, 3] from by kernel_rfl] at h
      match ds, h with
      | [a0, a1, a2, a3, a4], _ => rfl)
    (fun Ds h => trailBack_args h)

theorem trailBack_holds : Rows.TrailBackSaid :=
  OpenClaim.holds_of_wide 4 Tryz.f4 rfl rfl rfl rfl rfl rfl rfl ⟨rfl, rfl, rfl, rfl, rfl⟩ rfl rfl rfl rfl rfl (by kernel_rfl) Tryz.func4 (by kernel_rfl)
    (of_decide_eq_true (by kernel_rfl)) (by unfold Func.isWrapper; first | (rw [if_pos (by decide +kernel)]; kernel_rfl) | (rw [if_neg (by decide +kernel)]; exact ⟨rfl, rfl⟩))
    (fun os started H enc _ => trailBack_lifted os started H enc)

#print axioms trailBack_holds
end Go.Proofs.YtfgihmikcbbbgaaGreat
