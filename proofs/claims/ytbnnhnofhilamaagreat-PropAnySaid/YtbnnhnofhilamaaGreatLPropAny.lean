/- The law PropAny of linchpinlaw25 returns true at every input, and leaves its arguments as they were. It holds for every input, of whatever size, with no condition. -/
import Derived.Test.YtbnnhnofhilamaaGreatB5
import Derived.Test.YtbnnhnofhilamaaGreatRows
namespace Go.Proofs.YtbnnhnofhilamaaGreat
open Go Go.Abs M3 M25

theorem propAny_own : ownKnob Tryz.prog.godebug = none := by kernel_rfl
theorem propAny_laid : laidOutB Tryz.prog = true := by kernel_rfl

theorem propAny_args {Ds : List D} (h : SatAs [.one (.sl [.int .i64]), .one (.sl [.int .i64]), .one (.sl [.int .i64]), .one (.int .i64)] Ds) : Ok Tryz.prog 3 Ds (.bool true) := by
  simp only [SatAs, SatA, Sat] at h
  obtain ⟨_, _, rfl, ⟨r1, rfl, _, q1⟩, _, _, rfl, ⟨r2, rfl, _, q2⟩, _, _, rfl, ⟨r3, rfl, _, q3⟩, _, _, rfl, ⟨n4, rfl, v4⟩, rfl⟩ := h
  obtain ⟨l1, rfl, v1⟩ := sat_ints q1
  obtain ⟨l2, rfl, v2⟩ := sat_ints q2
  obtain ⟨l3, rfl, v3⟩ := sat_ints q3
  exact c_linchpinlaw25_PropAny v1 v2 v3 v4

set_option maxRecDepth 100000 in
theorem propAny_lifted (os : Os) (started : os.Started) (H : Type) (enc : TypeId × Value → H) :
    ReturnsInHanded {} Tryz.checked os 3 .any (Rows.propAnySpec.pre6 enc Tryz.prog Tryz.f3 Rows.propAnyRow.domain false) (Rows.propAnySpec.post enc Tryz.prog Tryz.f3 false true false false) :=
  law_lift (C := Tryz.checked) (tb := 4) propAny_own started (by kernel_rfl) Tryz.func3 rfl
    (ChangeSpec.witness6 (enc := enc) (C := Tryz.checked) false ⟨#[], #[.slice none 0 0, .slice none 0 0, .slice none 0 0, .int .i64 0], []⟩ 8 (by kernel_rfl) (by kernel_rfl) (by kernel_rfl) (by kernel_rfl))
    propAny_laid (by rw [show Tryz.f3.params.toList = [22, 22, 22, 3] from by kernel_rfl]; simp only [List.mem_cons, List.not_mem_nil, or_false, forall_eq_or_imp, forall_eq]; exact ⟨⟨by kernel_rfl, of_decide_eq_true (by kernel_rfl)⟩, ⟨by kernel_rfl, of_decide_eq_true (by kernel_rfl)⟩, ⟨by kernel_rfl, of_decide_eq_true (by kernel_rfl)⟩, by kernel_rfl, of_decide_eq_true (by kernel_rfl)⟩) (by kernel_rfl) (by kernel_rfl)
    (shs := [.one (.sl [.int .i64]), .one (.sl [.int .i64]), .one (.sl [.int .i64]), .one (.int .i64)]) (by kernel_rfl)
    (fun ds h => by
      rw [show Tryz.f3.params.toList = [22, 22, 22, 3] from by kernel_rfl] at h
      match ds, h with
      | [a0, a1, a2, a3], _ => rfl)
    (fun Ds h => propAny_args h)

theorem propAny_holds : Rows.PropAnySaid :=
  OpenClaim.holds_of_wide 3 Tryz.f3 rfl rfl rfl rfl rfl rfl rfl ⟨rfl, rfl, rfl, rfl, rfl⟩ rfl rfl rfl rfl rfl (by kernel_rfl) Tryz.func3 (by kernel_rfl)
    (of_decide_eq_true (by kernel_rfl)) (by unfold Func.isWrapper; first | (rw [if_pos (by decide +kernel)]; kernel_rfl) | (rw [if_neg (by decide +kernel)]; exact ⟨rfl, rfl⟩))
    (fun os started H enc _ => propAny_lifted os started H enc)

#print axioms propAny_holds
end Go.Proofs.YtbnnhnofhilamaaGreat
