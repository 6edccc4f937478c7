/- The law CostNothing of linchpinlaw35 returns true at every input, and leaves its arguments as they were. It holds for every input, of whatever size, with no condition. -/
import Derived.Test.YtgikdkfobdfmfaaB5
import Derived.Test.YtgikdkfobdfmfaaRows
namespace Go.Proofs.Ytgikdkfobdfmfaa
open Go Go.Abs M3 M25

theorem costNothing_own : ownKnob Try.prog.godebug = none := by kernel_rfl
theorem costNothing_laid : laidOutB Try.prog = true := by kernel_rfl

theorem costNothing_args {Ds : List D} (h : SatAs [.one (.sl [.int .i64]), .one (.sl [.int .i64]), .one (.int .i64)] Ds) : Ok Try.prog 4 Ds (.bool true) := by
  simp only [SatAs, SatA, Sat] at h
  obtain ⟨_, _, rfl, ⟨r1, rfl, _, q1⟩, _, _, rfl, ⟨r2, rfl, _, q2⟩, _, _, rfl, ⟨n, rfl, v3⟩, rfl⟩ := h
  obtain ⟨l1, rfl, v1⟩ := sat_ints q1
  obtain ⟨l2, rfl, v2⟩ := sat_ints q2
  exact c_linchpinlaw35_CostNothing v1 v2 v3

set_option maxRecDepth 100000 in
theorem costNothing_lifted (os : Os) (started : os.Started) (H : Type) (enc : TypeId × Value → H) :
    ReturnsInHanded {} Try.checked os 4 .any (Rows.costNothingSpec.pre6 enc Try.prog Try.f4 Rows.costNothingRow.domain false) (Rows.costNothingSpec.post enc Try.prog Try.f4 false true false false) :=
  law_lift (C := Try.checked) (tb := 4) costNothing_own started (by kernel_rfl) Try.func4 rfl
    (ChangeSpec.witness6 (enc := enc) (C := Try.checked) false ⟨#[], #[.slice none 0 0, .slice none 0 0, .int .i64 0], []⟩ 8 (by kernel_rfl) (by kernel_rfl) (by kernel_rfl) (by kernel_rfl))
    costNothing_laid (by rw [show Try.f4.params.toList = [22, 22, 3] from by kernel_rfl]; simp only [List.mem_cons, List.not_mem_nil, or_false, forall_eq_or_imp, forall_eq]; exact ⟨⟨by kernel_rfl, of_decide_eq_true (by kernel_rfl)⟩, ⟨by kernel_rfl, of_decide_eq_true (by kernel_rfl)⟩, by kernel_rfl, of_decide_eq_true (by kernel_rfl)⟩) (by kernel_rfl) (by kernel_rfl)
    (shs := [.one (.sl [.int .i64]), .one (.sl [.int .i64]), .one (.int .i64)]) (by kernel_rfl)
    (fun ds h => by
      rw [show Try.f4.params.toList = [22, 22, 3] from by kernel_rfl] at h
      match ds, h with
      | [a0, a1, a2], _ => rfl)
    (fun Ds h => costNothing_args h)

theorem costNothing_holds : Rows.CostNothingSaid :=
  OpenClaim.holds_of_wide 4 Try.f4 rfl rfl rfl rfl rfl rfl rfl ⟨rfl, rfl, rfl, rfl, rfl⟩ rfl rfl rfl rfl rfl (by kernel_rfl) Try.func4 (by kernel_rfl)
    (of_decide_eq_true (by kernel_rfl)) (by unfold Func.isWrapper; first | (rw [if_pos (by decide +kernel)]; kernel_rfl) | (rw [if_neg (by decide +kernel)]; exact ⟨rfl, rfl⟩))
    (fun os started H enc _ => costNothing_lifted os started H enc)

#print axioms costNothing_holds
end Go.Proofs.Ytgikdkfobdfmfaa
