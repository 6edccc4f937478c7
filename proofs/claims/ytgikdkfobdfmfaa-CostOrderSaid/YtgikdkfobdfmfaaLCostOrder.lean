/- The law CostOrder of linchpinlaw35 returns true at every input, and leaves its arguments as they were. It holds for every input, of whatever size, with no condition. -/
import Derived.Test.YtgikdkfobdfmfaaB5
import Derived.Test.YtgikdkfobdfmfaaRows
namespace Go.Proofs.Ytgikdkfobdfmfaa
open Go Go.Abs M3 M25

theorem costOrder_own : ownKnob Try.prog.godebug = none := by kernel_rfl
theorem costOrder_laid : laidOutB Try.prog = true := by kernel_rfl

theorem costOrder_args {Ds : List D} (h : SatAs [.one (.sl [.int .i64]), .one (.int .i64), .one (.int .i64)] Ds) : Ok Try.prog 5 Ds (.bool true) := by
  simp only [SatAs, SatA, Sat] at h
  obtain ⟨_, _, rfl, ⟨r1, rfl, _, q1⟩, _, _, rfl, ⟨n2, rfl, v2⟩, _, _, rfl, ⟨n3, rfl, v3⟩, rfl⟩ := h
  obtain ⟨l1, rfl, v1⟩ := sat_ints q1
  exact c_linchpinlaw35_CostOrder v1 v2 v3

set_option maxRecDepth 100000 in
theorem costOrder_lifted (os : Os) (started : os.Started) (H : Type) (enc : TypeId × Value → H) :
    ReturnsInHanded {} Try.checked os 5 .any (Rows.costOrderSpec.pre6 enc Try.prog Try.f5 Rows.costOrderRow.domain false) (Rows.costOrderSpec.post enc Try.prog Try.f5 false true false false) :=
  law_lift (C := Try.checked) (tb := 4) costOrder_own started (by kernel_rfl) Try.func5 rfl
    (ChangeSpec.witness6 (enc := enc) (C := Try.checked) false ⟨#[], #[.slice none 0 0, .int .i64 0, .int .i64 0], []⟩ 8 (by kernel_rfl) (by kernel_rfl) (by kernel_rfl) (by kernel_rfl))
    costOrder_laid (by rw [show Try.f5.params.toList = [22, 3, 3] from by kernel_rfl]; simp only [List.mem_cons, List.not_mem_nil, or_false, forall_eq_or_imp, forall_eq]; exact ⟨⟨by kernel_rfl, of_decide_eq_true (by kernel_rfl)⟩, ⟨by kernel_rfl, of_decide_eq_true (by kernel_rfl)⟩, by kernel_rfl, of_decide_eq_true (by kernel_rfl)⟩) (by kernel_rfl) (by kernel_rfl)
    (shs := [.one (.sl [.int .i64]), .one (.int .i64), .one (.int .i64)]) (by kernel_rfl)
    (fun ds h => by
      rw [show Try.f5.params.toList = [22, 3, 3] from by kernel_rfl] at h
      match ds, h with
      | [a0, a1, a2], _ => rfl)
    (fun Ds h => costOrder_args h)

theorem costOrder_holds : Rows.CostOrderSaid :=
  OpenClaim.holds_of_wide 5 Try.f5 rfl rfl rfl rfl rfl rfl rfl ⟨rfl, rfl, rfl, rfl, rfl⟩ rfl rfl rfl rfl rfl (by kernel_rfl) Try.func5 (by kernel_rfl)
    (of_decide_eq_true (by kernel_rfl)) (by unfold Func.isWrapper; first | (rw [if_pos (by decide +kernel)]; kernel_rfl) | (rw [if_neg (by decide +kernel)]; exact ⟨rfl, rfl⟩))
    (fun os started H enc _ => costOrder_lifted os started H enc)

#print axioms costOrder_holds
end Go.Proofs.Ytgikdkfobdfmfaa
