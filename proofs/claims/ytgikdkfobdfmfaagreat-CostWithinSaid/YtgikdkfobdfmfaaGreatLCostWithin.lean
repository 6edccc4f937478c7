/- The law CostWithin of linchpinlaw35 returns true at every input, and leaves its arguments as they were. It holds for every input, of whatever size, with no condition. -/
import Derived.Test.YtgikdkfobdfmfaaGreatB5
import Derived.Test.YtgikdkfobdfmfaaGreatRows
namespace Go.Proofs.YtgikdkfobdfmfaaGreat
open Go Go.Abs M3 M25

theorem costWithin_own : ownKnob Tryz.prog.godebug = none := by kernel_rfl
theorem costWithin_laid : laidOutB Tryz.prog = true := by kernel_rfl

theorem costWithin_args {Ds : List D} (h : SatAs [.one (.sl [.int .i64]), .one (.sl [.int .i64]), .one (.int .i64), .one (.sl [.int .i64])] Ds) : Ok Tryz.prog 5 Ds (.bool true) := by
  simp only [SatAs, SatA, Sat] at h
  obtain ⟨_, _, rfl, ⟨r1, rfl, _, q1⟩, _, _, rfl, ⟨r2, rfl, _, q2⟩, _, _, rfl, ⟨n3, rfl, v3⟩, _, _, rfl, ⟨r4, rfl, _, q4⟩, rfl⟩ := h
  obtain ⟨l1, rfl, v1⟩ := sat_ints q1
  obtain ⟨l2, rfl, v2⟩ := sat_ints q2
  obtain ⟨l4, rfl, v4⟩ := sat_ints q4
  exact c_linchpinlaw35_CostWithin v1 v2 v3 v4

set_option maxRecDepth 100000 in
theorem costWithin_lifted (os : Os) (started : os.Started) (H : Type) (enc : TypeId × Value → H) :
    ReturnsInHanded {} Tryz.checked os 5 .any (Rows.costWithinSpec.pre6 enc Tryz.prog Tryz.f5 Rows.costWithinRow.domain false) (Rows.costWithinSpec.post enc Tryz.prog Tryz.f5 false true false false) :=
  law_lift (C := Tryz.checked) (tb := 4) costWithin_own started (by kernel_rfl) Tryz.func5 rfl
    (ChangeSpec.witness6 (enc := enc) (C := Tryz.checked) false ⟨#[], #[.slice none 0 0, .slice none 0 0, .int .i64 0, .slice none 0 0], []⟩ 8 (by kernel_rfl) (by kernel_rfl) (by kernel_rfl) (by kernel_rfl))
    costWithin_laid (by rw [show Tryz.f5.params.toList = [22, 22, 3, 22] from by kernel_rfl]; simp only [List.mem_cons, List.not_mem_nil, or_false, forall_eq_or_imp, forall_eq]; exact ⟨⟨by kernel_rfl, of_decide_eq_true (by kernel_rfl)⟩, ⟨by kernel_rfl, of_decide_eq_true (by kernel_rfl)⟩, ⟨by kernel_rfl, of_decide_eq_true (by kernel_rfl)⟩, by kernel_rfl, of_decide_eq_true (by kernel_rfl)⟩) (by kernel_rfl) (by kernel_rfl)
    (shs := [.one (.sl [.int .i64]), .one (.sl [.int .i64]), .one (.int .i64), .one (.sl [.int .i64])]) (by kernel_rfl)
    (fun ds h => by
      rw [show Tryz.f5.params.toList = [22, 22, 3, 22] from by kernel_rfl] at h
      match ds, h with
      | [a0, a1, a2, a3], _ => rfl)
    (fun Ds h => costWithin_args h)

theorem costWithin_holds : Rows.CostWithinSaid :=
  OpenClaim.holds_of_wide 5 Tryz.f5 rfl rfl rfl rfl rfl rfl rfl ⟨rfl, rfl, rfl, rfl, rfl⟩ rfl rfl rfl rfl rfl (by kernel_rfl) Tryz.func5 (by kernel_rfl)
    (of_decide_eq_true (by kernel_rfl)) (by unfold Func.isWrapper; first | (rw [if_pos (by decide +kernel)]; kernel_rfl) | (rw [if_neg (by decide +kernel)]; exact ⟨rfl, rfl⟩))
    (fun os started H enc _ => costWithin_lifted os started H enc)

#print axioms costWithin_holds
end Go.Proofs.YtgikdkfobdfmfaaGreat
