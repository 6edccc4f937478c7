/- The law CostMay of linchpinlaw35 returns true at every input, and leaves its arguments as they were. It holds for every input, of whatever size, with no condition. -/
import Derived.Test.YtgikdkfobdfmfaaB5
import Derived.Test.YtgikdkfobdfmfaaRows
namespace Go.Proofs.Ytgikdkfobdfmfaa
open Go Go.Abs M3 M25

theorem costMay_own : ownKnob Try.prog.godebug = none := by kernel_rfl
theorem costMay_laid : laidOutB Try.prog = true := by kernel_rfl

theorem costMay_args {Ds : List D} (h : SatAs [.one (.sl [.int .i64]), .one (.sl [.sl [.int .i64]]), .one (.sl [.int .i64]), .one (.int .i64), .one (.int .i64), .one (.int .i64)] Ds) : Ok Try.prog 3 Ds (.bool true) := by
  simp only [SatAs, SatA, Sat] at h
  have hs : ∀ rows : List (List D), (∀ row ∈ rows, SatR [.sl [.int .i64]] row) → ∃ l : List (List Int), rows = l.map fun r => [dInts r] := by
    intro rows
    induction rows with
    | nil => exact fun _ => ⟨[], rfl⟩
    | cons row rows ih =>
      intro h
      obtain ⟨l, h1⟩ := ih fun r hr => h r (by simp [hr])
      have h0 := h row (by simp)
      simp only [SatR, Sat] at h0
      obtain ⟨_, _, rfl, ⟨s, rfl, _, q⟩, rfl⟩ := h0
      obtain ⟨m, rfl, _⟩ := sat_ints q
      exact ⟨m :: l, by rw [h1]; rfl⟩
  obtain ⟨_, _, rfl, ⟨r1, rfl, _, q1⟩, _, _, rfl, ⟨r2, rfl, _, q2⟩, _, _, rfl, ⟨r3, rfl, _, q3⟩, _, _, rfl, ⟨n4, rfl, v4⟩, _, _, rfl, ⟨n5, rfl, v5⟩, _, _, rfl, ⟨n6, rfl, v6⟩, rfl⟩ := h
  obtain ⟨l1, rfl, v1⟩ := sat_ints q1
  obtain ⟨l2, rfl⟩ := hs _ q2
  obtain ⟨l3, rfl, v3⟩ := sat_ints q3
  exact c_linchpinlaw35_CostMay v1 v3 v4 v6

set_option maxRecDepth 100000 in
theorem costMay_lifted (os : Os) (started : os.Started) (H : Type) (enc : TypeId × Value → H) :
    ReturnsInHanded {} Try.checked os 3 .any (Rows.costMaySpec.pre6 enc Try.prog Try.f3 Rows.costMayRow.domain false) (Rows.costMaySpec.post enc Try.prog Try.f3 false true false false) :=
  law_lift (C := Try.checked) (tb := 4) costMay_own started (by kernel_rfl) Try.func3 rfl
    (ChangeSpec.witness6 (enc := enc) (C := Try.checked) false ⟨#[], #[.slice none 0 0, .slice none 0 0, .slice none 0 0, .int .i64 0, .int .i64 0, .int .i64 0], []⟩ 8 (by kernel_rfl) (by kernel_rfl) (by kernel_rfl) (by kernel_rfl))
    costMay_laid (by rw [show Try.f3.params.toList = [22, 23, 22, 3, 3, 3] from by kernel_rfl]; simp only [List.mem_cons, List.not_mem_nil, or_false, forall_eq_or_imp, forall_eq]; exact ⟨⟨by kernel_rfl, of_decide_eq_true (by kernel_rfl)⟩, ⟨by kernel_rfl, of_decide_eq_true (by kernel_rfl)⟩, ⟨by kernel_rfl, of_decide_eq_true (by kernel_rfl)⟩, ⟨by kernel_rfl, of_decide_eq_true (by kernel_rfl)⟩, ⟨by kernel_rfl, of_decide_eq_true (by kernel_rfl)⟩, by kernel_rfl, of_decide_eq_true (by kernel_rfl)⟩) (by kernel_rfl) (by kernel_rfl)
    (shs := [.one (.sl [.int .i64]), .one (.sl [.sl [.int .i64]]), .one (.sl [.int .i64]), .one (.int .i64), .one (.int .i64), .one (.int .i64)]) (by kernel_rfl)
    (fun ds h => by
      rw [show Try.f3.params.toList = [22, 23, 22, 3, 3, 3] from by kernel_rfl] at h
      match ds, h with
      | [a0, a1, a2, a3, a4, a5], _ => rfl)
    (fun Ds h => costMay_args h)

theorem costMay_holds : Rows.CostMaySaid :=
  OpenClaim.holds_of_wide 3 Try.f3 rfl rfl rfl rfl rfl rfl rfl ⟨rfl, rfl, rfl, rfl, rfl⟩ rfl rfl rfl rfl rfl (by kernel_rfl) Try.func3 (by kernel_rfl)
    (of_decide_eq_true (by kernel_rfl)) (by unfold Func.isWrapper; first | (rw [if_pos (by decide +kernel)]; kernel_rfl) | (rw [if_neg (by decide +kernel)]; exact ⟨rfl, rfl⟩))
    (fun os started H enc _ => costMay_lifted os started H enc)

#print axioms costMay_holds
end Go.Proofs.Ytgikdkfobdfmfaa
