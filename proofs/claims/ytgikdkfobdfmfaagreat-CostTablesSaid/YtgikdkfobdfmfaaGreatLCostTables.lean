/- The law CostTables of linchpinlaw35 returns true at every input, and leaves its arguments as they were. It holds for every input, of whatever size, with no condition. -/
import Derived.Test.YtgikdkfobdfmfaaGreatB5
import Derived.Test.YtgikdkfobdfmfaaGreatRows
namespace Go.Proofs.YtgikdkfobdfmfaaGreat
open Go Go.Abs M3 M25

theorem costTables_own : ownKnob Tryz.prog.godebug = none := by kernel_rfl
theorem costTables_laid : laidOutB Tryz.prog = true := by kernel_rfl

theorem costTables_args {Ds : List D} (h : SatAs [.one (.sl [.int .i64]), .one (.sl [.int .i64]), .one (.sl [.str]), .one (.int .i64)] Ds) : Ok Tryz.prog 3 Ds (.bool true) := by
  simp only [SatAs, SatA, Sat] at h
  have hs : ∀ rows : List (List D), (∀ row ∈ rows, SatR [.str] row) → ∃ l : List (List UInt8), rows = dStrs l := by
    intro rows
    induction rows with
    | nil => exact fun _ => ⟨[], rfl⟩
    | cons row rows ih =>
      intro h
      obtain ⟨l, h1⟩ := ih fun r hr => h r (by simp [hr])
      have h0 := h row (by simp)
      simp only [SatR, Sat] at h0
      obtain ⟨_, _, rfl, ⟨s, rfl, _⟩, rfl⟩ := h0
      exact ⟨s :: l, by rw [h1]; rfl⟩
  obtain ⟨_, _, rfl, ⟨r1, rfl, _, q1⟩, _, _, rfl, ⟨r2, rfl, _, q2⟩, _, _, rfl, ⟨r3, rfl, _, q3⟩, _, _, rfl, ⟨n4, rfl, v4⟩, rfl⟩ := h
  obtain ⟨l1, rfl, v1⟩ := sat_ints q1
  obtain ⟨l2, rfl, v2⟩ := sat_ints q2
  obtain ⟨l3, rfl⟩ := hs _ q3
  exact c_linchpinlaw35_CostTables v1 v2 v4

set_option maxRecDepth 100000 in
theorem costTables_lifted (os : Os) (started : os.Started) (H : Type) (enc : TypeId × Value → H) :
    ReturnsInHanded {} Tryz.checked os 3 .any (Rows.costTablesSpec.pre6 enc Tryz.prog Tryz.f3 Rows.costTablesRow.domain false) (Rows.costTablesSpec.post enc Tryz.prog Tryz.f3 false true false false) :=
  law_lift (C := Tryz.checked) (tb := 4) costTables_own started (by kernel_rfl) Tryz.func3 rfl
    (ChangeSpec.witness6 (enc := enc) (C := Tryz.checked) false ⟨#[], #[.slice none 0 0, .slice none 0 0, .slice none 0 0, .int .i64 0], []⟩ 8 (by kernel_rfl) (by kernel_rfl) (by kernel_rfl) (by kernel_rfl))
    costTables_laid (by rw [show Tryz.f3.params.toList = [22, 22, 23, 3] from by kernel_rfl]; simp only [List.mem_cons, List.not_mem_nil, or_false, forall_eq_or_imp, forall_eq]; exact ⟨⟨by kernel_rfl, of_decide_eq_true (by kernel_rfl)⟩, ⟨by kernel_rfl, of_decide_eq_true (by kernel_rfl)⟩, ⟨by kernel_rfl, of_decide_eq_true (by kernel_rfl)⟩, by kernel_rfl, of_decide_eq_true (by kernel_rfl)⟩) (by kernel_rfl) (by kernel_rfl)
    (shs := [.one (.sl [.int .i64]), .one (.sl [.int .i64]), .one (.sl [.str]), .one (.int .i64)]) (by kernel_rfl)
    (fun ds h => by
      rw [show Tryz.f3.params.toList = [22, 22, 23, 3] from by kernel_rfl] at h
      match ds, h with
      | [a0, a1, a2, a3], _ => rfl)
    (fun Ds h => costTables_args h)

theorem costTables_holds : Rows.CostTablesSaid :=
  OpenClaim.holds_of_wide 3 Tryz.f3 rfl rfl rfl rfl rfl rfl rfl ⟨rfl, rfl, rfl, rfl, rfl⟩ rfl rfl rfl rfl rfl (by kernel_rfl) Tryz.func3 (by kernel_rfl)
    (of_decide_eq_true (by kernel_rfl)) (by unfold Func.isWrapper; first | (rw [if_pos (by decide +kernel)]; kernel_rfl) | (rw [if_neg (by decide +kernel)]; exact ⟨rfl, rfl⟩))
    (fun os started H enc _ => costTables_lifted os started H enc)

#print axioms costTables_holds
end Go.Proofs.YtgikdkfobdfmfaaGreat
