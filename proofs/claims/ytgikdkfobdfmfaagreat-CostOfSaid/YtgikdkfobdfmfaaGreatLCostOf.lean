/- The law CostOf of linchpinlaw35 returns true at every input, and leaves its arguments as they were. It holds for every input, of whatever size, with no condition. -/
import Derived.Test.YtgikdkfobdfmfaaGreatB5
import Derived.Test.YtgikdkfobdfmfaaGreatRows
namespace Go.Proofs.YtgikdkfobdfmfaaGreat
open Go Go.Abs M3 M25

theorem costOf_own : ownKnob Tryz.prog.godebug = none := by kernel_rfl
theorem costOf_laid : laidOutB Tryz.prog = true := by kernel_rfl

theorem costOf_args {Ds : List D} (h : SatAs [.one (.sl [.sl [.int .i64]]), .one (.sl [.int .i64]), .one (.sl [.int .i64]), .one (.sl [.int .i64]), .one (.sl [.int .i64])] Ds) : Ok Tryz.prog 4 Ds (.bool true) := by
  simp only [SatAs, SatA, Sat] at h
  have hs : ∀ rows : List (List D), (∀ row ∈ rows, SatR [.sl [.int .i64]] row) → ∃ l : List (List Int), rows = l.map fun r => [dInts r] := by
    intro rows
    induction rows with
    | nil => exact fun _ => ⟨[], rfl⟩
    | cons row rows ih =>
      intro h
      obtain ⟨l, h1⟩ := ih fun r hr => h r (by simp [hr])
      have h0 := h row (by simp)
      simp only [SatR, Sat] at h0
      obtain ⟨_, _, rfl, ⟨s, rfl, _, q⟩, rfl⟩ := h0
      obtain ⟨m, rfl, _⟩ := sat_ints q
      exact ⟨m :: l, by rw [h1]; rfl⟩
  obtain ⟨_, _, rfl, ⟨r1, rfl, _, q1⟩, _, _, rfl, ⟨r2, rfl, _, q2⟩, _, _, rfl, ⟨r3, rfl, _, q3⟩, _, _, rfl, ⟨r4, rfl, _, q4⟩, _, _, rfl, ⟨r5, rfl, _, q5⟩, rfl⟩ := h
  obtain ⟨l1, rfl⟩ := hs _ q1
  obtain ⟨l2, rfl, v2⟩ := sat_ints q2
  obtain ⟨l3, rfl, v3⟩ := sat_ints q3
  obtain ⟨l4, rfl, v4⟩ := sat_ints q4
  obtain ⟨l5, rfl, v5⟩ := sat_ints q5
  exact c_linchpinlaw35_CostOf v2 v3 v4 v5

set_option maxRecDepth 100000 in
theorem costOf_lifted (os : Os) (started : os.Started) (H : Type) (enc : TypeId × Value → H) :
    ReturnsInHanded {} Tryz.checked os 4 .any (Rows.costOfSpec.pre6 enc Tryz.prog Tryz.f4 Rows.costOfRow.domain false) (Rows.costOfSpec.post enc Tryz.prog Tryz.f4 false true false false) :=
  law_lift (C := Tryz.checked) (tb := 4) costOf_own started (by kernel_rfl) Tryz.func4 rfl
    (ChangeSpec.witness6 (enc := enc) (C := Tryz.checked) false ⟨#[], #[.slice none 0 0, .slice none 0 0, .slice none 0 0, .slice none 0 0, .slice none 0 0], []⟩ 8 (by kernel_rfl) (by kernel_rfl) (by kernel_rfl) (by kernel_rfl))
    costOf_laid (by rw [show Tryz.f4.params.toList = [39, 22, 22, 22, 22] from by kernel_rfl]; simp only [List.mem_cons, List.not_mem_nil, or_false, forall_eq_or_imp, forall_eq]; exact ⟨⟨by kernel_rfl, of_decide_eq_true (by kernel_rfl)⟩, ⟨by kernel_rfl, of_decide_eq_true (by kernel_rfl)⟩, ⟨by kernel_rfl, of_decide_eq_true (by kernel_rfl)⟩, ⟨by kernel_rfl, of_decide_eq_true (by kernel_rfl)⟩, by kernel_rfl, of_decide_eq_true (by kernel_rfl)⟩) (by kernel_rfl) (by kernel_rfl)
    (shs := [.one (.sl [.sl [.int .i64]]), .one (.sl [.int .i64]), .one (.sl [.int .i64]), .one (.sl [.int .i64]), .one (.sl [.int .i64])]) (by kernel_rfl)
    (fun ds h => by
      rw [show Tryz.f4.params.toList = [39, 22, 22, 22, 22] from by kernel_rfl] at h
      match ds, h with
      | [a0, a1, a2, a3, a4], _ => rfl)
    (fun Ds h => costOf_args h)

theorem costOf_holds : Rows.CostOfSaid :=
  OpenClaim.holds_of_wide 4 Tryz.f4 rfl rfl rfl rfl rfl rfl rfl ⟨rfl, rfl, rfl, rfl, rfl⟩ rfl rfl rfl rfl rfl (by kernel_rfl) Tryz.func4 (by kernel_rfl)
    (of_decide_eq_true (by kernel_rfl)) (by unfold Func.isWrapper; first | (rw [if_pos (by decide +kernel)]; kernel_rfl) | (rw [if_neg (by decide +kernel)]; exact ⟨rfl, rfl⟩))
    (fun os started H enc _ => costOf_lifted os started H enc)

#print axioms costOf_holds
end Go.Proofs.YtgikdkfobdfmfaaGreat
