/- The law TrailMay of linchpinlaw24 returns true at every input, and leaves its arguments as they were. It holds for every input, of whatever size, with no condition. -/
import Derived.Test.YtmlclkgmdndcdaaB5
import Derived.Test.YtmlclkgmdndcdaaRows
namespace Go.Proofs.Ytmlclkgmdndcdaa
open Go Go.Abs M3 M25

theorem trailMay_own : ownKnob Try.prog.godebug = none := by kernel_rfl
theorem trailMay_laid : laidOutB Try.prog = true := by kernel_rfl

theorem trailMay_args {Ds : List D} (h : SatAs [.one (.sl [.int .i64]), .one (.sl [.int .i64, .int .i64, .int .i64, .int .i64]), .one (.sl [.int .i64])] Ds) : Ok Try.prog 3 Ds (.bool true) := by
  simp only [SatAs, SatA, Sat] at h
  have hs : ∀ rows : List (List D), (∀ row ∈ rows, SatR [.int .i64, .int .i64, .int .i64, .int .i64] row) → ∃ l : List StepT, rows = l.map dStep ∧ ∀ s ∈ l, I64 s.m := by
    intro rows
    induction rows with
    | nil => exact fun _ => ⟨[], rfl, by simp⟩
    | cons row rows ih =>
      intro h
      obtain ⟨l, h1, h2⟩ := ih fun r hr => h r (by simp [hr])
      have h0 := h row (by simp)
      simp only [SatR, Sat] at h0
      obtain ⟨_, _, rfl, ⟨u, rfl, _⟩, _, _, rfl, ⟨m, rfl, h3, h4⟩, _, _, rfl, ⟨v, rfl, _⟩, _, _, rfl, ⟨c, rfl, _⟩, rfl⟩ := h0
      refine ⟨⟨u, m, v, c⟩ :: l, by simp [h1, dStep], fun x hx => ?_⟩
      rcases List.mem_cons.1 hx with rfl | hx
      · exact ⟨h3, h4⟩
      · exact h2 x hx
  obtain ⟨_, _, rfl, ⟨r1, rfl, _, q1⟩, _, _, rfl, ⟨r2, rfl, _, q2⟩, _, _, rfl, ⟨r3, rfl, _, q3⟩, rfl⟩ := h
  obtain ⟨l1, rfl, v1⟩ := sat_ints q1
  obtain ⟨l2, rfl, v2⟩ := hs _ q2
  obtain ⟨l3, rfl, v3⟩ := sat_ints q3
  exact c_linchpinlaw24_TrailMay v1 v2 v3

set_option maxRecDepth 100000 in
theorem trailMay_lifted (os : Os) (started : os.Started) (H : Type) (enc : TypeId × Value → H) :
    ReturnsInHanded {} Try.checked os 3 .any (Rows.trailMaySpec.pre6 enc Try.prog Try.f3 Rows.trailMayRow.domain false) (Rows.trailMaySpec.post enc Try.prog Try.f3 false true false false) :=
  law_lift (C := Try.checked) (tb := 4) trailMay_own started (by kernel_rfl) Try.func3 rfl
    (ChangeSpec.witness6 (enc := enc) (C := Try.checked) false ⟨#[], #[.slice none 0 0, .slice none 0 0, .slice none 0 0], []⟩ 8 (by kernel_rfl) (by kernel_rfl) (by kernel_rfl) (by kernel_rfl))
    trailMay_laid (by rw [show Try.f3.params.toList = [22, 23, 22] from by kernel_rfl]; simp only [List.mem_cons, List.not_mem_nil, or_false, forall_eq_or_imp, forall_eq]; exact ⟨⟨by kernel_rfl, of_decide_eq_true (by kernel_rfl)⟩, ⟨by kernel_rfl, of_decide_eq_true (by kernel_rfl)⟩, by kernel_rfl, of_decide_eq_true (by kernel_rfl)⟩) (by kernel_rfl) (by kernel_rfl)
    (shs := [.one (.sl [.int .i64]), .one (.sl [.int .i64, .int .i64, .int .i64, .int .i64]), .one (.sl [.int .i64])]) (by kernel_rfl)
    (fun ds h => by
      rw [show Try.f3.params.toList = [22, 23, 22] from by kernel_rfl] at h
      match ds, h with
      | [a0, a1, a2], _ => rfl)
    (fun Ds h => trailMay_args h)

theorem trailMay_holds : Rows.TrailMaySaid :=
  OpenClaim.holds_of_wide 3 Try.f3 rfl rfl rfl rfl rfl rfl rfl ⟨rfl, rfl, rfl, rfl, rfl⟩ rfl rfl rfl rfl rfl (by kernel_rfl) Try.func3 (by kernel_rfl)
    (of_decide_eq_true (by kernel_rfl)) (by unfold Func.isWrapper; first | (rw [if_pos (by decide +kernel)]; kernel_rfl) | (rw [if_neg (by decide +kernel)]; exact ⟨rfl, rfl⟩))
    (fun os started H enc _ => trailMay_lifted os started H enc)

#print axioms trailMay_holds
end Go.Proofs.Ytmlclkgmdndcdaa
