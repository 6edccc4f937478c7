/- The law TrailGrows of linchpinlaw24 returns true at every input, and leaves its arguments as they were. It holds for every input, of whatever size, with no condition. -/
import Derived.Test.YtfgihmikcbbbgaaGreatB5
import Derived.Test.YtfgihmikcbbbgaaGreatRows
namespace Go.Proofs.YtfgihmikcbbbgaaGreat
open Go Go.Abs M3 M25

theorem trailGrows_own : ownKnob Tryz.prog.godebug = none := by kernel_rfl
theorem trailGrows_laid : laidOutB Tryz.prog = true := by kernel_rfl

theorem trailGrows_args {Ds : List D} (h : SatAs [.one (.sl [.int .i64]), .one (.sl [.int .i64]), .one (.int .i64), .one (.int .i64), .agg [.int .i64, .int .i64], .one (.int .i64), .one (.int .i64), .one (.bool)] Ds) : Ok Tryz.prog 3 Ds (.bool true) := by
  simp only [SatAs, SatA, Sat, SatR] at h
  obtain ⟨_, _, rfl, ⟨r1, rfl, _, q1⟩, _, _, rfl, ⟨r2, rfl, _, q2⟩, _, _, rfl, ⟨n3, rfl, v3⟩, _, _, rfl, ⟨n4, rfl, v4⟩, _, _, rfl, ⟨r5, rfl, _, _, rfl, ⟨a5, rfl, v5⟩, _, _, rfl, ⟨b5, rfl, w5⟩, rfl⟩, _, _, rfl, ⟨n6, rfl, v6⟩, _, _, rfl, ⟨n7, rfl, v7⟩, _, _, rfl, ⟨b8, rfl⟩, rfl⟩ := h
  obtain ⟨l1, rfl, v1⟩ := sat_ints (fun row hr => by simpa [SatR, Sat] using q1 row hr)
  obtain ⟨l2, rfl, v2⟩ := sat_ints (fun row hr => by simpa [SatR, Sat] using q2 row hr)
  exact c_linchpinlaw24_TrailGrows (tm := ⟨a5, b5⟩) v1 v2 v3 v4 v5 w5 v6 v7

set_option maxRecDepth 100000 in
theorem trailGrows_lifted (os : Os) (started : os.Started) (H : Type) (enc : TypeId × Value → H) :
    ReturnsInHanded {} Tryz.checked os 3 .any (Rows.trailGrowsSpec.pre6 enc Tryz.prog Tryz.f3 Rows.trailGrowsRow.domain false) (Rows.trailGrowsSpec.post enc Tryz.prog Tryz.f3 false true false false) :=
  law_lift (C := Tryz.checked) (tb := 4) trailGrows_own started (by kernel_rfl) Tryz.func3 rfl
    (ChangeSpec.witness6 (enc := enc) (C := Tryz.checked) false ⟨#[], #[.slice none 0 0, .slice none 0 0, .int .i64 0, .int .i64 0, .agg #[.int .i64 0, .int .i64 0], .int .i64 0, .int .i64 0, .bool false], []⟩ 8 (by kernel_rfl) (by kernel_rfl) (by kernel_rfl) (by kernel_rfl))
    trailGrows_laid (by rw [show Tryz.f3.params.toList = [22, 22, 3, 3, 24, 3, 3, 4] from by kernel_rfl]; simp only [List.mem_cons, List.not_mem_nil, or_false, forall_eq_or_imp, forall_eq]; exact ⟨⟨by kernel_rfl, of_decide_eq_true (by kernel_rfl)⟩, ⟨by kernel_rfl, of_decide_eq_true (by kernel_rfl)⟩, ⟨by kernel_rfl, of_decide_eq_true (by kernel_rfl)⟩, ⟨by kernel_rfl, of_decide_eq_true (by kernel_rfl)⟩, ⟨by kernel_rfl, of_decide_eq_true (by kernel_rfl)⟩, ⟨by kernel_rfl, of_decide_eq_true (by kernel_rfl)⟩, ⟨by kernel_rfl, of_decide_eq_true (by kernel_rfl)⟩, by kernel_rfl, of_decide_eq_true (by kernel_rfl)⟩) (by kernel_rfl) (by kernel_rfl)
    (shs := [.one (.sl [.int .i64]), .one (.sl [.int .i64]), .one (.int .i64), .one (.int .i64), .agg [.int .i64, .int .i64], .one (.int .i64), .one (.int .i64), .one (.bool)]) (by kernel_rfl)
    (fun ds h => by
      rw [show Tryz.f3.params.toList = [22, 22, 3, 3, 24, 3, 3, 4] from by kernel_rfl] at h
      match ds, h with
      | [a0, a1, a2, a3, a4, a5, a6, a7], _ => rfl)
    (fun Ds h => trailGrows_args h)

theorem trailGrows_holds : Rows.TrailGrowsSaid :=
  OpenClaim.holds_of_wide 3 Tryz.f3 rfl rfl rfl rfl rfl rfl rfl ⟨rfl, rfl, rfl, rfl, rfl⟩ rfl rfl rfl rfl rfl (by kernel_rfl) Tryz.func3 (by kernel_rfl)
    (of_decide_eq_true (by kernel_rfl)) (by unfold Func.isWrapper; first | (rw [if_pos (by decide +kernel)]; kernel_rfl) | (rw [if_neg (by decide +kernel)]; exact ⟨rfl, rfl⟩))
    (fun os started H enc _ => trailGrows_lifted os started H enc)

#print axioms trailGrows_holds
end Go.Proofs.YtfgihmikcbbbgaaGreat
