/- The law CutSpans of linchpinlaw3 returns true at every input, and leaves its arguments as they were. It holds for every input, of whatever size, with no condition. -/
import Derived.Test.YtipflpdlbjckbaaB5
import Derived.Test.YtipflpdlbjckbaaRows
namespace Go.Proofs.Ytipflpdlbjckbaa
open Go Go.Abs M3

theorem cutSpans_own : ownKnob Try.prog.godebug = none := by kernel_rfl
theorem cutSpans_laid : laidOutB Try.prog = true := by kernel_rfl

theorem cutSpans_args {Ds : List D} (h : SatAs [.agg [.int .i64, .int .i64, .int .i64, .int .i64, .str, .str, .bool, .int .i64, .int .i64, .int .i64, .int .i64, .str, .str, .bool], .agg [.int .i64, .int .i64, .int .i64, .str, .str]] Ds) : Ok Try.prog 4 Ds (.bool true) := by
  simp only [SatAs, SatA, SatR, Sat] at h
  obtain ⟨_, _, rfl, ⟨_, rfl, _, _, rfl, ⟨e, rfl, _⟩, _, _, rfl, ⟨a, rfl, _⟩, _, _, rfl, ⟨b, rfl, _⟩, _, _, rfl, ⟨c, rfl, _⟩, _, _, rfl, ⟨p, rfl, _⟩, _, _, rfl, ⟨q, rfl, _⟩, _, _, rfl, ⟨f, rfl⟩,
    _, _, rfl, ⟨e', rfl, _⟩, _, _, rfl, ⟨a', rfl, _⟩, _, _, rfl, ⟨b', rfl, _⟩, _, _, rfl, ⟨c', rfl, _⟩, _, _, rfl, ⟨p', rfl, _⟩, _, _, rfl, ⟨q', rfl, _⟩, _, _, rfl, ⟨f', rfl⟩, rfl⟩,
    _, _, rfl, ⟨_, rfl, _, _, rfl, ⟨x, rfl, _⟩, _, _, rfl, ⟨y, rfl, _⟩, _, _, rfl, ⟨z, rfl, _⟩, _, _, rfl, ⟨r, rfl, _⟩, _, _, rfl, ⟨s, rfl, _⟩, rfl⟩, rfl⟩ := h
  exact c_linchpinlaw3_CutSpans

set_option maxRecDepth 100000 in
theorem cutSpans_lifted (os : Os) (started : os.Started) (H : Type) (enc : TypeId × Value → H) :
    ReturnsInHanded {} Try.checked os 4 .any (Rows.cutSpansSpec.pre6 enc Try.prog Try.f4 Rows.cutSpansRow.domain false) (Rows.cutSpansSpec.post enc Try.prog Try.f4 false true false false) :=
  law_lift (C := Try.checked) (tb := 4) cutSpans_own started (by kernel_rfl) Try.func4 rfl
    (ChangeSpec.witness6 (enc := enc) (C := Try.checked) false ⟨#[], #[.agg #[.int .i64 0, .int .i64 0, .int .i64 0, .int .i64 0, .string ⟨#[]⟩, .string ⟨#[]⟩, .bool false, .int .i64 0, .int .i64 0, .int .i64 0, .int .i64 0, .string ⟨#[]⟩, .string ⟨#[]⟩, .bool false], .agg #[.int .i64 0, .int .i64 0, .int .i64 0, .string ⟨#[]⟩, .string ⟨#[]⟩]], []⟩ 8 (by kernel_rfl) (by kernel_rfl) (by kernel_rfl) (by kernel_rfl))
    cutSpans_laid (by rw [show Try.f4.params.toList = [32, 23] from by kernel_rfl]; simp only [List.mem_cons, List.not_mem_nil, or_false, forall_eq_or_imp, forall_eq]; exact ⟨⟨by kernel_rfl, of_decide_eq_true (by kernel_rfl)⟩, by kernel_rfl, of_decide_eq_true (by kernel_rfl)⟩) (by kernel_rfl) (by kernel_rfl)
    (shs := [.agg [.int .i64, .int .i64, .int .i64, .int .i64, .str, .str, .bool, .int .i64, .int .i64, .int .i64, .int .i64, .str, .str, .bool], .agg [.int .i64, .int .i64, .int .i64, .str, .str]]) (by kernel_rfl)
    (fun ds h => by
      rw [show Try.f4.params.toList = [32, 23] from by kernel_rfl] at h
      match ds, h with
      | [a0, a1], _ => rfl)
    (fun Ds h => cutSpans_args h)

theorem cutSpans_holds : Rows.CutSpansSaid :=
  OpenClaim.holds_of_wide 4 Try.f4 rfl rfl rfl rfl rfl rfl rfl ⟨rfl, rfl, rfl, rfl, rfl⟩ rfl rfl rfl rfl rfl (by kernel_rfl) Try.func4 (by kernel_rfl)
    (of_decide_eq_true (by kernel_rfl)) (by unfold Func.isWrapper; first | (rw [if_pos (by decide +kernel)]; kernel_rfl) | (rw [if_neg (by decide +kernel)]; exact ⟨rfl, rfl⟩))
    (fun os started H enc _ => cutSpans_lifted os started H enc)

#print axioms cutSpans_holds
end Go.Proofs.Ytipflpdlbjckbaa
