/- The law CutAhead of linchpinlaw3 returns true at every input, and leaves its arguments as they were. It holds for every input, of whatever size, with no condition. -/
import Derived.Test.YtipflpdlbjckbaaB6
import Derived.Test.YtipflpdlbjckbaaRows
namespace Go.Proofs.Ytipflpdlbjckbaa
open Go Go.Abs M3

theorem cutAhead_own : ownKnob Try.prog.godebug = none := by kernel_rfl
theorem cutAhead_laid : laidOutB Try.prog = true := by kernel_rfl

theorem cutAhead_args {Ds : List D} (h : SatAs [.one (.sl [.int .i64])] Ds) : Ok Try.prog 6 Ds (.bool true) := by
  simp only [SatAs, SatA, Sat] at h
  obtain ⟨_, _, rfl, ⟨rows, rfl, _, hr⟩, rfl⟩ := h
  obtain ⟨l, rfl, hv⟩ := sat_ints hr
  exact c_linchpinlaw3_CutAhead hv

set_option maxRecDepth 100000 in
theorem cutAhead_lifted (os : Os) (started : os.Started) (H : Type) (enc : TypeId × Value → H) :
    ReturnsInHanded {} Try.checked os 6 .any (Rows.cutAheadSpec.pre6 enc Try.prog Try.f6 Rows.cutAheadRow.domain false) (Rows.cutAheadSpec.post enc Try.prog Try.f6 false true false false) :=
  law_lift (C := Try.checked) (tb := 4) cutAhead_own started (by kernel_rfl) Try.func6 rfl
    (ChangeSpec.witness6 (enc := enc) (C := Try.checked) false ⟨#[], #[.slice none 0 0], []⟩ 8 (by kernel_rfl) (by kernel_rfl) (by kernel_rfl) (by kernel_rfl))
    cutAhead_laid (by rw [show Try.f6.params.toList = [35] from by kernel_rfl]; simp only [List.mem_cons, List.not_mem_nil, or_false, forall_eq_or_imp, forall_eq]; exact ⟨by kernel_rfl, of_decide_eq_true (by kernel_rfl)⟩) (by kernel_rfl) (by kernel_rfl)
    (shs := [.one (.sl [.int .i64])]) (by kernel_rfl)
    (fun ds h => by
      rw [show Try.f6.params.toList = [35] from by kernel_rfl] at h
      match ds, h with
      | [a0], _ => rfl)
    (fun Ds h => cutAhead_args h)

theorem cutAhead_holds : Rows.CutAheadSaid :=
  OpenClaim.holds_of_wide 6 Try.f6 rfl rfl rfl rfl rfl rfl rfl ⟨rfl, rfl, rfl, rfl, rfl⟩ rfl rfl rfl rfl rfl (by kernel_rfl) Try.func6 (by kernel_rfl)
    (of_decide_eq_true (by kernel_rfl)) (by unfold Func.isWrapper; first | (rw [if_pos (by decide +kernel)]; kernel_rfl) | (rw [if_neg (by decide +kernel)]; exact ⟨rfl, rfl⟩))
    (fun os started H enc _ => cutAhead_lifted os started H enc)

#print axioms cutAhead_holds
end Go.Proofs.Ytipflpdlbjckbaa
