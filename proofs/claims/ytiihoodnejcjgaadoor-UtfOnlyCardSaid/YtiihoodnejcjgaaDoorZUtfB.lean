/- The plain laws UtfClasses and UtfSmall. -/
import Derived.Test.YtiihoodnejcjgaaDoorZUtfA
import Derived.Test.YtiihoodnejcjgaaDoorPxRubricklaw04UtfClasses
import Derived.Test.YtiihoodnejcjgaaDoorPxRubricklaw04UtfSmall
namespace Go.Proofs.YtiihoodnejcjgaaDoor.P
open Go.RowKit Go.Proofs.YtiihoodnejcjgaaDoorW.PrintWords Go.Proofs.YtiihoodnejcjgaaDoorW.PrintLast Go.Proofs.YtiihoodnejcjgaaDoorW.PrintMore
set_option linter.unusedVariables false
set_option linter.unusedSimpArgs false

theorem i64_bounds {a : Int} (h : (Lit.int .i64 a).wf = true) : -9223372036854775808 ≤ a ∧ a < 9223372036854775808 := by
  simp [Lit.wf, IntKind.min, IntKind.max, IntKind.signed, IntKind.bits] at h
  omega
theorem UtfClasses_pure (a : Int) (h : (Lit.int .i64 a).wf = true) : ∃ k, rubricklaw04_UtfClasses.f k a = some true := by
  obtain ⟨h0, h1⟩ := i64_bounds h
  refine ⟨40, ?_⟩
  unfold rubricklaw04_UtfClasses.f
  simp only [letter_f, rletter_f, small_f a h0 h1, rsmall_f a h0 h1, Option.bind_some, beq_self_eq_true, if_true, knows04]
  unfold utf_Digit.f
  by_cases h : a ≥ 48
  · rw [if_pos h]
    simp only [Option.bind_some, if_pos h, beq_self_eq_true, if_true]
  · rw [if_neg h]
    simp only [Option.bind_some, if_neg h, beq_self_eq_true, if_true]
theorem UtfSmall_pure (a : Int) (h : (Lit.int .i64 a).wf = true) : ∃ k, rubricklaw04_UtfSmall.f k a = some true := by
  obtain ⟨h0, h1⟩ := i64_bounds h
  refine ⟨40, ?_⟩
  have e := smallS_eq a
  have e2 := smallS_eq (smallS a)
  have l := letB_iff a
  have l2 := letB_iff (smallS a)
  have b0 : -9223372036854775808 ≤ smallS a := by rw [e]; (repeat' split) <;> omega
  have b1 : smallS a < 9223372036854775808 := by rw [e]; (repeat' split) <;> omega
  unfold rubricklaw04_UtfSmall.f
  simp only [letter_f, small_f a h0 h1, small_f _ b0 b1, Option.bind_some, knows04]
  by_cases hl : letB a = true
  · rw [if_pos hl]
    have hl' := l.1 hl
    have hs : letB (smallS a) = true := by
      rw [l2, e]
      (repeat' split) <;> omega
    have hss : smallS (smallS a) = smallS a := by
      rw [e2]
      rw [e]
      (repeat' split) <;> omega
    have hr : utf_Right.f (smallS a) = some true := by
      have : 0 ≤ smallS a ∧ smallS a < 2000 := by rw [e]; (repeat' split) <;> omega
      unfold utf_Right.f
      rw [if_pos (by omega), if_pos (by omega), if_pos (by omega)]
    rw [if_pos hs, if_pos hss, hr]
    simp only [Option.bind_some, if_true]
  · rw [if_neg hl]
    have hn : ¬ _ := fun h => hl (l.2 h)
    have : smallS a = a := by
      rw [e]
      (repeat' split) <;> omega
    rw [if_pos this]
end Go.Proofs.YtiihoodnejcjgaaDoor.P
