/- The plain law of letters and small ones: what the printed functions of utf and of its reference answer. -/
import Derived.Test.YtiihoodnejcjgaaDoorHBU
import Derived.KernelRfl
namespace Go.Proofs.YtiihoodnejcjgaaDoor.P
open Go.RowKit Go.Proofs.YtiihoodnejcjgaaDoorW.PrintWords Go.Proofs.YtiihoodnejcjgaaDoorW.PrintLast Go.Proofs.YtiihoodnejcjgaaDoorW.PrintMore
set_option linter.unusedVariables false
set_option linter.unusedSimpArgs false

/-- Is it a letter? -/
def letB (c : Int) : Bool := (findT letSpans c).2.2.2
/-- Its small one. -/
def smallS (c : Int) : Int := c + (findT letSpans c).2.2.1
theorem findT_cases (P : Int × Int × Int × Bool → Prop) (s : Int × Int × Int) (l : List (Int × Int × Int)) (c : Int) (h1 : s.1 ≤ c ∧ c ≤ s.2.1 → P (s.1, s.2.1, s.2.2, true)) (h2 : ¬ (s.1 ≤ c ∧ c ≤ s.2.1) → P (findT l c)) : P (findT (s :: l) c) := by
  by_cases h : s.1 ≤ c ∧ c ≤ s.2.1
  · have e : findT (s :: l) c = (s.1, s.2.1, s.2.2, true) := by simp only [findT, if_pos h]
    rw [e]; exact h1 h
  · have e : findT (s :: l) c = findT l c := by simp only [findT, if_neg h]
    rw [e]; exact h2 h
theorem letB_iff (c : Int) : letB c = true ↔ (65 ≤ c ∧ c ≤ 90) ∨ (97 ≤ c ∧ c ≤ 122) ∨ (192 ≤ c ∧ c ≤ 214) ∨ (216 ≤ c ∧ c ≤ 246) ∨ (248 ≤ c ∧ c ≤ 255) ∨ (913 ≤ c ∧ c ≤ 929) ∨ (931 ≤ c ∧ c ≤ 937) ∨ (945 ≤ c ∧ c ≤ 969) ∨ (1024 ≤ c ∧ c ≤ 1119) := by
  let P : Int × Int × Int × Bool → Prop := fun r => r.2.2.2 = true ↔ (65 ≤ c ∧ c ≤ 90) ∨ (97 ≤ c ∧ c ≤ 122) ∨ (192 ≤ c ∧ c ≤ 214) ∨ (216 ≤ c ∧ c ≤ 246) ∨ (248 ≤ c ∧ c ≤ 255) ∨ (913 ≤ c ∧ c ≤ 929) ∨ (931 ≤ c ∧ c ≤ 937) ∨ (945 ≤ c ∧ c ≤ 969) ∨ (1024 ≤ c ∧ c ≤ 1119)
  have H : P (findT letSpans c) := by
    unfold letSpans
    iterate 12 refine findT_cases P _ _ _ (fun h => (by show (true = true ↔ _); simp only [true_iff]; dsimp only at h; omega)) (fun h => ?_)
    show (false = true ↔ _)
    dsimp only at *
    constructor
    · intro h; cases h
    · intro h; omega
  exact H
theorem smallS_eq (c : Int) : smallS c = if 1024 ≤ c ∧ c ≤ 1039 then c + 80 else if (65 ≤ c ∧ c ≤ 90) ∨ (192 ≤ c ∧ c ≤ 214) ∨ (216 ≤ c ∧ c ≤ 222) ∨ (913 ≤ c ∧ c ≤ 929) ∨ (931 ≤ c ∧ c ≤ 937) ∨ (1040 ≤ c ∧ c ≤ 1071) then c + 32 else c := by
  let P : Int × Int × Int × Bool → Prop := fun r => c + r.2.2.1 = if 1024 ≤ c ∧ c ≤ 1039 then c + 80 else if (65 ≤ c ∧ c ≤ 90) ∨ (192 ≤ c ∧ c ≤ 214) ∨ (216 ≤ c ∧ c ≤ 222) ∨ (913 ≤ c ∧ c ≤ 929) ∨ (931 ≤ c ∧ c ≤ 937) ∨ (1040 ≤ c ∧ c ≤ 1071) then c + 32 else c
  have H : P (findT letSpans c) := by
    unfold letSpans
    iterate 12 refine findT_cases P _ _ _ (fun h => (by show (c + _ = _); dsimp only at *; (repeat' split) <;> omega)) (fun h => ?_)
    show (c + 0 = _)
    dsimp only at *
    (repeat' split) <;> omega
  exact H
theorem letter_f (c : Int) : utf_Letter.f c = some (letB c) := rfl
theorem wrap_in {n : Int} (h0 : -9223372036854775808 ≤ n) (h1 : n < 9223372036854775808) : wrap64 n = n := by unfold wrap64; omega
theorem small_f (c : Int) (h0 : -9223372036854775808 ≤ c) (h1 : c < 9223372036854775808) : utf_Small.f c = some (smallS c) := by
  unfold utf_Small.f utf_find.f
  simp only [Option.bind_some]
  have h := smallS_eq c
  unfold smallS at h ⊢
  rw [h, wrap_in]
  · (repeat' split) <;> omega
  · (repeat' split) <;> omega
theorem in_f (a b c : Int) : rubrickref04_in.f a b c = some (decide (b ≤ a ∧ a ≤ c)) := by
  unfold rubrickref04_in.f
  by_cases h : a ≥ b
  · rw [if_pos h]
    simp [show b ≤ a from h]
  · rw [if_neg h]
    simp [show ¬ b ≤ a from h]
theorem rletter_f (c : Int) : rubrickref04_Letter.f c = some (letB c) := by
  have h := letB_iff c
  unfold rubrickref04_Letter.f
  simp only [in_f, Option.bind_some, decide_eq_true_eq]
  repeat' split
  all_goals
    refine congrArg some ?_
    rw [Bool.eq_iff_iff, h]
    simp
    omega
theorem rsmall_f (c : Int) (h0 : -9223372036854775808 ≤ c) (h1 : c < 9223372036854775808) : rubrickref04_Small.f c = some (smallS c) := by
  rw [smallS_eq]
  unfold rubrickref04_Small.f
  simp only [in_f, Option.bind_some, decide_eq_true_eq]
  have w1 : (1024 ≤ c ∧ c ≤ 1039) → wrap64 (c + 80) = c + 80 := fun h => wrap_in (by omega) (by omega)
  have w2 : c < 9000 → wrap64 (c + 32) = c + 32 := fun h => wrap_in (by omega) (by omega)
  repeat' split
  all_goals first | omega | (refine congrArg some ?_; first | exact w1 (by omega) | exact w2 (by omega) | rfl)
end Go.Proofs.YtiihoodnejcjgaaDoor.P
