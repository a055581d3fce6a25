/- The plain law of terms: what token.Terms answers. -/
import Derived.Test.YtiihoodnejcjgaaDoorZUtfF
import Derived.Test.YtiihoodnejcjgaaDoorZHelp
import Derived.Test.YtiihoodnejcjgaaDoorHTerms
import Derived.Test.YtiihoodnejcjgaaDoorHBT
namespace Go.Proofs.YtiihoodnejcjgaaDoor.P
open Go.RowKit Go.Proofs.YtiihoodnejcjgaaDoorW.PrintWords Go.Proofs.YtiihoodnejcjgaaDoorW.PrintLast Go.Proofs.YtiihoodnejcjgaaDoorW.PrintMore
set_option linter.unusedVariables false
set_option linter.unusedSimpArgs false

set_option maxRecDepth 100000 in
theorem knows05 : rubricklaw05_knows.f 60 = some true := by kernel_rfl

/-- Is a character one of a word? -/
def wordB (c : Int) : Bool := letB c || decide (48 ≤ c ∧ c ≤ 57)
def takeS (s : TS) (c : Int) : TS := if s.fu = true ∨ 64 < s.b.length + (encS (smallS c)).length then { s with op := true, fu := true } else { s with op := true, b := s.b ++ encS (smallS c) }
def stepS (s : TS) (c : Int) : TS := if wordB c = true then takeS s c else endT s
def termsS (l : List Int) : List ByteArray := (endT (l.foldl stepS ⟨[], false, false, []⟩)).out

theorem word_range {c : Int} (h : wordB c = true) : 48 ≤ c ∧ c ≤ 1119 := by
  unfold wordB at h
  rcases Bool.or_eq_true_iff.1 h with h | h
  · have := (letB_iff c).1 h; omega
  · have := of_decide_eq_true h; omega
theorem small_right {c : Int} (h : wordB c = true) : isR (smallS c) = true ∧ 48 ≤ smallS c ∧ smallS c ≤ 1199 := by
  have hr := word_range h
  rw [isR_iff, smallS_eq]
  (repeat' split) <;> omega
theorem digit_f (c : Int) : utf_Digit.f c = some (decide (48 ≤ c ∧ c ≤ 57)) := by
  unfold utf_Digit.f
  by_cases h : c ≥ 48
  · rw [if_pos h]; congr 1; rw [Bool.eq_iff_iff]; simp; omega
  · rw [if_neg h]; congr 1; rw [Bool.eq_iff_iff]; simp; omega
theorem enc_len (c : Int) : (encS c).length ≤ 4 := by
  have := many_len c
  have := many_pos c
  omega
theorem take_f (s : TS) (c : Int) (h : wordB c = true) : takeT s c = some (takeS s c) := by
  have hr := word_range h
  have hs := small_right h
  unfold takeT takeS
  rw [small_f c (by omega) (by omega), Option.bind_some, enc_f _ 50 (by omega), Option.bind_some, if_pos hs.1]
  dsimp only
  have := enc_len (smallS c)
  rw [if_pos (by omega)]
  simp
theorem step_f (s : TS) (c : Int) : stepT s c = some (stepS s c) := by
  unfold stepT stepS
  rw [letter_f, Option.bind_some]
  by_cases hl : letB c = true
  · rw [if_pos hl, Option.bind_some, if_pos rfl]
    have hw : wordB c = true := by unfold wordB; rw [hl]; rfl
    rw [if_pos hw, take_f s c hw]
  · rw [if_neg hl, digit_f, Option.bind_some]
    have hw : wordB c = decide (48 ≤ c ∧ c ≤ 57) := by unfold wordB; rw [Bool.eq_false_iff.2 hl, Bool.false_or]
    rw [← hw]
    by_cases h : wordB c = true
    · rw [if_pos h, if_pos h, take_f s c h]
    · rw [if_neg h, if_neg h]
theorem run_f (l : List Int) : ∀ s : TS, runT l s = some (l.foldl stepS s) := by
  induction l with
  | nil => intro s; rfl
  | cons c l ih => intro s; unfold runT; rw [step_f, Option.bind_some, ih]; rfl
theorem terms_f (b : List Int) (hb : AllB b) (hl : b.length ≤ 100000000) : token_Terms.f b = some (termsS (decS b)) := by
  unfold token_Terms.f
  rw [if_pos (by omega), decode_f b _ hb (by omega) (by omega), Option.bind_some]
  have := decS_length b.length b hb (Nat.le_refl _)
  rw [if_pos (by omega), run_f]
  rfl
/-- Terms that lie already stay ahead. -/
theorem step_out (o : List ByteArray) (s : TS) (c : Int) : stepS { s with out := o ++ s.out } c = { stepS s c with out := o ++ (stepS s c).out } := by
  unfold stepS takeS endT
  dsimp only
  (repeat' split) <;> simp_all
theorem fold_out (o : List ByteArray) (l : List Int) : ∀ s : TS, l.foldl stepS { s with out := o ++ s.out } = { l.foldl stepS s with out := o ++ (l.foldl stepS s).out } := by
  induction l with
  | nil => intro s; rfl
  | cons c l ih => intro s; rw [List.foldl_cons, List.foldl_cons, step_out, ih]
theorem end_out (o : List ByteArray) (s : TS) : (endT { s with out := o ++ s.out }).out = o ++ (endT s).out := by
  unfold endT
  dsimp only
  split <;> simp
theorem terms_mark (a b : List Int) (m : Int) (hm : wordB m = false) : termsS (a ++ m :: b) = termsS a ++ termsS b := by
  unfold termsS
  rw [List.foldl_append, List.foldl_cons]
  have h1 : stepS (a.foldl stepS ⟨[], false, false, []⟩) m = endT (a.foldl stepS ⟨[], false, false, []⟩) := by
    unfold stepS
    rw [if_neg (by rw [hm]; decide)]
  rw [h1]
  generalize a.foldl stepS ⟨[], false, false, []⟩ = s
  have h2 : endT s = { (⟨[], false, false, []⟩ : TS) with out := (endT s).out ++ (⟨[], false, false, []⟩ : TS).out } := by
    unfold endT
    simp
  rw [h2, fold_out, end_out]
  simp
end Go.Proofs.YtiihoodnejcjgaaDoor.P
