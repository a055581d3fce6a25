/- The plain laws of terms: what the laws' own loops want. -/
import Derived.Test.YtiihoodnejcjgaaDoorZTokA
import Derived.Test.YtiihoodnejcjgaaDoorHBU
import Derived.Test.YtiihoodnejcjgaaDoorHBT
namespace Go.Proofs.YtiihoodnejcjgaaDoor.P
open Go.RowKit Go.Proofs.YtiihoodnejcjgaaDoorW.PrintWords Go.Proofs.YtiihoodnejcjgaaDoorW.PrintLast Go.Proofs.YtiihoodnejcjgaaDoorW.PrintMore
set_option linter.unusedVariables false
set_option linter.unusedSimpArgs false
theorem great05 (b : List Int) : rubricklaw05_Great.f b = some (decide ((b.length : Int) > 2000)) := rfl
theorem in_word (c : Int) : rubrickref05_In.f c = some (wordB c) := by
  unfold rubrickref05_In.f
  rw [rletter_f, Option.bind_some]
  by_cases hl : letB c = true
  · rw [if_pos hl]
    have hw : wordB c = true := by unfold wordB; rw [hl]; rfl
    rw [hw]
  · rw [if_neg hl]
    have hw : wordB c = decide (48 ≤ c ∧ c ≤ 57) := by unfold wordB; rw [Bool.eq_false_iff.2 hl, Bool.false_or]
    rw [hw]
    by_cases h : c ≥ 48
    · rw [if_pos h]; congr 1; rw [Bool.eq_iff_iff]; simp; omega
    · rw [if_neg h]; congr 1; rw [Bool.eq_iff_iff]; simp; omega
theorem rdS_at (l : List ByteArray) (i : Nat) (h : i < l.length) : rdOf ByteArray.empty l (i : Int) = l[i] := by
  unfold rdOf
  rw [Int.toNat_natCast, List.getD_eq_getElem?_getD, List.getElem?_eq_getElem h]
  rfl
theorem same_l0 (l : List ByteArray) (hl : l.length ≤ 100000000) (d : Nat) : ∀ (i k : Nat), l.length - i ≤ d → d + 2 ≤ k → rubrickref02_Same.l0 k l l (i : Int) = some true := by
  induction d with
  | zero =>
    intro i k hi hk
    obtain ⟨k, rfl⟩ : ∃ k', k = k' + 1 := ⟨k - 1, by omega⟩
    unfold rubrickref02_Same.l0
    rw [if_neg (by omega)]
  | succ d ih =>
    intro i k hi hk
    obtain ⟨k, rfl⟩ : ∃ k', k = k' + 1 := ⟨k - 1, by omega⟩
    unfold rubrickref02_Same.l0
    by_cases h : i < l.length
    · rw [if_pos (by omega), if_pos (by omega), if_pos (by omega), if_pos rfl, succ_wrap i l.length h (by omega)]
      exact ih (i + 1) k (by omega) (by omega)
    · rw [if_neg (by omega)]
theorem same_f (l : List ByteArray) (hl : l.length ≤ 100000000) (k : Nat) (hk : l.length + 5 ≤ k) : rubrickref02_Same.f k l l = some true := by
  unfold rubrickref02_Same.f
  rw [if_pos rfl]
  exact same_l0 l hl l.length 0 k (by omega) (by omega)
theorem step_len (s : TS) (c : Int) : (stepS s c).out.length ≤ s.out.length + 1 := by
  unfold stepS takeS
  (repeat' split)
  · exact Nat.le_succ _
  · exact Nat.le_succ _
  · exact endT_out s
theorem fold_len (l : List Int) : ∀ s : TS, (l.foldl stepS s).out.length ≤ s.out.length + l.length := by
  induction l with
  | nil => intro s; simp
  | cons c l ih => intro s; rw [List.foldl_cons, List.length_cons]; have := ih (stepS s c); have := step_len s c; omega
theorem terms_len (l : List Int) : (termsS l).length ≤ l.length + 1 := by
  unfold termsS
  have := endT_out (l.foldl stepS ⟨[], false, false, []⟩)
  have h := fold_len l ⟨[], false, false, []⟩
  simp only [List.length_nil] at h
  omega
theorem knows05_ge (k : Nat) (hk : 60 ≤ k) : rubricklaw05_knows.f k = some true := by
  obtain ⟨j, rfl⟩ : ∃ j, k = 60 + j := ⟨k - 60, by omega⟩
  exact le_mono rubricklaw05_knows.mono knows05 j
end Go.Proofs.YtiihoodnejcjgaaDoor.P
