/- The plain law TokenRows. -/
import Derived.Test.YtiihoodnejcjgaaDoorZTokA
import Derived.Test.YtiihoodnejcjgaaDoorPxRubricklaw05TokenRows
namespace Go.Proofs.YtiihoodnejcjgaaDoor.P
open Go.RowKit Go.Proofs.YtiihoodnejcjgaaDoorW.PrintWords Go.Proofs.YtiihoodnejcjgaaDoorW.PrintLast Go.Proofs.YtiihoodnejcjgaaDoorW.PrintMore
set_option linter.unusedVariables false
set_option linter.unusedSimpArgs false
theorem great05 (b : List Int) : rubricklaw05_Great.f b = some (decide ((b.length : Int) > 2000)) := rfl
theorem in_word (c : Int) : rubrickref05_In.f c = some (wordB c) := by
  unfold rubrickref05_In.f
  rw [rletter_f, Option.bind_some]
  by_cases hl : letB c = true
  · rw [if_pos hl]
    have hw : wordB c = true := by unfold wordB; rw [hl]; rfl
    rw [hw]
  · rw [if_neg hl]
    have hw : wordB c = decide (48 ≤ c ∧ c ≤ 57) := by unfold wordB; rw [Bool.eq_false_iff.2 hl, Bool.false_or]
    rw [hw]
    by_cases h : c ≥ 48
    · rw [if_pos h]; congr 1; rw [Bool.eq_iff_iff]; simp; omega
    · rw [if_neg h]; congr 1; rw [Bool.eq_iff_iff]; simp; omega
theorem rdS_at (l : List ByteArray) (i : Nat) (h : i < l.length) : rdOf ByteArray.empty l (i : Int) = l[i] := by
  unfold rdOf
  rw [Int.toNat_natCast, List.getD_eq_getElem?_getD, List.getElem?_eq_getElem h]
  rfl
theorem same_l0 (l : List ByteArray) (hl : l.length ≤ 100000000) (d : Nat) : ∀ (i k : Nat), l.length - i ≤ d → d + 2 ≤ k → rubrickref02_Same.l0 k l l (i : Int) = some true := by
  induction d with
  | zero =>
    intro i k hi hk
    obtain ⟨k, rfl⟩ : ∃ k', k = k' + 1 := ⟨k - 1, by omega⟩
    unfold rubrickref02_Same.l0
    rw [if_neg (by omega)]
  | succ d ih =>
    intro i k hi hk
    obtain ⟨k, rfl⟩ : ∃ k', k = k' + 1 := ⟨k - 1, by omega⟩
    unfold rubrickref02_Same.l0
    by_cases h : i < l.length
    · rw [if_pos (by omega), if_pos (by omega), if_pos (by omega), if_pos rfl, succ_wrap i l.length h (by omega)]
      exact ih (i + 1) k (by omega) (by omega)
    · rw [if_neg (by omega)]
theorem same_f (l : List ByteArray) (hl : l.length ≤ 100000000) (k : Nat) (hk : l.length + 5 ≤ k) : rubrickref02_Same.f k l l = some true := by
  unfold rubrickref02_Same.f
  rw [if_pos rfl]
  exact same_l0 l hl l.length 0 k (by omega) (by omega)
theorem step_len (s : TS) (c : Int) : (stepS s c).out.length ≤ s.out.length + 1 := by
  unfold stepS takeS
  (repeat' split)
  · exact Nat.le_succ _
  · exact Nat.le_succ _
  · exact endT_out s
theorem fold_len (l : List Int) : ∀ s : TS, (l.foldl stepS s).out.length ≤ s.out.length + l.length := by
  induction l with
  | nil => intro s; simp
  | cons c l ih => intro s; rw [List.foldl_cons, List.length_cons]; have := ih (stepS s c); have := step_len s c; omega
theorem terms_len (l : List Int) : (termsS l).length ≤ l.length + 1 := by
  unfold termsS
  have := endT_out (l.foldl stepS ⟨[], false, false, []⟩)
  have h := fold_len l ⟨[], false, false, []⟩
  simp only [List.length_nil] at h
  omega
theorem knows05_ge (k : Nat) (hk : 60 ≤ k) : rubricklaw05_knows.f k = some true := by
  obtain ⟨j, rfl⟩ : ∃ j, k = 60 + j := ⟨k - 60, by omega⟩
  exact le_mono rubricklaw05_knows.mono knows05 j
theorem TokenRows_pure (a : List Int) (m : Int) (b : List Int) (ha : ∀ x ∈ a, (Lit.int .u8 x).wf = true) (hm : (Lit.int .u8 m).wf = true) (hb : ∀ x ∈ b, (Lit.int .u8 x).wf = true) : ∃ k, rubricklaw05_TokenRows.f k a m b = some true := by
  refine ⟨10000, ?_⟩
  have hA := u8_bytes ha
  have hB := u8_bytes hb
  have hM := (u8_bytes (l := [m]) (fun x hx => by rw [List.mem_singleton.1 hx]; exact hm)) m (List.mem_singleton.2 rfl)
  unfold rubricklaw05_TokenRows.f
  have hk : ∀ k, 60 ≤ k → rubricklaw05_TokenRows.j0 (k + 1) a m b true = some true := fun k hk => by
    simp only [rubricklaw05_TokenRows.j0, if_true]
    rw [knows05_ge k hk]
    rfl
  rw [great05, Option.bind_some]
  by_cases h1 : (a.length : Int) > 2000
  · rw [if_pos (decide_eq_true h1)]; exact hk 9999 (by omega)
  rw [if_neg (by simp; omega), great05, Option.bind_some]
  by_cases h2 : (b.length : Int) > 2000
  · rw [if_pos (decide_eq_true h2)]; exact hk 9999 (by omega)
  rw [if_neg (by simp; omega)]
  by_cases h3 : m ≥ 128
  · rw [if_pos h3]; exact hk 9999 (by omega)
  rw [if_neg h3, wrap_in (by omega) (by omega), in_word, Option.bind_some]
  by_cases h4 : wordB m = true
  · rw [h4]; exact hk 9999 (by omega)
  have h4 : wordB m = false := by simpa using h4
  rw [h4]
  have hAM : AllB (a ++ [m]) := hA.append (fun x hx => by rw [List.mem_singleton.1 hx]; omega)
  have hd := decS_mark m b hM.1 (by omega) hB a.length a hA (Nat.le_refl _)
  show rubricklaw05_TokenRows.j0 (9999 + 1) a m b false = some true
  simp only [rubricklaw05_TokenRows.j0]
  rw [if_neg (by decide), Option.bind_some, List.nil_append, if_pos (by simp; omega), Option.bind_some, if_pos (by omega), Option.bind_some, if_pos (by simp; omega)]
  rw [terms_f (a ++ [m] ++ b) (hAM.append hB) (by simp; omega), Option.bind_some, Option.bind_some, terms_f a hA (by omega), Option.bind_some]
  have l1 := terms_len (decS a)
  have l2 := terms_len (decS b)
  have l3 := decS_length a.length a hA (Nat.le_refl _)
  have l4 := decS_length b.length b hB (Nat.le_refl _)
  rw [List.nil_append, if_pos (by simp; omega), Option.bind_some, terms_f b hB (by omega), Option.bind_some, if_pos (by omega)]
  have e : termsS (decS (a ++ [m] ++ b)) = termsS (decS a) ++ termsS (decS b) := by
    rw [List.append_assoc, List.singleton_append, hd, terms_mark _ _ _ h4]
  rw [e, same_f _ (by rw [List.length_append]; omega) _ (by rw [List.length_append]; omega), Option.bind_some, if_pos rfl, knows05_ge _ (by omega)]
  rfl
end Go.Proofs.YtiihoodnejcjgaaDoor.P
