/- The plain law TokenSets. -/
import Derived.Test.YtiihoodnejcjgaaDoorZTokD
import Derived.Test.YtiihoodnejcjgaaDoorPxRubricklaw05TokenSets
namespace Go.Proofs.YtiihoodnejcjgaaDoor.P
open Go.RowKit Go.Proofs.YtiihoodnejcjgaaDoorW.PrintWords Go.Proofs.YtiihoodnejcjgaaDoorW.PrintLast Go.Proofs.YtiihoodnejcjgaaDoorW.PrintMore
set_option linter.unusedVariables false
set_option linter.unusedSimpArgs false
theorem sets_l2 (ts s : List ByteArray) (hs : s.length ≤ 1000000) (hts : ts.length ≤ 1000000) (j : Nat) (hj : j < ts.length) (K : Nat) (hK : ∀ k, K ≤ k → rubricklaw05_TokenSets.l1 k ts s ((j + 1 : Nat) : Int) = some true) (d : Nat) :
    ∀ (i k : Nat) (found : Bool), s.length - i ≤ d → i ≤ s.length → K + d + 2 ≤ k → (found = true ∨ ∃ m, ∃ h : m < s.length, i ≤ m ∧ s[m].toList = ts[j].toList) → rubricklaw05_TokenSets.l2 k ts s (j : Int) found (i : Int) = some true := by
  induction d with
  | zero =>
    intro i k found hi hi2 hk hf
    obtain ⟨k, rfl⟩ : ∃ k', k = k' + 1 := ⟨k - 1, by omega⟩
    rcases hf with rfl | ⟨m, h, hm, _⟩
    · rw [rubricklaw05_TokenSets.l2, if_neg (by omega), if_pos rfl, succ_wrap j ts.length hj (by omega)]
      exact hK k (by omega)
    · omega
  | succ d ih =>
    intro i k found hi hi2 hk hf
    obtain ⟨k, rfl⟩ : ∃ k', k = k' + 1 := ⟨k - 1, by omega⟩
    by_cases h : i < s.length
    · rw [rubricklaw05_TokenSets.l2, if_pos (by omega)]
      by_cases hfo : found = true
      · rw [if_pos hfo, succ_wrap i s.length h (by omega)]
        exact ih (i + 1) k true (by omega) (by omega) (by omega) (.inl rfl)
      · rw [if_neg hfo, if_pos (by omega), if_pos (by omega), if_pos (by omega), rdS_at s i h, rdS_at ts j hj, succ_wrap i s.length h (by omega)]
        refine ih (i + 1) k _ (by omega) (by omega) (by omega) ?_
        rcases hf with hf | ⟨m, hm, him, he⟩
        · exact absurd hf hfo
        · rcases Nat.eq_or_lt_of_le him with rfl | him
          · exact .inl (by rw [he]; exact beq_self_eq_true _)
          · exact .inr ⟨m, hm, him, he⟩
    · rcases hf with rfl | ⟨m, hm, him, _⟩
      · rw [rubricklaw05_TokenSets.l2, if_neg (by omega), if_pos rfl, succ_wrap j ts.length hj (by omega)]
        exact hK k (by omega)
      · omega
theorem sets_l1 (ts s : List ByteArray) (hs : s.length ≤ 1000000) (hts : ts.length ≤ 1000000) (hin : ∀ x ∈ ts, ∃ t ∈ s, t.toList = x.toList) (d : Nat) :
    ∀ (j k : Nat), ts.length - j ≤ d → j ≤ ts.length → 100 + d * (s.length + 5) ≤ k → rubricklaw05_TokenSets.l1 k ts s (j : Int) = some true := by
  induction d with
  | zero =>
    intro j k hj hj2 hk
    obtain ⟨k, rfl⟩ : ∃ k', k = k' + 1 := ⟨k - 1, by omega⟩
    rw [rubricklaw05_TokenSets.l1, if_neg (by omega), knows05_ge k (by omega)]
    rfl
  | succ d ih =>
    intro j k hj hj2 hk
    rw [Nat.succ_mul] at hk
    obtain ⟨k, rfl⟩ : ∃ k', k = k' + 1 := ⟨k - 1, by omega⟩
    rw [rubricklaw05_TokenSets.l1]
    by_cases h : j < ts.length
    · rw [if_pos (by omega)]
      obtain ⟨t, ht, he⟩ := hin ts[j] (List.getElem_mem h)
      obtain ⟨m, hm, rfl⟩ := List.mem_iff_getElem.1 ht
      exact sets_l2 ts s hs hts j h (100 + d * (s.length + 5)) (fun k hk => ih (j + 1) k (by omega) (by omega) hk) s.length 0 k false (by omega) (by omega) (by omega) (.inr ⟨m, hm, by omega, he⟩)
    · rw [if_neg (by omega), knows05_ge k (by omega)]
      rfl
theorem sets_l0 (b : List Int) (ts s : List ByteArray) (ht : token_Terms.f b = some ts) (hs : s.length ≤ 1000000) (hts : ts.length ≤ 1000000) (hr : RiseB s) (hsub : ∀ x ∈ s, x ∈ ts) (K : Nat) (hKt : ts.length + 5 ≤ K)
    (hK : ∀ k, K ≤ k → rubricklaw05_TokenSets.l1 k ts s 0 = some true) (d : Nat) : ∀ (i k : Nat), s.length - i ≤ d → i ≤ s.length → K + d + 2 ≤ k → rubricklaw05_TokenSets.l0 k b ts s (i : Int) = some true := by
  induction d with
  | zero =>
    intro i k hi hi2 hk
    obtain ⟨k, rfl⟩ : ∃ k', k = k' + 1 := ⟨k - 1, by omega⟩
    rw [rubricklaw05_TokenSets.l0, if_neg (by omega)]
    exact hK k (by omega)
  | succ d ih =>
    intro i k hi hi2 hk
    obtain ⟨k, rfl⟩ : ∃ k', k = k' + 1 := ⟨k - 1, by omega⟩
    rw [rubricklaw05_TokenSets.l0]
    by_cases h : i < s.length
    · have hp : ¬ ((placesS s[i] ts 0).length : Int) = 0 := by have := placesS_pos s[i] ts 0 (hsub _ (List.getElem_mem h)); omega
      rw [if_pos (by omega)]
      by_cases h0 : i = 0
      · rw [if_neg (by omega), if_pos (by omega), rdS_at s i h, places_of b ts _ ht (by omega) k (by omega), Option.bind_some, if_neg hp, succ_wrap i s.length h (by omega)]
        exact ih (i + 1) k (by omega) (by omega) (by omega)
      · have hw : wrap64 ((i : Int) - 1) = ((i - 1 : Nat) : Int) := by rw [wrap_in (by omega) (by omega)]; omega
        have hlt : Op.bytesLess (s[i - 1]'(by omega)).toList s[i].toList = true := (blt_iff _ _).2 (List.pairwise_iff_getElem.1 hr (i - 1) i (by omega) h (by omega))
        rw [if_pos (by omega), hw, if_pos (by omega), if_pos (by omega), if_pos (by omega), rdS_at s i h, rdS_at s (i - 1) (by omega), if_pos hlt, places_of b ts _ ht (by omega) k (by omega), Option.bind_some, if_neg hp, succ_wrap i s.length h (by omega)]
        exact ih (i + 1) k (by omega) (by omega) (by omega)
    · rw [if_neg (by omega)]
      exact hK k (by omega)
theorem TokenSets_pure (b : List Int) (hw : ∀ x ∈ b, (Lit.int .u8 x).wf = true) : ∃ k, rubricklaw05_TokenSets.f k b = some true := by
  refine ⟨10000000, ?_⟩
  have hb := u8_bytes hw
  unfold rubricklaw05_TokenSets.f
  rw [great05, Option.bind_some]
  by_cases h : (b.length : Int) > 2000
  · rw [if_pos (decide_eq_true h), knows05_ge _ (by omega)]; rfl
  have hn := decS_length b.length b hb (Nat.le_refl _)
  have ht := terms_f b hb (by omega)
  have hl := terms_len (decS b)
  have hsl := setS_len (termsS (decS b))
  rw [if_neg (by simp; omega), ht, Option.bind_some, set_of b _ ht (by omega) _ (by omega), Option.bind_some]
  have h2 : termsS (decS b) = termsS (decS b) := rfl
  generalize termsS (decS b) = ts at *
  have hm : ts.length * ((setS ts).length + 5) ≤ 2001 * 2006 := Nat.mul_le_mul (by omega) (by omega)
  refine sets_l0 b ts (setS ts) ht (by omega) (by omega) (setS_rise ts) (setS_in ts) (100 + ts.length * ((setS ts).length + 5) + 2100) (by omega) (fun k hk => ?_) (setS ts).length 0 _ (by omega) (by omega) (by omega)
  exact sets_l1 ts (setS ts) (by omega) (by omega) (setS_has ts) ts.length 0 k (by omega) (by omega) (by omega)
end Go.Proofs.YtiihoodnejcjgaaDoor.P
