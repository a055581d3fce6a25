/- Which texts are terms (the plain law TokenRights, first half). -/
import Derived.Test.YtiihoodnejcjgaaDoorZTokI
import Derived.Test.YtiihoodnejcjgaaDoorHBT
import Derived.Test.YtiihoodnejcjgaaDoorHBR
namespace Go.Proofs.YtiihoodnejcjgaaDoor.P
open Go.RowKit Go.Proofs.YtiihoodnejcjgaaDoorW.PrintWords Go.Proofs.YtiihoodnejcjgaaDoorW.PrintLast Go.Proofs.YtiihoodnejcjgaaDoorW.PrintMore
set_option linter.unusedVariables false
set_option linter.unusedSimpArgs false
/-- The small letters' bytes of a word. -/
def flatW (w : List Int) : List Int := w.flatMap fun c => encS (smallS c)
theorem wordT_pre : ∀ (w acc : List Int), acc.length ≤ 64 → ∃ n, n ≤ w.length ∧ wordT acc w = acc ++ flatW (w.take n) ∧ (wordT acc w).length ≤ 64 ∧ (n = w.length ∨ (wordT acc w).length < acc.length + (flatW w).length)
  | [], acc, h => ⟨0, Nat.le_refl _, by simp [wordT, flatW], by simpa [wordT] using h, .inl rfl⟩
  | c :: w, acc, h => by
    rw [wordT]
    by_cases hb : 64 < acc.length + (encS (smallS c)).length
    · rw [if_pos hb]
      refine ⟨0, Nat.zero_le _, by simp [flatW], h, .inr ?_⟩
      have : (encS (smallS c)).length ≤ (flatW (c :: w)).length := by unfold flatW; rw [List.flatMap_cons, List.length_append]; omega
      omega
    · rw [if_neg hb]
      obtain ⟨n, h1, h2, h3, h4⟩ := wordT_pre w (acc ++ encS (smallS c)) (by rw [List.length_append]; omega)
      refine ⟨n + 1, by simp; omega, ?_, h3, ?_⟩
      · rw [h2, List.take_succ_cons]
        unfold flatW
        rw [List.flatMap_cons, List.append_assoc]
      · rcases h4 with rfl | h4
        · exact .inl (by simp)
        · refine .inr ?_
          rw [List.length_append] at h4
          have : (flatW (c :: w)).length = (encS (smallS c)).length + (flatW w).length := by unfold flatW; rw [List.flatMap_cons, List.length_append]
          omega
theorem wordT_one (c : Int) (w : List Int) : ∃ n, 1 ≤ n ∧ n ≤ (c :: w).length ∧ wordT [] (c :: w) = flatW ((c :: w).take n) ∧ (wordT [] (c :: w)).length ≤ 64 := by
  rw [wordT]
  have hl := enc_len (smallS c)
  rw [if_neg (by simp; omega), List.nil_append]
  obtain ⟨n, h1, h2, h3, _⟩ := wordT_pre w (encS (smallS c)) (by omega)
  refine ⟨n + 1, by omega, by simp; omega, ?_, h3⟩
  rw [h2, List.take_succ_cons]
  unfold flatW
  rw [List.flatMap_cons]
theorem small_word {c : Int} (h : wordB c = true) : wordB (smallS c) = true ∧ smallS (smallS c) = smallS c ∧ manyS (smallS c) = manyS c := by
  have hr := word_range h
  unfold wordB at h
  rcases Bool.or_eq_true_iff.1 h with h | h
  · have hl := (letB_iff c).1 h
    have e := smallS_eq c
    refine ⟨?_, ?_, ?_⟩
    · unfold wordB
      rw [(letB_iff (smallS c)).2 (by rw [e]; (repeat' split) <;> omega)]
      rfl
    · rw [smallS_eq (smallS c), e]
      (repeat' split) <;> omega
    · rw [e]
      unfold manyS
      (repeat' split) <;> omega
  · have hd := of_decide_eq_true h
    have e : smallS c = c := by rw [smallS_eq, if_neg (by omega), if_neg (by omega)]
    rw [e]
    refine ⟨?_, e, rfl⟩
    unfold wordB
    rw [decide_eq_true hd, Bool.or_true]
theorem dflat_bytes (l : List Int) (h : ∀ c ∈ l, isR c = true) : AllB (l.flatMap encS) := fun x hx => by
  obtain ⟨c, hc, hx⟩ := List.mem_flatMap.1 hx
  exact encS_bytes c (h c hc) x hx
theorem dflat (l : List Int) (h : ∀ c ∈ l, isR c = true) : decS (l.flatMap encS) = l := by
  induction l with
  | nil => rfl
  | cons c l ih =>
    rw [List.flatMap_cons, decS_enc c _ (h c (List.mem_cons_self ..)), ih (fun x hx => h x (List.mem_cons_of_mem _ hx))]
    exact (encS_bytes c (h c (List.mem_cons_self ..))).append (dflat_bytes l (fun x hx => h x (List.mem_cons_of_mem _ hx)))
theorem flatW_eq (w : List Int) : flatW w = (w.map smallS).flatMap encS := by unfold flatW; rw [List.flatMap_map]
theorem flatW_dec (w : List Int) (h : ∀ c ∈ w, wordB c = true) : decS (flatW w) = w.map smallS ∧ AllB (flatW w) := by
  have hr : ∀ c ∈ w.map smallS, isR c = true := fun c hc => by
    obtain ⟨d, hd, rfl⟩ := List.mem_map.1 hc
    exact (small_right (h d hd)).1
  rw [flatW_eq]
  exact ⟨dflat _ hr, fun x hx => by
    obtain ⟨c, hc, hx⟩ := List.mem_flatMap.1 hx
    exact encS_bytes c (hr c hc) x hx⟩
end Go.Proofs.YtiihoodnejcjgaaDoor.P
