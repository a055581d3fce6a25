/- The plain statement of layer 22: BlockNews. -/
import Derived.Test.YtiplneodkcjkmaaZBlkB
import Derived.Test.YtiplneodkcjkmaaPxRubricklaw22BlockNews
set_option linter.unusedVariables false
set_option linter.unusedSimpArgs false
namespace Go.Proofs.Ytiplneodkcjkmaa.P
open Go.RowKit Go.Proofs.YtiplneodkcjkmaaW.PrintWords Go.Proofs.YtiplneodkcjkmaaW.PrintLast Go.Proofs.YtiplneodkcjkmaaW.PrintMore
theorem knows22 : rubricklaw22_knows.f = some true := rfl
theorem BlockNews : rubricklaw22_BlockNews.Pure := by
  intro n hn
  refine ⟨10000, ?_⟩
  unfold rubricklaw22_BlockNews.f
  have skip : rubricklaw22_BlockNews.j0 10000 n true = some true := by
    rw [show (10000 : Nat) = 9999 + 1 from rfl, rubricklaw22_BlockNews.j0, if_pos rfl, knows22]; rfl
  have bad : n < 0 ∨ n > 4096 → rubricklaw22_BlockNews.j0 10000 n false = some true := by
    intro h
    rw [show (10000 : Nat) = 9999 + 1 from rfl, rubricklaw22_BlockNews.j0, if_neg (by simp)]
    have e : block_New.f 9999 n = some ([], [], 1) := by
      unfold block_New.f
      rw [show (9999 : Nat) = 9998 + 1 from rfl]
      by_cases h1 : n < 0
      · rw [if_pos h1, block_New.j0, if_pos rfl]
      · rw [if_neg h1, decide_eq_true (by omega), block_New.j0, if_pos rfl]
    rw [e, Option.bind_some]
    have fin : rubricklaw22_BlockNews.j1 9999 n 1 true [] [] = some true := by
      rw [show (9999 : Nat) = 9998 + 1 from rfl, rubricklaw22_BlockNews.j1, if_pos rfl]; rfl
    by_cases h1 : n < 0
    · rw [if_pos h1]; exact fin
    · rw [if_neg h1, decide_eq_true (by omega)]; exact fin
  by_cases h1 : n > 300
  · rw [if_pos h1]
    by_cases h2 : n ≤ 4096
    · rw [decide_eq_true h2]; exact skip
    · rw [decide_eq_false h2]; exact bad (.inr (by omega))
  · rw [if_neg h1]
    by_cases h2 : n < 0
    · exact bad (.inl h2)
    · obtain ⟨m, rfl⟩ := Int.eq_ofNat_of_zero_le (show 0 ≤ n by omega)
      rw [show (10000 : Nat) = 9999 + 1 from rfl, rubricklaw22_BlockNews.j0, if_neg (by simp), new_f m (by omega) _ (by omega), Option.bind_some, if_neg h2, decide_eq_false (by omega)]
      show rubricklaw22_BlockNews.j1 9999 _ 0 false (List.replicate m (List.replicate 64 0)) [] = _
      rw [show (9999 : Nat) = 9998 + 1 from rfl, rubricklaw22_BlockNews.j1, if_neg (by simp), as_f _ [] (by simp) _ (by simp), Option.bind_some, rnew_f m (by omega) _ (by omega), Option.bind_some]
      show (rubrickref22_Same.f 9998 (List.replicate m (List.replicate 64 0)) [] (List.replicate m (List.replicate 64 0)) []).bind _ = _
      rw [same_f _ [] (by rw [List.length_replicate]; omega) (by simp) _ (by rw [List.length_replicate]; simp; omega), Option.bind_some, if_pos rfl, if_pos rfl, knows22]; rfl
abbrev Ac := S50
end Go.Proofs.Ytiplneodkcjkmaa.P
