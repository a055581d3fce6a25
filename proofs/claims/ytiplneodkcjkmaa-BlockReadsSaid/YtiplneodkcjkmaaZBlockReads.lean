/- The plain statement of layer 22: BlockReads. -/
import Derived.Test.YtiplneodkcjkmaaZBlkB
import Derived.Test.YtiplneodkcjkmaaPxRubricklaw22BlockReads
set_option linter.unusedVariables false
set_option linter.unusedSimpArgs false
namespace Go.Proofs.Ytiplneodkcjkmaa.P
open Go.RowKit Go.Proofs.YtiplneodkcjkmaaW.PrintWords Go.Proofs.YtiplneodkcjkmaaW.PrintLast Go.Proofs.YtiplneodkcjkmaaW.PrintMore
theorem knows22 : rubricklaw22_knows.f = some true := rfl
theorem BlockReads_pure (bs : List (List Int)) (ws : List Wt) (i : Int) (hb : bs.length ≤ 9223372036854775807) (hw : ws.length ≤ 9223372036854775807) : ∃ k, rubricklaw22_BlockReads.f k bs ws i = some true := by
  refine ⟨bs.length + ws.length + 10000, ?_⟩
  unfold rubricklaw22_BlockReads.f
  rcases great_f bs ws hb hw (bs.length + ws.length + 10000) (by omega) with hg | ⟨hg, h1, h2⟩
  · rw [hg, Option.bind_some, if_pos rfl, knows22]; rfl
  · rw [hg, Option.bind_some, if_neg (by simp), read_f bs ws hb hw i _ (by omega), Option.bind_some, as_f bs ws (by omega) _ (by omega), Option.bind_some, right_f bs ws hb hw _ (by omega), Option.bind_some, rright_f bs ws (by omega) (by omega) _ (by omega), Option.bind_some, bne_self_eq_false, if_neg (by simp), len_f bs ws hb hw, Option.bind_some, rgood_f bs ws (by omega) (by omega) _ (by omega), Option.bind_some]
    show rubricklaw22_BlockReads.j0 _ i _ _ (((goodD bs ws).1.length : Int) != ((goodD bs ws).1.length : Int)) bs (ws.map asW) = _
    rw [bne_self_eq_false, show bs.length + ws.length + 10000 = (bs.length + ws.length + 9999) + 1 from rfl, rubricklaw22_BlockReads.j0, if_neg (by simp)]
    have yes : ∀ k, 1 ≤ k → (readF bs ws i = ([], 1)) → rubricklaw22_BlockReads.j1 k i (readF bs ws i).1 (readF bs ws i).2 true bs (ws.map asW) = some true := by
      intro k hk e
      obtain ⟨k, rfl⟩ : ∃ m, k = m + 1 := ⟨k - 1, by omega⟩
      rw [e, rubricklaw22_BlockReads.j1, if_pos rfl]; rfl
    by_cases hi : i < 0
    · rw [if_pos hi]
      exact yes _ (by omega) (by unfold readF; rw [if_neg (by omega)])
    · rw [if_neg hi, rgood_f bs ws (by omega) (by omega) _ (by omega), Option.bind_some]
      by_cases hi2 : i ≥ ((goodD bs ws).1.length : Int)
      · rw [decide_eq_true hi2]
        refine yes _ (by omega) ?_
        unfold readF
        rw [if_neg]
        rintro ⟨a, b, c⟩
        rw [goodD_of a] at hi2
        have : i ≥ (bs.length : Int) := hi2
        omega
      · have hok : OKD bs ws := by
          by_cases hok : OKD bs ws
          · exact hok
          · exfalso; apply hi2
            unfold goodD; rw [if_neg hok]
            show i ≥ ((0 : Nat) : Int); omega
        rw [goodD_of hok] at hi2
        have hi3 : ¬ i ≥ (bs.length : Int) := hi2
        obtain ⟨j, rfl⟩ := Int.eq_ofNat_of_zero_le (show 0 ≤ i by omega)
        rw [goodD_of hok, decide_eq_false hi2, show bs.length + ws.length + 9999 = (bs.length + ws.length + 9998) + 1 from rfl, rubricklaw22_BlockReads.j1, if_neg (by simp), rread_f bs ws (by omega) j (by omega) _ (by omega), Option.bind_some]
        have e : readF bs ws (j : Int) = (readS bs ws j, 0) := by unfold readF; rw [if_pos ⟨hok, by omega, by omega⟩, Int.toNat_natCast]
        rw [e, if_pos rfl, if_pos rfl, knows22]; rfl
end Go.Proofs.Ytiplneodkcjkmaa.P
