/- The plain statement of layer 22: BlockLike. -/
import Derived.Test.YtiplneodkcjkmaaZBlkB
import Derived.Test.YtiplneodkcjkmaaPxRubricklaw22BlockLike
set_option linter.unusedVariables false
set_option linter.unusedSimpArgs false
namespace Go.Proofs.Ytiplneodkcjkmaa.P
open Go.RowKit Go.Proofs.YtiplneodkcjkmaaW.PrintWords Go.Proofs.YtiplneodkcjkmaaW.PrintLast Go.Proofs.YtiplneodkcjkmaaW.PrintMore
theorem knows22 : rubricklaw22_knows.f = some true := rfl
theorem BlockLike_pure (bs : List (List Int)) (ws : List Wt) (i : Int) (hb : bs.length ≤ 9223372036854775807) (hw : ws.length ≤ 9223372036854775807) : ∃ k, rubricklaw22_BlockLike.f k bs ws i = some true := by
  refine ⟨bs.length + ws.length + 10000, ?_⟩
  unfold rubricklaw22_BlockLike.f
  rcases great_f bs ws hb hw (bs.length + ws.length + 10000) (by omega) with hg | ⟨hg, h1, h2⟩
  · rw [hg, Option.bind_some, if_pos rfl, knows22]; rfl
  · obtain ⟨o1, o2⟩ := doneF_D (fun _ => 64) _ _ (goodD_ok bs ws)
    have o3 : (goodD bs ws).1.length ≤ 200 := by unfold goodD; split <;> simp <;> omega
    have key : readF bs ws i = readF (doneF (fun _ => 64) 0 (goodD bs ws).1 (goodD bs ws).2) [] i := by
      rw [readF_nil _ o1]
      unfold readF
      by_cases hok : OKD bs ws
      · rw [goodD_of hok] at o2 ⊢
        rw [o2]
        by_cases hi : 0 ≤ i ∧ i < (bs.length : Int)
        · rw [if_pos ⟨hok, hi⟩, if_pos hi, doneF_read ws 0 bs i.toNat hok.2.2.1 hok.2.2.2]; rfl
        · rw [if_neg (fun h => hi h.2), if_neg hi]
      · have e : goodD bs ws = ([], []) := by unfold goodD; rw [if_neg hok]
        rw [e, if_neg (fun h => hok h.1)]
        rw [if_neg (by show ¬ (0 ≤ i ∧ i < ((0 : Nat) : Int)); omega)]
    rw [hg, Option.bind_some, if_neg (by simp), read_f bs ws hb hw i _ (by omega), Option.bind_some, sync_f bs ws hb hw, Option.bind_some]
    show (block_Read.f _ (doneF _ 0 (goodD bs ws).1 (goodD bs ws).2) [] i).bind _ = _
    rw [read_f _ [] (by rw [o2]; omega) (by simp) i _ (by rw [o2]; simp; omega), Option.bind_some, ← key, if_pos rfl, if_pos rfl, Option.bind_some]
    rfl
end Go.Proofs.Ytiplneodkcjkmaa.P
