/- The plain statement of layer 22: BlockLasts. -/
import Derived.Test.YtiplneodkcjkmaaZBlkB
import Derived.Test.YtiplneodkcjkmaaPxRubricklaw22BlockLasts
set_option linter.unusedVariables false
set_option linter.unusedSimpArgs false
namespace Go.Proofs.Ytiplneodkcjkmaa.P
open Go.RowKit Go.Proofs.YtiplneodkcjkmaaW.PrintWords Go.Proofs.YtiplneodkcjkmaaW.PrintLast Go.Proofs.YtiplneodkcjkmaaW.PrintMore
abbrev Ac := S50
theorem knows22 : rubricklaw22_knows.f = some true := rfl
theorem rdA (l : List Ac) (i : Nat) (h : i < l.length) : rd_T50 l (i : Int) = l[i] := by
  unfold rd_T50
  rw [Int.toNat_natCast, List.getD_eq_getElem?_getD, List.getElem?_eq_getElem h]
  rfl
theorem lasts_l0 (l : List Ac) (i : Int) (keep was : List Int) (e : Int) (bs : List (List Int)) (hbs : bs.length ≤ 200) (hre : (was, e) = readF bs [] i) (d : Nat) : ∀ (q k : Nat) (ws : List Wt), 60 - q ≤ d → q ≤ 60 → 2 * d + 2000 ≤ k → OKD bs ws → ws.length ≤ q → (∀ x ∈ ws, x.f0 ≠ i) →
    rubricklaw22_BlockLasts.l0 k l i keep was e (q : Int) bs ws = some true := by
  have fin : ∀ (q k : Nat) (ws : List Wt), 1000 ≤ k → OKD bs ws → (∀ x ∈ ws, x.f0 ≠ i) → rubricklaw22_BlockLasts.j2 k l i keep was e (q : Int) false bs ws = some true := by
    intro q k ws hk hok hn
    obtain ⟨k, rfl⟩ : ∃ m, k = m + 1 := ⟨k - 1, by omega⟩
    obtain ⟨o1, o2⟩ := doneF_D (keepF keep) bs ws hok
    have hw := hok.2.1
    rw [rubricklaw22_BlockLasts.j2, if_neg (by simp), crash_f bs ws keep (by omega) (by omega), Option.bind_some, goodD_of hok]
    show (block_Read.f k (doneF (keepF keep) 0 bs ws) [] i).bind _ = _
    have key : readF (doneF (keepF keep) 0 bs ws) [] i = readF bs [] i := by
      have hnil : OKD bs [] := ⟨hok.1, by simp, hok.2.2.1, by simp⟩
      rw [readF_nil _ o1, readF_nil _ hnil, o2]
      by_cases hi : 0 ≤ i ∧ i < (bs.length : Int)
      · rw [if_pos hi, if_pos hi, doneF_far _ ws 0 bs i.toNat hok.2.2.2 (fun x hx => by have := hn x hx; omega)]
      · rw [if_neg hi, if_neg hi]
    rw [read_f _ [] (by rw [o2]; omega) (by simp) i _ (by rw [o2]; simp; omega), Option.bind_some, key, ← hre, if_pos rfl, if_pos rfl, knows22]; rfl
  induction d with
  | zero =>
    intro q k ws hd hq hk hok hl hn
    obtain ⟨k, rfl⟩ : ∃ m, k = m + 1 := ⟨k - 1, by omega⟩
    rw [rubricklaw22_BlockLasts.l0]
    by_cases h1 : (q : Int) < (l.length : Int)
    · rw [if_pos h1, decide_eq_false (by omega)]; exact fin q k ws (by omega) hok hn
    · rw [if_neg h1]; exact fin q k ws (by omega) hok hn
  | succ d ih =>
    intro q k ws hd hq hk hok hl hn
    obtain ⟨k, rfl⟩ : ∃ m, k = m + 2 := ⟨k - 2, by omega⟩
    rw [rubricklaw22_BlockLasts.l0]
    by_cases h1 : (q : Int) < (l.length : Int)
    · rw [if_pos h1]
      by_cases h2 : (q : Int) < 60
      · have hlt : q < l.length := by omega
        have hs : wrap64 ((q : Int) + 1) = ((q + 1 : Nat) : Int) := by rw [wr63 (by omega) (by omega)]; omega
        rw [decide_eq_true h2, rubricklaw22_BlockLasts.j2, if_pos rfl, if_pos (by omega), if_pos h1, rdA l q hlt, hs]
        by_cases h3 : (l[q].f2.length : Int) ≤ 200
        · rw [if_pos h3]
          by_cases h4 : l[q].f1 = i
          · rw [if_pos h4]
            exact ih (q + 1) k ws (by omega) (by omega) (by omega) hok (by omega) hn
          · rw [if_neg h4]
            obtain ⟨ws', e', hw1, hw2, hw3, hw4, _⟩ := write_f bs ws hok l[q].f1 l[q].f2 k (by omega)
            rw [hw1, Option.bind_some]
            refine ih (q + 1) k ws' (by omega) (by omega) (by omega) hw2 (by omega) (fun x hx => ?_)
            rcases hw4 with rfl | rfl
            · exact hn x hx
            · rcases List.mem_append.1 hx with hx | hx
              · exact hn x hx
              · rw [List.mem_singleton.1 hx]; exact h4
        · rw [if_neg h3]
          exact ih (q + 1) k ws (by omega) (by omega) (by omega) hok (by omega) hn
      · rw [decide_eq_false h2]; exact fin q (k + 1) ws (by omega) hok hn
    · rw [if_neg h1]; exact fin q (k + 1) ws (by omega) hok hn
theorem BlockLasts_pure (bs : List (List Int)) (ws : List Wt) (l : List Ac) (i : Int) (keep : List Int) (hb : bs.length ≤ 9223372036854775807) (hw : ws.length ≤ 9223372036854775807) : ∃ k, rubricklaw22_BlockLasts.f k bs ws l i keep = some true := by
  refine ⟨bs.length + ws.length + 10000, ?_⟩
  unfold rubricklaw22_BlockLasts.f
  have skip : rubricklaw22_BlockLasts.j0 (bs.length + ws.length + 10000) l i keep true bs ws = some true := by
    rw [show bs.length + ws.length + 10000 = (bs.length + ws.length + 9999) + 1 from rfl, rubricklaw22_BlockLasts.j0, if_pos rfl, knows22]; rfl
  rcases great_f bs ws hb hw (bs.length + ws.length + 10000) (by omega) with hg | ⟨hg, h1, h2⟩
  · rw [hg, Option.bind_some, if_pos rfl]; exact skip
  · rw [hg, Option.bind_some, if_neg (by simp)]
    by_cases h3 : (keep.length : Int) > 300
    · rw [decide_eq_true h3]; exact skip
    · obtain ⟨o1, o2⟩ := doneF_D (fun _ => 64) _ _ (goodD_ok bs ws)
      have o3 : (goodD bs ws).1.length ≤ 200 := by unfold goodD; split <;> simp <;> omega
      rw [decide_eq_false h3, show bs.length + ws.length + 10000 = (bs.length + ws.length + 9999) + 1 from rfl, rubricklaw22_BlockLasts.j0, if_neg (by simp), sync_f bs ws hb hw, Option.bind_some]
      show (block_Read.f _ (doneF _ 0 (goodD bs ws).1 (goodD bs ws).2) [] i).bind _ = _
      rw [read_f _ [] (by rw [o2]; omega) (by simp) i _ (by rw [o2]; simp; omega), Option.bind_some]
      exact lasts_l0 l i keep _ _ _ (by rw [o2]; exact o3) rfl 60 0 _ [] (by omega) (by omega) (by omega) o1 (by simp) (by simp)
end Go.Proofs.Ytiplneodkcjkmaa.P
