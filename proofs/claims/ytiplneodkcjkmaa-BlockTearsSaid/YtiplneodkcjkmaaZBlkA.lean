/- Plain laws of disks: what the printed functions of package block and of its reference compute. -/
import Derived.Test.YtiplneodkcjkmaaHDone
import Derived.Test.YtiplneodkcjkmaaPxBlockRead
import Derived.Test.YtiplneodkcjkmaaPxBlockNew
import Derived.Test.YtiplneodkcjkmaaPxBlockWrite
import Derived.Test.YtiplneodkcjkmaaPxBlockLen
import Derived.Test.YtiplneodkcjkmaaPxRubricklaw22As
import Derived.Test.YtiplneodkcjkmaaPxRubricklaw22Great
import Derived.Test.YtiplneodkcjkmaaPxRubrickref22Good
import Derived.Test.YtiplneodkcjkmaaPxRubrickref22Read
import Derived.Test.YtiplneodkcjkmaaPxRubrickref22New
import Derived.Test.YtiplneodkcjkmaaPxRubrickref22Same
set_option linter.unusedVariables false
set_option linter.unusedSimpArgs false
namespace Go.Proofs.Ytiplneodkcjkmaa.P
open Go.RowKit Go.Proofs.YtiplneodkcjkmaaW.PrintWords Go.Proofs.YtiplneodkcjkmaaW.PrintLast Go.Proofs.YtiplneodkcjkmaaW.PrintMore
abbrev Wt := S57
abbrev Wr := S59
theorem wr63 {x : Int} (h0 : -9223372036854775808 ≤ x) (h1 : x ≤ 9223372036854775807) : wrap64 x = x := by unfold wrap64; omega
theorem wsucc {i : Nat} {n : Nat} (h : i < n) (hn : n ≤ 9223372036854775807) : wrap64 ((i : Int) + 1) = ((i + 1 : Nat) : Int) := by rw [wr63 (by omega) (by omega)]; omega
theorem rdB (bs : List (List Int)) (i : Nat) (h : i < bs.length) : rd_L1 bs (i : Int) = bs[i] := by
  unfold rd_L1
  rw [Int.toNat_natCast, List.getD_eq_getElem?_getD, List.getElem?_eq_getElem h]
  rfl
theorem rdW (ws : List Wt) (i : Nat) (h : i < ws.length) : rd_T57 ws (i : Int) = ws[i] := by
  unfold rd_T57
  rw [Int.toNat_natCast, List.getD_eq_getElem?_getD, List.getElem?_eq_getElem h]
  rfl
theorem rdR (ws : List Wr) (i : Nat) (h : i < ws.length) : rd_T59 ws (i : Int) = ws[i] := by
  unfold rd_T59
  rw [Int.toNat_natCast, List.getD_eq_getElem?_getD, List.getElem?_eq_getElem h]
  rfl
/-! ### Right -/
def okW (n : Nat) (x : Wt) : Prop := 0 ≤ x.f0 ∧ x.f0 < (n : Int) ∧ x.f1.length = 64
instance (n : Nat) (x : Wt) : Decidable (okW n x) := by unfold okW; exact inferInstance
theorem right_l1 (bs : List (List Int)) (ws : List Wt) (hw : ws.length ≤ 9223372036854775807) (d : Nat) : ∀ (i k : Nat), ws.length - i ≤ d → i ≤ ws.length → d + 1 ≤ k →
    ∃ b, block_Right.l1 k ws (ws.length : Int) (i : Int) bs ws = some b ∧ (b = true ↔ ∀ x ∈ ws.drop i, okW bs.length x) := by
  induction d with
  | zero =>
    intro i k hd hi hk
    obtain ⟨k, rfl⟩ : ∃ m, k = m + 1 := ⟨k - 1, by omega⟩
    exact ⟨true, by rw [block_Right.l1, if_neg (by omega)], by rw [List.drop_eq_nil_of_le (by omega)]; simp⟩
  | succ d ih =>
    intro i k hd hi hk
    obtain ⟨k, rfl⟩ : ∃ m, k = m + 1 := ⟨k - 1, by omega⟩
    by_cases hlt : i < ws.length
    · obtain ⟨b, hb1, hb2⟩ := ih (i + 1) k (by omega) (by omega) (by omega)
      rw [block_Right.l1, if_pos (by omega), if_pos (by omega), if_pos (by omega), rdW ws i hlt, wsucc hlt hw, hb1, List.drop_eq_getElem_cons hlt]
      simp only [List.forall_mem_cons]
      by_cases h1 : ws[i].f0 < 0
      · exact ⟨false, by rw [if_pos h1], by simp only [Bool.false_eq_true, false_iff]; intro h; have := h.1.1; omega⟩
      · by_cases h2 : ws[i].f0 ≥ (bs.length : Int)
        · exact ⟨false, by rw [if_neg h1, if_pos h2], by simp only [Bool.false_eq_true, false_iff]; intro h; have := h.1.2.1; omega⟩
        · by_cases h3 : (ws[i].f1.length : Int) = 64
          · exact ⟨b, by rw [if_neg h1, if_neg h2, if_pos h3], by rw [hb2]; exact ⟨fun h => ⟨⟨by omega, by omega, by omega⟩, h⟩, fun h => h.2⟩⟩
          · exact ⟨false, by rw [if_neg h1, if_neg h2, if_neg h3], by simp only [Bool.false_eq_true, false_iff]; intro h; have := h.1.2.2; omega⟩
    · exact ⟨true, by rw [block_Right.l1, if_neg (by omega)], by rw [List.drop_eq_nil_of_le (by omega)]; simp⟩
theorem right_l0 (bs : List (List Int)) (ws : List Wt) (hb : bs.length ≤ 9223372036854775807) (hw : ws.length ≤ 9223372036854775807) (d : Nat) : ∀ (i k : Nat), bs.length - i ≤ d → i ≤ bs.length → d + ws.length + 2 ≤ k →
    ∃ b, block_Right.l0 k bs (bs.length : Int) (i : Int) bs ws = some b ∧ (b = true ↔ (∀ b ∈ bs.drop i, b.length = 64) ∧ ∀ x ∈ ws, okW bs.length x) := by
  have fin : ∀ (i k : Nat), bs.length ≤ i → ws.length + 2 ≤ k → ∃ b, block_Right.l0 k bs (bs.length : Int) (i : Int) bs ws = some b ∧ (b = true ↔ (∀ b ∈ bs.drop i, b.length = 64) ∧ ∀ x ∈ ws, okW bs.length x) := by
    intro i k hi hk
    obtain ⟨k, rfl⟩ : ∃ m, k = m + 1 := ⟨k - 1, by omega⟩
    obtain ⟨b, h1, h2⟩ := right_l1 bs ws hw ws.length 0 k (by omega) (by omega) (by omega)
    exact ⟨b, by rw [block_Right.l0, if_neg (by omega)]; exact h1, by rw [h2, List.drop_eq_nil_of_le hi, List.drop_zero]; simp⟩
  induction d with
  | zero => intro i k hd hi hk; exact fin i k (by omega) (by omega)
  | succ d ih =>
    intro i k hd hi hk
    by_cases hlt : i < bs.length
    · obtain ⟨k, rfl⟩ : ∃ m, k = m + 1 := ⟨k - 1, by omega⟩
      obtain ⟨b, hb1, hb2⟩ := ih (i + 1) k (by omega) (by omega) (by omega)
      rw [block_Right.l0, if_pos (by omega), if_pos (by omega), if_pos (by omega), rdB bs i hlt, wsucc hlt hb, hb1, List.drop_eq_getElem_cons hlt]
      simp only [List.forall_mem_cons]
      by_cases h3 : (bs[i].length : Int) = 64
      · exact ⟨b, by rw [if_pos h3], by rw [hb2]; exact ⟨fun h => ⟨⟨by omega, h.1⟩, h.2⟩, fun h => ⟨h.1.2, h.2⟩⟩⟩
      · exact ⟨false, by rw [if_neg h3], by simp only [Bool.false_eq_true, false_iff]; intro h; have := h.1.1; omega⟩
    · exact fin i k (by omega) (by omega)
theorem okD_iff (bs : List (List Int)) (ws : List Wt) : OKD bs ws ↔ bs.length ≤ 4096 ∧ ws.length ≤ 1000 ∧ (∀ b ∈ bs, b.length = 64) ∧ ∀ x ∈ ws, okW bs.length x := Iff.rfl
theorem right_f (bs : List (List Int)) (ws : List Wt) (hb : bs.length ≤ 9223372036854775807) (hw : ws.length ≤ 9223372036854775807) (k : Nat) (hk : bs.length + ws.length + 4 ≤ k) : block_Right.f k bs ws = some (decide (OKD bs ws)) := by
  obtain ⟨k, rfl⟩ : ∃ m, k = m + 1 := ⟨k - 1, by omega⟩
  unfold block_Right.f
  by_cases h1 : (bs.length : Int) > 4096
  · rw [if_pos h1, block_Right.j0, if_pos rfl, decide_eq_false (fun h => by have := h.1; omega)]
  · rw [if_neg h1]
    by_cases h2 : (ws.length : Int) > 1000
    · rw [decide_eq_true h2, block_Right.j0, if_pos rfl, decide_eq_false (fun h => by have := h.2.1; omega)]
    · obtain ⟨b, hb1, hb2⟩ := right_l0 bs ws hb hw bs.length 0 k (by omega) (by omega) (by omega)
      rw [decide_eq_false h2, block_Right.j0, if_neg (by simp)]
      refine hb1.trans ?_
      congr 1
      rw [Bool.eq_iff_iff, hb2, List.drop_zero, decide_eq_true_iff, okD_iff]
      exact ⟨fun h => ⟨by omega, by omega, h.1, h.2⟩, fun h => h.2.2⟩
/-- A disk, or the empty one. -/
def goodD (bs : List (List Int)) (ws : List Wt) : List (List Int) × List Wt := if OKD bs ws then (bs, ws) else ([], [])
theorem okD_nil : OKD [] [] := by rw [okD_iff]; simp
theorem own_f (bs : List (List Int)) (ws : List Wt) (hb : bs.length ≤ 9223372036854775807) (hw : ws.length ≤ 9223372036854775807) : block_own.f bs ws = some (goodD bs ws) := by
  unfold block_own.f goodD
  rw [right_f bs ws hb hw _ (by omega), Option.bind_some]
  by_cases h : OKD bs ws
  · rw [decide_eq_true h, if_pos rfl, if_pos h, if_pos h]
  · rw [decide_eq_false h, if_neg (by simp), if_neg h]
theorem goodD_ok (bs : List (List Int)) (ws : List Wt) : OKD (goodD bs ws).1 (goodD bs ws).2 := by
  unfold goodD
  split
  · assumption
  · exact okD_nil
/-! ### Great -/
theorem great_l1 (bs : List (List Int)) (ws : List Wt) (hw : ws.length ≤ 9223372036854775807) (d : Nat) : ∀ (i k : Nat), ws.length - i ≤ d → i ≤ ws.length → d + 1 ≤ k →
    rubricklaw22_Great.l1 k (i : Int) bs ws = some true ∨ rubricklaw22_Great.l1 k (i : Int) bs ws = some false ∧ bs.length ≤ 200 ∧ ws.length ≤ 200 := by
  induction d with
  | zero =>
    intro i k hd hi hk
    obtain ⟨k, rfl⟩ : ∃ m, k = m + 1 := ⟨k - 1, by omega⟩
    rw [rubricklaw22_Great.l1, if_neg (by omega)]
    split
    · exact .inl rfl
    · by_cases h : (ws.length : Int) > 200
      · rw [decide_eq_true h]; exact .inl rfl
      · rw [decide_eq_false h]; exact .inr ⟨rfl, by omega, by omega⟩
  | succ d ih =>
    intro i k hd hi hk
    obtain ⟨k, rfl⟩ : ∃ m, k = m + 1 := ⟨k - 1, by omega⟩
    by_cases hlt : i < ws.length
    · rw [rubricklaw22_Great.l1, if_pos (by omega), if_pos (by omega), wsucc hlt hw]
      split
      · exact .inl rfl
      · exact ih (i + 1) k (by omega) (by omega) (by omega)
    · rw [rubricklaw22_Great.l1, if_neg (by omega)]
      split
      · exact .inl rfl
      · by_cases h : (ws.length : Int) > 200
        · rw [decide_eq_true h]; exact .inl rfl
        · rw [decide_eq_false h]; exact .inr ⟨rfl, by omega, by omega⟩
theorem great_l0 (bs : List (List Int)) (ws : List Wt) (hb : bs.length ≤ 9223372036854775807) (hw : ws.length ≤ 9223372036854775807) (d : Nat) : ∀ (i k : Nat), bs.length - i ≤ d → i ≤ bs.length → d + ws.length + 2 ≤ k →
    rubricklaw22_Great.l0 k (i : Int) bs ws = some true ∨ rubricklaw22_Great.l0 k (i : Int) bs ws = some false ∧ bs.length ≤ 200 ∧ ws.length ≤ 200 := by
  induction d with
  | zero =>
    intro i k hd hi hk
    obtain ⟨k, rfl⟩ : ∃ m, k = m + 1 := ⟨k - 1, by omega⟩
    rw [rubricklaw22_Great.l0, if_neg (by omega)]
    exact great_l1 bs ws hw ws.length 0 k (by omega) (by omega) (by omega)
  | succ d ih =>
    intro i k hd hi hk
    obtain ⟨k, rfl⟩ : ∃ m, k = m + 1 := ⟨k - 1, by omega⟩
    by_cases hlt : i < bs.length
    · rw [rubricklaw22_Great.l0, if_pos (by omega), if_pos (by omega), wsucc hlt hb]
      split
      · exact .inl rfl
      · exact ih (i + 1) k (by omega) (by omega) (by omega)
    · rw [rubricklaw22_Great.l0, if_neg (by omega)]
      exact great_l1 bs ws hw ws.length 0 k (by omega) (by omega) (by omega)
theorem great_f (bs : List (List Int)) (ws : List Wt) (hb : bs.length ≤ 9223372036854775807) (hw : ws.length ≤ 9223372036854775807) (k : Nat) (hk : bs.length + ws.length + 2 ≤ k) :
    rubricklaw22_Great.f k bs ws = some true ∨ rubricklaw22_Great.f k bs ws = some false ∧ bs.length ≤ 200 ∧ ws.length ≤ 200 :=
  great_l0 bs ws hb hw bs.length 0 k (by omega) (by omega) hk
/-! ### As, the reference's Right, Good, Read, Same -/
def asW (x : Wt) : Wr := ⟨x.f0, x.f1⟩
theorem as_l0 (bs : List (List Int)) (ws : List Wt) (hw : ws.length ≤ 1000000) (d : Nat) : ∀ (i k : Nat), ws.length - i ≤ d → i ≤ ws.length → d + 1 ≤ k →
    rubricklaw22_As.l0 k (i : Int) bs ws bs ((ws.take i).map asW) = some (bs, ws.map asW) := by
  induction d with
  | zero =>
    intro i k hd hi hk
    obtain ⟨k, rfl⟩ : ∃ m, k = m + 1 := ⟨k - 1, by omega⟩
    rw [rubricklaw22_As.l0, if_neg (by omega), List.take_of_length_le (by omega)]
  | succ d ih =>
    intro i k hd hi hk
    obtain ⟨k, rfl⟩ : ∃ m, k = m + 1 := ⟨k - 1, by omega⟩
    by_cases hlt : i < ws.length
    · rw [rubricklaw22_As.l0, if_pos (by omega), if_pos (by omega), if_pos (by rw [List.length_map, List.length_take]; omega), wsucc hlt (by omega), rdW ws i hlt]
      have e : (ws.take i).map asW ++ [(⟨ws[i].f0, ws[i].f1⟩ : Wr)] = (ws.take (i + 1)).map asW := by rw [List.take_succ_eq_append_getElem hlt, List.map_append]; rfl
      rw [e]
      exact ih (i + 1) k (by omega) (by omega) (by omega)
    · rw [rubricklaw22_As.l0, if_neg (by omega), List.take_of_length_le (by omega)]
theorem as_f (bs : List (List Int)) (ws : List Wt) (hw : ws.length ≤ 1000000) (k : Nat) (hk : ws.length + 1 ≤ k) : rubricklaw22_As.f k bs ws = some (bs, ws.map asW) := as_l0 bs ws hw ws.length 0 k (by omega) (by omega) hk
theorem rright_l1 (bs : List (List Int)) (ws : List Wt) (hb : bs.length ≤ 1000000) (hw : ws.length ≤ 1000000) (d : Nat) : ∀ (i k : Nat), ws.length - i ≤ d → i ≤ ws.length → d + 1 ≤ k →
    ∃ b, rubrickref22_Right.l1 k (i : Int) bs (ws.map asW) = some b ∧ (b = true ↔ (∀ x ∈ ws.drop i, okW bs.length x) ∧ bs.length ≤ 4096 ∧ ws.length ≤ 1000) := by
  have fin : ∀ (i k : Nat), ws.length ≤ i → 1 ≤ k → ∃ b, rubrickref22_Right.l1 k (i : Int) bs (ws.map asW) = some b ∧ (b = true ↔ (∀ x ∈ ws.drop i, okW bs.length x) ∧ bs.length ≤ 4096 ∧ ws.length ≤ 1000) := by
    intro i k hi hk
    obtain ⟨k, rfl⟩ : ∃ m, k = m + 1 := ⟨k - 1, by omega⟩
    rw [rubrickref22_Right.l1, if_neg (by rw [List.length_map]; omega), List.drop_eq_nil_of_le hi, List.length_map]
    by_cases h1 : (bs.length : Int) ≤ 4096
    · by_cases h2 : (ws.length : Int) ≤ 1000
      · exact ⟨true, by rw [if_pos h1, decide_eq_true h2], ⟨fun _ => ⟨by simp, by omega, by omega⟩, fun _ => rfl⟩⟩
      · exact ⟨false, by rw [if_pos h1, decide_eq_false h2], by simp only [Bool.false_eq_true, false_iff]; intro h; omega⟩
    · exact ⟨false, by rw [if_neg h1], by simp only [Bool.false_eq_true, false_iff]; intro h; omega⟩
  induction d with
  | zero => intro i k hd hi hk; exact fin i k (by omega) (by omega)
  | succ d ih =>
    intro i k hd hi hk
    by_cases hlt : i < ws.length
    · obtain ⟨k, rfl⟩ : ∃ m, k = m + 1 := ⟨k - 1, by omega⟩
      have hlt' : i < (ws.map asW).length := by rw [List.length_map]; exact hlt
      obtain ⟨b, hb1, hb2⟩ := ih (i + 1) k (by omega) (by omega) (by omega)
      rw [rubrickref22_Right.l1, if_pos (by omega), if_pos (by omega), rdR _ i hlt', List.getElem_map, wsucc hlt (by omega), hb1, List.drop_eq_getElem_cons hlt]
      simp only [List.forall_mem_cons]
      show ∃ c, (if ws[i].f0 < 0 then some false else if ws[i].f0 ≥ (bs.length : Int) then some false else if (ws[i].f1.length : Int) = 64 then some b else some false) = some c ∧ _
      by_cases h1 : ws[i].f0 < 0
      · exact ⟨false, by rw [if_pos h1], by simp only [Bool.false_eq_true, false_iff]; intro h; have := h.1.1.1; omega⟩
      · by_cases h2 : ws[i].f0 ≥ (bs.length : Int)
        · exact ⟨false, by rw [if_neg h1, if_pos h2], by simp only [Bool.false_eq_true, false_iff]; intro h; have := h.1.1.2.1; omega⟩
        · by_cases h3 : (ws[i].f1.length : Int) = 64
          · exact ⟨b, by rw [if_neg h1, if_neg h2, if_pos h3], by rw [hb2]; exact ⟨fun h => ⟨⟨⟨by omega, by omega, by omega⟩, h.1⟩, h.2⟩, fun h => ⟨h.1.2, h.2⟩⟩⟩
          · exact ⟨false, by rw [if_neg h1, if_neg h2, if_neg h3], by simp only [Bool.false_eq_true, false_iff]; intro h; have := h.1.1.2.2; omega⟩
    · exact fin i k (by omega) (by omega)
theorem rright_l0 (bs : List (List Int)) (ws : List Wt) (hb : bs.length ≤ 1000000) (hw : ws.length ≤ 1000000) (d : Nat) : ∀ (i k : Nat), bs.length - i ≤ d → i ≤ bs.length → d + ws.length + 2 ≤ k →
    ∃ b, rubrickref22_Right.l0 k (i : Int) bs (ws.map asW) = some b ∧ (b = true ↔ (∀ b ∈ bs.drop i, b.length = 64) ∧ (∀ x ∈ ws, okW bs.length x) ∧ bs.length ≤ 4096 ∧ ws.length ≤ 1000) := by
  have fin : ∀ (i k : Nat), bs.length ≤ i → ws.length + 2 ≤ k → ∃ b, rubrickref22_Right.l0 k (i : Int) bs (ws.map asW) = some b ∧ (b = true ↔ (∀ b ∈ bs.drop i, b.length = 64) ∧ (∀ x ∈ ws, okW bs.length x) ∧ bs.length ≤ 4096 ∧ ws.length ≤ 1000) := by
    intro i k hi hk
    obtain ⟨k, rfl⟩ : ∃ m, k = m + 1 := ⟨k - 1, by omega⟩
    obtain ⟨b, h1, h2⟩ := rright_l1 bs ws hb hw ws.length 0 k (by omega) (by omega) (by omega)
    exact ⟨b, by rw [rubrickref22_Right.l0, if_neg (by omega)]; exact h1, by rw [h2, List.drop_eq_nil_of_le hi, List.drop_zero]; simp⟩
  induction d with
  | zero => intro i k hd hi hk; exact fin i k (by omega) (by omega)
  | succ d ih =>
    intro i k hd hi hk
    by_cases hlt : i < bs.length
    · obtain ⟨k, rfl⟩ : ∃ m, k = m + 1 := ⟨k - 1, by omega⟩
      obtain ⟨b, hb1, hb2⟩ := ih (i + 1) k (by omega) (by omega) (by omega)
      rw [rubrickref22_Right.l0, if_pos (by omega), if_pos (by omega), rdB bs i hlt, wsucc hlt (by omega), hb1, List.drop_eq_getElem_cons hlt]
      simp only [List.forall_mem_cons]
      by_cases h3 : (bs[i].length : Int) = 64
      · exact ⟨b, by rw [if_pos h3], by rw [hb2]; exact ⟨fun h => ⟨⟨by omega, h.1⟩, h.2⟩, fun h => ⟨h.1.2, h.2⟩⟩⟩
      · exact ⟨false, by rw [if_neg h3], by simp only [Bool.false_eq_true, false_iff]; intro h; have := h.1.1; omega⟩
    · exact fin i k (by omega) (by omega)
theorem rright_f (bs : List (List Int)) (ws : List Wt) (hb : bs.length ≤ 1000000) (hw : ws.length ≤ 1000000) (k : Nat) (hk : bs.length + ws.length + 4 ≤ k) : rubrickref22_Right.f k bs (ws.map asW) = some (decide (OKD bs ws)) := by
  obtain ⟨b, h1, h2⟩ := rright_l0 bs ws hb hw bs.length 0 k (by omega) (by omega) (by omega)
  refine (show rubrickref22_Right.f k bs (ws.map asW) = some b from h1).trans ?_
  congr 1
  rw [Bool.eq_iff_iff, h2, List.drop_zero, decide_eq_true_iff, okD_iff]
  exact ⟨fun ⟨a, b, c, d⟩ => ⟨c, d, a, b⟩, fun ⟨c, d, a, b⟩ => ⟨a, b, c, d⟩⟩
theorem rgood_f (bs : List (List Int)) (ws : List Wt) (hb : bs.length ≤ 1000000) (hw : ws.length ≤ 1000000) (k : Nat) (hk : bs.length + ws.length + 4 ≤ k) : rubrickref22_Good.f k bs (ws.map asW) = some ((goodD bs ws).1, (goodD bs ws).2.map asW) := by
  unfold rubrickref22_Good.f goodD
  rw [rright_f bs ws hb hw k hk, Option.bind_some]
  by_cases h : OKD bs ws
  · rw [decide_eq_true h, if_pos rfl, if_pos h]
  · rw [decide_eq_false h, if_neg (by simp), if_neg h]; rfl
theorem same_l1 (bs : List (List Int)) (ws : List Wr) (hw : ws.length ≤ 1000000) (d : Nat) : ∀ (i k : Nat), ws.length - i ≤ d → i ≤ ws.length → d + 1 ≤ k → rubrickref22_Same.l1 k (i : Int) bs ws bs ws = some true := by
  induction d with
  | zero =>
    intro i k hd hi hk
    obtain ⟨k, rfl⟩ : ∃ m, k = m + 1 := ⟨k - 1, by omega⟩
    rw [rubrickref22_Same.l1, if_neg (by omega)]
  | succ d ih =>
    intro i k hd hi hk
    obtain ⟨k, rfl⟩ : ∃ m, k = m + 1 := ⟨k - 1, by omega⟩
    by_cases hlt : i < ws.length
    · rw [rubrickref22_Same.l1, if_pos (by omega), if_pos (by omega), if_pos (by omega), if_pos rfl, if_pos rfl, wsucc hlt (by omega)]
      exact ih (i + 1) k (by omega) (by omega) (by omega)
    · rw [rubrickref22_Same.l1, if_neg (by omega)]
theorem same_l0 (bs : List (List Int)) (ws : List Wr) (hb : bs.length ≤ 1000000) (hw : ws.length ≤ 1000000) (d : Nat) : ∀ (i k : Nat), bs.length - i ≤ d → i ≤ bs.length → d + ws.length + 2 ≤ k → rubrickref22_Same.l0 k (i : Int) bs ws bs ws = some true := by
  induction d with
  | zero =>
    intro i k hd hi hk
    obtain ⟨k, rfl⟩ : ∃ m, k = m + 1 := ⟨k - 1, by omega⟩
    rw [rubrickref22_Same.l0, if_neg (by omega)]
    exact same_l1 bs ws hw ws.length 0 k (by omega) (by omega) (by omega)
  | succ d ih =>
    intro i k hd hi hk
    obtain ⟨k, rfl⟩ : ∃ m, k = m + 1 := ⟨k - 1, by omega⟩
    by_cases hlt : i < bs.length
    · rw [rubrickref22_Same.l0, if_pos (by omega), if_pos (by omega), if_pos (by omega), if_pos rfl, wsucc hlt (by omega)]
      exact ih (i + 1) k (by omega) (by omega) (by omega)
    · rw [rubrickref22_Same.l0, if_neg (by omega)]
      exact same_l1 bs ws hw ws.length 0 k (by omega) (by omega) (by omega)
theorem same_f (bs : List (List Int)) (ws : List Wr) (hb : bs.length ≤ 1000000) (hw : ws.length ≤ 1000000) (k : Nat) (hk : bs.length + ws.length + 4 ≤ k) : rubrickref22_Same.f k bs ws bs ws = some true := by
  obtain ⟨k, rfl⟩ : ∃ m, k = m + 1 := ⟨k - 1, by omega⟩
  unfold rubrickref22_Same.f
  rw [if_pos rfl, bne_self_eq_false, rubrickref22_Same.j0, if_neg (by simp)]
  exact same_l0 bs ws hb hw bs.length 0 k (by omega) (by omega) (by omega)
/-! ### what a block reads -/
def stepR (i : Int) (b : List Int) (x : Wt) : List Int := if x.f0 = i then x.f1 else b
def readS (bs : List (List Int)) (ws : List Wt) (i : Nat) : List Int := ws.foldl (stepR i) (bs.getD i [])
theorem read_l0 (bs : List (List Int)) (ws : List Wt) (hok : OKD bs ws) (j : Nat) (hj : j < bs.length) : ∀ (n k : Nat), n ≤ ws.length → n + 1 ≤ k →
    block_Read.l0 k (j : Int) ((n : Int) - 1) bs ws = some ((ws.take n).foldl (stepR j) (bs.getD j []), 0) := by
  have hw := hok.2.1
  have hb64 : ∀ b ∈ bs, b.length = 64 := hok.2.2.1
  have hw64 := hok.2.2.2
  intro n
  induction n with
  | zero =>
    intro k hn hk
    obtain ⟨k, rfl⟩ : ∃ m, k = m + 1 := ⟨k - 1, by omega⟩
    have hl := hb64 bs[j] (List.getElem_mem hj)
    rw [block_Read.l0, if_neg (by omega), Option.bind_some, if_pos (by omega), if_pos (by omega), rdB bs j hj, if_pos (by rw [hl]; decide), List.nil_append, List.take_zero, List.foldl_nil, List.getD_eq_getElem?_getD, List.getElem?_eq_getElem hj]
    rfl
  | succ n ih =>
    intro k hn hk
    obtain ⟨k, rfl⟩ : ∃ m, k = m + 1 := ⟨k - 1, by omega⟩
    have e : ((n + 1 : Nat) : Int) - 1 = (n : Int) := by omega
    have hl := (hw64 ws[n] (List.getElem_mem hn)).2.2
    rw [e, block_Read.l0, if_pos (by omega), if_pos (by omega), if_pos (by omega), rdW ws n hn, Option.bind_some, List.take_succ_eq_append_getElem hn, List.foldl_append, List.foldl_cons, List.foldl_nil]
    by_cases h : ws[n].f0 = (j : Int)
    · rw [if_pos h, if_pos (by rw [hl]; decide), List.nil_append]
      unfold stepR
      rw [if_pos h]
    · rw [if_neg h, wr63 (by omega) (by omega), ih k (by omega) (by omega)]
      unfold stepR
      rw [if_neg h]
/-- What Read answers. -/
def readF (bs : List (List Int)) (ws : List Wt) (i : Int) : List Int × Int := if OKD bs ws ∧ 0 ≤ i ∧ i < (bs.length : Int) then (readS bs ws i.toNat, 0) else ([], 1)
theorem read_f (bs : List (List Int)) (ws : List Wt) (hb : bs.length ≤ 9223372036854775807) (hw : ws.length ≤ 9223372036854775807) (i : Int) (k : Nat) (hk : bs.length + ws.length + 5 ≤ k) : block_Read.f k bs ws i = some (readF bs ws i) := by
  obtain ⟨k, rfl⟩ : ∃ m, k = m + 1 := ⟨k - 1, by omega⟩
  unfold block_Read.f readF
  rw [right_f bs ws hb hw _ (by omega), Option.bind_some]
  by_cases h : OKD bs ws
  · rw [decide_eq_true h, if_pos rfl]
    by_cases h1 : i < 0
    · rw [if_pos h1, block_Read.j0, if_pos rfl, if_neg (by omega)]
    · rw [if_neg h1]
      by_cases h2 : i ≥ (bs.length : Int)
      · rw [decide_eq_true h2, block_Read.j0, if_pos rfl, if_neg (by omega)]
      · obtain ⟨j, rfl⟩ := Int.eq_ofNat_of_zero_le (show 0 ≤ i by omega)
        have hw1 := h.2.1
        rw [decide_eq_false h2, block_Read.j0, if_neg (by simp), wr63 (by omega) (by omega), read_l0 bs ws h j (by omega) ws.length k (by omega) (by omega), if_pos ⟨h, by omega, by omega⟩, List.take_length, Int.toNat_natCast]
        rfl
  · rw [decide_eq_false h, if_neg (by simp), block_Read.j0, if_pos rfl, if_neg (fun h' => h h'.1)]
theorem rread_l0 (bs : List (List Int)) (ws : List Wt) (hw : ws.length ≤ 1000000) (j : Nat) (d : Nat) : ∀ (i k : Nat) (b : List Int), ws.length - i ≤ d → i ≤ ws.length → d + 1 ≤ k →
    rubrickref22_Read.l0 k (j : Int) b (i : Int) bs (ws.map asW) = some ((ws.drop i).foldl (stepR j) b) := by
  induction d with
  | zero =>
    intro i k b hd hi hk
    obtain ⟨k, rfl⟩ : ∃ m, k = m + 1 := ⟨k - 1, by omega⟩
    rw [rubrickref22_Read.l0, if_neg (by rw [List.length_map]; omega), List.drop_eq_nil_of_le (by omega)]
    rfl
  | succ d ih =>
    intro i k b hd hi hk
    obtain ⟨k, rfl⟩ : ∃ m, k = m + 1 := ⟨k - 1, by omega⟩
    by_cases hlt : i < ws.length
    · have hlt' : i < (ws.map asW).length := by rw [List.length_map]; exact hlt
      rw [rubrickref22_Read.l0, if_pos (by omega), if_pos (by omega), rdR _ i hlt', List.getElem_map, wsucc hlt (by omega), ih (i + 1) k _ (by omega) (by omega) (by omega), ih (i + 1) k _ (by omega) (by omega) (by omega), List.drop_eq_getElem_cons hlt, List.foldl_cons]
      show (if ws[i].f0 = (j : Int) then some (List.foldl _ ws[i].f1 _) else _) = _
      unfold stepR
      split <;> rfl
    · rw [rubrickref22_Read.l0, if_neg (by rw [List.length_map]; omega), List.drop_eq_nil_of_le (by omega)]
      rfl
theorem rread_f (bs : List (List Int)) (ws : List Wt) (hw : ws.length ≤ 1000000) (j : Nat) (hj : j < bs.length) (k : Nat) (hk : ws.length + 1 ≤ k) : rubrickref22_Read.f k bs (ws.map asW) (j : Int) = some (readS bs ws j) := by
  unfold rubrickref22_Read.f
  rw [if_pos (by omega), if_pos (by omega), rdB bs j hj]
  have h := rread_l0 bs ws hw j ws.length 0 k bs[j] (by omega) (by omega) hk
  refine h.trans ?_
  unfold readS
  rw [List.drop_zero, List.getD_eq_getElem?_getD, List.getElem?_eq_getElem hj]
  rfl
end Go.Proofs.Ytiplneodkcjkmaa.P
