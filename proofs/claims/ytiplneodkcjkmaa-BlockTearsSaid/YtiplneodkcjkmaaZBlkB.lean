/- Plain laws of disks: New, Write, Sync, Crash. -/
import Derived.Test.YtiplneodkcjkmaaZBlkA
set_option linter.unusedVariables false
set_option linter.unusedSimpArgs false
namespace Go.Proofs.Ytiplneodkcjkmaa.P
open Go.RowKit Go.Proofs.YtiplneodkcjkmaaW.PrintWords Go.Proofs.YtiplneodkcjkmaaW.PrintLast Go.Proofs.YtiplneodkcjkmaaW.PrintMore
abbrev Mx : Nat := 9223372036854775807
theorem len_f (bs : List (List Int)) (ws : List Wt) (hb : bs.length ≤ 9223372036854775807) (hw : ws.length ≤ 9223372036854775807) : block_Len.f bs ws = some ((goodD bs ws).1.length : Int) := by
  unfold block_Len.f
  rw [own_f bs ws hb hw, Option.bind_some]
theorem sync_f (bs : List (List Int)) (ws : List Wt) (hb : bs.length ≤ 9223372036854775807) (hw : ws.length ≤ 9223372036854775807) : block_Sync.f bs ws = some (doneF (fun _ => 64) 0 (goodD bs ws).1 (goodD bs ws).2, []) := by
  unfold block_Sync.f
  rw [own_f bs ws hb hw]; rfl
theorem crash_f (bs : List (List Int)) (ws : List Wt) (l : List Int) (hb : bs.length ≤ 9223372036854775807) (hw : ws.length ≤ 9223372036854775807) : block_Crash.f bs ws l = some (doneF (keepF l) 0 (goodD bs ws).1 (goodD bs ws).2, []) := by
  unfold block_Crash.f
  rw [own_f bs ws hb hw]; rfl
theorem doneF_ok (m : Nat → Int) : ∀ (ws : List Wt) (q : Nat) (bs : List (List Int)), (∀ b ∈ bs, b.length = 64) → (∀ x ∈ ws, okW bs.length x) → (doneF m q bs ws).length = bs.length ∧ ∀ b ∈ doneF m q bs ws, b.length = 64
  | [], q, bs, h, _ => ⟨rfl, h⟩
  | x :: ws, q, bs, h, hw => by
    have hx := hw x (List.mem_cons_self ..)
    have h1 := putB_64 bs h x (cutN (m q)) (by have := hx.1; have := hx.2.1; omega) hx.2.2 (cutN_le _)
    have h2 := doneF_ok m ws (q + 1) (putB bs x (cutN (m q))) h1 (fun y hy => by rw [putB_len]; exact hw y (List.mem_cons_of_mem _ hy))
    rw [putB_len] at h2
    exact h2
theorem doneF_D (m : Nat → Int) (bs : List (List Int)) (ws : List Wt) (h : OKD bs ws) : OKD (doneF m 0 bs ws) [] ∧ (doneF m 0 bs ws).length = bs.length := by
  obtain ⟨h1, h2⟩ := doneF_ok m ws 0 bs h.2.2.1 h.2.2.2
  exact ⟨⟨by rw [h1]; exact h.1, by simp, h2, by simp⟩, h1⟩
theorem goodD_of {bs : List (List Int)} {ws : List Wt} (h : OKD bs ws) : goodD bs ws = (bs, ws) := by unfold goodD; rw [if_pos h]
theorem readS_nil (bs : List (List Int)) (i : Nat) : readS bs [] i = bs.getD i [] := rfl
theorem getD_set (bs : List (List Int)) (j i : Nat) (b : List Int) (hj : j < bs.length) : (bs.set j b).getD i [] = if j = i then b else bs.getD i [] := by
  rw [List.getD_eq_getElem?_getD, List.getD_eq_getElem?_getD, List.getElem?_set]
  by_cases h : j = i
  · subst h; simp [hj]
  · simp [h]
theorem cut64 : cutN 64 = 64 := by decide
/-- What is synced reads as it did. -/
theorem doneF_read : ∀ (ws : List Wt) (q : Nat) (bs : List (List Int)) (i : Nat), (∀ b ∈ bs, b.length = 64) → (∀ x ∈ ws, okW bs.length x) → (doneF (fun _ => 64) q bs ws).getD i [] = ws.foldl (stepR i) (bs.getD i [])
  | [], q, bs, i, _, _ => rfl
  | x :: ws, q, bs, i, h, hw => by
    have hx := hw x (List.mem_cons_self ..)
    have hj : x.f0.toNat < bs.length := by have := hx.1; have := hx.2.1; omega
    have h1 := putB_64 bs h x 64 hj hx.2.2 (Nat.le_refl _)
    have h2 := doneF_read ws (q + 1) (putB bs x 64) i h1 (fun y hy => by rw [putB_len]; exact hw y (List.mem_cons_of_mem _ hy))
    rw [doneF, cut64, h2, List.foldl_cons]
    congr 1
    have e2 : bs.getD x.f0.toNat [] = bs[x.f0.toNat] := by rw [List.getD_eq_getElem?_getD, List.getElem?_eq_getElem hj]; rfl
    have hb := h _ (List.getElem_mem hj)
    unfold putB stepR
    rw [getD_set _ _ _ _ hj, List.take_of_length_le (by rw [hx.2.2]; exact Nat.le_refl _), e2, List.drop_eq_nil_of_le (by omega), List.append_nil]
    have hx0 := hx.1
    by_cases e : x.f0.toNat = i
    · rw [if_pos e, if_pos (by omega)]
    · rw [if_neg e, if_neg (by omega)]
/-- What no write is of stays. -/
theorem doneF_far (m : Nat → Int) : ∀ (ws : List Wt) (q : Nat) (bs : List (List Int)) (i : Nat), (∀ x ∈ ws, okW bs.length x) → (∀ x ∈ ws, x.f0 ≠ (i : Int)) → (doneF m q bs ws).getD i [] = bs.getD i []
  | [], q, bs, i, _, _ => rfl
  | x :: ws, q, bs, i, hw, hn => by
    have hx := hw x (List.mem_cons_self ..)
    have hj : x.f0.toNat < bs.length := by have := hx.1; have := hx.2.1; omega
    have h2 := doneF_far m ws (q + 1) (putB bs x (cutN (m q))) i (fun y hy => by rw [putB_len]; exact hw y (List.mem_cons_of_mem _ hy)) (fun y hy => hn y (List.mem_cons_of_mem _ hy))
    rw [doneF, h2]
    unfold putB
    have hx0 := hx.1
    have := hn x (List.mem_cons_self ..)
    rw [getD_set _ _ _ _ hj, if_neg (by omega)]
theorem readS_far : ∀ (ws : List Wt) (b : List Int) (i : Nat), (∀ x ∈ ws, x.f0 ≠ (i : Int)) → ws.foldl (stepR i) b = b
  | [], b, i, _ => rfl
  | x :: ws, b, i, h => by
    rw [List.foldl_cons, readS_far ws _ i (fun y hy => h y (List.mem_cons_of_mem _ hy))]
    unfold stepR
    rw [if_neg (h x (List.mem_cons_self ..))]
theorem readF_nil (bs : List (List Int)) (h : OKD bs []) (i : Int) : readF bs [] i = if 0 ≤ i ∧ i < (bs.length : Int) then (bs.getD i.toNat [], 0) else ([], 1) := by
  unfold readF
  by_cases h1 : 0 ≤ i ∧ i < (bs.length : Int)
  · rw [if_pos ⟨h, h1⟩, if_pos h1, readS_nil]
  · rw [if_neg (fun h2 => h1 h2.2), if_neg h1]
/-- Write: the disk behind it. -/
theorem write_f (bs : List (List Int)) (ws : List Wt) (h : OKD bs ws) (i : Int) (b : List Int) (k : Nat) (hk : 3 ≤ k) : ∃ ws' e, block_Write.f k bs ws i b = some (bs, ws', e) ∧ OKD bs ws' ∧ ws'.length ≤ ws.length + 1 ∧ (ws' = ws ∨ ws' = ws ++ [⟨i, b⟩]) ∧ (e = 0 → ws' = ws ++ [⟨i, b⟩]) ∧ (0 ≤ i → i < (bs.length : Int) → b.length = 64 → ws.length < 1000 → e = 0) := by
  obtain ⟨k, rfl⟩ : ∃ m, k = m + 1 := ⟨k - 1, by omega⟩
  have h1 := h.1
  have h2 := h.2.1
  unfold block_Write.f
  rw [own_f bs ws (by omega) (by omega), goodD_of h, Option.bind_some]
  by_cases c1 : i < 0
  · exact ⟨ws, 1, by rw [if_pos c1, block_Write.j0, if_pos rfl], h, by omega, .inl rfl, (by intro e; cases e), (by intro c; omega)⟩
  · by_cases c2 : i ≥ (bs.length : Int)
    · exact ⟨ws, 1, by rw [if_neg c1, if_pos c2, block_Write.j0, if_pos rfl], h, by omega, .inl rfl, (by intro e; cases e), (by intro _ c; omega)⟩
    · by_cases c3 : (b.length : Int) = 64
      · have c3' : ((b.length : Int) != 64) = false := by simp; omega
        by_cases c4 : (ws.length : Int) = 1000
        · exact ⟨ws, 3, by rw [if_neg c1, if_neg c2, c3', block_Write.j0, if_neg (by simp), if_pos c4], h, by omega, .inl rfl, (by intro e; cases e), (by intro _ _ _ c; omega)⟩
        · refine ⟨ws ++ [⟨i, b⟩], 0, ?_, ⟨h1, by rw [List.length_append, List.length_singleton]; omega, h.2.2.1, ?_⟩, by rw [List.length_append, List.length_singleton]; omega, .inr rfl, fun _ => rfl, fun _ _ _ _ => rfl⟩
          · rw [if_neg c1, if_neg c2, c3', block_Write.j0, if_neg (by simp), if_neg c4, Option.bind_some, if_pos (by simp; omega), if_pos (by show ws.length < _; omega), List.nil_append]
          · intro x hx
            rcases List.mem_append.1 hx with hx | hx
            · exact h.2.2.2 x hx
            · rw [List.mem_singleton.1 hx]
              exact ⟨by show 0 ≤ i; omega, by show i < _; omega, by show b.length = 64; omega⟩
      · have c3' : ((b.length : Int) != 64) = true := by simp; omega
        exact ⟨ws, 1, by rw [if_neg c1, if_neg c2, c3', block_Write.j0, if_pos rfl], h, by omega, .inl rfl, (by intro e; cases e), (by intro _ _ c; omega)⟩
theorem new_l0 (n : Nat) (hn : n ≤ 4096) (d : Nat) : ∀ (i k : Nat), n - i ≤ d → i ≤ n → d + 1 ≤ k → block_New.l0 k (n : Int) (i : Int) (List.replicate i (List.replicate 64 0)) = some (List.replicate n (List.replicate 64 0), [], 0) := by
  induction d with
  | zero =>
    intro i k hd hi hk
    obtain ⟨k, rfl⟩ : ∃ m, k = m + 1 := ⟨k - 1, by omega⟩
    obtain rfl : i = n := by omega
    rw [block_New.l0, if_neg (by omega)]
  | succ d ih =>
    intro i k hd hi hk
    obtain ⟨k, rfl⟩ : ∃ m, k = m + 1 := ⟨k - 1, by omega⟩
    by_cases hlt : i < n
    · rw [block_New.l0, if_pos (by omega), if_pos (by decide), if_pos (by rw [List.length_replicate]; omega), wsucc hlt (by omega), ← List.replicate_succ']
      exact ih (i + 1) k (by omega) (by omega) (by omega)
    · obtain rfl : i = n := by omega
      rw [block_New.l0, if_neg (by omega)]
theorem new_f (n : Nat) (hn : n ≤ 4096) (k : Nat) (hk : n + 2 ≤ k) : block_New.f k (n : Int) = some (List.replicate n (List.replicate 64 0), [], 0) := by
  obtain ⟨k, rfl⟩ : ∃ m, k = m + 1 := ⟨k - 1, by omega⟩
  unfold block_New.f
  rw [if_neg (by omega), decide_eq_false (by omega), block_New.j0, if_neg (by simp)]
  exact new_l0 n hn n 0 k (by omega) (by omega) (by omega)
theorem rnew_l0 (n : Nat) (hn : n ≤ 4096) (d : Nat) : ∀ (i k : Nat), n - i ≤ d → i ≤ n → d + 1 ≤ k → rubrickref22_New.l0 k (n : Int) (i : Int) (List.replicate i (List.replicate 64 0)) = some (List.replicate n (List.replicate 64 0), []) := by
  induction d with
  | zero =>
    intro i k hd hi hk
    obtain ⟨k, rfl⟩ : ∃ m, k = m + 1 := ⟨k - 1, by omega⟩
    obtain rfl : i = n := by omega
    rw [rubrickref22_New.l0, if_neg (by omega)]
  | succ d ih =>
    intro i k hd hi hk
    obtain ⟨k, rfl⟩ : ∃ m, k = m + 1 := ⟨k - 1, by omega⟩
    by_cases hlt : i < n
    · rw [rubrickref22_New.l0, if_pos (by omega), if_pos (by decide), if_pos (by rw [List.length_replicate]; omega), wsucc hlt (by omega), ← List.replicate_succ']
      exact ih (i + 1) k (by omega) (by omega) (by omega)
    · obtain rfl : i = n := by omega
      rw [rubrickref22_New.l0, if_neg (by omega)]
theorem rnew_f (n : Nat) (hn : n ≤ 4096) (k : Nat) (hk : n + 1 ≤ k) : rubrickref22_New.f k (n : Int) = some (List.replicate n (List.replicate 64 0), []) := rnew_l0 n hn n 0 k (by omega) (by omega) hk
end Go.Proofs.Ytiplneodkcjkmaa.P
