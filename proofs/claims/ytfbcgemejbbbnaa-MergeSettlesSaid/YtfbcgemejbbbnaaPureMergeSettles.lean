/- The statement MergeSettles without its conditions: of lengths whatever, what is told to be settled is, begins and ends as it did, stays in a row, and has at most eleven spans. No condition but that the slice reads as a list of 16-bit numbers. -/
import Derived.Test.YtfbcgemejbbbnaaPxRubricklaw13MergeSettles
set_option linter.unusedVariables false
set_option linter.unusedSimpArgs false
namespace Go.Proofs.Ytfbcgemejbbbnaa.Pure
open Go.RowKit Go.Proofs.Ytfbcgemejbbbnaa.P Go.Proofs.YtfbcgemejbbbnaaW.PrintWords Go.Proofs.YtfbcgemejbbbnaaW.PrintLast
abbrev Sp := S31
theorem wr {x : Int} (h0 : -9000000000000000000 ≤ x) (h1 : x ≤ 9000000000000000000) : wrap64 x = x := by unfold wrap64; omega
theorem le_up {α : Type} {g : Nat → Option α} (hm : ∀ k, LeO (g k) (g (k + 1))) {k : Nat} {r : α} (h : g k = some r) : ∀ j, g (k + j) = some r
  | 0 => h
  | j + 1 => hm (k + j) r (le_up hm h j)
theorem le_ge {α : Type} {g : Nat → Option α} (hm : ∀ k, LeO (g k) (g (k + 1))) {k j : Nat} {r : α} (h : g k = some r) (hj : k ≤ j) : g j = some r := by
  have := le_up hm h (j - k)
  rwa [show k + (j - k) = j by omega] at this
theorem tier_l0 (d : Nat) : ∀ (n t : Int) (k : Nat), 1 ≤ n → n < 2 ^ (d + 1) → d + 1 ≤ k → 0 ≤ t → t + d ≤ 100000 → ∃ r, merge_Tier.l0 k t n = some r ∧ t ≤ r ∧ r ≤ t + d := by
  induction d with
  | zero =>
    intro n t k h1 h2 hk h3 h4
    obtain ⟨k, rfl⟩ : ∃ m, k = m + 1 := ⟨k - 1, by omega⟩
    have h2 : n < 2 := h2
    have : n = 1 := by omega
    subst this
    exact ⟨t, by rw [merge_Tier.l0, if_neg (by omega)], by omega, by omega⟩
  | succ d ih =>
    intro n t k h1 h2 hk h3 h4
    obtain ⟨k, rfl⟩ : ∃ m, k = m + 1 := ⟨k - 1, by omega⟩
    rw [Int.pow_succ] at h2
    generalize (2 : Int) ^ (d + 1) = P2 at h2 ih
    by_cases hn : n > 1
    · obtain ⟨r, hr, h5, h6⟩ := ih (n / 2) (t + 1) k (by omega) (by omega) (by omega) (by omega) (by omega)
      exact ⟨r, by rw [merge_Tier.l0, if_pos hn, wr (by omega) (by omega)]; exact hr, by omega, by omega⟩
    · exact ⟨t, by rw [merge_Tier.l0, if_neg hn], by omega, by omega⟩
/-- A span's tier. -/
def T (s : Sp) : Int := (merge_Tier.f 20 s.f0 s.f1).getD 0
theorem tier_f (s : Sp) (h0 : 0 ≤ s.f0) (h1 : s.f0 < s.f1) (h2 : s.f1 ≤ 1000) : 0 ≤ T s ∧ T s ≤ 9 ∧ ∀ k, 20 ≤ k → merge_Tier.f k s.f0 s.f1 = some (T s) := by
  obtain ⟨r, hr, h3, h4⟩ := tier_l0 9 (s.f1 - s.f0) 0 19 (by omega) (by show s.f1 - s.f0 < 1024; omega) (by omega) (by omega) (by omega)
  have h5 : merge_Tier.f 20 s.f0 s.f1 = some r := by
    unfold merge_Tier.f
    rw [if_neg (by omega), merge_Tier.j0, if_neg (by simp; omega), wr (by omega) (by omega)]
    exact hr
  have h6 : T s = r := by unfold T; rw [h5]; rfl
  rw [h6]
  exact ⟨by omega, by omega, fun k hk => le_ge (g := fun k => merge_Tier.f k s.f0 s.f1) (fun k => merge_Tier.mono s.f0 s.f1 k) h5 hk⟩
/-- Spans in a row. -/
def chain : Int → List Sp → Int → Prop
  | a, [], b => a = b
  | a, s :: l, b => s.f0 = a ∧ a < s.f1 ∧ chain s.f1 l b
theorem chain_le : ∀ (l : List Sp) (a b : Int), chain a l b → a + l.length ≤ b
  | [], a, b, h => by have : a = b := h; simp [this]
  | s :: l, a, b, h => by
    have := chain_le l _ _ h.2.2
    have := h.2.1
    rw [List.length_cons]; omega
abbrev gt (l : List Sp) (i : Nat) : Sp := l.getD i z31
theorem chain_get : ∀ (l : List Sp) (a b : Int) (i : Nat), chain a l b → i < l.length → a ≤ (gt l i).f0 ∧ (gt l i).f0 < (gt l i).f1 ∧ (gt l i).f1 ≤ b
  | [], a, b, i, h, hi => by simp at hi
  | s :: l, a, b, 0, h, hi => by
    have := chain_le l _ _ h.2.2
    show a ≤ s.f0 ∧ s.f0 < s.f1 ∧ s.f1 ≤ b
    have := h.1; have := h.2.1
    omega
  | s :: l, a, b, i + 1, h, hi => by
    have h1 := chain_get l _ _ i h.2.2 (by simpa using hi)
    have h2 := h.2.1
    show a ≤ (gt l i).f0 ∧ (gt l i).f0 < (gt l i).f1 ∧ (gt l i).f1 ≤ b
    omega
theorem chain_at : ∀ (l : List Sp) (a b : Int) (i : Nat), chain a l b → i < l.length → (gt l i).f1 = if i + 1 < l.length then (gt l (i + 1)).f0 else b
  | [], a, b, i, h, hi => by simp at hi
  | [s], a, b, 0, h, hi => by
    rw [if_neg (by simp)]
    exact h.2.2
  | s :: t :: l, a, b, 0, h, hi => by
    rw [if_pos (by simp)]
    exact h.2.2.1.symm
  | s :: l, a, b, i + 1, h, hi => by
    have h1 := chain_at l _ _ i h.2.2 (by simpa using hi)
    show (gt l i).f1 = if i + 1 + 1 < l.length + 1 then (gt l (i + 1)).f0 else b
    rw [h1]
    by_cases hc : i + 1 < l.length
    · rw [if_pos hc, if_pos (by omega)]
    · rw [if_neg hc, if_neg (by omega)]
theorem chain_join : ∀ (l : List Sp) (a b : Int) (i : Nat), chain a l b → i + 1 < l.length → chain a (join2 l i) b
  | [], a, b, i, h, hi => by simp at hi
  | [s], a, b, i, h, hi => by simp at hi
  | s :: t :: l, a, b, 0, h, hi => by
    show s.f0 = a ∧ a < t.f1 ∧ chain t.f1 l b
    have h1 := h.2.1; have h2 := h.2.2.2.1
    exact ⟨h.1, by omega, h.2.2.2.2⟩
  | s :: l, a, b, i + 1, h, hi => by
    have h1 := chain_join l _ _ i h.2.2 (by simpa using hi)
    exact ⟨h.1, h.2.1, h1⟩
theorem chain_snoc : ∀ (l : List Sp) (a b c : Int), chain a l b → b < c → chain a (l ++ [⟨b, c⟩]) c
  | [], a, b, c, h, hc => by have h : a = b := h; exact ⟨h.symm, by show a < c; omega, rfl⟩
  | s :: l, a, b, c, h, hc => ⟨h.1, h.2.1, chain_snoc l _ _ _ h.2.2 hc⟩
theorem rd_gt (l : List Sp) (i : Nat) : rd_T31 l (i : Int) = gt l i := by unfold rd_T31; rw [Int.toNat_natCast]
theorem next_l0 (l : List Sp) (b : Int) (hc : chain 0 l b) (hb : b ≤ 1000) : ∀ (d k : Nat), d + 1 ≤ l.length ∨ d = 0 → d + 25 ≤ k →
    (∃ j, j < d ∧ merge_Next.l0 k l ((d : Int) - 1) = some ((j : Int), true)) ∨ merge_Next.l0 k l ((d : Int) - 1) = some (0, false) ∧ ∀ j, j < d → T (gt l (j + 1)) < T (gt l j)
  | d, 0, _, hk => by omega
  | 0, k + 1, _, hk => .inr ⟨by rw [merge_Next.l0, if_neg (by omega)], fun j hj => by omega⟩
  | d + 1, k + 1, hd, hk => by
    have hll := chain_le l _ _ hc
    have hd : d + 1 < l.length := by omega
    have g1 := chain_get l _ _ d hc (by omega)
    have g2 := chain_get l _ _ (d + 1) hc hd
    have t1 := tier_f (gt l d) (by omega) g1.2.1 (by omega)
    have t2 := tier_f (gt l (d + 1)) (by omega) g2.2.1 (by omega)
    have e0 : ((d + 1 : Nat) : Int) - 1 = (d : Int) := by omega
    have e1 : (d : Int) + 1 = ((d + 1 : Nat) : Int) := by omega
    rw [e0, merge_Next.l0, if_pos (by omega), if_pos (by omega), if_pos (by omega), rd_gt, t1.2.2 k (by omega), Option.bind_some, wr (x := (d : Int) + 1) (by omega) (by omega), if_pos (by omega), if_pos (by omega), e1, rd_gt, t2.2.2 k (by omega), Option.bind_some]
    by_cases ht : T (gt l d) ≤ T (gt l (d + 1))
    · rw [if_pos ht]
      exact .inl ⟨d, by omega, rfl⟩
    · rw [if_neg ht, wr (by omega) (by omega)]
      rcases next_l0 l b hc hb d k (by omega) (by omega) with ⟨j, hj, h⟩ | ⟨h, h'⟩
      · exact .inl ⟨j, by omega, h⟩
      · refine .inr ⟨h, fun j hj => ?_⟩
        by_cases e : j = d
        · subst e; omega
        · exact h' j (by omega)
theorem next_f (l : List Sp) (b : Int) (hc : chain 0 l b) (hb : b ≤ 1000) (k : Nat) (hk : l.length + 30 ≤ k) :
    (∃ j, j + 1 < l.length ∧ merge_Next.f k l = some ((j : Int), true)) ∨ merge_Next.f k l = some (0, false) ∧ ∀ j, j + 1 < l.length → T (gt l (j + 1)) < T (gt l j) := by
  have hll := chain_le l _ _ hc
  unfold merge_Next.f
  rw [wr (by omega) (by omega)]
  by_cases h0 : l.length = 0
  · rw [h0]
    obtain ⟨k, rfl⟩ : ∃ m, k = m + 1 := ⟨k - 1, by omega⟩
    exact .inr ⟨by rw [merge_Next.l0, if_neg (by simp)], fun j hj => by omega⟩
  · rw [show (l.length : Int) - 2 = ((l.length - 1 : Nat) : Int) - 1 by omega]
    rcases next_l0 l b hc hb (l.length - 1) k (by omega) (by omega) with ⟨j, hj, h⟩ | ⟨h, h'⟩
    · exact .inl ⟨j, by omega, h⟩
    · exact .inr ⟨h, fun j hj => h' j (by omega)⟩
theorem stl_spec (b : Int) (hb : b ≤ 1000) : ∀ (n : Nat) (l : List Sp) (k : Nat), l.length ≤ n → chain 0 l b → n + 1 ≤ k → ∃ s, stl k l = some s ∧ chain 0 s b ∧ merge_Next.f 5000 s = some (0, false) ∧ ∀ j, j + 1 < s.length → T (gt s (j + 1)) < T (gt s j)
  | n, l, 0, hl, hc, hk => by omega
  | 0, l, k + 1, hl, hc, hk => by
    rcases next_f l b hc hb 5000 (by omega) with ⟨j, hj, h⟩ | ⟨h, h'⟩
    · omega
    · exact ⟨l, by rw [stl, h, Option.bind_some, if_neg (by simp)], hc, h, h'⟩
  | n + 1, l, k + 1, hl, hc, hk => by
    have hll := chain_le l _ _ hc
    rcases next_f l b hc hb 5000 (by omega) with ⟨j, hj, h⟩ | ⟨h, h'⟩
    · obtain ⟨s, hs, h2⟩ := stl_spec b hb n (join2 l j) k (by rw [join2_len l j hj]; omega) (chain_join l _ _ j hc hj) (by omega)
      refine ⟨s, ?_, h2⟩
      rw [stl, h, Option.bind_some, if_pos rfl, if_pos ⟨by show (0 : Int) ≤ (j : Int); omega, by show (j : Int) + 1 < _; omega⟩]
      exact hs
    · exact ⟨l, by rw [stl, h, Option.bind_some, if_neg (by simp)], hc, h, h'⟩
theorem settled_len (s : List Sp) (b : Int) (hc : chain 0 s b) (hb : b ≤ 1000) (ht : ∀ j, j + 1 < s.length → T (gt s (j + 1)) < T (gt s j)) : s.length ≤ 10 := by
  have key : ∀ j, j < s.length → T (gt s j) ≤ 9 - j := by
    intro j
    induction j with
    | zero =>
      intro hj
      have g := chain_get s _ _ 0 hc hj
      have := (tier_f (gt s 0) (by omega) g.2.1 (by omega)).2.1
      omega
    | succ j ih =>
      intro hj
      have := ih (by omega)
      have := ht j hj
      omega
  by_cases h : s.length ≤ 10
  · exact h
  · have h1 := key 10 (by omega)
    have g := chain_get s _ _ 10 hc (by omega)
    have := (tier_f (gt s 10) (by omega) g.2.1 (by omega)).1
    omega
theorem knows13 : rubricklaw13_knows.f 60 = some true := by kernel_rfl
theorem knows13_ge (k : Nat) (hk : 60 ≤ k) : rubricklaw13_knows.f k = some true := le_ge (g := fun k => rubricklaw13_knows.f k) (fun k => rubricklaw13_knows.mono k) knows13 hk
theorem last_l1 (s : List Sp) (b : Int) (hc : chain 0 s b) (hb : b ≤ 1000) (ht : ∀ j, j + 1 < s.length → T (gt s (j + 1)) < T (gt s j)) (d : Nat) : ∀ (i k : Nat) (p : Int), s.length - i ≤ d → i ≤ s.length → d + 100 ≤ k → (i < s.length → p = (gt s i).f0) → (i = s.length → p = b) → rubricklaw13_MergeSettles.l1 k b s p (i : Int) = some true := by
  induction d with
  | zero =>
    intro i k p hd hi hk hp hq
    obtain ⟨k, rfl⟩ : ∃ m, k = m + 1 := ⟨k - 1, by omega⟩
    rw [rubricklaw13_MergeSettles.l1, if_neg (by omega), if_pos (hq (by omega)), knows13_ge k (by omega), Option.bind_some]
  | succ d ih =>
    intro i k p hd hi hk hp hq
    obtain ⟨k, rfl⟩ : ∃ m, k = m + 1 := ⟨k - 1, by omega⟩
    have hll := chain_le s _ _ hc
    by_cases hlt : i < s.length
    · have g1 := chain_get s _ _ i hc hlt
      have a1 := chain_at s _ _ i hc hlt
      have t1 := tier_f (gt s i) (by omega) g1.2.1 (by omega)
      obtain rfl := hp hlt
      have ih := ih (i + 1) k (gt s i).f1 (by omega) (by omega) (by omega) (fun h => by rw [a1, if_pos h]) (fun h => by rw [a1, if_neg (by omega)])
      have e1 : wrap64 ((i : Int) + 1) = ((i + 1 : Nat) : Int) := by rw [wr (by omega) (by omega)]; omega
      clear a1
      rw [rubricklaw13_MergeSettles.l1, if_pos (by omega), if_pos (by omega), rd_gt, if_pos rfl, if_neg (by omega)]
      by_cases h0 : (i : Int) > 0
      · rw [if_pos h0, wr (x := (i : Int) - 1) (by omega) (by omega), if_pos (by omega), if_pos (by omega), show (i : Int) - 1 = ((i - 1 : Nat) : Int) by omega, rd_gt]
        have g0 := chain_get s _ _ (i - 1) hc (by omega)
        have t0 := tier_f (gt s (i - 1)) (by omega) g0.2.1 (by omega)
        have h3 := ht (i - 1) (by omega)
        rw [show i - 1 + 1 = i by omega] at h3
        rw [t0.2.2 k (by omega), Option.bind_some, t1.2.2 k (by omega), Option.bind_some, if_neg (by omega), e1]
        exact ih
      · rw [if_neg h0, e1]
        exact ih
    · rw [rubricklaw13_MergeSettles.l1, if_neg (by omega), if_pos (hq (by omega)), knows13_ge k (by omega), Option.bind_some]
/-- Their sum. -/
def sum : List Int → Int
  | [] => 0
  | x :: l => x + sum l
theorem sum_snoc : ∀ (l : List Int) (x : Int), sum (l ++ [x]) = sum l + x
  | [], x => by simp [sum]
  | y :: l, x => by simp only [List.cons_append, sum, sum_snoc l x]; omega
theorem sum_take (l : List Int) (hp : ∀ x ∈ l, 0 < x) : ∀ i, i ≤ l.length → sum (l.take i) ≤ sum l ∧ 0 ≤ sum (l.take i) := by
  induction l with
  | nil => intro i _; simp [sum]
  | cons y l ih =>
    intro i hi
    cases i with
    | zero =>
      have := (ih (fun x hx => hp x (List.mem_cons_of_mem _ hx)) 0 (Nat.zero_le _)).1
      simp [sum] at this ⊢
      have := hp y (List.mem_cons_self ..)
      omega
    | succ i =>
      have := ih (fun x hx => hp x (List.mem_cons_of_mem _ hx)) i (by simpa using hi)
      have := hp y (List.mem_cons_self ..)
      simp only [List.take_succ_cons, sum]
      omega
theorem row_l0 (l : List Int) (hp : ∀ x ∈ l, 0 < x) (hs : sum l ≤ 1000) (hl : l.length ≤ 1000) : ∀ (d i k : Nat) (acc : List Sp), l.length - i ≤ d → i ≤ l.length → d + 2 ≤ k → acc.length = i → chain 0 acc (sum (l.take i)) →
    ∃ s, rubricklaw13_row.l0 k l acc (sum (l.take i)) (i : Int) = some s ∧ s.length = l.length ∧ chain 0 s (sum l)
  | d, i, 0, _, _, _, hk, _, _ => by omega
  | d, i, k + 1, acc, hd, hi, hk, ha, hc => by
    by_cases hlt : i < l.length
    · obtain ⟨d, rfl⟩ : ∃ m, d = m + 1 := ⟨d - 1, by omega⟩
      have hx := hp l[i] (List.getElem_mem hlt)
      have ht : sum (l.take (i + 1)) = sum (l.take i) + l[i] := by rw [List.take_succ_eq_append_getElem hlt, sum_snoc]
      have h1 := sum_take l hp (i + 1) (by omega)
      have h2 := sum_take l hp i (by omega)
      have hr : rd l (i : Int) = l[i] := by
        unfold rd
        rw [Int.toNat_natCast, List.getD_eq_getElem?_getD, List.getElem?_eq_getElem hlt]
        rfl
      obtain ⟨s, h3, h4⟩ := row_l0 l hp hs hl d (i + 1) k (acc ++ [⟨sum (l.take i), sum (l.take (i + 1))⟩]) (by omega) (by omega) (by omega) (by simp [ha]) (chain_snoc _ _ _ _ hc (by omega))
      refine ⟨s, ?_, h4⟩
      rw [rubricklaw13_row.l0, if_pos (by omega), if_pos (by omega), if_pos (by omega), hr, wr (x := sum (l.take i) + l[i]) (by omega) (by omega), ← ht, wr (x := (i : Int) + 1) (by omega) (by omega)]
      exact h3
    · obtain rfl : i = l.length := by omega
      rw [List.take_length] at hc ⊢
      exact ⟨acc, by rw [rubricklaw13_row.l0, if_neg (by omega)], ha, hc⟩
theorem end_j1 (x0 : List Int) (x5 : Int) (l : List Int) (hp : ∀ x ∈ l, 0 < x) (hs : sum l ≤ 1000) (hl : l.length ≤ 1000) (k : Nat) (hk : 6000 ≤ k) : rubricklaw13_MergeSettles.j1 (k + 1) x0 l (sum l) x5 false = some true := by
  obtain ⟨t, h1, h2, h3⟩ := row_l0 l hp hs hl l.length 0 k [] (by omega) (by omega) (by omega) rfl rfl
  obtain ⟨s, h4, h5, h6, h7⟩ := stl_spec (sum l) hs t.length t (t.length + 2) (Nat.le_refl _) h3 (by omega)
  have hll := chain_le t _ _ h3
  have hsl := settled_len s _ h5 hs h7
  have h8 : merge_Settle.f t = some s := by unfold merge_Settle.f; rw [if_pos (by omega)]; exact h4
  have h9 : merge_Next.f k s = some (0, false) := le_ge (g := fun k => merge_Next.f k s) (fun k => merge_Next.mono s k) h6 (by omega)
  rw [rubricklaw13_MergeSettles.j1, if_neg (by simp), show rubricklaw13_row.f k l = some t from h1, Option.bind_some, h8, Option.bind_some, h9, Option.bind_some, if_neg (by simp), if_neg (by omega)]
  obtain ⟨k, rfl⟩ : ∃ m, k = m + 1 := ⟨k - 1, by omega⟩
  have h10 := last_l1 s (sum l) h5 hs h7 s.length 0 k 0 (by omega) (by omega) (by omega)
    (fun h => by cases s with
      | nil => simp at h
      | cons y s => exact h5.1.symm) (fun h => by cases s with
      | nil => exact h5
      | cons y s => simp at h)
  have h11 : (((s.length : Int) == 0) != (sum l == 0)) = false := by
    have h12 := chain_le s _ _ h5
    cases s with
    | nil => have : (0 : Int) = sum l := h5; simp [← this]
    | cons y s =>
      rw [List.length_cons] at h12 ⊢
      have e1 : (((s.length + 1 : Nat) : Int) == 0) = false := by simp; omega
      have e2 : (sum l == 0) = false := by simp; omega
      rw [e1, e2]; rfl
  rw [h11, rubricklaw13_MergeSettles.j2, if_neg (by simp)]
  exact h10
theorem main_l0 (x0 : List Int) (hw : ∀ x ∈ x0, 0 ≤ x ∧ x ≤ 65535) : ∀ (d i k : Nat) (l : List Int), 100 - i ≤ d → 2 * d + 7000 ≤ k → i ≤ 100 → l.length ≤ i → (∀ x ∈ l, 0 < x) → sum l ≤ 1000 → rubricklaw13_MergeSettles.l0 k x0 l (sum l) (i : Int) = some true
  | d, i, 0, _, _, hk, _, _, _, _ => by omega
  | d, i, 1, _, _, hk, _, _, _, _ => by omega
  | d, i, k + 2, l, hd, hk, hi, hl, hp, hs => by
    rw [rubricklaw13_MergeSettles.l0]
    by_cases hlt : i < x0.length
    · rw [if_pos (by omega)]
      by_cases h100 : i < 100
      · obtain ⟨d, rfl⟩ : ∃ m, d = m + 1 := ⟨d - 1, by omega⟩
        rw [show decide ((i : Int) < 100) = true by simp; omega]
        have hr : rd x0 (i : Int) = x0[i] := by
          unfold rd
          rw [Int.toNat_natCast, List.getD_eq_getElem?_getD, List.getElem?_eq_getElem hlt]
          rfl
        have hx := hw x0[i] (List.getElem_mem hlt)
        have hm : Int.tmod x0[i] 200 = x0[i] % 200 := Int.tmod_eq_emod_of_nonneg hx.1
        have hsum := (sum_take l hp 0 (Nat.zero_le _)).1
        simp [sum] at hsum
        rw [rubricklaw13_MergeSettles.j1, if_pos rfl, if_pos (by omega), if_pos (by omega), hr, hm, wr (x := x0[i] % 200) (by omega) (by omega), wr (x := (i : Int) + 1) (by omega) (by omega), wr (x := sum l + x0[i] % 200) (by omega) (by omega)]
        by_cases h1 : x0[i] % 200 > 0
        · rw [if_pos h1]
          by_cases h2 : sum l + x0[i] % 200 ≤ 1000
          · rw [if_pos h2, if_pos (by omega), ← sum_snoc]
            exact main_l0 x0 hw d (i + 1) k _ (by omega) (by omega) (by omega) (by simp; omega) (fun x hx' => by
              rcases List.mem_append.1 hx' with h | h
              · exact hp x h
              · rw [List.mem_singleton.1 h]; exact h1) (by rw [sum_snoc]; exact h2)
          · rw [if_neg h2]
            exact main_l0 x0 hw d (i + 1) k l (by omega) (by omega) (by omega) (by omega) hp hs
        · rw [if_neg h1]
          exact main_l0 x0 hw d (i + 1) k l (by omega) (by omega) (by omega) (by omega) hp hs
      · rw [show decide ((i : Int) < 100) = false by simp; omega]
        exact end_j1 x0 _ l hp hs (by omega) k (by omega)
    · rw [if_neg (by omega)]
      exact end_j1 x0 _ l hp hs (by omega) k (by omega)
theorem MergeSettles : rubricklaw13_MergeSettles.Pure := by
  intro l0 hl0 hl1 hw
  refine ⟨8000, ?_⟩
  unfold rubricklaw13_MergeSettles.f
  refine main_l0 l0 (fun x hx => ?_) 100 0 8000 [] (by omega) (by omega) (by omega) (by simp) (by simp) (by simp [sum])
  have := hw x hx
  simp [Lit.wf, IntKind.min, IntKind.max, IntKind.signed, IntKind.bits] at this
  omega
end Go.Proofs.Ytfbcgemejbbbnaa.Pure
