/- The plain laws UtfBack, UtfOnly and UtfRows. -/
import Derived.Test.YtiihoodnejcjgaaDoorZUtfF
import Derived.Test.YtiihoodnejcjgaaDoorZUtfB
import Derived.Test.YtiihoodnejcjgaaDoorPxRubricklaw04UtfBack
import Derived.Test.YtiihoodnejcjgaaDoorPxRubricklaw04UtfOnly
import Derived.Test.YtiihoodnejcjgaaDoorPxRubricklaw04UtfRows
namespace Go.Proofs.YtiihoodnejcjgaaDoor.P
open Go.RowKit Go.Proofs.YtiihoodnejcjgaaDoorW.PrintWords Go.Proofs.YtiihoodnejcjgaaDoorW.PrintLast Go.Proofs.YtiihoodnejcjgaaDoorW.PrintMore
set_option linter.unusedVariables false
set_option linter.unusedSimpArgs false

theorem le_mono {α : Type} {g : Nat → Option α} (hm : ∀ k, LeO (g k) (g (k + 1))) {k : Nat} {r : α} (h : g k = some r) : ∀ j, g (k + j) = some r
  | 0 => h
  | j + 1 => hm (k + j) r (le_mono hm h j)
theorem knows04_ge (k : Nat) (hk : 40 ≤ k) : rubricklaw04_knows.f k = some true := by
  have := le_mono (fun k => rubricklaw04_knows.mono k) knows04 (k - 40)
  rwa [show 40 + (k - 40) = k by omega] at this
theorem rd_at (l : List Int) (i : Nat) (h : i < l.length) : rd l (i : Int) = l[i] := by
  unfold rd
  rw [Int.toNat_natCast, List.getD_eq_getElem?_getD, List.getElem?_eq_getElem h]
  rfl
theorem succ_wrap (i n : Nat) (h : i < n) (hn : n ≤ 1000000000000) : wrap64 ((i : Int) + 1) = ((i + 1 : Nat) : Int) := by
  rw [wrap_in (by omega) (by omega)]
  omega
theorem u8_bytes {l : List Int} (h : ∀ x ∈ l, (Lit.int .u8 x).wf = true) : AllB l := fun x hx => by
  have := h x hx
  simp [Lit.wf, IntKind.min, IntKind.max, IntKind.signed, IntKind.bits] at this
  omega
theorem AllB.append {a b : List Int} (ha : AllB a) (hb : AllB b) : AllB (a ++ b) := fun x hx => by
  rcases List.mem_append.1 hx with hx | hx
  · exact ha x hx
  · exact hb x hx

/-! ### UtfRows -/
theorem rows_l0 (l : List Int) (hl : l.length ≤ 1000000) (d : Nat) : ∀ (i k : Nat), l.length - i ≤ d → d + 50 ≤ k → rubricklaw04_UtfRows.l0 k l l (i : Int) = some true := by
  induction d with
  | zero =>
    intro i k hd hk
    obtain ⟨m, rfl⟩ : ∃ m, k = m + 1 := ⟨k - 1, by omega⟩
    simp only [rubricklaw04_UtfRows.l0]
    rw [if_neg (by omega), knows04_ge m (by omega)]
    rfl
  | succ d ih =>
    intro i k hd hk
    obtain ⟨m, rfl⟩ : ∃ m, k = m + 1 := ⟨k - 1, by omega⟩
    simp only [rubricklaw04_UtfRows.l0]
    by_cases h : i < l.length
    · rw [if_pos (by omega), if_pos (by omega), if_pos (by omega), if_true, succ_wrap i l.length h (by omega)]
      exact ih (i + 1) m (by omega) (by omega)
    · rw [if_neg (by omega), knows04_ge m (by omega)]
      rfl
theorem UtfRows_pure (a : List Int) (m : Int) (b : List Int) (ha : ∀ x ∈ a, (Lit.int .u8 x).wf = true) (hm : (Lit.int .u8 m).wf = true) (hb : ∀ x ∈ b, (Lit.int .u8 x).wf = true) : ∃ k, rubricklaw04_UtfRows.f k a m b = some true := by
  refine ⟨10000, ?_⟩
  have ha' := u8_bytes ha
  have hb' := u8_bytes hb
  have hm' : 0 ≤ m ∧ m ≤ 255 := by
    simp [Lit.wf, IntKind.min, IntKind.max, IntKind.signed, IntKind.bits] at hm
    omega
  have yes : ∀ k, 50 ≤ k → rubricklaw04_UtfRows.j0 k a m b true = some true := by
    intro k hk
    obtain ⟨q, rfl⟩ : ∃ q, k = q + 1 := ⟨k - 1, by omega⟩
    simp only [rubricklaw04_UtfRows.j0, if_true]
    rw [knows04_ge q (by omega)]
    rfl
  unfold rubricklaw04_UtfRows.f
  by_cases h1 : (a.length : Int) > 1000
  · rw [if_pos h1, yes _ (by decide)]
  rw [if_neg h1]
  by_cases h2 : (b.length : Int) > 1000
  · rw [if_pos h2, yes _ (by decide)]
  rw [if_neg h2]
  by_cases h3 : m ≥ 128
  · rw [decide_eq_true h3, yes _ (by decide)]
  rw [decide_eq_false h3]
  have hmb : AllB [m] := fun x hx => by
    obtain rfl := List.mem_singleton.1 hx
    exact hm'
  have e1 : utf_Decode.f 9999 (a ++ [m] ++ b) = some (decS (a ++ [m] ++ b)) := decode_f _ _ ((ha'.append hmb).append hb') (by simp only [List.length_append, List.length_singleton]; omega) (by simp only [List.length_append, List.length_singleton]; omega)
  have e2 : utf_Decode.f 9999 a = some (decS a) := decode_f _ _ ha' (by omega) (by omega)
  have e3 : utf_Decode.f 9999 b = some (decS b) := decode_f _ _ hb' (by omega) (by omega)
  have n1 := decS_length a.length a ha' (Nat.le_refl _)
  have n2 := decS_length b.length b hb' (Nat.le_refl _)
  have em : decS (a ++ [m] ++ b) = decS a ++ [wrap64 m] ++ decS b := by
    rw [List.append_assoc, List.singleton_append, decS_mark m b hm'.1 (by omega) hb' a.length a ha' (Nat.le_refl _), wrap_in (by omega) (by omega)]
    simp
  show rubricklaw04_UtfRows.j0 (9999 + 1) a m b false = some true
  simp only [rubricklaw04_UtfRows.j0, Bool.false_eq_true, if_false, Option.bind_some, List.nil_append, List.length_nil, Nat.zero_add, List.length_append, List.length_singleton]
  rw [if_pos (by omega), if_pos (by omega), if_pos (by omega), e1, Option.bind_some, e2, Option.bind_some, if_pos (by omega), if_pos (by omega), e3, Option.bind_some, if_pos (by omega), em]
  rw [if_pos (by simp only [List.length_append, List.length_singleton])]
  exact rows_l0 _ (by simp only [List.length_append, List.length_singleton]; omega) 2010 0 9999 (by simp only [List.length_append, List.length_singleton]; omega) (by decide)

/-! ### UtfBack -/
theorem back_l1 (l : List Int) (hl : l.length ≤ 1000000) (d : Nat) : ∀ (i k : Nat), l.length - i ≤ d → d + 50 ≤ k → rubricklaw04_UtfBack.l1 k l l (i : Int) = some true := by
  induction d with
  | zero =>
    intro i k hd hk
    obtain ⟨m, rfl⟩ : ∃ m, k = m + 1 := ⟨k - 1, by omega⟩
    simp only [rubricklaw04_UtfBack.l1]
    rw [if_neg (by omega), knows04_ge m (by omega)]
    rfl
  | succ d ih =>
    intro i k hd hk
    obtain ⟨m, rfl⟩ : ∃ m, k = m + 1 := ⟨k - 1, by omega⟩
    simp only [rubricklaw04_UtfBack.l1]
    by_cases h : i < l.length
    · rw [if_pos (by omega), if_pos (by omega), if_pos (by omega), if_true, succ_wrap i l.length h (by omega)]
      exact ih (i + 1) m (by omega) (by omega)
    · rw [if_neg (by omega), knows04_ge m (by omega)]
      rfl
theorem flat_len (l : List Int) : (l.flatMap encS).length ≤ 4 * l.length := by
  induction l with
  | nil => exact Nat.le_refl _
  | cons c l ih =>
    rw [List.flatMap_cons, List.length_append, List.length_cons]
    have := many_len c
    have := many_pos c
    omega
theorem flat_bytes (l : List Int) (h : ∀ c ∈ l, isR c = true) : AllB (l.flatMap encS) := fun x hx => by
  obtain ⟨c, hc, hx⟩ := List.mem_flatMap.1 hx
  exact encS_bytes c (h c hc) x hx
theorem decS_flat (l : List Int) (h : ∀ c ∈ l, isR c = true) : decS (l.flatMap encS) = l := by
  induction l with
  | nil => rfl
  | cons c l ih =>
    rw [List.flatMap_cons, decS_enc c _ (h c (List.mem_cons_self ..)), ih (fun x hx => h x (List.mem_cons_of_mem _ hx))]
    exact (encS_bytes c (h c (List.mem_cons_self ..))).append (flat_bytes l (fun x hx => h x (List.mem_cons_of_mem _ hx)))
theorem back_l0 (l : List Int) (hl : l.length ≤ 200) (d : Nat) : ∀ (i k : Nat) (acc : List Int), l.length - i ≤ d → d + 3000 ≤ k → acc.length ≤ i → i ≤ l.length → (∀ c ∈ acc, isR c = true) → rubricklaw04_UtfBack.l0 k l (acc.flatMap encS) acc (i : Int) = some true := by
  have fin : ∀ (k : Nat) (acc : List Int), 2000 ≤ k → acc.length ≤ 200 → (∀ c ∈ acc, isR c = true) → ((utf_Decode.f k (acc.flatMap encS)).bind fun t283 => (if (t283.length : Int) = (acc.length : Int) then (rubricklaw04_UtfBack.l1 k acc t283 0) else (some false))) = some true := by
    intro k acc hk ha hr
    have hf := flat_len acc
    rw [decode_f _ _ (flat_bytes acc hr) (by omega) (by omega), Option.bind_some, decS_flat acc hr, if_pos rfl]
    exact back_l1 acc (by omega) 200 0 k (by omega) (by omega)
  induction d with
  | zero =>
    intro i k acc hd hk ha hi hr
    obtain ⟨m, rfl⟩ : ∃ m, k = m + 1 := ⟨k - 1, by omega⟩
    simp only [rubricklaw04_UtfBack.l0]
    rw [if_neg (by omega)]
    exact fin m acc (by omega) (by omega) hr
  | succ d ih =>
    intro i k acc hd hk ha hi hr
    obtain ⟨m, rfl⟩ : ∃ m, k = m + 1 := ⟨k - 1, by omega⟩
    simp only [rubricklaw04_UtfBack.l0]
    by_cases h : i < l.length
    · have hf := flat_len acc
      rw [if_pos (by omega), if_pos (by omega), enc_f _ m (by omega), Option.bind_some, succ_wrap i l.length h (by omega)]
      by_cases hc : isR (rd l (i : Int)) = true
      · rw [if_pos hc]
        have := many_len (rd l (i : Int))
        have := many_pos (rd l (i : Int))
        rw [if_pos rfl, if_pos (by dsimp only; omega), if_pos (by omega)]
        have e : acc.flatMap encS ++ encS (rd l (i : Int)) = (acc ++ [rd l (i : Int)]).flatMap encS := by simp
        rw [e]
        refine ih (i + 1) m _ (by omega) (by omega) (by rw [List.length_append, List.length_singleton]; omega) (by omega) (fun c hx => ?_)
        rcases List.mem_append.1 hx with hx | hx
        · exact hr c hx
        · obtain rfl := List.mem_singleton.1 hx
          exact hc
      · rw [if_neg hc]
        rw [if_neg (by decide), rright_f, Option.bind_some, if_neg hc]
        exact ih (i + 1) m acc (by omega) (by omega) (by omega) (by omega) hr
    · rw [if_neg (by omega)]
      exact fin m acc (by omega) (by omega) hr
theorem UtfBack_pure (l : List Int) (_h : ∀ x ∈ l, (Lit.int .i64 x).wf = true) : ∃ k, rubricklaw04_UtfBack.f k l = some true := by
  refine ⟨5000, ?_⟩
  unfold rubricklaw04_UtfBack.f
  by_cases h : (l.length : Int) > 200
  · rw [if_pos h, knows04_ge _ (by decide)]; rfl
  · rw [if_neg h]
    exact back_l0 l (by omega) 200 0 5000 [] (by omega) (by decide) (by simp) (by omega) (fun c hc => by cases hc)

/-! ### UtfOnly -/
theorem only_l0 (b l : List Int) (hb : AllB b) (hl : l = decS b) (hbl : b.length ≤ 2000) (d : Nat) : ∀ (i k : Nat), l.length - i ≤ d → d + 60 ≤ k → i ≤ l.length → (∀ c ∈ l.take i, c ≠ 65533) → rubricklaw04_UtfOnly.l0 k b l ((l.take i).flatMap encS) (i : Int) = some true := by
  have hn : l.length ≤ b.length := by rw [hl]; exact decS_length b.length b hb (Nat.le_refl _)
  have fin : ∀ m, 40 ≤ m → (∀ c ∈ l, c ≠ 65533) → (if (strOfNums (l.flatMap encS)).toList = (strOfNums b).toList then (if (l.length : Int) ≤ (b.length : Int) then ((rubricklaw04_knows.f m).bind fun t299 => (some t299)) else (some false)) else (some false)) = some true := by
    intro m hm hc
    subst hl
    rw [(decS_only b.length b hb (Nat.le_refl _) hc).1, if_pos rfl, if_pos (by omega), knows04_ge m hm]
    rfl
  induction d with
  | zero =>
    intro i k hd hk hi hc
    obtain ⟨m, rfl⟩ : ∃ m, k = m + 1 := ⟨k - 1, by omega⟩
    simp only [rubricklaw04_UtfOnly.l0]
    rw [List.take_of_length_le (by omega)] at hc ⊢
    rw [if_neg (by omega)]
    exact fin m (by omega) hc
  | succ d ih =>
    intro i k hd hk hi hc
    obtain ⟨m, rfl⟩ : ∃ m, k = m + 1 := ⟨k - 1, by omega⟩
    simp only [rubricklaw04_UtfOnly.l0]
    by_cases h : i < l.length
    · rw [if_pos (by omega), if_pos (by omega), rd_at l i h]
      by_cases hx : l[i] = 65533
      · rw [if_pos hx, if_pos (by omega), knows04_ge m (by omega)]
        rfl
      · rw [if_neg hx, enc_f _ m (by omega), Option.bind_some]
        have hr : isR l[i] = true := by
          have key : ∀ (d : Nat) (b : List Int), AllB b → b.length ≤ d → ∀ c ∈ decS b, c ≠ 65533 → isR c = true := by
            intro d
            induction d with
            | zero => intro b hb hd c hc; obtain rfl : b = [] := List.eq_nil_of_length_eq_zero (by omega); cases hc
            | succ d ih =>
              intro b hb hd c hc hne
              by_cases hp : 0 < b.length
              · have hn := firstS_n b hp hb
                rw [decS_cons b hp hb] at hc
                rcases List.mem_cons.1 hc with rfl | hc
                · rcases firstS_inv b hp hb with h | ⟨c, hr, h, _⟩
                  · exact absurd (by rw [h]) hne
                  · rw [h]; exact hr
                · exact ih _ (hb.drop _) (by rw [List.length_drop]; omega) c hc hne
              · obtain rfl : b = [] := List.eq_nil_of_length_eq_zero (by omega); cases hc
          exact key b.length b hb (Nat.le_refl _) _ (hl ▸ List.getElem_mem h) hx
        have hf := flat_len (l.take i)
        rw [List.length_take] at hf
        have := many_len l[i]
        have := many_pos l[i]
        rw [if_pos hr, if_pos rfl, if_pos (by dsimp only; omega), succ_wrap i l.length h (by omega)]
        have e : (l.take i).flatMap encS ++ encS l[i] = (l.take (i + 1)).flatMap encS := by
          rw [List.take_succ_eq_append_getElem h, List.flatMap_append, List.flatMap_singleton]
        dsimp only
        rw [e]
        refine ih (i + 1) m (by omega) (by omega) (by omega) (fun c hx2 => ?_)
        rw [List.take_succ_eq_append_getElem h] at hx2
        rcases List.mem_append.1 hx2 with hx2 | hx2
        · exact hc c hx2
        · obtain rfl := List.mem_singleton.1 hx2
          exact hx
    · rw [List.take_of_length_le (by omega)] at hc ⊢
      rw [if_neg (by omega)]
      exact fin m (by omega) hc
theorem UtfOnly_pure (b : List Int) (hw : ∀ x ∈ b, (Lit.int .u8 x).wf = true) : ∃ k, rubricklaw04_UtfOnly.f k b = some true := by
  refine ⟨5000, ?_⟩
  have hb := u8_bytes hw
  unfold rubricklaw04_UtfOnly.f
  by_cases h : (b.length : Int) > 2000
  · rw [if_pos h, knows04_ge _ (by decide)]; rfl
  · rw [if_neg h, Option.bind_some, List.nil_append, List.length_nil, if_pos (by omega), decode_f b _ hb (by omega) (by omega), Option.bind_some]
    have hn := decS_length b.length b hb (Nat.le_refl _)
    have := only_l0 b (decS b) hb rfl (by omega) 2000 0 5000 (by omega) (by decide) (by omega) (fun c hc => by cases hc)
    simpa using this
end Go.Proofs.YtiihoodnejcjgaaDoor.P
