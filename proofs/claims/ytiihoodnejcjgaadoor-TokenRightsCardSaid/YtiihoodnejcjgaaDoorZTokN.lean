/- The plain law TokenRights. -/
import Derived.Test.YtiihoodnejcjgaaDoorZTokM
import Derived.Test.YtiihoodnejcjgaaDoorPxRubricklaw05TokenRights
namespace Go.Proofs.YtiihoodnejcjgaaDoor.P
open Go.RowKit Go.Proofs.YtiihoodnejcjgaaDoorW.PrintWords Go.Proofs.YtiihoodnejcjgaaDoorW.PrintLast Go.Proofs.YtiihoodnejcjgaaDoorW.PrintMore
set_option linter.unusedVariables false
set_option linter.unusedSimpArgs false
theorem bytes_all (s : ByteArray) : AllB (bytesOf s) := fun x hx => by
  unfold bytesOf at hx
  obtain ⟨b, _, rfl⟩ := List.mem_map.1 hx
  have := UInt8.toNat_lt b
  omega
theorem str_bytes (s : ByteArray) : strOfNums (bytesOf s) = s := by
  apply bytes_ext
  rw [Lib.toList_data, Lib.toList_data]
  unfold strOfNums bytesOf
  simp only [List.map_map]
  conv => rhs; rw [← List.map_id s.data.toList]
  refine List.map_congr_left (fun x hx => ?_)
  simp
theorem bytes_str (u : List Int) (hu : AllB u) : bytesOf (strOfNums u) = u := by
  unfold strOfNums bytesOf
  simp only [List.map_map]
  conv => rhs; rw [← List.map_id u]
  refine List.map_congr_left (fun x hx => ?_)
  have := hu x hx
  simp
  omega
theorem bytesO_f (s : ByteArray) (h : s.size ≤ 1000) : bytesO s = some (bytesOf s) := by
  unfold bytesO
  rw [if_pos (by omega)]
open Classical in
theorem right_tok (l : List Int) (hb : AllB l) (hl : l.length ≤ 1000) : token_Right.f (strOfNums l) = some (decide (OkT l)) := by
  unfold token_Right.f
  rw [bytesO_f _ (by rw [strOfNums_size]; exact hl), bytes_str l hb, Option.bind_some, terms_f l hb (by omega), Option.bind_some]
  by_cases ho : OkT l
  · rw [ok_terms l hb ho, if_pos (by simp), if_pos (by simp), decide_eq_true ho]
    congr 1
    show ((strOfNums l).toList == (strOfNums l).toList) = true
    exact beq_self_eq_true _
  · rw [decide_eq_false ho]
    by_cases h1 : ((termsS (decS l)).length : Int) = 1
    · rw [if_pos h1, if_pos (by omega)]
      congr 1
      match hq : termsS (decS l), h1 with
      | [t], _ =>
        show (t.toList == (strOfNums l).toList) = false
        rw [beq_eq_false_iff_ne]
        intro he
        exact ho (terms_ok l hb (by rw [hq, bytes_ext he]))
    · rw [if_neg h1]
theorem rr_l0 (s : ByteArray) (l : List Int) (hl : l.length ≤ 100000) (hlb : ∀ c ∈ l, -1 ≤ c ∧ c ≤ 2000000) (d : Nat) : ∀ (i k : Nat), l.length - i ≤ d → i ≤ l.length → d + 2 ≤ k →
    rubrickref05_Right.l0 k s l (i : Int) = some (decide ((∀ c ∈ l.drop i, wordB c = true ∧ smallS c = c) ∧ 0 < l.length ∧ s.size ≤ 64)) := by
  have hend : ∀ (i : Nat), l.length ≤ i → (if (l.length : Int) > 0 then (some (decide ((s.size : Int) ≤ 64))) else (some false)) = some (decide ((∀ c ∈ l.drop i, wordB c = true ∧ smallS c = c) ∧ 0 < l.length ∧ s.size ≤ 64)) := by
    intro i hi
    rw [List.drop_of_length_le hi]
    by_cases h0 : 0 < l.length
    · rw [if_pos (by omega)]
      congr 1
      rw [Bool.eq_iff_iff, decide_eq_true_iff, decide_eq_true_iff]
      exact ⟨fun h => ⟨fun c hc => (by cases hc), h0, by omega⟩, fun h => by have := h.2.2; omega⟩
    · rw [if_neg (by omega), decide_eq_false (fun h => h0 h.2.1)]
  induction d with
  | zero =>
    intro i k hi hi2 hk
    obtain ⟨k, rfl⟩ : ∃ k', k = k' + 1 := ⟨k - 1, by omega⟩
    rw [rubrickref05_Right.l0, if_neg (by omega)]
    exact hend i (by omega)
  | succ d ih =>
    intro i k hi hi2 hk
    obtain ⟨k, rfl⟩ : ∃ k', k = k' + 1 := ⟨k - 1, by omega⟩
    rw [rubrickref05_Right.l0]
    by_cases h : i < l.length
    · have hc := hlb l[i] (List.getElem_mem h)
      rw [if_pos (by omega), if_pos (by omega), rd_at l i h, in_word, Option.bind_some]
      have hd := List.drop_eq_getElem_cons h
      by_cases hw : wordB l[i] = true
      · rw [if_pos hw, rsmall_f _ (by omega) (by omega), Option.bind_some]
        by_cases hs : smallS l[i] = l[i]
        · rw [if_pos hs, succ_wrap i l.length h (by omega), ih (i + 1) k (by omega) (by omega) (by omega)]
          congr 1
          rw [Bool.eq_iff_iff, decide_eq_true_iff, decide_eq_true_iff, hd]
          constructor
          · rintro ⟨h1, h2⟩
            refine ⟨fun c hc => ?_, h2⟩
            rcases List.mem_cons.1 hc with rfl | hc
            · exact ⟨hw, hs⟩
            · exact h1 c hc
          · rintro ⟨h1, h2⟩
            exact ⟨fun c hc => h1 c (List.mem_cons_of_mem _ hc), h2⟩
        · rw [if_neg hs, decide_eq_false]
          rintro ⟨h1, _⟩
          exact hs (h1 _ (by rw [hd]; exact List.mem_cons_self ..)).2
      · rw [if_neg hw, decide_eq_false]
        rintro ⟨h1, _⟩
        exact hw (h1 _ (by rw [hd]; exact List.mem_cons_self ..)).1
    · rw [if_neg (by omega)]
      exact hend i (by omega)
theorem dec_bound (d : Nat) : ∀ l : List Int, AllB l → l.length ≤ d → ∀ c ∈ decS l, -1 ≤ c ∧ c ≤ 2000000 := by
  induction d with
  | zero =>
    intro l hb hl c hc
    obtain rfl : l = [] := List.eq_nil_of_length_eq_zero (by omega)
    cases hc
  | succ d ih =>
    intro l hb hl c hc
    by_cases hp : 0 < l.length
    · have hn := firstS_n l hp hb
      rw [decS_cons l hp hb] at hc
      rcases List.mem_cons.1 hc with rfl | hc
      · rcases firstS_inv l hp hb with h | ⟨c, hr, h, _⟩
        · rw [h]; decide
        · rw [h]
          have := (isR_iff c).1 hr
          dsimp only
          omega
      · exact ih _ (hb.drop _) (by rw [List.length_drop]; omega) c hc
    · obtain rfl : l = [] := List.eq_nil_of_length_eq_zero (by omega)
      cases hc
open Classical in
theorem right_ref (l : List Int) (hb : AllB l) (hl : l.length ≤ 1000) (k : Nat) (hk : 2000 ≤ k) : rubrickref05_Right.f k (strOfNums l) = some (decide (OkT l)) := by
  have hn := decS_length l.length l hb (Nat.le_refl _)
  unfold rubrickref05_Right.f
  rw [bytesO_f _ (by rw [strOfNums_size]; exact hl), bytes_str l hb, Option.bind_some, rdecode_f l hb (by omega), Option.bind_some]
  have h := rr_l0 (strOfNums l) (decS l) (by omega) (dec_bound l.length l hb (Nat.le_refl _)) (decS l).length 0 k (by omega) (by omega) (by omega)
  rw [List.drop_zero] at h
  rw [show ((0 : Int)) = ((0 : Nat) : Int) from rfl, h]
  congr 1
  rw [Bool.eq_iff_iff, decide_eq_true_iff, decide_eq_true_iff, strOfNums_size]
  rfl
open Classical in
theorem rights_l0 (ts : List ByteArray) (hts : ts.length ≤ 100000) (hok : ∀ t ∈ ts, ∃ u, AllB u ∧ OkT u ∧ t = strOfNums u ∧ 0 < u.length) (d : Nat) : ∀ (i k : Nat), ts.length - i ≤ d → i ≤ ts.length → 100 + d ≤ k → rubricklaw05_TokenRights.l0 k ts (i : Int) = some true := by
  induction d with
  | zero =>
    intro i k hi hi2 hk
    obtain ⟨k, rfl⟩ : ∃ k', k = k' + 1 := ⟨k - 1, by omega⟩
    rw [rubricklaw05_TokenRights.l0, if_neg (by omega), knows05_ge k (by omega)]
    rfl
  | succ d ih =>
    intro i k hi hi2 hk
    obtain ⟨k, rfl⟩ : ∃ k', k = k' + 1 := ⟨k - 1, by omega⟩
    rw [rubricklaw05_TokenRights.l0]
    by_cases h : i < ts.length
    · obtain ⟨u, hu, ho, he, hp⟩ := hok ts[i] (List.getElem_mem h)
      have h64 := ho.2.2
      rw [if_pos (by omega), if_pos (by omega), rdS_at ts i h, he, right_tok u hu (by omega), Option.bind_some, decide_eq_true ho, if_pos rfl, strOfNums_size, if_neg (by omega), if_neg (by omega), succ_wrap i ts.length h (by omega)]
      exact ih (i + 1) k (by omega) (by omega) (by omega)
    · rw [if_neg (by omega), knows05_ge k (by omega)]
      rfl
open Classical in
theorem TokenRights_pure (s : ByteArray) (b : List Int) (hw : ∀ x ∈ b, (Lit.int .u8 x).wf = true) : ∃ k, rubricklaw05_TokenRights.f k s b = some true := by
  refine ⟨10000 + 1, ?_⟩
  have hb := u8_bytes hw
  unfold rubricklaw05_TokenRights.f
  rw [great05, Option.bind_some]
  by_cases h : (b.length : Int) > 2000
  · rw [if_pos (decide_eq_true h), rubricklaw05_TokenRights.j0, if_pos rfl, great05, Option.bind_some, if_pos (decide_eq_true h), knows05_ge _ (by omega)]
    rfl
  rw [if_neg (by simp; omega)]
  by_cases h2 : (s.size : Int) > 1000
  · rw [if_pos h2, rubricklaw05_TokenRights.j0, if_pos rfl, great05, Option.bind_some, if_neg (by simp; omega), if_pos h2, knows05_ge _ (by omega)]
    rfl
  have hsb := bytes_all s
  have hsl : (bytesOf s).length ≤ 1000 := by rw [bytesOf_length]; omega
  have e1 := right_tok _ hsb hsl
  have e2 := right_ref _ hsb hsl (10000 + 1) (by omega)
  rw [str_bytes] at e1 e2
  rw [if_neg h2, e1, Option.bind_some, e2, Option.bind_some, bne_self_eq_false, rubricklaw05_TokenRights.j0, if_neg (by decide)]
  have hn := decS_length b.length b hb (Nat.le_refl _)
  have hl := terms_len (decS b)
  rw [terms_f b hb (by omega), Option.bind_some]
  exact rights_l0 _ (by omega) (terms_each _ (decS b) (Nat.le_refl _)) (termsS (decS b)).length 0 _ (by omega) (by omega) (by omega)
end Go.Proofs.YtiihoodnejcjgaaDoor.P
