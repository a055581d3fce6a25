/- The reference's terms are termsS. -/
import Derived.Test.YtiihoodnejcjgaaDoorZTokG
namespace Go.Proofs.YtiihoodnejcjgaaDoor.P
open Go.RowKit Go.Proofs.YtiihoodnejcjgaaDoorW.PrintWords Go.Proofs.YtiihoodnejcjgaaDoorW.PrintLast Go.Proofs.YtiihoodnejcjgaaDoorW.PrintMore
set_option linter.unusedVariables false
set_option linter.unusedSimpArgs false
theorem bytes_ext {a b : ByteArray} (h : a.toList = b.toList) : a = b := by
  rw [Lib.toList_data, Lib.toList_data] at h
  cases a; cases b
  congr 1
  exact Array.toList_inj.1 h
theorem str_append (a b : List Int) : strOfNums a ++ strOfNums b = strOfNums (a ++ b) := by
  apply bytes_ext
  rw [Lib.toList_data, Lib.toList_data]
  simp [strOfNums]
theorem term_l0 (w : List Int) (hw : ∀ c ∈ w, wordB c = true) (hl : w.length ≤ 1000000) (d : Nat) : ∀ (i k : Nat) (acc : List Int), w.length - i ≤ d → i ≤ w.length → d + 2 ≤ k → acc.length ≤ 64 →
    rubrickref05_Term.l0 k w (strOfNums acc) (i : Int) = some (strOfNums (wordT acc (w.drop i))) := by
  induction d with
  | zero =>
    intro i k acc hi hi2 hk ha
    obtain ⟨k, rfl⟩ : ∃ k', k = k' + 1 := ⟨k - 1, by omega⟩
    rw [rubrickref05_Term.l0, if_neg (by omega), List.drop_of_length_le (by omega), wordT]
  | succ d ih =>
    intro i k acc hi hi2 hk ha
    obtain ⟨k, rfl⟩ : ∃ k', k = k' + 1 := ⟨k - 1, by omega⟩
    rw [rubrickref05_Term.l0]
    by_cases h : i < w.length
    · have hc := hw w[i] (List.getElem_mem h)
      have hr := word_range hc
      have hs := small_right hc
      have hlen := enc_len (smallS w[i])
      rw [if_pos (by omega), if_pos (by omega), rd_at w i h, rsmall_f _ (by omega) (by omega), Option.bind_some, renc_f _ hs.1, Option.bind_some, List.drop_eq_getElem_cons h, wordT, strOfNums_size, strOfNums_size]
      rw [wrap_in (n := (acc.length : Int) + ((encS (smallS w[i])).length : Int)) (by omega) (by omega)]
      by_cases hb : 64 < acc.length + (encS (smallS w[i])).length
      · rw [if_pos (by omega), if_pos hb]
      · rw [if_neg (by omega), if_neg hb, if_pos (by omega), str_append, succ_wrap i w.length h (by omega)]
        exact ih (i + 1) k _ (by omega) (by omega) (by omega) (by rw [List.length_append]; omega)
    · rw [if_neg (by omega), List.drop_of_length_le (by omega), wordT]
theorem term_f (w : List Int) (hw : ∀ c ∈ w, wordB c = true) (hl : w.length ≤ 1000000) (k : Nat) (hk : w.length + 5 ≤ k) : rubrickref05_Term.f k w = some (strOfNums (wordT [] w)) := by
  unfold rubrickref05_Term.f
  have := term_l0 w hw hl w.length 0 k [] (by omega) (by omega) (by omega) (by simp)
  rw [List.drop_zero] at this
  exact this
theorem terms_nil : termsS [] = [] := by unfold termsS endT; simp
theorem terms_cut (l : List Int) (i j : Nat) (hij : i ≤ j) (hj : j ≤ l.length) (hw : ∀ m (h : m < l.length), i ≤ m → m < j → wordB l[m] = true) (he : ∀ h : j < l.length, wordB l[j] = false) :
    termsS (l.drop i) = (if j ≤ i then [] else [strOfNums (wordT [] ((l.take j).drop i))]) ++ termsS (l.drop (j + 1)) := by
  have hsplit : l.drop i = (l.take j).drop i ++ l.drop j := by
    have h1 : l = l.take j ++ l.drop j := (List.take_append_drop j l).symm
    conv => lhs; rw [h1]
    rw [List.drop_append_of_le_length (by rw [List.length_take]; omega)]
  have hww : ∀ c ∈ (l.take j).drop i, wordB c = true := by
    intro c hc
    obtain ⟨m, hm, rfl⟩ := List.mem_iff_getElem.1 hc
    rw [List.length_drop, List.length_take] at hm
    rw [List.getElem_drop, List.getElem_take]
    exact hw _ (by omega) (by omega) (by omega)
  have hr : ∀ c, (l.drop j).head? = some c → wordB c = false := by
    intro c hc
    by_cases h : j < l.length
    · rw [List.drop_eq_getElem_cons h, List.head?_cons] at hc
      obtain rfl := Option.some.inj hc
      exact he h
    · rw [List.drop_of_length_le (by omega)] at hc
      cases hc
  have ht := terms_word ((l.take j).drop i) (l.drop j) hww hr []
  rw [← hsplit, List.tail_drop] at ht
  unfold termsS at ht ⊢
  rw [ht]
  congr 1
  by_cases hji : j ≤ i
  · have : (l.take j).drop i = [] := List.drop_of_length_le (by rw [List.length_take]; omega)
    rw [if_pos hji, if_pos this]
  · have : (l.take j).drop i ≠ [] := fun h => by
      have := congrArg List.length h
      rw [List.length_drop, List.length_take, List.length_nil] at this
      omega
    rw [if_neg hji, if_neg this, List.nil_append]
theorem rterms_l1 (l : List Int) (hl : l.length ≤ 100000) (out : List ByteArray) (i : Nat) (hout : out.length ≤ i) (K : Nat) (hKl : l.length + 10 ≤ K)
    (ih : ∀ i' out' k, i < i' → i' ≤ l.length + 1 → out'.length ≤ i' → K ≤ k → rubrickref05_Terms.l0 k l out' (i' : Int) = some (out' ++ termsS (l.drop i'))) (e : Nat) :
    ∀ (j k : Nat), l.length - j ≤ e → i ≤ j → j ≤ l.length → (∀ m (h : m < l.length), i ≤ m → m < j → wordB l[m] = true) → K + e + 2 ≤ k → rubrickref05_Terms.l1 k l out (i : Int) (j : Int) = some (out ++ termsS (l.drop i)) := by
  have done : ∀ (j k : Nat), i ≤ j → j ≤ l.length → (∀ m (h : m < l.length), i ≤ m → m < j → wordB l[m] = true) → (∀ h : j < l.length, wordB l[j] = false) → K ≤ k →
      (if (j : Int) > (i : Int) then (if (0 : Int) ≤ (i : Int) then (if (i : Int) ≤ (j : Int) then (if (j : Int) ≤ (l.length : Int) then ((rubrickref05_Term.f k ((l.take (j : Int).toNat).drop (i : Int).toNat)).bind fun t386 => (if out.length < 8796093022208 then (rubrickref05_Terms.l0 k l (out ++ [t386]) (wrap64 ((j : Int) + 1))) else (none))) else (none)) else (none)) else (none)) else (rubrickref05_Terms.l0 k l out (wrap64 ((j : Int) + 1)))) = some (out ++ termsS (l.drop i)) := by
    intro j k hij hj hw he hk
    have hc := terms_cut l i j hij hj hw he
    have hsw : wrap64 ((j : Int) + 1) = ((j + 1 : Nat) : Int) := by rw [wrap_in (by omega) (by omega)]; omega
    rw [hsw]
    by_cases hji : j ≤ i
    · rw [if_neg (by omega), ih (j + 1) out k (by omega) (by omega) (by omega) hk, hc, if_pos hji, List.nil_append]
    · have hww : ∀ c ∈ (l.take j).drop i, wordB c = true := by
        intro c hc
        obtain ⟨m, hm, rfl⟩ := List.mem_iff_getElem.1 hc
        rw [List.length_drop, List.length_take] at hm
        rw [List.getElem_drop, List.getElem_take]
        exact hw _ (by omega) (by omega) (by omega)
      rw [if_pos (by omega), if_pos (by omega), if_pos (by omega), if_pos (by omega), Int.toNat_natCast, Int.toNat_natCast, term_f _ hww (by rw [List.length_drop, List.length_take]; omega) k (by rw [List.length_drop, List.length_take]; omega), Option.bind_some, if_pos (by omega),
        ih (j + 1) _ k (by omega) (by omega) (by rw [List.length_append, List.length_singleton]; omega) hk, hc, if_neg hji, List.append_assoc]
  induction e with
  | zero =>
    intro j k hj hij hjl hw hk
    obtain ⟨k, rfl⟩ : ∃ k', k = k' + 1 := ⟨k - 1, by omega⟩
    rw [rubrickref05_Terms.l1, if_neg (by omega)]
    exact done j k hij hjl hw (fun h => by omega) (by omega)
  | succ e ihe =>
    intro j k hj hij hjl hw hk
    obtain ⟨k, rfl⟩ : ∃ k', k = k' + 1 := ⟨k - 1, by omega⟩
    rw [rubrickref05_Terms.l1]
    by_cases h : j < l.length
    · rw [if_pos (by omega), if_pos (by omega), rd_at l j h, in_word, Option.bind_some]
      by_cases hwj : wordB l[j] = true
      · rw [if_pos hwj, succ_wrap j l.length h (by omega)]
        refine ihe (j + 1) k (by omega) (by omega) (by omega) (fun m hm h1 h2 => ?_) (by omega)
        rcases Nat.eq_or_lt_of_le (Nat.le_of_lt_succ h2) with rfl | h2
        · exact hwj
        · exact hw m hm h1 h2
      · rw [if_neg hwj]
        exact done j k hij hjl hw (fun _ => by simpa using hwj) (by omega)
    · rw [if_neg (by omega)]
      exact done j k hij hjl hw (fun h' => by omega) (by omega)
theorem rterms_l0 (l : List Int) (hl : l.length ≤ 100000) (d : Nat) : ∀ (i k : Nat) (out : List ByteArray), l.length + 1 - i ≤ d → i ≤ l.length + 1 → out.length ≤ i → (d + 1) * (l.length + 20) ≤ k → rubrickref05_Terms.l0 k l out (i : Int) = some (out ++ termsS (l.drop i)) := by
  induction d with
  | zero =>
    intro i k out hi hi2 ho hk
    obtain ⟨k, rfl⟩ : ∃ k', k = k' + 1 := ⟨k - 1, by omega⟩
    rw [rubrickref05_Terms.l0, if_neg (by omega), List.drop_of_length_le (by omega), terms_nil, List.append_nil]
  | succ d ih =>
    intro i k out hi hi2 ho hk
    rw [Nat.succ_mul] at hk
    obtain ⟨k, rfl⟩ : ∃ k', k = k' + 1 := ⟨k - 1, by omega⟩
    rw [rubrickref05_Terms.l0]
    by_cases h : i < l.length
    · rw [if_pos (by omega)]
      have hmul : l.length + 20 ≤ (d + 1) * (l.length + 20) := Nat.le_mul_of_pos_left _ (by omega)
      exact rterms_l1 l hl out i ho ((d + 1) * (l.length + 20)) (by omega) (fun i' out' k' h1 h2 h3 h4 => ih i' k' out' (by omega) h2 h3 h4) l.length i k (by omega) (by omega) (by omega) (fun m hm h1 h2 => by omega) (by omega)
    · rw [if_neg (by omega), List.drop_of_length_le (by omega), terms_nil, List.append_nil]
theorem rterms_f (b : List Int) (hb : AllB b) (hl : b.length ≤ 2000) (k : Nat) (hk : 10000000 ≤ k) : rubrickref05_Terms.f k b = some (termsS (decS b)) := by
  have hn := decS_length b.length b hb (Nat.le_refl _)
  unfold rubrickref05_Terms.f
  rw [rdecode_f b hb (by omega), Option.bind_some]
  have hm : ((decS b).length + 1 + 1) * ((decS b).length + 20) ≤ 2002 * 2020 := Nat.mul_le_mul (by omega) (by omega)
  have := rterms_l0 (decS b) (by omega) ((decS b).length + 1) 0 k [] (by omega) (by omega) (by simp) (by omega)
  rw [List.drop_zero, List.nil_append] at this
  exact this
end Go.Proofs.YtiihoodnejcjgaaDoor.P
