/- What token.Set answers: the terms, rising, each once. -/
import Derived.Test.YtiihoodnejcjgaaDoorZTokC
import Derived.Test.YtiihoodnejcjgaaDoorHBT
namespace Go.Proofs.YtiihoodnejcjgaaDoor.P
open Go.RowKit Go.Proofs.YtiihoodnejcjgaaDoorW.PrintWords Go.Proofs.YtiihoodnejcjgaaDoorW.PrintLast Go.Proofs.YtiihoodnejcjgaaDoorW.PrintMore
set_option linter.unusedVariables false
set_option linter.unusedSimpArgs false
/-- What rises, each once. -/
def dedS : List ByteArray → List ByteArray → List ByteArray
  | acc, [] => acc
  | acc, s :: l => if 0 < acc.length ∧ (acc.getD (acc.length - 1) ByteArray.empty).toList = s.toList then dedS acc l else dedS (acc ++ [s]) l
theorem setl_f (l : List S44) (hl : l.length ≤ 100000000) (d : Nat) : ∀ (i k : Nat) (acc : List ByteArray), i ≤ l.length → l.length - i ≤ d → d + 2 ≤ k → acc.length ≤ i →
    token_Set.l0 k acc l (l.length : Int) (i : Int) = some (dedS acc ((l.drop i).map (·.f0))) := by
  induction d with
  | zero =>
    intro i k acc hi hd hk ha
    obtain ⟨k, rfl⟩ : ∃ k', k = k' + 1 := ⟨k - 1, by omega⟩
    rw [token_Set.l0, if_neg (by omega), List.drop_of_length_le (by omega)]
    rfl
  | succ d ih =>
    intro i k acc hi hd hk ha
    obtain ⟨k, rfl⟩ : ∃ k', k = k' + 1 := ⟨k - 1, by omega⟩
    rw [token_Set.l0]
    by_cases h : i < l.length
    · rw [if_pos (by omega), if_pos (by omega), if_pos (by omega), List.drop_eq_getElem_cons h, List.map_cons, dedS]
      have hg : rd_T44 l (i : Int) = l[i] := by
        unfold rd_T44
        rw [Int.toNat_natCast, List.getD_eq_getElem?_getD, List.getElem?_eq_getElem h]
        rfl
      rw [hg, succ_wrap i l.length h (by omega)]
      by_cases h0 : acc.length = 0
      · rw [if_pos (by omega), if_pos (by omega), if_neg (by omega)]
        exact ih (i + 1) k _ (by omega) (by omega) (by omega) (by rw [List.length_append, List.length_singleton]; omega)
      · rw [if_neg (by omega)]
        have hw : wrap64 ((acc.length : Int) - 1) = ((acc.length - 1 : Nat) : Int) := by rw [wrap_in (by omega) (by omega)]; omega
        rw [hw, if_pos (by omega), if_pos (by omega)]
        have hr : rdOf ByteArray.empty acc ((acc.length - 1 : Nat) : Int) = acc.getD (acc.length - 1) ByteArray.empty := rfl
        rw [hr]
        by_cases he : (acc.getD (acc.length - 1) ByteArray.empty).toList = l[i].f0.toList
        · rw [if_pos he, if_pos ⟨by omega, he⟩]
          exact ih (i + 1) k _ (by omega) (by omega) (by omega) (by omega)
        · rw [if_neg he, if_pos (by omega), if_neg (fun q => he q.2)]
          exact ih (i + 1) k _ (by omega) (by omega) (by omega) (by rw [List.length_append, List.length_singleton]; omega)
    · rw [if_neg (by omega), List.drop_of_length_le (by omega)]
      rfl
/-- The set of terms. -/
def setS (ts : List ByteArray) : List ByteArray := dedS [] ((posL ts ts.length).map (·.f0))
theorem set_of (b : List Int) (ts : List ByteArray) (ht : token_Terms.f b = some ts) (hl : ts.length ≤ 1000000) (k : Nat) (hk : ts.length + 5 ≤ k) : token_Set.f k b = some (setS ts) := by
  unfold token_Set.f token_Positions.f
  rw [ht, Option.bind_some, if_pos (by omega), Option.bind_some]
  have := setl_f (posL ts ts.length) (by rw [posL_len]; omega) ts.length 0 k [] (by omega) (by rw [posL_len]; omega) (by omega) (by simp)
  rw [List.drop_zero] at this
  exact this
/-- Rising texts. -/
abbrev RiseB (l : List ByteArray) : Prop := l.Pairwise blt
theorem dedS_mem : ∀ (l acc : List ByteArray) (s : ByteArray), s ∈ dedS acc l → s ∈ acc ∨ s ∈ l
  | [], acc, s, h => .inl h
  | x :: l, acc, s, h => by
    unfold dedS at h
    split at h
    · rcases dedS_mem l acc s h with h | h
      · exact .inl h
      · exact .inr (List.mem_cons_of_mem _ h)
    · rcases dedS_mem l _ s h with h | h
      · rcases List.mem_append.1 h with h | h
        · exact .inl h
        · exact .inr (by rw [List.mem_singleton.1 h]; exact List.mem_cons_self ..)
      · exact .inr (List.mem_cons_of_mem _ h)
theorem dedS_keep : ∀ (l acc : List ByteArray) (s : ByteArray), s ∈ acc → s ∈ dedS acc l
  | [], acc, s, h => h
  | x :: l, acc, s, h => by
    unfold dedS
    split
    · exact dedS_keep l acc s h
    · exact dedS_keep l _ s (List.mem_append_left _ h)
theorem last_mem {acc : List ByteArray} (h : 0 < acc.length) : acc.getD (acc.length - 1) ByteArray.empty ∈ acc := by
  rw [List.getD_eq_getElem?_getD, List.getElem?_eq_getElem (by omega)]
  exact List.getElem_mem _
theorem dedS_has : ∀ (l acc : List ByteArray) (s : ByteArray), s ∈ l → ∃ t ∈ dedS acc l, t.toList = s.toList
  | x :: l, acc, s, h => by
    unfold dedS
    rcases List.mem_cons.1 h with rfl | h
    · split
      · next hq => exact ⟨_, dedS_keep l acc _ (last_mem hq.1), hq.2⟩
      · exact ⟨_, dedS_keep l _ _ (List.mem_append_right _ (List.mem_singleton.2 rfl)), rfl⟩
    · split
      · exact dedS_has l acc s h
      · exact dedS_has l _ s h
theorem dedS_rise : ∀ (l acc : List ByteArray), RiseB acc → l.Pairwise (fun a b => ¬ blt b a) → (∀ a ∈ acc, ∀ b ∈ l, ¬ blt b a) → RiseB (dedS acc l)
  | [], acc, h, _, _ => h
  | x :: l, acc, h, h2, h3 => by
    rw [List.pairwise_cons] at h2
    unfold dedS
    split
    · exact dedS_rise l acc h h2.2 (fun a ha b hb => h3 a ha b (List.mem_cons_of_mem _ hb))
    · next hq =>
      refine dedS_rise l _ (List.pairwise_append.2 ⟨h, List.pairwise_singleton _ _, fun a ha b hb => ?_⟩) h2.2 (fun a ha b hb => ?_)
      · rw [List.mem_singleton.1 hb]
        have hpos : 0 < acc.length := List.length_pos_of_mem ha
        have hlast := h3 _ (last_mem hpos) x (List.mem_cons_self ..)
        have hlt : blt (acc.getD (acc.length - 1) ByteArray.empty) x := by
          rcases blt_tri (acc.getD (acc.length - 1) ByteArray.empty) x with q | q | q
          · exact q
          · exact absurd ⟨hpos, q⟩ hq
          · exact absurd q hlast
        obtain ⟨i, hi, rfl⟩ := List.mem_iff_getElem.1 ha
        have hgl : acc.getD (acc.length - 1) ByteArray.empty = acc[acc.length - 1] := by rw [List.getD_eq_getElem?_getD, List.getElem?_eq_getElem (by omega)]; rfl
        rw [hgl] at hlt
        by_cases he : i = acc.length - 1
        · subst he; exact hlt
        · exact blt_trans (List.pairwise_iff_getElem.1 h i (acc.length - 1) hi (by omega) (by omega)) hlt
      · rcases List.mem_append.1 ha with ha | ha
        · exact h3 a ha b (List.mem_cons_of_mem _ hb)
        · rw [List.mem_singleton.1 ha]; exact h2.1 b hb
theorem setS_rise (ts : List ByteArray) : RiseB (setS ts) := by
  refine dedS_rise _ _ List.Pairwise.nil ?_ (fun a ha => by cases ha)
  rw [List.pairwise_map]
  refine (posL_rise ts ts.length (Nat.le_refl _)).imp (fun {a b} h => ?_)
  rw [ltAt_iff] at h
  intro hb
  rcases h with h | ⟨h, _⟩
  · exact blt_irrefl _ (blt_trans h hb)
  · exact blt_irrefl _ (blt_left h hb)
theorem setS_in (ts : List ByteArray) (s : ByteArray) (h : s ∈ setS ts) : s ∈ ts := by
  rcases dedS_mem _ _ _ h with h | h
  · cases h
  · obtain ⟨a, ha, rfl⟩ := List.mem_map.1 h
    obtain ⟨i, h1, h2, rfl⟩ := (posL_mem ts ts.length (Nat.le_refl _) a).1 ha
    exact List.getElem_mem h1
theorem setS_has (ts : List ByteArray) (s : ByteArray) (h : s ∈ ts) : ∃ t ∈ setS ts, t.toList = s.toList := by
  obtain ⟨i, hi, rfl⟩ := List.mem_iff_getElem.1 h
  exact dedS_has _ _ _ (List.mem_map.2 ⟨⟨ts[i], (i : Int)⟩, (posL_mem ts ts.length (Nat.le_refl _) _).2 ⟨i, hi, hi, rfl⟩, rfl⟩)
theorem dedS_len : ∀ (l acc : List ByteArray), (dedS acc l).length ≤ acc.length + l.length
  | [], acc => by simp [dedS]
  | x :: l, acc => by
    unfold dedS
    split
    · have := dedS_len l acc; rw [List.length_cons]; omega
    · have := dedS_len l (acc ++ [x]); rw [List.length_append, List.length_singleton] at this; rw [List.length_cons]; omega
theorem setS_len (ts : List ByteArray) : (setS ts).length ≤ ts.length := by
  have := dedS_len ((posL ts ts.length).map (·.f0)) []
  rw [List.length_map, posL_len, List.length_nil] at this
  unfold setS
  omega
/-- The places of a term. -/
def placesS (t : ByteArray) : List ByteArray → Nat → List Int
  | [], _ => []
  | s :: l, i => if s.toList = t.toList then (i : Int) :: placesS t l (i + 1) else placesS t l (i + 1)
theorem placesl_f (t : ByteArray) (l : List ByteArray) (hl : l.length ≤ 100000000) (d : Nat) : ∀ (i k : Nat) (acc : List Int), i ≤ l.length → l.length - i ≤ d → d + 2 ≤ k → acc.length ≤ i →
    token_Places.l0 k t acc l (l.length : Int) (i : Int) = some (acc ++ placesS t (l.drop i) i) := by
  induction d with
  | zero =>
    intro i k acc hi hd hk ha
    obtain ⟨k, rfl⟩ : ∃ k', k = k' + 1 := ⟨k - 1, by omega⟩
    rw [token_Places.l0, if_neg (by omega), List.drop_of_length_le (by omega), placesS, List.append_nil]
  | succ d ih =>
    intro i k acc hi hd hk ha
    obtain ⟨k, rfl⟩ : ∃ k', k = k' + 1 := ⟨k - 1, by omega⟩
    rw [token_Places.l0]
    by_cases h : i < l.length
    · rw [if_pos (by omega), if_pos (by omega), if_pos (by omega), List.drop_eq_getElem_cons h, placesS, rdS_at l i h, succ_wrap i l.length h (by omega)]
      by_cases he : l[i].toList = t.toList
      · rw [if_pos he, if_pos he, if_pos (by omega), ih (i + 1) k _ (by omega) (by omega) (by omega) (by rw [List.length_append, List.length_singleton]; omega), List.append_assoc]
        rfl
      · rw [if_neg he, if_neg he]
        exact ih (i + 1) k _ (by omega) (by omega) (by omega) (by omega)
    · rw [if_neg (by omega), List.drop_of_length_le (by omega), placesS, List.append_nil]
theorem places_of (b : List Int) (ts : List ByteArray) (t : ByteArray) (ht : token_Terms.f b = some ts) (hl : ts.length ≤ 1000000) (k : Nat) (hk : ts.length + 5 ≤ k) : token_Places.f k b t = some (placesS t ts 0) := by
  unfold token_Places.f
  rw [ht, Option.bind_some]
  have := placesl_f t ts (by omega) ts.length 0 k [] (by omega) (by omega) (by omega) (by simp)
  rw [List.drop_zero, List.nil_append] at this
  exact this
theorem placesS_pos (t : ByteArray) : ∀ (l : List ByteArray) (i : Nat), t ∈ l → 0 < (placesS t l i).length
  | s :: l, i, h => by
    unfold placesS
    split
    · simp
    · next hq =>
      rcases List.mem_cons.1 h with rfl | h
      · exact absurd rfl hq
      · exact placesS_pos t l (i + 1) h
end Go.Proofs.YtiihoodnejcjgaaDoor.P
