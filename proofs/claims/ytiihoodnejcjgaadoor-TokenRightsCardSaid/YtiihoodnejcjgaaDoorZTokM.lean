/- Which texts are terms (the plain law TokenRights, second half). -/
import Derived.Test.YtiihoodnejcjgaaDoorZTokL
namespace Go.Proofs.YtiihoodnejcjgaaDoor.P
open Go.RowKit Go.Proofs.YtiihoodnejcjgaaDoorW.PrintWords Go.Proofs.YtiihoodnejcjgaaDoorW.PrintLast Go.Proofs.YtiihoodnejcjgaaDoorW.PrintMore
set_option linter.unusedVariables false
set_option linter.unusedSimpArgs false
/-- What a character costs at least. -/
def costC (c : Int) : Nat := if wordB c = true then (encS (smallS c)).length else 1
def costL : List Int → Nat
  | [] => 0
  | c :: l => costC c + costL l
/-- What the words' characters cost. -/
def costW : List Int → Nat
  | [] => 0
  | c :: l => (if wordB c = true then (encS (smallS c)).length else 0) + costW l
theorem cost_le : ∀ l, costW l ≤ costL l
  | [] => Nat.le_refl _
  | c :: l => by
    have := cost_le l
    unfold costW costL costC
    split <;> omega
theorem cost_lt : ∀ l, (∃ c ∈ l, wordB c = false) → costW l < costL l
  | c :: l, ⟨x, hx, hw⟩ => by
    have hle := cost_le l
    unfold costW costL costC
    rcases List.mem_cons.1 hx with rfl | hx
    · rw [hw]
      simp
      omega
    · have := cost_lt l ⟨x, hx, hw⟩
      split <;> omega
theorem cost_dec (d : Nat) : ∀ l : List Int, AllB l → l.length ≤ d → costL (decS l) ≤ l.length := by
  induction d with
  | zero =>
    intro l hb hl
    obtain rfl : l = [] := List.eq_nil_of_length_eq_zero (by omega)
    simp [decS_nil, costL]
  | succ d ih =>
    intro l hb hl
    by_cases hp : 0 < l.length
    · have hn := firstS_n l hp hb
      have ih' := ih (l.drop (firstS l).2.toNat) (hb.drop _) (by rw [List.length_drop]; omega)
      rw [List.length_drop] at ih'
      rw [decS_cons l hp hb, costL]
      have hc : (costC (firstS l).1 : Int) ≤ (firstS l).2 := by
        unfold costC
        by_cases hw : wordB (firstS l).1 = true
        · rw [if_pos hw]
          rcases firstS_inv l hp hb with h | ⟨c, hr, h, _⟩
          · rw [h] at hw; exact absurd hw (by decide)
          · rw [h] at hw ⊢
            rw [many_len]
            exact Int.le_of_eq (small_word hw).2.2
        · rw [if_neg hw]
          exact hn.1
      omega
    · obtain rfl : l = [] := List.eq_nil_of_length_eq_zero (by omega)
      simp [decS_nil, costL]
/-- The bytes of terms, and of the word that goes on. -/
def sizeL : List ByteArray → Nat
  | [] => 0
  | s :: l => s.size + sizeL l
theorem sizeL_append (a b : List ByteArray) : sizeL (a ++ b) = sizeL a + sizeL b := by
  induction a with
  | nil => simp [sizeL]
  | cons x a ih => rw [List.cons_append, sizeL, sizeL, ih]; omega
theorem end_size (s : TS) : sizeL (endT s).out ≤ sizeL s.out + s.b.length := by
  unfold endT
  dsimp only
  split
  · rw [sizeL_append, sizeL, sizeL, strOfNums_size]
    omega
  · omega
theorem fold_size (l : List Int) : ∀ s : TS, sizeL (l.foldl stepS s).out + (l.foldl stepS s).b.length ≤ sizeL s.out + s.b.length + costW l := by
  induction l with
  | nil => intro s; simp [costW]
  | cons c l ih =>
    intro s
    rw [List.foldl_cons, costW]
    have h := ih (stepS s c)
    have hs : sizeL (stepS s c).out + (stepS s c).b.length ≤ sizeL s.out + s.b.length + (if wordB c = true then (encS (smallS c)).length else 0) := by
      unfold stepS
      by_cases hw : wordB c = true
      · rw [if_pos hw, if_pos hw]
        unfold takeS
        split
        · dsimp only; omega
        · dsimp only; rw [List.length_append]; omega
      · rw [if_neg hw, if_neg hw]
        have := end_size s
        have e : (endT s).b.length = 0 := rfl
        omega
    omega
theorem terms_size (l : List Int) : sizeL (termsS l) ≤ costW l := by
  unfold termsS
  have h1 := end_size (l.foldl stepS ⟨[], false, false, []⟩)
  have h2 := fold_size l ⟨[], false, false, []⟩
  simp only [sizeL, List.length_nil] at h2
  omega
theorem costW_flat : ∀ w, (∀ c ∈ w, wordB c = true) → costW w = (flatW w).length
  | [], _ => rfl
  | c :: w, h => by
    have := costW_flat w (fun c hc => h c (List.mem_cons_of_mem _ hc))
    unfold costW flatW
    rw [if_pos (h c (List.mem_cons_self ..)), List.flatMap_cons, List.length_append, this]
    rfl
/-- Are bytes those of a term? -/
def OkT (l : List Int) : Prop := (∀ c ∈ decS l, wordB c = true ∧ smallS c = c) ∧ 0 < (decS l).length ∧ l.length ≤ 64
theorem terms_all (w : List Int) (hw : ∀ c ∈ w, wordB c = true) (hne : w ≠ []) : termsS w = [strOfNums (wordT [] w)] := by
  have h := terms_word w [] hw (fun c hc => by cases hc) []
  rw [List.append_nil, if_neg hne, List.nil_append, List.tail_nil, terms_nil, List.append_nil] at h
  exact h
theorem ok_terms (l : List Int) (hb : AllB l) (h : OkT l) : termsS (decS l) = [strOfNums l] := by
  obtain ⟨h1, h2, h3⟩ := h
  have hw : ∀ c ∈ decS l, wordB c = true := fun c hc => (h1 c hc).1
  have hne : decS l ≠ [] := fun e => by rw [e] at h2; exact absurd h2 (by decide)
  have hbad : ∀ c ∈ decS l, c ≠ 65533 := fun c hc e => by
    have := word_range (hw c hc)
    omega
  have hflat := (decS_only l.length l hb (Nat.le_refl _) hbad).1
  have hf : flatW (decS l) = l := by
    rw [flatW_eq]
    have : (decS l).map smallS = decS l := by
      conv => rhs; rw [← List.map_id (decS l)]
      exact List.map_congr_left (fun c hc => (h1 c hc).2)
    rw [this, hflat]
  rw [terms_all _ hw hne]
  obtain ⟨n, hn, he, _, hor⟩ := wordT_pre (decS l) [] (by simp)
  rcases hor with rfl | hlt
  · rw [List.take_length, List.nil_append, hf] at he
    rw [he]
  · -- nothing is cut: it has room
    exfalso
    rw [hf] at hlt
    have hroom : ∀ (w acc : List Int), acc.length + (flatW w).length ≤ 64 → wordT acc w = acc ++ flatW w := by
      intro w
      induction w with
      | nil => intro acc _; simp [wordT, flatW]
      | cons c w ih =>
        intro acc hr
        have e : flatW (c :: w) = encS (smallS c) ++ flatW w := by unfold flatW; rw [List.flatMap_cons]
        rw [e, List.length_append] at hr
        rw [wordT, if_neg (by omega), ih _ (by rw [List.length_append]; omega), e, List.append_assoc]
    rw [hroom (decS l) [] (by rw [hf]; simpa using h3), hf] at hlt
    simp at hlt
theorem terms_ok (l : List Int) (hb : AllB l) (h : termsS (decS l) = [strOfNums l]) : OkT l := by
  have hs := terms_size (decS l)
  rw [h] at hs
  simp only [sizeL, strOfNums_size] at hs
  have hc := cost_dec l.length l hb (Nat.le_refl _)
  have hw : ∀ c ∈ decS l, wordB c = true := fun c hcm => by
    cases hq : wordB c with
    | true => rfl
    | false =>
      have := cost_lt (decS l) ⟨c, hcm, hq⟩
      omega
  have hne : decS l ≠ [] := fun e => by rw [e, terms_nil] at h; cases h
  rw [terms_all _ hw hne] at h
  obtain ⟨n, hn, he, h64, hor⟩ := wordT_pre (decS l) [] (by simp)
  rw [List.nil_append] at he
  have hwt : ∀ c ∈ (decS l).take n, wordB c = true := fun c hc => hw c (List.mem_of_mem_take hc)
  have hfd := flatW_dec _ hwt
  have hl : wordT [] (decS l) = l := by
    refine str_inj (by rw [he]; exact hfd.2) hb ?_
    have := List.head_eq_of_cons_eq h
    rw [this]
  have hcw := costW_flat (decS l) hw
  have hnl : n = (decS l).length := by
    rcases hor with e | hlt
    · exact e
    · rw [hl] at hlt
      have hcl := cost_le (decS l)
      simp only [List.length_nil] at hlt
      omega
  have hfl : flatW (decS l) = l := by
    have q := he
    rw [hnl, List.take_length] at q
    rw [← q]
    exact hl
  have hfd2 := flatW_dec (decS l) hw
  rw [hfl] at hfd2
  refine ⟨fun c hc => ⟨hw c hc, ?_⟩, List.length_pos_iff.2 hne, by rw [← hl]; exact h64⟩
  obtain ⟨i, hi, rfl⟩ := List.mem_iff_getElem.1 hc
  have e := congrArg (fun q => q[i]?) hfd2.1
  simp only [List.getElem?_map, List.getElem?_eq_getElem hi, Option.map_some, Option.some.injEq] at e
  exact e.symm
theorem takeW (l : List Int) : ∀ c ∈ l.takeWhile wordB, wordB c = true := by
  induction l with
  | nil => intro c hc; cases hc
  | cons x l ih =>
    intro c hc
    rw [List.takeWhile_cons] at hc
    by_cases h : wordB x = true
    · rw [if_pos h] at hc
      rcases List.mem_cons.1 hc with rfl | hc
      · exact h
      · exact ih c hc
    · rw [if_neg h] at hc
      cases hc
/-- Each term of characters is right. -/
theorem terms_each (d : Nat) : ∀ l : List Int, l.length ≤ d → ∀ t ∈ termsS l, ∃ u, AllB u ∧ OkT u ∧ t = strOfNums u ∧ 0 < u.length := by
  induction d with
  | zero =>
    intro l hl t ht
    obtain rfl : l = [] := List.eq_nil_of_length_eq_zero (by omega)
    rw [terms_nil] at ht
    cases ht
  | succ d ih =>
    intro l hl t ht
    have hsp : l = l.takeWhile wordB ++ l.dropWhile wordB := (List.takeWhile_append_dropWhile).symm
    have hw : ∀ c ∈ l.takeWhile wordB, wordB c = true := takeW l
    have hr : ∀ c, (l.dropWhile wordB).head? = some c → wordB c = false := fun c hc => by
      have := List.head?_dropWhile_not wordB l
      rw [hc] at this
      simpa using this
    have h := terms_word (l.takeWhile wordB) (l.dropWhile wordB) hw hr []
    rw [← hsp] at h
    have h' : termsS l = (if l.takeWhile wordB = [] then [] else [] ++ [strOfNums (wordT [] (l.takeWhile wordB))]) ++ termsS (l.dropWhile wordB).tail := h
    rw [h'] at ht
    rcases List.mem_append.1 ht with ht | ht
    · by_cases h0 : l.takeWhile wordB = []
      · rw [if_pos h0] at ht; cases ht
      · rw [if_neg h0, List.nil_append] at ht
        rw [List.mem_singleton.1 ht]
        cases hq : l.takeWhile wordB with
        | nil => exact absurd hq h0
        | cons c w =>
          rw [hq] at hw
          obtain ⟨n, n1, n2, he, h64⟩ := wordT_one c w
          have hwt : ∀ x ∈ (c :: w).take n, wordB x = true := fun x hx => hw x (List.mem_of_mem_take hx)
          have hfd := flatW_dec _ hwt
          rw [he] at h64 ⊢
          have hlen : 0 < ((c :: w).take n).length := by rw [List.length_take]; omega
          refine ⟨_, hfd.2, ⟨?_, by rw [hfd.1, List.length_map]; exact hlen, h64⟩, rfl, ?_⟩
          · intro x hx
            rw [hfd.1] at hx
            obtain ⟨y, hy, rfl⟩ := List.mem_map.1 hx
            exact ⟨(small_word (hwt y hy)).1, (small_word (hwt y hy)).2.1⟩
          · have := decS_length _ (flatW ((c :: w).take n)) hfd.2 (Nat.le_refl _)
            rw [hfd.1, List.length_map] at this
            omega
    · refine ih _ ?_ t ht
      have h1 := congrArg List.length hsp
      rw [List.length_append] at h1
      rw [List.length_tail]
      by_cases h0 : (l.dropWhile wordB).length = 0
      · omega
      · omega
end Go.Proofs.YtiihoodnejcjgaaDoor.P
