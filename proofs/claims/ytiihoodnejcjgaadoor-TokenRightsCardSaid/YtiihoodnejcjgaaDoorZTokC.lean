/- The order of terms, and what token.Positions and token.Set answer. -/
import Derived.Test.YtiihoodnejcjgaaDoorZTokB0
import Derived.Test.YtiihoodnejcjgaaDoorHPos
import Derived.Test.YtiihoodnejcjgaaDoorHBT
import Derived.Sort.Walk0
namespace Go.Proofs.YtiihoodnejcjgaaDoor.P
open Go.RowKit Go.Proofs.YtiihoodnejcjgaaDoorW.PrintWords Go.Proofs.YtiihoodnejcjgaaDoorW.PrintLast Go.Proofs.YtiihoodnejcjgaaDoorW.PrintMore
set_option linter.unusedVariables false
set_option linter.unusedSimpArgs false
/-- One text lies ahead of another. -/
def blt (a b : ByteArray) : Prop := a.toList < b.toList
theorem blt_iff (a b : ByteArray) : Op.bytesLess a.toList b.toList = true ↔ blt a b := by rw [bytesLess_eq]; exact decide_eq_true_iff
theorem blt_irrefl (a : ByteArray) : ¬ blt a a := List.lt_irrefl _
theorem blt_trans {a b c : ByteArray} (h : blt a b) (k : blt b c) : blt a c := List.lt_trans h k
theorem blt_tri (a b : ByteArray) : blt a b ∨ a.toList = b.toList ∨ blt b a := by
  rcases List.le_total a.toList b.toList with h | h
  · by_cases e : a.toList = b.toList
    · exact .inr (.inl e)
    · exact .inl (Std.lt_of_le_of_ne h e)
  · by_cases e : a.toList = b.toList
    · exact .inr (.inl e)
    · exact .inr (.inr (Std.lt_of_le_of_ne h (fun h => e h.symm)))
theorem blt_left {a b c : ByteArray} (h : a.toList = b.toList) (k : blt b c) : blt a c := by unfold blt at *; rw [h]; exact k
theorem blt_right {a b c : ByteArray} (h : b.toList = c.toList) (k : blt a b) : blt a c := by unfold blt at *; rw [← h]; exact k
theorem ltAt_iff (a b : S44) : ltAt a b = true ↔ blt a.f0 b.f0 ∨ a.f0.toList = b.f0.toList ∧ a.f1 < b.f1 := by
  unfold ltAt
  by_cases h1 : Op.bytesLess a.f0.toList b.f0.toList = true
  · rw [if_pos h1]
    exact ⟨fun _ => .inl ((blt_iff _ _).1 h1), fun _ => rfl⟩
  · rw [if_neg h1]
    have h1' : ¬ blt a.f0 b.f0 := fun h => h1 ((blt_iff _ _).2 h)
    by_cases h2 : a.f0.toList = b.f0.toList
    · rw [if_pos h2, decide_eq_true_iff]
      exact ⟨fun h => .inr ⟨h2, h⟩, fun h => h.elim (fun h => absurd h h1') (·.2)⟩
    · rw [if_neg h2]
      exact ⟨fun h => (Bool.false_ne_true h).elim, fun h => h.elim (fun h => absurd h h1') (fun h => absurd h.1 h2)⟩
theorem ltAt_trans {a b c : S44} (h : ltAt a b = true) (k : ltAt b c = true) : ltAt a c = true := by
  rw [ltAt_iff] at *
  rcases h with h | ⟨h, h'⟩
  · rcases k with k | ⟨k, k'⟩
    · exact .inl (blt_trans h k)
    · exact .inl (blt_right k h)
  · rcases k with k | ⟨k, k'⟩
    · exact .inl (blt_left h k)
    · exact .inr ⟨h.trans k, by omega⟩
theorem ltAt_tot {a b : S44} (h : ltAt a b = false) (hne : a.f1 ≠ b.f1) : ltAt b a = true := by
  have h : ¬ (blt a.f0 b.f0 ∨ a.f0.toList = b.f0.toList ∧ a.f1 < b.f1) := fun k => by rw [(ltAt_iff a b).2 k] at h; cases h
  rw [ltAt_iff]
  rcases blt_tri a.f0 b.f0 with k | k | k
  · exact absurd (.inl k) h
  · exact .inr ⟨k.symm, by
      have : ¬ a.f1 < b.f1 := fun q => h (.inr ⟨k, q⟩)
      omega⟩
  · exact .inl k
/-- Rising. -/
abbrev Rise (l : List S44) : Prop := l.Pairwise (fun a b => ltAt a b = true)
theorem rise_get {l : List S44} (h : Rise l) {i j : Nat} (hij : i < j) (hj : j < l.length) : ltAt (l[i]'(by omega)) l[j] = true := List.pairwise_iff_getElem.1 h i j (by omega) hj hij
theorem place_spec (x : S44) (l : List S44) (hl : Rise l) : ∀ (k low high : Nat), low ≤ high → high ≤ l.length → high - low ≤ k →
    (∀ i (h : i < l.length), i < low → ltAt x l[i] = false) → (∀ i (h : i < l.length), high ≤ i → ltAt x l[i] = true) →
    (∀ i (h : i < l.length), i < place x l k low high → ltAt x l[i] = false) ∧ (∀ i (h : i < l.length), place x l k low high ≤ i → ltAt x l[i] = true)
  | 0, low, high, h1, h2, h3, ha, hb => by
    obtain rfl : low = high := by omega
    exact ⟨ha, hb⟩
  | k + 1, low, high, h1, h2, h3, ha, hb => by
    unfold place
    by_cases hlt : low < high
    · rw [if_pos hlt]
      have hm : (low + high) / 2 < l.length := by omega
      have hg : l.getD ((low + high) / 2) z44 = l[(low + high) / 2] := by rw [List.getD_eq_getElem?_getD, List.getElem?_eq_getElem hm]; rfl
      rw [hg]
      by_cases hx : ltAt x l[(low + high) / 2] = true
      · rw [if_pos hx]
        refine place_spec x l hl k low _ (by omega) (by omega) (by omega) ha (fun i h hi => ?_)
        rcases Nat.eq_or_lt_of_le hi with rfl | hi
        · exact hx
        · exact ltAt_trans hx (rise_get hl hi h)
      · rw [if_neg hx]
        refine place_spec x l hl k _ high (by omega) (by omega) (by omega) (fun i h hi => ?_) hb
        rcases Nat.eq_or_lt_of_le (Nat.le_of_lt_succ hi) with rfl | hi
        · simpa using hx
        · cases hc : ltAt x l[i] with
          | false => rfl
          | true => exact absurd (ltAt_trans hc (rise_get hl hi hm)) hx
    · rw [if_neg hlt]
      obtain rfl : low = high := by omega
      exact ⟨ha, hb⟩
theorem putAt_mem (l : List S44) (x a : S44) : a ∈ putAt l x ↔ a = x ∨ a ∈ l := by
  unfold putAt
  dsimp only
  generalize place x l l.length 0 l.length = p
  rw [List.mem_append, List.mem_cons]
  constructor
  · rintro (h | h | h)
    · exact .inr (List.mem_of_mem_take h)
    · exact .inl h
    · exact .inr (List.mem_of_mem_drop h)
  · rintro (h | h)
    · exact .inr (.inl h)
    · rw [← List.take_append_drop p l] at h
      rcases List.mem_append.1 h with h | h
      · exact .inl h
      · exact .inr (.inr h)
theorem putAt_rise (l : List S44) (x : S44) (hl : Rise l) (hne : ∀ a ∈ l, a.f1 ≠ x.f1) : Rise (putAt l x) := by
  unfold putAt
  dsimp only
  obtain ⟨ha, hb⟩ := place_spec x l hl l.length 0 l.length (Nat.zero_le _) (Nat.le_refl _) (by omega) (fun i h hi => by omega) (fun i h hi => by omega)
  have hp := (place_le x l l.length 0 l.length (Nat.zero_le _)).2
  generalize place x l l.length 0 l.length = p at *
  have hlo : ∀ a ∈ l.take p, ltAt a x = true := by
    intro a h
    obtain ⟨i, hi, rfl⟩ := List.mem_iff_getElem.1 h
    rw [List.length_take] at hi
    rw [List.getElem_take]
    exact ltAt_tot (ha i (by omega) (by omega)) (fun e => hne _ (List.getElem_mem (by omega)) e.symm)
  have hhi : ∀ a ∈ l.drop p, ltAt x a = true := by
    intro a h
    obtain ⟨i, hi, rfl⟩ := List.mem_iff_getElem.1 h
    rw [List.length_drop] at hi
    rw [List.getElem_drop]
    exact hb _ (by omega) (by omega)
  refine List.pairwise_append.2 ⟨hl.sublist (List.take_sublist _ _), List.pairwise_cons.2 ⟨hhi, hl.sublist (List.drop_sublist _ _)⟩, ?_⟩
  intro a h b h'
  rcases List.mem_cons.1 h' with rfl | h'
  · exact hlo a h
  · exact ltAt_trans (hlo a h) (hhi b h')
theorem posL_mem (ts : List ByteArray) : ∀ (k : Nat), k ≤ ts.length → ∀ a, a ∈ posL ts k ↔ ∃ i, ∃ h : i < ts.length, i < k ∧ a = ⟨ts[i], (i : Int)⟩
  | 0, _, a => by
    constructor
    · intro h; cases h
    · rintro ⟨i, _, h, _⟩; omega
  | k + 1, hk, a => by
    unfold posL
    have hg : ts.getD k ByteArray.empty = ts[k] := by rw [List.getD_eq_getElem?_getD, List.getElem?_eq_getElem (by omega)]; rfl
    rw [putAt_mem, posL_mem ts k (by omega), hg]
    constructor
    · rintro (rfl | ⟨i, h1, h2, rfl⟩)
      · exact ⟨k, by omega, by omega, rfl⟩
      · exact ⟨i, h1, by omega, rfl⟩
    · rintro ⟨i, h1, h2, rfl⟩
      rcases Nat.eq_or_lt_of_le (Nat.le_of_lt_succ h2) with rfl | h2
      · exact .inl rfl
      · exact .inr ⟨i, h1, h2, rfl⟩
theorem posL_rise (ts : List ByteArray) : ∀ (k : Nat), k ≤ ts.length → Rise (posL ts k)
  | 0, _ => List.Pairwise.nil
  | k + 1, hk => by
    unfold posL
    refine putAt_rise _ _ (posL_rise ts k (by omega)) (fun a h => ?_)
    obtain ⟨i, h1, h2, rfl⟩ := (posL_mem ts k (by omega) a).1 h
    dsimp only
    omega
end Go.Proofs.YtiihoodnejcjgaaDoor.P
