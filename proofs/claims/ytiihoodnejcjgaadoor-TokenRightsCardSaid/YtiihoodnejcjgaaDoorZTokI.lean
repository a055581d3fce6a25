/- The reference's set is setS. -/
import Derived.Test.YtiihoodnejcjgaaDoorZTokH
namespace Go.Proofs.YtiihoodnejcjgaaDoor.P
open Go.RowKit Go.Proofs.YtiihoodnejcjgaaDoorW.PrintWords Go.Proofs.YtiihoodnejcjgaaDoorW.PrintLast Go.Proofs.YtiihoodnejcjgaaDoorW.PrintMore
set_option linter.unusedVariables false
set_option linter.unusedSimpArgs false
/-- Two rising lists with the same members are one. -/
theorem rise_uniq : ∀ (a b : List ByteArray), RiseB a → RiseB b → (∀ x, x ∈ a ↔ x ∈ b) → a = b
  | [], [], _, _, _ => rfl
  | [], y :: b, _, _, h => absurd ((h y).2 (List.mem_cons_self ..)) (by simp)
  | x :: a, [], _, _, h => absurd ((h x).1 (List.mem_cons_self ..)) (by simp)
  | x :: a, y :: b, ha, hb, h => by
    have ha' := List.pairwise_cons.1 ha
    have hb' := List.pairwise_cons.1 hb
    have hxy : x = y := by
      rcases List.mem_cons.1 ((h x).1 (List.mem_cons_self ..)) with e | hx
      · exact e
      · rcases List.mem_cons.1 ((h y).2 (List.mem_cons_self ..)) with e | hy
        · exact e.symm
        · exact absurd (blt_trans (ha'.1 y hy) (hb'.1 x hx)) (blt_irrefl _)
    subst hxy
    rw [rise_uniq a b ha'.2 hb'.2 (fun z => ?_)]
    constructor
    · intro hz
      rcases List.mem_cons.1 ((h z).1 (List.mem_cons_of_mem _ hz)) with rfl | q
      · exact absurd (ha'.1 _ hz) (blt_irrefl _)
      · exact q
    · intro hz
      rcases List.mem_cons.1 ((h z).2 (List.mem_cons_of_mem _ hz)) with rfl | q
      · exact absurd (hb'.1 _ hz) (blt_irrefl _)
      · exact q
theorem least_l0 (l : List ByteArray) (hl : l.length ≤ 1000000) (d : Nat) : ∀ (m i k : Nat), l.length - i ≤ d → i ≤ l.length → (hm : m < l.length) → (∀ j (h : j < l.length), j < i → ¬ blt l[j] l[m]) → d + 2 ≤ k →
    ∃ r, ∃ h : r < l.length, rubrickref05_least.l0 k l (m : Int) (i : Int) = some (r : Int) ∧ ∀ j (h : j < l.length), ¬ blt l[j] l[r] := by
  induction d with
  | zero =>
    intro m i k hi hi2 hm hj hk
    obtain ⟨k, rfl⟩ : ∃ k', k = k' + 1 := ⟨k - 1, by omega⟩
    refine ⟨m, hm, ?_, fun j h => hj j h (by omega)⟩
    rw [rubrickref05_least.l0, if_neg (by omega)]
  | succ d ih =>
    intro m i k hi hi2 hm hj hk
    obtain ⟨k, rfl⟩ : ∃ k', k = k' + 1 := ⟨k - 1, by omega⟩
    by_cases h : i < l.length
    · rw [rubrickref05_least.l0, if_pos (by omega), if_pos (by omega), if_pos (by omega), if_pos (by omega), rdS_at l i h, rdS_at l m hm, succ_wrap i l.length h (by omega)]
      by_cases hb : Op.bytesLess l[i].toList l[m].toList = true
      · rw [if_pos hb]
        have hlt := (blt_iff _ _).1 hb
        refine ih i (i + 1) k (by omega) (by omega) h (fun j h' hji => ?_) (by omega)
        rcases Nat.eq_or_lt_of_le (Nat.le_of_lt_succ hji) with rfl | hji
        · exact blt_irrefl _
        · exact fun q => hj j h' hji (blt_trans q hlt)
      · rw [if_neg hb]
        refine ih m (i + 1) k (by omega) (by omega) hm (fun j h' hji => ?_) (by omega)
        rcases Nat.eq_or_lt_of_le (Nat.le_of_lt_succ hji) with rfl | hji
        · exact fun q => hb ((blt_iff _ _).2 q)
        · exact hj j h' hji
    · refine ⟨m, hm, ?_, fun j h => hj j h (by omega)⟩
      rw [rubrickref05_least.l0, if_neg (by omega)]
/-- All but one. -/
def butS (s : ByteArray) (l : List ByteArray) : List ByteArray := l.filter (fun x => !(x.toList == s.toList))
theorem sorted_l1 (l out : List ByteArray) (s : ByteArray) (hl : l.length ≤ 1000000) (res : List ByteArray) (K : Nat) (hK : ∀ k, K ≤ k → rubrickref05_Sorted.l0 k (butS s l) out = some res) (d : Nat) :
    ∀ (i k : Nat) (acc : List ByteArray), l.length - i ≤ d → i ≤ l.length → acc.length ≤ i → acc ++ butS s (l.drop i) = butS s l → K + d + 2 ≤ k → rubrickref05_Sorted.l1 k l out s acc (i : Int) = some res := by
  induction d with
  | zero =>
    intro i k acc hi hi2 ha he hk
    obtain ⟨k, rfl⟩ : ∃ k', k = k' + 1 := ⟨k - 1, by omega⟩
    rw [List.drop_of_length_le (by omega)] at he
    have he' : acc = butS s l := by rw [← he]; simp [butS]
    rw [rubrickref05_Sorted.l1, if_neg (by omega), he']
    exact hK k (by omega)
  | succ d ih =>
    intro i k acc hi hi2 ha he hk
    obtain ⟨k, rfl⟩ : ∃ k', k = k' + 1 := ⟨k - 1, by omega⟩
    rw [rubrickref05_Sorted.l1]
    by_cases h : i < l.length
    · rw [if_pos (by omega), if_pos (by omega), rdS_at l i h, succ_wrap i l.length h (by omega)]
      rw [List.drop_eq_getElem_cons h] at he
      unfold butS at he
      rw [List.filter_cons] at he
      by_cases hs : l[i].toList = s.toList
      · rw [if_pos hs]
        rw [if_neg (by simp [hs])] at he
        exact ih (i + 1) k acc (by omega) (by omega) (by omega) he (by omega)
      · rw [if_neg hs, if_pos (by omega)]
        rw [if_pos (by simp [hs])] at he
        exact ih (i + 1) k _ (by omega) (by omega) (by rw [List.length_append, List.length_singleton]; omega) (by rw [List.append_assoc]; exact he) (by omega)
    · rw [List.drop_of_length_le (by omega)] at he
      have he' : acc = butS s l := by rw [← he]; simp [butS]
      rw [if_neg (by omega), he']
      exact hK k (by omega)
theorem sorted_l0 (n : Nat) (hn : n ≤ 100000) (d : Nat) : ∀ (l out : List ByteArray), l.length ≤ d → l.length + out.length ≤ n → RiseB out → (∀ a ∈ out, ∀ b ∈ l, blt a b) →
    ∃ res, RiseB res ∧ (∀ t, t ∈ res ↔ t ∈ out ∨ t ∈ l) ∧ ∀ k, (d + 1) * (n + 20) ≤ k → rubrickref05_Sorted.l0 k l out = some res := by
  induction d with
  | zero =>
    intro l out hl hlo hr hlt
    obtain rfl : l = [] := List.eq_nil_of_length_eq_zero (by omega)
    refine ⟨out, hr, fun t => by simp, fun k hk => ?_⟩
    obtain ⟨k, rfl⟩ : ∃ k', k = k' + 1 := ⟨k - 1, by omega⟩
    rw [rubrickref05_Sorted.l0, if_neg (by simp)]
  | succ d ih =>
    intro l out hl hlo hr hlt
    by_cases hp : 0 < l.length
    · obtain ⟨r, hrl, hst, hleast⟩ := least_l0 l (by omega) l.length 0 1 (l.length + 2) (by omega) (by omega) hp (fun j h hj => by
        obtain rfl : j = 0 := by omega
        exact blt_irrefl _) (by omega)
      have hmem : l[r] ∈ l := List.getElem_mem hrl
      have hbut : (butS l[r] l).length < l.length := by
        unfold butS
        exact List.length_filter_lt_length_iff_exists.2 ⟨l[r], hmem, by simp⟩
      have hr2 : RiseB (out ++ [l[r]]) := List.pairwise_append.2 ⟨hr, List.pairwise_singleton _ _, fun a ha b hb => by rw [List.mem_singleton.1 hb]; exact hlt a ha _ hmem⟩
      have hmb : ∀ t, t ∈ butS l[r] l ↔ t ∈ l ∧ t.toList ≠ l[r].toList := fun t => by unfold butS; rw [List.mem_filter]; simp
      have hlt2 : ∀ a ∈ out ++ [l[r]], ∀ b ∈ butS l[r] l, blt a b := by
        intro a ha b hb
        obtain ⟨hb1, hb2⟩ := (hmb b).1 hb
        rcases List.mem_append.1 ha with ha | ha
        · exact hlt a ha b hb1
        · rw [List.mem_singleton.1 ha]
          obtain ⟨j, hj, rfl⟩ := List.mem_iff_getElem.1 hb1
          rcases blt_tri l[r] l[j] with q | q | q
          · exact q
          · exact absurd q.symm hb2
          · exact absurd q (hleast j hj)
      obtain ⟨res, h1, h2, h3⟩ := ih (butS l[r] l) (out ++ [l[r]]) (by omega) (by rw [List.length_append, List.length_singleton]; omega) hr2 hlt2
      refine ⟨res, h1, fun t => ?_, fun k hk => ?_⟩
      · rw [h2, List.mem_append, List.mem_singleton, hmb]
        constructor
        · rintro ((h | rfl) | ⟨h, _⟩)
          · exact .inl h
          · exact .inr hmem
          · exact .inr h
        · rintro (h | h)
          · exact .inl (.inl h)
          · by_cases e : t.toList = l[r].toList
            · exact .inl (.inr (bytes_ext e))
            · exact .inr ⟨h, e⟩
      · rw [Nat.succ_mul] at hk
        obtain ⟨k, rfl⟩ : ∃ k', k = k' + 1 := ⟨k - 1, by omega⟩
        rw [rubrickref05_Sorted.l0, if_pos (by omega)]
        have hmul : n + 20 ≤ (d + 1) * (n + 20) := Nat.le_mul_of_pos_left _ (by omega)
        have hf : rubrickref05_least.f k l = some (r : Int) := by
          obtain ⟨j, hj⟩ : ∃ j, k = l.length + 2 + j := ⟨k - (l.length + 2), by omega⟩
          rw [hj]
          exact le_mono (g := fun q => rubrickref05_least.f q l) (fun q => rubrickref05_least.mono l q) hst j
        rw [hf, Option.bind_some, if_pos (by omega), if_pos (by omega), if_pos (by omega), rdS_at l r hrl]
        exact sorted_l1 l (out ++ [l[r]]) l[r] (by omega) res ((d + 1) * (n + 20)) (fun k hk => h3 k hk) l.length 0 k [] (by omega) (by omega) (by simp) rfl (by omega)
    · obtain rfl : l = [] := List.eq_nil_of_length_eq_zero (by omega)
      refine ⟨out, hr, fun t => by simp, fun k hk => ?_⟩
      rw [Nat.succ_mul] at hk
      obtain ⟨k, rfl⟩ : ∃ k', k = k' + 1 := ⟨k - 1, by omega⟩
      rw [rubrickref05_Sorted.l0, if_neg (by simp)]
theorem setS_mem (ts : List ByteArray) (t : ByteArray) : t ∈ setS ts ↔ t ∈ ts := by
  constructor
  · exact setS_in ts t
  · intro h
    obtain ⟨u, hu, he⟩ := setS_has ts t h
    rw [← bytes_ext he]
    exact hu
theorem sorted_f (ts : List ByteArray) (hl : ts.length ≤ 2100) (k : Nat) (hk : 10000000 ≤ k) : rubrickref05_Sorted.f k ts = some (setS ts) := by
  obtain ⟨res, h1, h2, h3⟩ := sorted_l0 ts.length (by omega) ts.length ts [] (by omega) (by simp) List.Pairwise.nil (fun a ha => by cases ha)
  have hm : (ts.length + 1) * (ts.length + 20) ≤ 2101 * 2120 := Nat.mul_le_mul (by omega) (by omega)
  unfold rubrickref05_Sorted.f
  rw [h3 k (by omega), rise_uniq res (setS ts) h1 (setS_rise ts) (fun t => by rw [h2, setS_mem]; simp)]
theorem rset_f (b : List Int) (hb : AllB b) (hl : b.length ≤ 2000) (k : Nat) (hk : 10000000 ≤ k) : rubrickref05_Set.f k b = some (setS (termsS (decS b))) := by
  have hn := decS_length b.length b hb (Nat.le_refl _)
  have ht := terms_len (decS b)
  unfold rubrickref05_Set.f
  rw [rterms_f b hb hl k hk, Option.bind_some, sorted_f _ (by omega) k hk]
  rfl
end Go.Proofs.YtiihoodnejcjgaaDoor.P
