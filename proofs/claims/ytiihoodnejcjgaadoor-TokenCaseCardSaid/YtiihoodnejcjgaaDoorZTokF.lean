/- The plain law TokenCase. -/
import Derived.Test.YtiihoodnejcjgaaDoorZTokD
import Derived.Test.YtiihoodnejcjgaaDoorPxRubricklaw05TokenCase
namespace Go.Proofs.YtiihoodnejcjgaaDoor.P
open Go.RowKit Go.Proofs.YtiihoodnejcjgaaDoorW.PrintWords Go.Proofs.YtiihoodnejcjgaaDoorW.PrintLast Go.Proofs.YtiihoodnejcjgaaDoorW.PrintMore
set_option linter.unusedVariables false
set_option linter.unusedSimpArgs false
/-- A great letter from A to Z, made small. -/
def low (x : Int) : Int := if 65 ≤ x ∧ x ≤ 90 then x + 32 else x
theorem low_cont (x : Int) : contN (low x) = contN x := by
  unfold contN low
  rw [Bool.eq_iff_iff, decide_eq_true_iff, decide_eq_true_iff]
  split <;> omega
theorem low_of_cont {x : Int} (h : contN x = true) : low x = x := by
  have := of_decide_eq_true h
  unfold low
  rw [if_neg (by omega)]
theorem low_chk (c n : Int) (hn : 2 ≤ n) : (low (chkS c n).1, (chkS c n).2) = chkS c n := by
  rcases chkS_cases c n with ⟨h, hr, hm⟩ | h
  · rw [h]
    have : 128 ≤ c := by unfold manyS at hm; split at hm <;> omega
    unfold low
    rw [if_neg (by omega)]
  · rw [h]; rfl
theorem f2_low (c : Int) (t : List Int) : f2 c (t.map low) = (low (f2 c t).1, (f2 c t).2) := by
  match t with
  | [] => rfl
  | b1 :: t =>
    simp only [List.map_cons, f2, low_cont]
    by_cases h : contN b1 = true
    · rw [if_pos h, low_of_cont h, if_pos h, low_chk _ _ (by omega)]
    · rw [if_neg h, if_neg h]; rfl
theorem f3_low (c : Int) (t : List Int) : f3 c (t.map low) = (low (f3 c t).1, (f3 c t).2) := by
  match t with
  | [] => rfl
  | [b1] => rfl
  | b1 :: b2 :: t =>
    simp only [List.map_cons, f3, low_cont]
    by_cases h : contN b1 = true
    · by_cases h2 : contN b2 = true
      · rw [if_pos h, if_pos h2, low_of_cont h, low_of_cont h2, if_pos h, if_pos h2, low_chk _ _ (by omega)]
      · rw [if_pos h, if_neg h2, if_pos h, if_neg h2]; rfl
    · rw [if_neg h, if_neg h]; rfl
theorem f4_low (c : Int) (t : List Int) : f4 c (t.map low) = (low (f4 c t).1, (f4 c t).2) := by
  match t with
  | [] => rfl
  | [b1] => rfl
  | [b1, b2] => rfl
  | b1 :: b2 :: b3 :: t =>
    simp only [List.map_cons, f4, low_cont]
    by_cases h : contN b1 = true
    · by_cases h2 : contN b2 = true
      · by_cases h3 : contN b3 = true
        · rw [if_pos h, if_pos h2, if_pos h3, low_of_cont h, low_of_cont h2, low_of_cont h3, if_pos h, if_pos h2, if_pos h3, low_chk _ _ (by omega)]
        · rw [if_pos h, if_pos h2, if_neg h3, if_pos h, if_pos h2, if_neg h3]; rfl
      · rw [if_pos h, if_neg h2, if_pos h, if_neg h2]; rfl
    · rw [if_neg h, if_neg h]; rfl
theorem first_low (l : List Int) : firstS (l.map low) = (low (firstS l).1, (firstS l).2) := by
  cases l with
  | nil => rfl
  | cons a t =>
    rw [List.map_cons, firstS_cons, firstS_cons]
    by_cases h1 : a < 128
    · have : low a < 128 := by unfold low; split <;> omega
      rw [if_pos h1, if_pos this]
    · have : low a = a := by unfold low; rw [if_neg (by omega)]
      rw [this, if_neg h1, if_neg h1]
      by_cases h2 : a < 192
      · rw [if_pos h2, if_pos h2]; rfl
      rw [if_neg h2, if_neg h2]
      by_cases h3 : a < 224
      · rw [if_pos h3, if_pos h3, f2_low]
      rw [if_neg h3, if_neg h3]
      by_cases h4 : a < 240
      · rw [if_pos h4, if_pos h4, f3_low]
      rw [if_neg h4, if_neg h4]
      by_cases h5 : a < 248
      · rw [if_pos h5, if_pos h5, f4_low]
      rw [if_neg h5, if_neg h5]; rfl
theorem AllB.low {l : List Int} (h : AllB l) : AllB (l.map P.low) := fun x hx => by
  obtain ⟨y, hy, rfl⟩ := List.mem_map.1 hx
  have := h y hy
  unfold P.low
  split <;> omega
theorem dec_low (d : Nat) : ∀ l : List Int, AllB l → l.length ≤ d → decS (l.map low) = (decS l).map low := by
  induction d with
  | zero =>
    intro l hb hl
    obtain rfl : l = [] := List.eq_nil_of_length_eq_zero (by omega)
    rfl
  | succ d ih =>
    intro l hb hl
    by_cases hp : 0 < l.length
    · have hn := firstS_n l hp hb
      rw [decS_cons l hp hb, decS_cons (l.map low) (by rw [List.length_map]; exact hp) hb.low, first_low, List.map_cons, ← List.map_drop, ih _ (hb.drop _) (by rw [List.length_drop]; omega)]
    · obtain rfl : l = [] := List.eq_nil_of_length_eq_zero (by omega)
      rfl
theorem step_low (s : TS) (c : Int) : stepS s (low c) = stepS s c := by
  by_cases h : 65 ≤ c ∧ c ≤ 90
  · have e : low c = c + 32 := by unfold low; rw [if_pos h]
    have w1 : wordB c = true := by unfold wordB; rw [(letB_iff c).2 (by omega)]; rfl
    have w2 : wordB (c + 32) = true := by unfold wordB; rw [(letB_iff (c + 32)).2 (by omega)]; rfl
    have s1 : smallS c = c + 32 := by rw [smallS_eq, if_neg (by omega), if_pos (by omega)]
    have s2 : smallS (c + 32) = c + 32 := by rw [smallS_eq, if_neg (by omega), if_neg (by omega)]
    unfold stepS takeS
    rw [e, w1, w2, s1, s2]
  · have e : low c = c := by unfold low; rw [if_neg h]
    rw [e]
theorem fold_low (l : List Int) : ∀ s : TS, (l.map low).foldl stepS s = l.foldl stepS s := by
  induction l with
  | nil => intro s; rfl
  | cons c l ih => intro s; rw [List.map_cons, List.foldl_cons, List.foldl_cons, step_low, ih]
theorem terms_case (a b : List Int) (ha : AllB a) (hb : AllB b) (h : a.map low = b.map low) : termsS (decS a) = termsS (decS b) := by
  have key : ∀ l, AllB l → termsS (decS l) = termsS (decS (l.map low)) := fun l hl => by
    rw [dec_low l.length l hl (Nat.le_refl _)]
    unfold termsS
    rw [fold_low]
  rw [key a ha, key b hb, h]
theorem case_end (b c : List Int) (g : List Bool) (i : Int) (hb : AllB b) (hc : AllB c) (h : c.map low = b.map low) (hl : b.length ≤ 2000) (k : Nat) (hk : 10000 ≤ k) : rubricklaw05_TokenCase.j1 (k + 1) b g c i false = some true := by
  have hlen : c.length = b.length := by have := congrArg List.length h; simpa using this
  have e := terms_case c b hc hb h
  have tb := terms_f b hb (by omega)
  have tc := terms_f c hc (by omega)
  have hn := decS_length b.length b hb (Nat.le_refl _)
  have ht := terms_len (decS b)
  rw [e] at tc
  generalize termsS (decS b) = ts at *
  have hsl := setS_len ts
  rw [rubricklaw05_TokenCase.j1, if_neg (by decide), tb, Option.bind_some, tc, Option.bind_some, same_f ts (by omega) k (by omega), Option.bind_some, if_pos rfl, set_of b ts tb (by omega) k (by omega), Option.bind_some, set_of c ts tc (by omega) k (by omega), Option.bind_some, same_f _ (by omega) k (by omega), Option.bind_some, if_pos rfl, knows05_ge k (by omega)]
  rfl
theorem low_set (b c : List Int) (i : Nat) (v : Int) (hi : i < c.length) (hv : low v = low c[i]) (h : c.map low = b.map low) : (c.set i v).map low = b.map low := by
  rw [← h]
  apply List.ext_getElem
  · simp
  · intro j h1 h2
    rw [List.getElem_map, List.getElem_map, List.getElem_set]
    split
    · next e => subst e; exact hv
    · rfl
theorem allB_set {c : List Int} (hc : AllB c) (i : Nat) (v : Int) (h0 : 0 ≤ v) (h1 : v ≤ 255) : AllB (c.set i v) := fun x hx => by
  rcases List.mem_or_eq_of_mem_set hx with hx | rfl
  · exact hc x hx
  · exact ⟨h0, h1⟩
theorem case_l0 (b : List Int) (g : List Bool) (hb : AllB b) (hl : b.length ≤ 2000) (d : Nat) : ∀ (i k : Nat) (c : List Int), AllB c → c.map low = b.map low → c.length - i ≤ d → 10010 + 3 * d ≤ k → rubricklaw05_TokenCase.l0 k b g c (i : Int) = some true := by
  induction d with
  | zero =>
    intro i k c hc h hi hk
    obtain ⟨k, rfl⟩ : ∃ k', k = k' + 2 := ⟨k - 2, by omega⟩
    rw [rubricklaw05_TokenCase.l0, if_neg (by omega)]
    exact case_end b c g i hb hc h hl k (by omega)
  | succ d ih =>
    intro i k c hc h hi hk
    obtain ⟨k, rfl⟩ : ∃ k', k = k' + 3 := ⟨k - 3, by omega⟩
    have hlen : c.length = b.length := by have := congrArg List.length h; simpa using this
    rw [rubricklaw05_TokenCase.l0]
    by_cases hic : i < c.length
    · rw [if_pos (by omega)]
      by_cases hig : i < g.length
      · have hx := hc c[i] (List.getElem_mem hic)
        have hrd := rd_at c i hic
        have hsw := succ_wrap i c.length hic (by omega)
        have next : ∀ c', AllB c' → c'.map low = b.map low → rubricklaw05_TokenCase.l0 k b g c' ((i + 1 : Nat) : Int) = some true := fun c' h1 h2 => by
          have hlen' : c'.length = b.length := by have := congrArg List.length h2; simpa using this
          exact ih (i + 1) k c' h1 h2 (by omega) (by omega)
        rw [decide_eq_true (by omega : (i : Int) < (g.length : Int)), rubricklaw05_TokenCase.j1, if_pos rfl, if_pos (by omega), if_pos (by omega)]
        have hno : rubricklaw05_TokenCase.j2 (k + 1) b g c (i : Int) false = some true := by
          rw [rubricklaw05_TokenCase.j2, if_neg (by decide), if_pos (by omega), if_pos (by omega)]
          by_cases hg : rdOf false g (i : Int) = true
          · rw [if_pos hg, if_pos (by omega), hrd, hsw]
            by_cases h1 : c[i] ≥ 65
            · rw [if_pos h1]
              by_cases h2 : c[i] ≤ 90
              · rw [if_pos h2, Int.toNat_natCast, show (c[i] + 32) % 256 = c[i] + 32 by omega]
                refine next _ (allB_set hc i _ (by omega) (by omega)) (low_set b c i _ hic ?_ h)
                unfold low
                rw [if_neg (by omega), if_pos (by omega)]
              · rw [if_neg h2]; exact next c hc h
            · rw [if_neg h1]; exact next c hc h
          · rw [if_neg hg, hsw]; exact next c hc h
        by_cases hg : rdOf false g (i : Int) = true
        · rw [if_pos hg, if_pos (by omega), hrd]
          by_cases h1 : c[i] ≥ 97
          · rw [if_pos h1]
            by_cases h2 : c[i] ≤ 122
            · rw [decide_eq_true h2, rubricklaw05_TokenCase.j2, if_pos rfl, if_pos (by omega), if_pos (by omega), hrd, hsw, Int.toNat_natCast, show (c[i] - 32) % 256 = c[i] - 32 by omega]
              refine next _ (allB_set hc i _ (by omega) (by omega)) (low_set b c i _ hic ?_ h)
              unfold low
              rw [if_pos (by omega), if_neg (by omega)]
              omega
            · rw [decide_eq_false h2]; exact hno
          · rw [if_neg h1]; exact hno
        · rw [if_neg hg]; exact hno
      · rw [decide_eq_false (by omega)]
        exact case_end b c g i hb hc h hl (k + 1) (by omega)
    · rw [if_neg (by omega)]
      exact case_end b c g i hb hc h hl (k + 1) (by omega)
theorem TokenCase_pure (b : List Int) (g : List Bool) (hw : ∀ x ∈ b, (Lit.int .u8 x).wf = true) : ∃ k, rubricklaw05_TokenCase.f k b g = some true := by
  refine ⟨100000, ?_⟩
  have hb := u8_bytes hw
  unfold rubricklaw05_TokenCase.f
  rw [great05, Option.bind_some]
  by_cases h : (b.length : Int) > 2000
  · rw [if_pos (decide_eq_true h), knows05_ge _ (by omega)]; rfl
  rw [if_neg (by simp; omega), Option.bind_some, List.nil_append, List.length_nil, if_pos (by omega)]
  exact case_l0 b g hb (by omega) b.length 0 100000 b hb rfl (by omega) (by omega)
end Go.Proofs.YtiihoodnejcjgaaDoor.P
