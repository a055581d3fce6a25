/- The plain law of decoding: all characters of bytes; back and forth. -/
import Derived.Test.YtiihoodnejcjgaaDoorZUtfD
namespace Go.Proofs.YtiihoodnejcjgaaDoor.P
open Go.RowKit Go.Proofs.YtiihoodnejcjgaaDoorW.PrintWords Go.Proofs.YtiihoodnejcjgaaDoorW.PrintLast Go.Proofs.YtiihoodnejcjgaaDoorW.PrintMore
set_option linter.unusedVariables false
set_option linter.unusedSimpArgs false

theorem chkS_cases (c n : Int) : (chkS c n = (c, n) ∧ isR c = true ∧ manyS c = n) ∨ chkS c n = (65533, 1) := by
  unfold chkS
  by_cases h : isR c = true ∧ manyS c = n
  · rw [if_pos h]; exact .inl ⟨rfl, h.1, h.2⟩
  · rw [if_neg h]; exact .inr rfl
/-- What the beginning of bytes is: a character with just its bytes, or Bad. -/
theorem firstS_inv (l : List Int) (hl : 0 < l.length) (hb : AllB l) : firstS l = (65533, 1) ∨ ∃ c, isR c = true ∧ firstS l = (c, manyS c) ∧ ∃ r, l = encS c ++ r ∧ ((encS c).length : Int) = manyS c := by
  cases l with
  | nil => cases hl
  | cons a t =>
    have ha := hb a (List.mem_cons_self ..)
    rw [firstS_cons]
    by_cases h1 : a < 128
    · rw [if_pos h1]
      exact .inr ⟨a, (isR_iff a).2 (by omega), by unfold manyS; rw [if_pos h1], t, by unfold encS; rw [if_pos h1]; rfl, by unfold encS manyS; rw [if_pos h1, if_pos h1]; rfl⟩
    rw [if_neg h1]
    by_cases h2 : a < 192
    · rw [if_pos h2]; exact .inl rfl
    rw [if_neg h2]
    by_cases h3 : a < 224
    · rw [if_pos h3]
      match t with
      | [] => exact .inl rfl
      | b1 :: t =>
        simp only [f2]
        by_cases c1 : contN b1 = true
        case neg => rw [if_neg c1]; exact .inl rfl
        have d1 := decide_eq_true_eq.mp c1
        rw [if_pos c1]
        rcases chkS_cases ((a - 192) * 64 + (b1 - 128)) 2 with ⟨he, hr, hm⟩ | he
        · refine .inr ⟨_, hr, by rw [he, hm], t, ?_, ?_⟩
          · have hn : 128 ≤ (a - 192) * 64 + (b1 - 128) ∧ (a - 192) * 64 + (b1 - 128) < 2048 := by unfold manyS at hm; (repeat' split at hm) <;> omega
            unfold encS
            rw [if_neg (by omega), if_pos (by omega)]
            simp only [List.cons_append, List.nil_append, List.cons.injEq, and_true]
            omega
          · rw [hm]
            have hn : 128 ≤ (a - 192) * 64 + (b1 - 128) ∧ (a - 192) * 64 + (b1 - 128) < 2048 := by unfold manyS at hm; (repeat' split at hm) <;> omega
            unfold encS
            rw [if_neg (by omega), if_pos (by omega)]
            rfl
        · rw [he]; exact .inl rfl
    rw [if_neg h3]
    by_cases h4 : a < 240
    · rw [if_pos h4]
      match t with
      | [] => exact .inl rfl
      | [b1] => exact .inl rfl
      | b1 :: b2 :: t =>
        simp only [f3]
        by_cases c1 : contN b1 = true
        case neg => rw [if_neg c1]; exact .inl rfl
        have d1 := decide_eq_true_eq.mp c1
        rw [if_pos c1]
        by_cases c2 : contN b2 = true
        case neg => rw [if_neg c2]; exact .inl rfl
        have d2 := decide_eq_true_eq.mp c2
        rw [if_pos c2]
        rcases chkS_cases (((a - 224) * 64 + (b1 - 128)) * 64 + (b2 - 128)) 3 with ⟨he, hr, hm⟩ | he
        · have hn : 2048 ≤ ((a - 224) * 64 + (b1 - 128)) * 64 + (b2 - 128) ∧ ((a - 224) * 64 + (b1 - 128)) * 64 + (b2 - 128) < 65536 := by unfold manyS at hm; (repeat' split at hm) <;> omega
          refine .inr ⟨_, hr, by rw [he, hm], t, ?_, ?_⟩
          · unfold encS
            rw [if_neg (by omega), if_neg (by omega), if_pos (by omega)]
            simp only [List.cons_append, List.nil_append, List.cons.injEq, and_true]
            omega
          · rw [hm]
            unfold encS
            rw [if_neg (by omega), if_neg (by omega), if_pos (by omega)]
            rfl
        · rw [he]; exact .inl rfl
    rw [if_neg h4]
    by_cases h5 : a < 248
    · rw [if_pos h5]
      match t with
      | [] => exact .inl rfl
      | [b1] => exact .inl rfl
      | [b1, b2] => exact .inl rfl
      | b1 :: b2 :: b3 :: t =>
        simp only [f4]
        by_cases c1 : contN b1 = true
        case neg => rw [if_neg c1]; exact .inl rfl
        have d1 := decide_eq_true_eq.mp c1
        rw [if_pos c1]
        by_cases c2 : contN b2 = true
        case neg => rw [if_neg c2]; exact .inl rfl
        have d2 := decide_eq_true_eq.mp c2
        rw [if_pos c2]
        by_cases c3 : contN b3 = true
        case neg => rw [if_neg c3]; exact .inl rfl
        have d3 := decide_eq_true_eq.mp c3
        rw [if_pos c3]
        rcases chkS_cases ((((a - 240) * 64 + (b1 - 128)) * 64 + (b2 - 128)) * 64 + (b3 - 128)) 4 with ⟨he, hr, hm⟩ | he
        · have hn : 65536 ≤ (((a - 240) * 64 + (b1 - 128)) * 64 + (b2 - 128)) * 64 + (b3 - 128) := by unfold manyS at hm; (repeat' split at hm) <;> omega
          refine .inr ⟨_, hr, by rw [he, hm], t, ?_, ?_⟩
          · unfold encS
            rw [if_neg (by omega), if_neg (by omega), if_neg (by omega)]
            simp only [List.cons_append, List.nil_append, List.cons.injEq, and_true]
            omega
          · rw [hm]
            unfold encS
            rw [if_neg (by omega), if_neg (by omega), if_neg (by omega)]
            rfl
        · rw [he]; exact .inl rfl
    rw [if_neg h5]; exact .inl rfl
theorem many_pos (c : Int) : 1 ≤ manyS c ∧ manyS c ≤ 4 := by unfold manyS; (repeat' split) <;> omega
theorem firstS_n (l : List Int) (hl : 0 < l.length) (hb : AllB l) : 1 ≤ (firstS l).2 ∧ (firstS l).2 ≤ (l.length : Int) := by
  rcases firstS_inv l hl hb with h | ⟨c, hr, h, r, he, hn⟩
  · rw [h]; dsimp only; omega
  · rw [h]
    have := many_pos c
    refine ⟨this.1, ?_⟩
    have h2 : l.length = (encS c).length + r.length := by rw [he, List.length_append]
    dsimp only
    omega
theorem many_len (c : Int) : ((encS c).length : Int) = manyS c := by
  unfold encS manyS
  (repeat' split) <;> rfl
theorem firstS_enc (c : Int) (r : List Int) (hr : isR c = true) : firstS (encS c ++ r) = (c, manyS c) := by
  have h := (isR_iff c).1 hr
  have hc : ∀ x : Int, contN (128 + x % 64) = true := fun x => decide_eq_true (by omega)
  have hk : chkS c (manyS c) = (c, manyS c) := by unfold chkS; rw [if_pos ⟨hr, rfl⟩]
  by_cases h1 : c < 128
  · have e : encS c = [c] := by unfold encS; rw [if_pos h1]
    have m : manyS c = 1 := by unfold manyS; rw [if_pos h1]
    rw [e, m, List.cons_append, firstS_cons, if_pos h1]
  by_cases h2 : c < 2048
  · have e : encS c = [192 + c / 64, 128 + c % 64] := by unfold encS; rw [if_neg h1, if_pos h2]
    have m : manyS c = 2 := by unfold manyS; rw [if_neg h1, if_pos h2]
    rw [m] at hk
    rw [e, m, List.cons_append, firstS_cons, if_neg (by omega), if_neg (by omega), if_pos (by omega)]
    simp only [List.cons_append, f2]
    rw [if_pos (hc c), show (192 + c / 64 - 192) * 64 + (128 + c % 64 - 128) = c by omega, hk]
  by_cases h3 : c < 65536
  · have e : encS c = [224 + c / 4096, 128 + c / 64 % 64, 128 + c % 64] := by unfold encS; rw [if_neg h1, if_neg h2, if_pos h3]
    have m : manyS c = 3 := by unfold manyS; rw [if_neg h1, if_neg h2, if_pos h3]
    rw [m] at hk
    rw [e, m, List.cons_append, firstS_cons, if_neg (by omega), if_neg (by omega), if_neg (by omega), if_pos (by omega)]
    simp only [List.cons_append, f3]
    rw [if_pos (hc _), if_pos (hc _), show ((224 + c / 4096 - 224) * 64 + (128 + c / 64 % 64 - 128)) * 64 + (128 + c % 64 - 128) = c by omega, hk]
  · have e : encS c = [240 + c / 262144, 128 + c / 4096 % 64, 128 + c / 64 % 64, 128 + c % 64] := by unfold encS; rw [if_neg h1, if_neg h2, if_neg h3]
    have m : manyS c = 4 := by unfold manyS; rw [if_neg h1, if_neg h2, if_neg h3]
    rw [m] at hk
    rw [e, m, List.cons_append, firstS_cons, if_neg (by omega), if_neg (by omega), if_neg (by omega), if_neg (by omega), if_pos (by omega)]
    simp only [List.cons_append, f4]
    rw [if_pos (hc _), if_pos (hc _), if_pos (hc _), show (((240 + c / 262144 - 240) * 64 + (128 + c / 4096 % 64 - 128)) * 64 + (128 + c / 64 % 64 - 128)) * 64 + (128 + c % 64 - 128) = c by omega, hk]
/-- A byte below 128 behind bytes: the first character is the same. -/
theorem firstS_mark (l : List Int) (m : Int) (r : List Int) (hl : 0 < l.length) (hm : m < 128) : firstS (l ++ m :: r) = firstS l := by
  have hc : contN m = false := decide_eq_false (by omega)
  match l with
  | a :: t =>
    rw [List.cons_append, firstS_cons, firstS_cons]
    congr 2
    · congr 1
      · match t with
        | [] => simp only [List.nil_append, f2, hc, Bool.false_eq_true, if_false]
        | b1 :: t => rfl
      congr 1
      · match t with
        | [] => cases r <;> simp only [List.nil_append, f3, hc, Bool.false_eq_true, if_false]
        | [b1] => simp only [List.cons_append, List.nil_append, f3, hc, Bool.false_eq_true, if_false, ite_self]
        | b1 :: b2 :: t => rfl
      congr 1
      · match t with
        | [] => rcases r with _ | ⟨r1, _ | ⟨r2, r⟩⟩ <;> simp only [List.nil_append, f4, hc, Bool.false_eq_true, if_false]
        | [b1] => cases r <;> simp only [List.cons_append, List.nil_append, f4, hc, Bool.false_eq_true, if_false, ite_self]
        | [b1, b2] => simp only [List.cons_append, List.nil_append, f4, hc, Bool.false_eq_true, if_false, ite_self]
        | b1 :: b2 :: b3 :: t => rfl

/-- The characters of bytes (d: no fewer than there are bytes). -/
def decF : Nat → List Int → List Int
  | 0, _ => []
  | _ + 1, [] => []
  | d + 1, a :: t => (firstS (a :: t)).1 :: decF d ((a :: t).drop (firstS (a :: t)).2.toNat)
def decS (l : List Int) : List Int := decF l.length l
theorem AllB.drop {l : List Int} (h : AllB l) (n : Nat) : AllB (l.drop n) := fun x hx => h x (List.mem_of_mem_drop hx)
theorem decF_eq (d : Nat) : ∀ l : List Int, AllB l → l.length ≤ d → decF d l = decF l.length l := by
  induction d using Nat.strongRecOn with
  | _ d ih =>
    intro l hb hd
    match d, l with
    | 0, l => obtain rfl : l = [] := List.eq_nil_of_length_eq_zero (by omega); rfl
    | d + 1, [] => rfl
    | d + 1, a :: t =>
      have hn := firstS_n (a :: t) (by simp) hb
      have hlen : ((a :: t).drop (firstS (a :: t)).2.toNat).length ≤ t.length := by rw [List.length_drop, List.length_cons]; omega
      simp only [List.length_cons] at hd
      show _ :: decF d _ = _ :: decF t.length _
      rw [ih d (by omega) _ (hb.drop _) (by omega)]
      by_cases e : d = t.length
      · rw [← ih d (by omega) _ (hb.drop _) (by omega), e]
      · rw [ih t.length (by omega) _ (hb.drop _) hlen]
theorem decS_nil : decS [] = [] := rfl
theorem decS_cons (l : List Int) (hl : 0 < l.length) (hb : AllB l) : decS l = (firstS l).1 :: decS (l.drop (firstS l).2.toNat) := by
  match l with
  | a :: t =>
    have hn := firstS_n (a :: t) (by simp) hb
    have hlen : ((a :: t).drop (firstS (a :: t)).2.toNat).length ≤ t.length := by rw [List.length_drop, List.length_cons]; omega
    show _ :: decF t.length _ = _
    rw [decF_eq _ _ (hb.drop _) hlen]
    rfl
theorem dec_f (d : Nat) : ∀ (l acc : List Int) (k : Nat), AllB l → l.length ≤ d → acc.length + l.length < 10000000000000 → d + 20 ≤ k → utf_Decode.l0 k l acc = some (acc ++ decS l) := by
  induction d with
  | zero =>
    intro l acc k hb hd ha hk
    obtain ⟨m, rfl⟩ : ∃ m, k = m + 1 := ⟨k - 1, by omega⟩
    obtain rfl : l = [] := List.eq_nil_of_length_eq_zero (by omega)
    simp only [utf_Decode.l0]
    rw [if_neg (by simp), decS_nil, List.append_nil]
  | succ d ih =>
    intro l acc k hb hd ha hk
    obtain ⟨m, rfl⟩ : ∃ m, k = m + 1 := ⟨k - 1, by omega⟩
    by_cases hl : 0 < l.length
    · have hn := firstS_n l hl hb
      simp only [utf_Decode.l0]
      rw [if_pos (by exact_mod_cast hl), first_f l hl hb m (by omega), Option.bind_some, if_pos (by omega), if_pos (by omega), if_pos hn.2]
      rw [ih _ _ _ (hb.drop _) (by rw [List.length_drop]; omega) (by rw [List.length_append, List.length_drop, List.length_singleton]; omega) (by omega)]
      rw [decS_cons l hl hb, List.append_assoc]
      rfl
    · obtain rfl : l = [] := List.eq_nil_of_length_eq_zero (by omega)
      simp only [utf_Decode.l0]
      rw [if_neg (by simp), decS_nil, List.append_nil]
theorem decode_f (l : List Int) (k : Nat) (hb : AllB l) (hl : l.length < 1000000000000) (hk : l.length + 20 ≤ k) : utf_Decode.f k l = some (decS l) := by
  unfold utf_Decode.f
  rw [dec_f l.length l [] k hb (Nat.le_refl _) (by simp; omega) hk, List.nil_append]
theorem decS_enc (c : Int) (r : List Int) (hr : isR c = true) (hb : AllB (encS c ++ r)) : decS (encS c ++ r) = c :: decS r := by
  have hp := many_pos c
  have hl := many_len c
  rw [decS_cons _ (by rw [List.length_append]; omega) hb, firstS_enc c r hr]
  dsimp only
  rw [show (manyS c).toNat = (encS c).length by omega, List.drop_left]
theorem decS_mark (m : Int) (b : List Int) (h0 : 0 ≤ m) (hm : m < 128) (hbb : AllB b) (d : Nat) : ∀ a : List Int, AllB a → a.length ≤ d → decS (a ++ m :: b) = decS a ++ m :: decS b := by
  have hmb : AllB (m :: b) := fun x hx => by
    rcases List.mem_cons.1 hx with rfl | hx
    · omega
    · exact hbb x hx
  have hbase : decS (m :: b) = m :: decS b := by
    rw [decS_cons _ (by simp) hmb, firstS_cons, if_pos hm]
    rfl
  induction d with
  | zero =>
    intro a ha hd
    obtain rfl : a = [] := List.eq_nil_of_length_eq_zero (by omega)
    rw [List.nil_append, hbase]; rfl
  | succ d ih =>
    intro a ha hd
    by_cases hl : 0 < a.length
    · have hn := firstS_n a hl ha
      have hab : AllB (a ++ m :: b) := fun x hx => by
        rcases List.mem_append.1 hx with hx | hx
        · exact ha x hx
        · exact hmb x hx
      rw [decS_cons _ (by rw [List.length_append]; omega) hab, firstS_mark a m b hl hm, decS_cons a hl ha, List.drop_append_of_le_length (by omega),
        ih _ (ha.drop _) (by rw [List.length_drop]; omega)]
      rfl
    · obtain rfl : a = [] := List.eq_nil_of_length_eq_zero (by omega)
      rw [List.nil_append, hbase]; rfl
theorem decS_length (d : Nat) : ∀ l : List Int, AllB l → l.length ≤ d → (decS l).length ≤ l.length := by
  induction d with
  | zero => intro l hb hd; obtain rfl : l = [] := List.eq_nil_of_length_eq_zero (by omega); exact Nat.le_refl _
  | succ d ih =>
    intro l hb hd
    by_cases hl : 0 < l.length
    · have hn := firstS_n l hl hb
      rw [decS_cons l hl hb, List.length_cons]
      have := ih _ (hb.drop (firstS l).2.toNat) (by rw [List.length_drop]; omega)
      rw [List.length_drop] at this
      omega
    · obtain rfl : l = [] := List.eq_nil_of_length_eq_zero (by omega); exact Nat.le_refl _
/-- Bytes without Bad among their characters are just the characters' bytes. -/
theorem decS_only (d : Nat) : ∀ l : List Int, AllB l → l.length ≤ d → (∀ c ∈ decS l, c ≠ 65533) → (decS l).flatMap encS = l ∧ ∀ c ∈ decS l, isR c = true := by
  induction d with
  | zero => intro l hb hd _; obtain rfl : l = [] := List.eq_nil_of_length_eq_zero (by omega); exact ⟨rfl, fun c h => by cases h⟩
  | succ d ih =>
    intro l hb hd hc
    by_cases hl : 0 < l.length
    · have hn := firstS_n l hl hb
      rw [decS_cons l hl hb] at hc ⊢
      rcases firstS_inv l hl hb with h | ⟨c, hr, h, r, he, hlen⟩
      · exact absurd (by rw [h]) (hc _ (List.mem_cons_self ..))
      · rw [h] at hc ⊢
        dsimp only at hc ⊢
        have hdrop : l.drop (manyS c).toNat = r := by
          rw [he, show (manyS c).toNat = (encS c).length by omega, List.drop_left]
        rw [hdrop] at hc ⊢
        have hlr : r.length ≤ d := by
          have : l.length = (encS c).length + r.length := by rw [he, List.length_append]
          have := many_pos c
          omega
        obtain ⟨q1, q2⟩ := ih r (by rw [← hdrop]; exact hb.drop _) hlr (fun x hx => hc x (List.mem_cons_of_mem _ hx))
        refine ⟨by rw [List.flatMap_cons, q1, ← he], fun x hx => ?_⟩
        rcases List.mem_cons.1 hx with rfl | hx
        · exact hr
        · exact q2 x hx
    · obtain rfl : l = [] := List.eq_nil_of_length_eq_zero (by omega); exact ⟨rfl, fun c h => by cases h⟩
theorem encS_bytes (c : Int) (hr : isR c = true) : AllB (encS c) := by
  have h := (isR_iff c).1 hr
  unfold encS AllB
  intro x hx
  (repeat' split at hx) <;> simp only [List.mem_cons, List.not_mem_nil, or_false] at hx <;> omega
end Go.Proofs.YtiihoodnejcjgaaDoor.P
