/- The plain law of reading characters: the first one of bytes, and all. -/
import Derived.Test.YtiihoodnejcjgaaDoorZUtfC
import Derived.KernelRfl
namespace Go.Proofs.YtiihoodnejcjgaaDoor.P
open Go.RowKit Go.Proofs.YtiihoodnejcjgaaDoorW.PrintWords Go.Proofs.YtiihoodnejcjgaaDoorW.PrintLast Go.Proofs.YtiihoodnejcjgaaDoorW.PrintMore
set_option linter.unusedVariables false
set_option linter.unusedSimpArgs false

/-- Is it a byte that goes on? -/
def contN (b : Int) : Bool := decide (128 ≤ b ∧ b < 192)
/-- A number of so many bytes, if it is a character and has just so many. -/
def chkS (c n : Int) : Int × Int := if isR c = true ∧ manyS c = n then (c, n) else (65533, 1)
/-- What one, two or three further bytes make of a beginning. -/
def f2 (c : Int) : List Int → Int × Int
  | b1 :: _ => if contN b1 = true then chkS (c * 64 + (b1 - 128)) 2 else (65533, 1)
  | [] => (65533, 1)
def f3 (c : Int) : List Int → Int × Int
  | b1 :: b2 :: _ => if contN b1 = true then (if contN b2 = true then chkS ((c * 64 + (b1 - 128)) * 64 + (b2 - 128)) 3 else (65533, 1)) else (65533, 1)
  | [_] => (65533, 1)
  | [] => (65533, 1)
def f4 (c : Int) : List Int → Int × Int
  | b1 :: b2 :: b3 :: _ => if contN b1 = true then (if contN b2 = true then (if contN b3 = true then chkS (((c * 64 + (b1 - 128)) * 64 + (b2 - 128)) * 64 + (b3 - 128)) 4 else (65533, 1)) else (65533, 1)) else (65533, 1)
  | [_, _] => (65533, 1)
  | [_] => (65533, 1)
  | [] => (65533, 1)
/-- The character at the beginning, and how many bytes it has. -/
def firstS : List Int → Int × Int
  | [] => (65533, 1)
  | a :: t => if a < 128 then (a, 1) else if a < 192 then (65533, 1) else if a < 224 then f2 (a - 192) t else if a < 240 then f3 (a - 224) t else if a < 248 then f4 (a - 240) t else (65533, 1)
theorem firstS_cons (a : Int) (t : List Int) : firstS (a :: t) = if a < 128 then (a, 1) else if a < 192 then (65533, 1) else if a < 224 then f2 (a - 192) t else if a < 240 then f3 (a - 224) t else if a < 248 then f4 (a - 240) t else (65533, 1) := rfl

theorem tst_all : ∀ a : Fin 256, ∀ i : Fin 5, (decide (bits .and .u8 (shl .u8 (a.val : Int) (i.val : Int)) 128 = 0)) = decide ((a.val / 2 ^ (7 - i.val)) % 2 = 0) := by decide +kernel
theorem tst (a : Int) (i : Nat) (h0 : 0 ≤ a) (h1 : a ≤ 255) (hi : i < 5) : (bits .and .u8 (shl .u8 a (i : Int)) 128 = 0) ↔ (a.toNat / 2 ^ (7 - i)) % 2 = 0 := by
  have h := tst_all ⟨a.toNat, by omega⟩ ⟨i, hi⟩
  dsimp only at h
  rw [Int.toNat_of_nonneg h0] at h
  exact decide_eq_decide.1 h
theorem cont_all : ∀ a : Fin 256, decide (bits .and .u8 (a.val : Int) 192 = 128) = decide (128 ≤ a.val ∧ a.val < 192) := by decide +kernel
theorem cont_f (a : Int) (h0 : 0 ≤ a) (h1 : a ≤ 255) : (bits .and .u8 a 192 = 128) ↔ contN a = true := by
  have h := cont_all ⟨a.toNat, by omega⟩
  dsimp only at h
  rw [Int.toNat_of_nonneg h0] at h
  have h2 := decide_eq_decide.1 h
  unfold contN
  rw [decide_eq_true_eq, h2]
  omega
theorem mask_all : ∀ a : Fin 256, bits .and .i64 (a.val : Int) 31 = (a.val : Int) % 32 ∧ bits .and .i64 (a.val : Int) 15 = (a.val : Int) % 16 ∧ bits .and .i64 (a.val : Int) 7 = (a.val : Int) % 8 := by decide +kernel
theorem mask_f (a : Int) (h0 : 0 ≤ a) (h1 : a ≤ 255) : bits .and .i64 a 31 = a % 32 ∧ bits .and .i64 a 15 = a % 16 ∧ bits .and .i64 a 7 = a % 8 := by
  have h := mask_all ⟨a.toNat, by omega⟩
  dsimp only at h
  rw [Int.toNat_of_nonneg h0] at h
  exact h
theorem acc_f (c b : Int) (hc0 : 0 ≤ c) (hc : c < 1000000000) (hb0 : 0 ≤ b) (hb : b ≤ 255) (hcn : contN b = true) : bits .or .i64 (wrap64 (c * 64)) (wrap64 (bits .and .u8 b 63)) = c * 64 + (b - 128) := by
  unfold contN at hcn
  rw [decide_eq_true_eq] at hcn
  rw [u8_and63 _ hb0 (by omega), wrap_in (by omega) (by omega), wrap_in (by omega) (by omega), i64_or6 _ _ (by omega) (by omega) (by omega) (by omega) (by omega)]
  omega

/-- The end of the walk: is the number a character of just so many bytes? -/
theorem l1_end (k : Nat) (n c : Int) (l : List Int) (m : Int) (i : Int) (hi : ¬ i < m) : utf_first.l1 (k + 1) n c l m i = some (chkS c n) := by
  simp only [utf_first.l1]
  rw [if_neg hi, right_f, Option.bind_some, many_f, Option.bind_some]
  unfold chkS
  by_cases hr : isR c = true
  · rw [if_pos hr]
    by_cases hm : manyS c = n
    · rw [if_pos hm, if_pos ⟨hr, hm⟩]
    · rw [if_neg hm, if_neg (fun h => hm h.2)]
  · rw [if_neg hr, if_neg (fun h => hr h.1)]
/-- One step of it. -/
theorem l1_step (k : Nat) (n c : Int) (l : List Int) (i : Nat) (b : Int) (hi : l[i]? = some b) (hs : i < 10) (hc0 : 0 ≤ c) (hc : c < 1000000000) (hb0 : 0 ≤ b) (hb : b ≤ 255) :
    utf_first.l1 (k + 1) n c l (l.length : Int) (i : Int) = if contN b = true then utf_first.l1 k n (c * 64 + (b - 128)) l (l.length : Int) ((i + 1 : Nat) : Int) else some (65533, 1) := by
  have hl : i < l.length := (List.getElem?_eq_some_iff.1 hi).1
  have hr : rd l (i : Int) = b := by
    unfold rd
    rw [Int.toNat_natCast, List.getD_eq_getElem?_getD, hi]
    rfl
  simp only [utf_first.l1]
  rw [if_pos (by omega), if_pos (by omega), if_pos (by omega), hr]
  by_cases h : contN b = true
  · rw [if_pos ((cont_f b hb0 hb).2 h), if_pos h, acc_f c b hc0 hc hb0 hb h]
    have : wrap64 ((i : Int) + 1) = ((i + 1 : Nat) : Int) := by rw [wrap_in (by omega) (by omega)]; omega
    rw [this]
  · rw [if_neg (fun h2 => h ((cont_f b hb0 hb).1 h2)), if_neg h]

theorem first_f (l : List Int) (hl : 0 < l.length) (hb : AllB l) (k : Nat) (hk : 16 ≤ k) : utf_first.f k l = some (firstS l) := by
  obtain ⟨m, rfl⟩ : ∃ m, k = m + 16 := ⟨k - 16, by omega⟩
  cases l with
  | nil => cases hl
  | cons a t =>
    have ha := hb a (List.mem_cons_self ..)
    unfold utf_first.f
    rw [if_pos (by exact_mod_cast hl)]
    have hra : rd (a :: t) 0 = a := rfl
    rw [hra]
    have t0 : (bits .and .u8 (shl .u8 a 0) 128 = 0) ↔ (a.toNat / 128) % 2 = 0 := tst a 0 ha.1 ha.2 (by decide)
    have t1 : (bits .and .u8 (shl .u8 a 1) 128 = 0) ↔ (a.toNat / 64) % 2 = 0 := tst a 1 ha.1 ha.2 (by decide)
    have t2 : (bits .and .u8 (shl .u8 a 2) 128 = 0) ↔ (a.toNat / 32) % 2 = 0 := tst a 2 ha.1 ha.2 (by decide)
    have t3 : (bits .and .u8 (shl .u8 a 3) 128 = 0) ↔ (a.toNat / 16) % 2 = 0 := tst a 3 ha.1 ha.2 (by decide)
    have t4 : (bits .and .u8 (shl .u8 a 4) 128 = 0) ↔ (a.toNat / 8) % 2 = 0 := tst a 4 ha.1 ha.2 (by decide)
    have w0 : wrap64 ((0 : Int) + 1) = 1 := by unfold wrap64; omega
    have w1 : wrap64 ((1 : Int) + 1) = 2 := by unfold wrap64; omega
    have w2 : wrap64 ((2 : Int) + 1) = 3 := by unfold wrap64; omega
    have w3 : wrap64 ((3 : Int) + 1) = 4 := by unfold wrap64; omega
    have w4 : wrap64 ((4 : Int) + 1) = 5 := by unfold wrap64; omega
    have wa : wrap64 a = a := wrap_in (by omega) (by omega)
    have s0 : ∀ k, utf_first.l0 (k + 1) (a :: t) a 0 = if a < 128 then utf_first.j1 k (a :: t) a 0 else utf_first.l0 k (a :: t) a 1 := by
      intro k
      simp only [utf_first.l0]
      rw [if_pos (by decide), if_pos (by decide), w0]
      by_cases h : a < 128
      · rw [if_pos (t0.2 (by omega)), if_pos h]
      · rw [if_neg (fun h2 => by have := t0.1 h2; omega), if_neg h]
    have s1 : ¬ a < 128 → ∀ k, utf_first.l0 (k + 1) (a :: t) a 1 = if a < 192 then utf_first.j1 k (a :: t) a 1 else utf_first.l0 k (a :: t) a 2 := by
      intro hh k
      simp only [utf_first.l0]
      rw [if_pos (by decide), if_pos (by decide), w1]
      by_cases h : a < 192
      · rw [if_pos (t1.2 (by omega)), if_pos h]
      · rw [if_neg (fun h2 => by have := t1.1 h2; omega), if_neg h]
    have s2 : ¬ a < 192 → ∀ k, utf_first.l0 (k + 1) (a :: t) a 2 = if a < 224 then utf_first.j1 k (a :: t) a 2 else utf_first.l0 k (a :: t) a 3 := by
      intro hh k
      simp only [utf_first.l0]
      rw [if_pos (by decide), if_pos (by decide), w2]
      by_cases h : a < 224
      · rw [if_pos (t2.2 (by omega)), if_pos h]
      · rw [if_neg (fun h2 => by have := t2.1 h2; omega), if_neg h]
    have s3 : ¬ a < 224 → ∀ k, utf_first.l0 (k + 1) (a :: t) a 3 = if a < 240 then utf_first.j1 k (a :: t) a 3 else utf_first.l0 k (a :: t) a 4 := by
      intro hh k
      simp only [utf_first.l0]
      rw [if_pos (by decide), if_pos (by decide), w3]
      by_cases h : a < 240
      · rw [if_pos (t3.2 (by omega)), if_pos h]
      · rw [if_neg (fun h2 => by have := t3.1 h2; omega), if_neg h]
    have s4 : ¬ a < 240 → ∀ k, utf_first.l0 (k + 2) (a :: t) a 4 = if a < 248 then utf_first.j1 (k + 1) (a :: t) a 4 else utf_first.j1 k (a :: t) a 5 := by
      intro hh k
      simp only [utf_first.l0]
      rw [if_pos (by decide), if_pos (by decide), w4]
      by_cases h : a < 248
      · rw [if_pos (t4.2 (by omega)), if_pos h]
      · rw [if_neg (fun h2 => by have := t4.1 h2; omega), if_neg h, if_neg (by decide)]
    have bad : ∀ k n, utf_first.j2 (k + 1) (a :: t) a n true = some (65533, 1) := by
      intro k n
      simp only [utf_first.j2, if_true]
    have good : ∀ (k : Nat) (n : Int) (c : Int), 2 ≤ n → n ≤ 4 → n ≤ ((a :: t).length : Int) → bits .and .i64 a (wrap64 ((shl .i64 1 (wrap64 (7 - n))) - 1)) = c →
        utf_first.j2 (k + 1) (a :: t) a n false = utf_first.l1 k n c (t.take (n.toNat - 1)) ((t.take (n.toNat - 1)).length : Int) 0 := by
      intro k n c h2 h4 hn hc
      have e : ((a :: t).take n.toNat).drop 1 = t.take (n.toNat - 1) := by
        obtain ⟨q, hq⟩ : ∃ q, n.toNat = q + 1 := ⟨n.toNat - 1, by omega⟩
        rw [hq]
        rfl
      simp only [utf_first.j2, Bool.false_eq_true, if_false]
      have w7 : wrap64 (7 - n) = 7 - n := wrap_in (by omega) (by omega)
      rw [if_pos (by rw [w7]; omega), if_pos (by omega), if_pos hn, e, wa, hc]
    show utf_first.l0 (m + 16) (a :: t) a 0 = some (firstS (a :: t))
    rw [s0, firstS_cons]
    by_cases h1 : a < 128
    · rw [if_pos h1, if_pos h1]
      simp only [utf_first.j1, if_true, wa]
    rw [if_neg h1, if_neg h1, s1 h1]
    by_cases h2 : a < 192
    · rw [if_pos h2, if_pos h2]
      simp only [utf_first.j1, show ¬ ((1 : Int) = 0) by decide, if_false, if_true, bad]
    rw [if_neg h2, if_neg h2, s2 h2]
    by_cases h3 : a < 224
    · rw [if_pos h3, if_pos h3]
      simp only [utf_first.j1, show ¬ ((2 : Int) = 0) by decide, show ¬ ((2 : Int) = 1) by decide, show ¬ ((2 : Int) > 4) by decide, if_false]
      cases t with
      | nil => simp only [List.length_cons, List.length_nil, show (decide (((0 + 1 : Nat) : Int) < 2)) = true by decide, bad, f2, f3, f4]
      | cons b1 t =>
        have hb1 := hb b1 (by simp)
        simp only [f2, f3, f4]
        rw [decide_eq_false (by simp only [List.length_cons]; omega), good _ 2 (a - 192) (by decide) (by decide) (by simp only [List.length_cons]; omega) (by
          rw [show wrap64 (shl .i64 1 (wrap64 (7 - 2)) - 1) = 31 by kernel_rfl, (mask_f a ha.1 ha.2).1]; omega)]
        rw [show (2 : Int).toNat - 1 = 1 by decide]
        simp only [List.take_succ_cons, List.take_zero]
        rw [show (0 : Int) = ((0 : Nat) : Int) by rfl, l1_step _ 2 _ _ 0 b1 rfl (by decide) (by omega) (by omega) hb1.1 hb1.2]
        by_cases c1 : contN b1 = true
        · rw [if_pos c1, if_pos c1, l1_end _ _ _ _ _ _ (by simp)]
        · rw [if_neg c1, if_neg c1]
    rw [if_neg h3, if_neg h3, s3 h3]
    by_cases h4 : a < 240
    · rw [if_pos h4, if_pos h4]
      simp only [utf_first.j1, show ¬ ((3 : Int) = 0) by decide, show ¬ ((3 : Int) = 1) by decide, show ¬ ((3 : Int) > 4) by decide, if_false]
      match t, hb with
      | [], _ => simp only [List.length_cons, List.length_nil, show (decide (((0 + 1 : Nat) : Int) < 3)) = true by decide, bad, f2, f3, f4]
      | [b1], _ => simp only [List.length_cons, List.length_nil, show (decide (((0 + 1 + 1 : Nat) : Int) < 3)) = true by decide, bad, f2, f3, f4]
      | b1 :: b2 :: t, hb =>
        have hb1 := hb b1 (by simp)
        have hb2 := hb b2 (by simp)
        simp only [f2, f3, f4]
        rw [decide_eq_false (by simp only [List.length_cons]; omega), good _ 3 (a - 224) (by decide) (by decide) (by simp only [List.length_cons]; omega) (by
          rw [show wrap64 (shl .i64 1 (wrap64 (7 - 3)) - 1) = 15 by kernel_rfl, (mask_f a ha.1 ha.2).2.1]; omega)]
        rw [show (3 : Int).toNat - 1 = 2 by decide]
        simp only [List.take_succ_cons, List.take_zero]
        rw [show (0 : Int) = ((0 : Nat) : Int) by rfl, l1_step _ 3 _ _ 0 b1 rfl (by decide) (by omega) (by omega) hb1.1 hb1.2]
        by_cases c1 : contN b1 = true
        · rw [if_pos c1, if_pos c1, l1_step _ 3 _ _ 1 b2 rfl (by decide) (by have := decide_eq_true_eq.mp c1; omega) (by have := decide_eq_true_eq.mp c1; omega) hb2.1 hb2.2]
          by_cases c2 : contN b2 = true
          · rw [if_pos c2, if_pos c2, l1_end _ _ _ _ _ _ (by simp)]
          · rw [if_neg c2, if_neg c2]
        · rw [if_neg c1, if_neg c1]
    rw [if_neg h4, if_neg h4, s4 h4]
    by_cases h5 : a < 248
    · rw [if_pos h5, if_pos h5]
      simp only [utf_first.j1, show ¬ ((4 : Int) = 0) by decide, show ¬ ((4 : Int) = 1) by decide, show ¬ ((4 : Int) > 4) by decide, if_false]
      match t, hb with
      | [], _ => simp only [List.length_cons, List.length_nil, show (decide (((0 + 1 : Nat) : Int) < 4)) = true by decide, bad, f2, f3, f4]
      | [b1], _ => simp only [List.length_cons, List.length_nil, show (decide (((0 + 1 + 1 : Nat) : Int) < 4)) = true by decide, bad, f2, f3, f4]
      | [b1, b2], _ => simp only [List.length_cons, List.length_nil, show (decide (((0 + 1 + 1 + 1 : Nat) : Int) < 4)) = true by decide, bad, f2, f3, f4]
      | b1 :: b2 :: b3 :: t, hb =>
        have hb1 := hb b1 (by simp)
        have hb2 := hb b2 (by simp)
        have hb3 := hb b3 (by simp)
        simp only [f2, f3, f4]
        rw [decide_eq_false (by simp only [List.length_cons]; omega), good _ 4 (a - 240) (by decide) (by decide) (by simp only [List.length_cons]; omega) (by
          rw [show wrap64 (shl .i64 1 (wrap64 (7 - 4)) - 1) = 7 by kernel_rfl, (mask_f a ha.1 ha.2).2.2]; omega)]
        rw [show (4 : Int).toNat - 1 = 3 by decide]
        simp only [List.take_succ_cons, List.take_zero]
        rw [show (0 : Int) = ((0 : Nat) : Int) by rfl, l1_step _ 4 _ _ 0 b1 rfl (by decide) (by omega) (by omega) hb1.1 hb1.2]
        by_cases c1 : contN b1 = true
        · have d1 := decide_eq_true_eq.mp c1
          rw [if_pos c1, if_pos c1, l1_step _ 4 _ _ 1 b2 rfl (by decide) (by omega) (by omega) hb2.1 hb2.2]
          by_cases c2 : contN b2 = true
          · have d2 := decide_eq_true_eq.mp c2
            rw [if_pos c2, if_pos c2, l1_step _ 4 _ _ 2 b3 rfl (by decide) (by omega) (by omega) hb3.1 hb3.2]
            by_cases c3 : contN b3 = true
            · rw [if_pos c3, if_pos c3, l1_end _ _ _ _ _ _ (by simp)]
            · rw [if_neg c3, if_neg c3]
          · rw [if_neg c2, if_neg c2]
        · rw [if_neg c1, if_neg c1]
    rw [if_neg h5, if_neg h5]
    simp only [utf_first.j1, show ¬ ((5 : Int) = 0) by decide, show ¬ ((5 : Int) = 1) by decide, show ((5 : Int) > 4) by decide, if_false, if_true, bad]
end Go.Proofs.YtiihoodnejcjgaaDoor.P
