/- Several of this session's texts in one. -/
import Derived.Test.YteofdfknemopiaaDoorHBU
import Derived.KernelRfl
import Derived.Test.YteofdfknemopiaaDoorHBT
import Derived.Lib.Bytes
import Derived.Test.YteofdfknemopiaaDoorHBP
import Derived.Test.YteofdfknemopiaaDoorHBQ
section
/- The plain law of letters and small ones: what the printed functions of utf and of its reference answer. -/
namespace Go.Proofs.YteofdfknemopiaaDoor.P
open Go.RowKit Go.Proofs.YteofdfknemopiaaDoorW.PrintWords Go.Proofs.YteofdfknemopiaaDoorW.PrintLast Go.Proofs.YteofdfknemopiaaDoorW.PrintMore
set_option linter.unusedVariables false
set_option linter.unusedSimpArgs false

/-- Is it a letter? -/
def letB (c : Int) : Bool := (findT letSpans c).2.2.2
/-- Its small one. -/
def smallS (c : Int) : Int := c + (findT letSpans c).2.2.1
theorem findT_cases (P : Int × Int × Int × Bool → Prop) (s : Int × Int × Int) (l : List (Int × Int × Int)) (c : Int) (h1 : s.1 ≤ c ∧ c ≤ s.2.1 → P (s.1, s.2.1, s.2.2, true)) (h2 : ¬ (s.1 ≤ c ∧ c ≤ s.2.1) → P (findT l c)) : P (findT (s :: l) c) := by
  by_cases h : s.1 ≤ c ∧ c ≤ s.2.1
  · have e : findT (s :: l) c = (s.1, s.2.1, s.2.2, true) := by simp only [findT, if_pos h]
    rw [e]; exact h1 h
  · have e : findT (s :: l) c = findT l c := by simp only [findT, if_neg h]
    rw [e]; exact h2 h
theorem letB_iff (c : Int) : letB c = true ↔ (65 ≤ c ∧ c ≤ 90) ∨ (97 ≤ c ∧ c ≤ 122) ∨ (192 ≤ c ∧ c ≤ 214) ∨ (216 ≤ c ∧ c ≤ 246) ∨ (248 ≤ c ∧ c ≤ 255) ∨ (913 ≤ c ∧ c ≤ 929) ∨ (931 ≤ c ∧ c ≤ 937) ∨ (945 ≤ c ∧ c ≤ 969) ∨ (1024 ≤ c ∧ c ≤ 1119) := by
  let P : Int × Int × Int × Bool → Prop := fun r => r.2.2.2 = true ↔ (65 ≤ c ∧ c ≤ 90) ∨ (97 ≤ c ∧ c ≤ 122) ∨ (192 ≤ c ∧ c ≤ 214) ∨ (216 ≤ c ∧ c ≤ 246) ∨ (248 ≤ c ∧ c ≤ 255) ∨ (913 ≤ c ∧ c ≤ 929) ∨ (931 ≤ c ∧ c ≤ 937) ∨ (945 ≤ c ∧ c ≤ 969) ∨ (1024 ≤ c ∧ c ≤ 1119)
  have H : P (findT letSpans c) := by
    unfold letSpans
    iterate 12 refine findT_cases P _ _ _ (fun h => (by show (true = true ↔ _); simp only [true_iff]; dsimp only at h; omega)) (fun h => ?_)
    show (false = true ↔ _)
    dsimp only at *
    constructor
    · intro h; cases h
    · intro h; omega
  exact H
theorem smallS_eq (c : Int) : smallS c = if 1024 ≤ c ∧ c ≤ 1039 then c + 80 else if (65 ≤ c ∧ c ≤ 90) ∨ (192 ≤ c ∧ c ≤ 214) ∨ (216 ≤ c ∧ c ≤ 222) ∨ (913 ≤ c ∧ c ≤ 929) ∨ (931 ≤ c ∧ c ≤ 937) ∨ (1040 ≤ c ∧ c ≤ 1071) then c + 32 else c := by
  let P : Int × Int × Int × Bool → Prop := fun r => c + r.2.2.1 = if 1024 ≤ c ∧ c ≤ 1039 then c + 80 else if (65 ≤ c ∧ c ≤ 90) ∨ (192 ≤ c ∧ c ≤ 214) ∨ (216 ≤ c ∧ c ≤ 222) ∨ (913 ≤ c ∧ c ≤ 929) ∨ (931 ≤ c ∧ c ≤ 937) ∨ (1040 ≤ c ∧ c ≤ 1071) then c + 32 else c
  have H : P (findT letSpans c) := by
    unfold letSpans
    iterate 12 refine findT_cases P _ _ _ (fun h => (by show (c + _ = _); dsimp only at *; (repeat' split) <;> omega)) (fun h => ?_)
    show (c + 0 = _)
    dsimp only at *
    (repeat' split) <;> omega
  exact H
theorem letter_f (c : Int) : utf_Letter.f c = some (letB c) := rfl
theorem wrap_in {n : Int} (h0 : -9223372036854775808 ≤ n) (h1 : n < 9223372036854775808) : wrap64 n = n := by unfold wrap64; omega
theorem small_f (c : Int) (h0 : -9223372036854775808 ≤ c) (h1 : c < 9223372036854775808) : utf_Small.f c = some (smallS c) := by
  unfold utf_Small.f utf_find.f
  simp only [Option.bind_some]
  have h := smallS_eq c
  unfold smallS at h ⊢
  rw [h, wrap_in]
  · (repeat' split) <;> omega
  · (repeat' split) <;> omega
theorem in_f (a b c : Int) : rubrickref04_in.f a b c = some (decide (b ≤ a ∧ a ≤ c)) := by
  unfold rubrickref04_in.f
  by_cases h : a ≥ b
  · rw [if_pos h]
    simp [show b ≤ a from h]
  · rw [if_neg h]
    simp [show ¬ b ≤ a from h]
theorem rletter_f (c : Int) : rubrickref04_Letter.f c = some (letB c) := by
  have h := letB_iff c
  unfold rubrickref04_Letter.f
  simp only [in_f, Option.bind_some, decide_eq_true_eq]
  repeat' split
  all_goals
    refine congrArg some ?_
    rw [Bool.eq_iff_iff, h]
    simp
    omega
theorem rsmall_f (c : Int) (h0 : -9223372036854775808 ≤ c) (h1 : c < 9223372036854775808) : rubrickref04_Small.f c = some (smallS c) := by
  rw [smallS_eq]
  unfold rubrickref04_Small.f
  simp only [in_f, Option.bind_some, decide_eq_true_eq]
  have w1 : (1024 ≤ c ∧ c ≤ 1039) → wrap64 (c + 80) = c + 80 := fun h => wrap_in (by omega) (by omega)
  have w2 : c < 9000 → wrap64 (c + 32) = c + 32 := fun h => wrap_in (by omega) (by omega)
  repeat' split
  all_goals first | omega | (refine congrArg some ?_; first | exact w1 (by omega) | exact w2 (by omega) | rfl)
end Go.Proofs.YteofdfknemopiaaDoor.P
end
section
/- The plain law of characters' bytes: what the printed Encode, first and Decode answer. -/
namespace Go.Proofs.YteofdfknemopiaaDoor.P
open Go.RowKit Go.Proofs.YteofdfknemopiaaDoorW.PrintWords Go.Proofs.YteofdfknemopiaaDoorW.PrintLast Go.Proofs.YteofdfknemopiaaDoorW.PrintMore
set_option linter.unusedVariables false
set_option linter.unusedSimpArgs false

/-- Is it a character? -/
def isR (c : Int) : Bool := decide (0 ≤ c ∧ c ≤ 1114111 ∧ (c < 55296 ∨ 57343 < c))
/-- How many bytes it has. -/
def manyS (c : Int) : Int := if c < 128 then 1 else if c < 2048 then 2 else if c < 65536 then 3 else 4
/-- Its bytes. -/
def encS (c : Int) : List Int := if c < 128 then [c] else if c < 2048 then [192 + c / 64, 128 + c % 64] else if c < 65536 then [224 + c / 4096, 128 + c / 64 % 64, 128 + c % 64] else [240 + c / 262144, 128 + c / 4096 % 64, 128 + c / 64 % 64, 128 + c % 64]
/-- Bytes, as numbers. -/
def AllB (l : List Int) : Prop := ∀ x ∈ l, 0 ≤ x ∧ x ≤ 255

theorem isR_iff (c : Int) : isR c = true ↔ 0 ≤ c ∧ c ≤ 1114111 ∧ (c < 55296 ∨ 57343 < c) := by unfold isR; simp
theorem right_f (c : Int) : utf_Right.f c = some (isR c) := by
  unfold utf_Right.f isR
  (repeat' split) <;> refine congrArg some ?_ <;> rw [Bool.eq_iff_iff] <;> simp <;> omega
theorem rright_f (c : Int) : rubrickref04_Right.f c = some (isR c) := by
  unfold rubrickref04_Right.f isR
  (repeat' split) <;> refine congrArg some ?_ <;> rw [Bool.eq_iff_iff] <;> simp <;> omega
theorem many_f (c : Int) : utf_many.f c = some (manyS c) := rfl
theorem wraps_i64 (n : Int) (h₀ : 0 ≤ n) (h₁ : n < 2 ^ 62) : IntKind.i64.wrap n = n := by rw [IntKind.wrap_i64]; omega
theorem i64_and63 (x : Int) (h₀ : 0 ≤ x) (h₁ : x < 2 ^ 62) : bits .and .i64 x 63 = x % 64 := bits_mask .i64 62 (by decide) wraps_i64 6 (by decide) x h₀ h₁
theorem i64_or6 (x y : Int) (hx₀ : 0 ≤ x) (hx : x % 64 = 0) (hx₁ : x < 2 ^ 62) (h₀ : 0 ≤ y) (h₁ : y < 64) : bits .or .i64 x y = x + y :=
  bits_join .i64 62 (by decide) wraps_i64 6 x y hx₀ hx hx₁ h₀ h₁ (by omega)
theorem w256 {n : Int} (h0 : 0 ≤ n) (h1 : n ≤ 255) : n % 256 = n := by omega

theorem enc_f (c : Int) (k : Nat) (hk : 6 ≤ k) : utf_Encode.f k c = some (if isR c = true then (encS c, 0) else ([], 1)) := by
  obtain ⟨m, rfl⟩ : ∃ m, k = m + 6 := ⟨k - 6, by omega⟩
  unfold utf_Encode.f
  rw [right_f, Option.bind_some]
  by_cases hr : isR c = true
  case neg => rw [if_neg hr, if_neg hr]
  rw [if_pos hr, if_pos hr, many_f, Option.bind_some]
  have h := (isR_iff c).1 hr
  have a1 : bits .and .i64 c 63 = c % 64 := i64_and63 c (by omega) (by omega)
  have a2 : bits .and .i64 (c / 64) 63 = c / 64 % 64 := i64_and63 _ (by omega) (by omega)
  have a3 : bits .and .i64 (c / 64 / 64) 63 = c / 64 / 64 % 64 := i64_and63 _ (by omega) (by omega)
  have b1 : bits .or .u8 128 (c % 64 % 256) = 128 + c % 64 := by rw [u8_or128 _ (by omega) (by omega)]; omega
  have b2 : bits .or .u8 128 (c / 64 % 64 % 256) = 128 + c / 64 % 64 := by rw [u8_or128 _ (by omega) (by omega)]; omega
  have b3 : bits .or .u8 128 (c / 64 / 64 % 64 % 256) = 128 + c / 4096 % 64 := by rw [u8_or128 _ (by omega) (by omega)]; omega
  have wr1 : wrap64 (2 - 1) = 1 := by unfold wrap64; omega
  have wr2 : wrap64 (3 - 1) = 2 := by unfold wrap64; omega
  have wr3 : wrap64 (4 - 1) = 3 := by unfold wrap64; omega
  have wr4 : wrap64 (1 - 1) = 0 := by unfold wrap64; omega
  unfold manyS encS
  by_cases h1 : c < 128
  · rw [if_pos h1, if_pos h1]
    simp only [if_true]
    rw [w256 (by omega) (by omega)]
  rw [if_neg h1, if_neg h1]
  by_cases h2 : c < 2048
  · rw [if_pos h2, if_pos h2]
    have e2 : (shr .i64 3840 2) % 256 = 192 := by kernel_rfl
    have o2 : bits .or .u8 192 (c / 64 % 256) = 192 + c / 64 := by rw [u8_or192 _ (by omega) (by omega)]; omega
    simp only [show ¬ ((2 : Int) = 1) by decide, if_false, show (0 : Int) ≤ 2 by decide, if_true, show (2 : Int).toNat = 2 by decide, show (2 : Nat) ≤ 281474976710656 by decide, wr1, List.replicate]
    simp only [utf_Encode.l0, show (1 : Int) > 0 by decide, show (0 : Int) ≤ 1 by decide, if_true, List.length_cons, List.length_nil, List.length_set, show (1 : Int) < ((0 + 1 + 1 : Nat) : Int) by decide, wr4, show ¬ ((0 : Int) > 0) by decide, if_false, show (0 : Int) ≤ 2 by decide, show (0 : Int) < ((0 + 1 + 1 : Nat) : Int) by decide, a1, b1, e2, o2]
    rfl
  rw [if_neg h2, if_neg h2]
  by_cases h3 : c < 65536
  · rw [if_pos h3, if_pos h3]
    have e2 : (shr .i64 3840 3) % 256 = 224 := by kernel_rfl
    have o2 : bits .or .u8 224 (c / 64 / 64 % 256) = 224 + c / 4096 := by rw [u8_or224 _ (by omega) (by omega)]; omega
    simp only [show ¬ ((3 : Int) = 1) by decide, if_false, show (0 : Int) ≤ 3 by decide, if_true, show (3 : Int).toNat = 3 by decide, show (3 : Nat) ≤ 281474976710656 by decide, wr2, List.replicate]
    simp only [utf_Encode.l0, show (2 : Int) > 0 by decide, show (0 : Int) ≤ 2 by decide, show (1 : Int) > 0 by decide, show (0 : Int) ≤ 1 by decide, if_true, List.length_cons, List.length_nil, List.length_set, show (2 : Int) < ((0 + 1 + 1 + 1 : Nat) : Int) by decide, show (1 : Int) < ((0 + 1 + 1 + 1 : Nat) : Int) by decide, wr1, wr4, show ¬ ((0 : Int) > 0) by decide, if_false, show (0 : Int) ≤ 3 by decide, show (0 : Int) < ((0 + 1 + 1 + 1 : Nat) : Int) by decide, a1, b1, a2, b2, e2, o2]
    rfl
  rw [if_neg h3, if_neg h3]
  have e2 : (shr .i64 3840 4) % 256 = 240 := by kernel_rfl
  have o2 : bits .or .u8 240 (c / 64 / 64 / 64 % 256) = 240 + c / 262144 := by rw [u8_or240 _ (by omega) (by omega)]; omega
  simp only [show ¬ ((4 : Int) = 1) by decide, if_false, show (0 : Int) ≤ 4 by decide, if_true, show (4 : Int).toNat = 4 by decide, show (4 : Nat) ≤ 281474976710656 by decide, wr3, List.replicate]
  simp only [utf_Encode.l0, show (3 : Int) > 0 by decide, show (0 : Int) ≤ 3 by decide, show (2 : Int) > 0 by decide, show (0 : Int) ≤ 2 by decide, show (1 : Int) > 0 by decide, show (0 : Int) ≤ 1 by decide, if_true, List.length_cons, List.length_nil, List.length_set, show (3 : Int) < ((0 + 1 + 1 + 1 + 1 : Nat) : Int) by decide, show (2 : Int) < ((0 + 1 + 1 + 1 + 1 : Nat) : Int) by decide, show (1 : Int) < ((0 + 1 + 1 + 1 + 1 : Nat) : Int) by decide, wr1, wr2, wr4, show ¬ ((0 : Int) > 0) by decide, if_false, show (0 : Int) ≤ 4 by decide, show (0 : Int) < ((0 + 1 + 1 + 1 + 1 : Nat) : Int) by decide, a1, b1, a2, b2, a3, b3, e2, o2]
  rfl
theorem renc_f (c : Int) (hr : isR c = true) : rubrickref04_Encode.f c = some (encS c) := by
  have h := (isR_iff c).1 hr
  unfold rubrickref04_Encode.f encS
  simp only [Int.tdiv_eq_ediv_of_nonneg h.1, Int.tmod_eq_emod_of_nonneg h.1]
  have w1 : wrap64 (c / 64) = c / 64 := wrap_in (by omega) (by omega)
  have w2 : wrap64 (c / 4096) = c / 4096 := wrap_in (by omega) (by omega)
  have w3 : wrap64 (c / 262144) = c / 262144 := wrap_in (by omega) (by omega)
  simp only [w1, w2, w3, Int.tmod_eq_emod_of_nonneg (show 0 ≤ c / 64 by omega), Int.tmod_eq_emod_of_nonneg (show 0 ≤ c / 4096 by omega)]
  have v1 : wrap64 (128 + c % 64) = 128 + c % 64 := wrap_in (by omega) (by omega)
  have v2 : wrap64 (128 + c / 64 % 64) = 128 + c / 64 % 64 := wrap_in (by omega) (by omega)
  have v3 : wrap64 (128 + c / 4096 % 64) = 128 + c / 4096 % 64 := wrap_in (by omega) (by omega)
  have v4 : wrap64 (192 + c / 64) = 192 + c / 64 := wrap_in (by omega) (by omega)
  have v5 : wrap64 (224 + c / 4096) = 224 + c / 4096 := wrap_in (by omega) (by omega)
  have v6 : wrap64 (240 + c / 262144) = 240 + c / 262144 := wrap_in (by omega) (by omega)
  simp only [v1, v2, v3, v4, v5, v6]
  have q1 : (128 + c % 64) % 256 = 128 + c % 64 := by omega
  have q2 : (128 + c / 64 % 64) % 256 = 128 + c / 64 % 64 := by omega
  have q3 : (128 + c / 4096 % 64) % 256 = 128 + c / 4096 % 64 := by omega
  simp only [q1, q2, q3]
  by_cases h1 : c < 128
  · rw [if_pos h1, if_pos h1, w256 (by omega) (by omega)]
  rw [if_neg h1, if_neg h1]
  by_cases h2 : c < 2048
  · rw [if_pos h2, if_pos h2, w256 (by omega) (by omega)]
  rw [if_neg h2, if_neg h2]
  by_cases h3 : c < 65536
  · rw [if_pos h3, if_pos h3, w256 (by omega) (by omega)]
  rw [if_neg h3, if_neg h3, w256 (by omega) (by omega)]
end Go.Proofs.YteofdfknemopiaaDoor.P
end
section
/- The plain law of reading characters: the first one of bytes, and all. -/
namespace Go.Proofs.YteofdfknemopiaaDoor.P
open Go.RowKit Go.Proofs.YteofdfknemopiaaDoorW.PrintWords Go.Proofs.YteofdfknemopiaaDoorW.PrintLast Go.Proofs.YteofdfknemopiaaDoorW.PrintMore
set_option linter.unusedVariables false
set_option linter.unusedSimpArgs false

/-- Is it a byte that goes on? -/
def contN (b : Int) : Bool := decide (128 ≤ b ∧ b < 192)
/-- A number of so many bytes, if it is a character and has just so many. -/
def chkS (c n : Int) : Int × Int := if isR c = true ∧ manyS c = n then (c, n) else (65533, 1)
/-- What one, two or three further bytes make of a beginning. -/
def f2 (c : Int) : List Int → Int × Int
  | b1 :: _ => if contN b1 = true then chkS (c * 64 + (b1 - 128)) 2 else (65533, 1)
  | [] => (65533, 1)
def f3 (c : Int) : List Int → Int × Int
  | b1 :: b2 :: _ => if contN b1 = true then (if contN b2 = true then chkS ((c * 64 + (b1 - 128)) * 64 + (b2 - 128)) 3 else (65533, 1)) else (65533, 1)
  | [_] => (65533, 1)
  | [] => (65533, 1)
def f4 (c : Int) : List Int → Int × Int
  | b1 :: b2 :: b3 :: _ => if contN b1 = true then (if contN b2 = true then (if contN b3 = true then chkS (((c * 64 + (b1 - 128)) * 64 + (b2 - 128)) * 64 + (b3 - 128)) 4 else (65533, 1)) else (65533, 1)) else (65533, 1)
  | [_, _] => (65533, 1)
  | [_] => (65533, 1)
  | [] => (65533, 1)
/-- The character at the beginning, and how many bytes it has. -/
def firstS : List Int → Int × Int
  | [] => (65533, 1)
  | a :: t => if a < 128 then (a, 1) else if a < 192 then (65533, 1) else if a < 224 then f2 (a - 192) t else if a < 240 then f3 (a - 224) t else if a < 248 then f4 (a - 240) t else (65533, 1)
theorem firstS_cons (a : Int) (t : List Int) : firstS (a :: t) = if a < 128 then (a, 1) else if a < 192 then (65533, 1) else if a < 224 then f2 (a - 192) t else if a < 240 then f3 (a - 224) t else if a < 248 then f4 (a - 240) t else (65533, 1) := rfl

theorem tst_all : ∀ a : Fin 256, ∀ i : Fin 5, (decide (bits .and .u8 (shl .u8 (a.val : Int) (i.val : Int)) 128 = 0)) = decide ((a.val / 2 ^ (7 - i.val)) % 2 = 0) := by decide +kernel
theorem tst (a : Int) (i : Nat) (h0 : 0 ≤ a) (h1 : a ≤ 255) (hi : i < 5) : (bits .and .u8 (shl .u8 a (i : Int)) 128 = 0) ↔ (a.toNat / 2 ^ (7 - i)) % 2 = 0 := by
  have h := tst_all ⟨a.toNat, by omega⟩ ⟨i, hi⟩
  dsimp only at h
  rw [Int.toNat_of_nonneg h0] at h
  exact decide_eq_decide.1 h
theorem cont_all : ∀ a : Fin 256, decide (bits .and .u8 (a.val : Int) 192 = 128) = decide (128 ≤ a.val ∧ a.val < 192) := by decide +kernel
theorem cont_f (a : Int) (h0 : 0 ≤ a) (h1 : a ≤ 255) : (bits .and .u8 a 192 = 128) ↔ contN a = true := by
  have h := cont_all ⟨a.toNat, by omega⟩
  dsimp only at h
  rw [Int.toNat_of_nonneg h0] at h
  have h2 := decide_eq_decide.1 h
  unfold contN
  rw [decide_eq_true_eq, h2]
  omega
theorem mask_all : ∀ a : Fin 256, bits .and .i64 (a.val : Int) 31 = (a.val : Int) % 32 ∧ bits .and .i64 (a.val : Int) 15 = (a.val : Int) % 16 ∧ bits .and .i64 (a.val : Int) 7 = (a.val : Int) % 8 := by decide +kernel
theorem mask_f (a : Int) (h0 : 0 ≤ a) (h1 : a ≤ 255) : bits .and .i64 a 31 = a % 32 ∧ bits .and .i64 a 15 = a % 16 ∧ bits .and .i64 a 7 = a % 8 := by
  have h := mask_all ⟨a.toNat, by omega⟩
  dsimp only at h
  rw [Int.toNat_of_nonneg h0] at h
  exact h
theorem acc_f (c b : Int) (hc0 : 0 ≤ c) (hc : c < 1000000000) (hb0 : 0 ≤ b) (hb : b ≤ 255) (hcn : contN b = true) : bits .or .i64 (wrap64 (c * 64)) (wrap64 (bits .and .u8 b 63)) = c * 64 + (b - 128) := by
  unfold contN at hcn
  rw [decide_eq_true_eq] at hcn
  rw [u8_and63 _ hb0 (by omega), wrap_in (by omega) (by omega), wrap_in (by omega) (by omega), i64_or6 _ _ (by omega) (by omega) (by omega) (by omega) (by omega)]
  omega

/-- The end of the walk: is the number a character of just so many bytes? -/
theorem l1_end (k : Nat) (n c : Int) (l : List Int) (m : Int) (i : Int) (hi : ¬ i < m) : utf_first.l1 (k + 1) n c l m i = some (chkS c n) := by
  simp only [utf_first.l1]
  rw [if_neg hi, right_f, Option.bind_some, many_f, Option.bind_some]
  unfold chkS
  by_cases hr : isR c = true
  · rw [if_pos hr]
    by_cases hm : manyS c = n
    · rw [if_pos hm, if_pos ⟨hr, hm⟩]
    · rw [if_neg hm, if_neg (fun h => hm h.2)]
  · rw [if_neg hr, if_neg (fun h => hr h.1)]
/-- One step of it. -/
theorem l1_step (k : Nat) (n c : Int) (l : List Int) (i : Nat) (b : Int) (hi : l[i]? = some b) (hs : i < 10) (hc0 : 0 ≤ c) (hc : c < 1000000000) (hb0 : 0 ≤ b) (hb : b ≤ 255) :
    utf_first.l1 (k + 1) n c l (l.length : Int) (i : Int) = if contN b = true then utf_first.l1 k n (c * 64 + (b - 128)) l (l.length : Int) ((i + 1 : Nat) : Int) else some (65533, 1) := by
  have hl : i < l.length := (List.getElem?_eq_some_iff.1 hi).1
  have hr : rd l (i : Int) = b := by
    unfold rd
    rw [Int.toNat_natCast, List.getD_eq_getElem?_getD, hi]
    rfl
  simp only [utf_first.l1]
  rw [if_pos (by omega), if_pos (by omega), if_pos (by omega), hr]
  by_cases h : contN b = true
  · rw [if_pos ((cont_f b hb0 hb).2 h), if_pos h, acc_f c b hc0 hc hb0 hb h]
    have : wrap64 ((i : Int) + 1) = ((i + 1 : Nat) : Int) := by rw [wrap_in (by omega) (by omega)]; omega
    rw [this]
  · rw [if_neg (fun h2 => h ((cont_f b hb0 hb).1 h2)), if_neg h]

theorem first_f (l : List Int) (hl : 0 < l.length) (hb : AllB l) (k : Nat) (hk : 16 ≤ k) : utf_first.f k l = some (firstS l) := by
  obtain ⟨m, rfl⟩ : ∃ m, k = m + 16 := ⟨k - 16, by omega⟩
  cases l with
  | nil => cases hl
  | cons a t =>
    have ha := hb a (List.mem_cons_self ..)
    unfold utf_first.f
    rw [if_pos (by exact_mod_cast hl)]
    have hra : rd (a :: t) 0 = a := rfl
    rw [hra]
    have t0 : (bits .and .u8 (shl .u8 a 0) 128 = 0) ↔ (a.toNat / 128) % 2 = 0 := tst a 0 ha.1 ha.2 (by decide)
    have t1 : (bits .and .u8 (shl .u8 a 1) 128 = 0) ↔ (a.toNat / 64) % 2 = 0 := tst a 1 ha.1 ha.2 (by decide)
    have t2 : (bits .and .u8 (shl .u8 a 2) 128 = 0) ↔ (a.toNat / 32) % 2 = 0 := tst a 2 ha.1 ha.2 (by decide)
    have t3 : (bits .and .u8 (shl .u8 a 3) 128 = 0) ↔ (a.toNat / 16) % 2 = 0 := tst a 3 ha.1 ha.2 (by decide)
    have t4 : (bits .and .u8 (shl .u8 a 4) 128 = 0) ↔ (a.toNat / 8) % 2 = 0 := tst a 4 ha.1 ha.2 (by decide)
    have w0 : wrap64 ((0 : Int) + 1) = 1 := by unfold wrap64; omega
    have w1 : wrap64 ((1 : Int) + 1) = 2 := by unfold wrap64; omega
    have w2 : wrap64 ((2 : Int) + 1) = 3 := by unfold wrap64; omega
    have w3 : wrap64 ((3 : Int) + 1) = 4 := by unfold wrap64; omega
    have w4 : wrap64 ((4 : Int) + 1) = 5 := by unfold wrap64; omega
    have wa : wrap64 a = a := wrap_in (by omega) (by omega)
    have s0 : ∀ k, utf_first.l0 (k + 1) (a :: t) a 0 = if a < 128 then utf_first.j1 k (a :: t) a 0 else utf_first.l0 k (a :: t) a 1 := by
      intro k
      simp only [utf_first.l0]
      rw [if_pos (by decide), if_pos (by decide), w0]
      by_cases h : a < 128
      · rw [if_pos (t0.2 (by omega)), if_pos h]
      · rw [if_neg (fun h2 => by have := t0.1 h2; omega), if_neg h]
    have s1 : ¬ a < 128 → ∀ k, utf_first.l0 (k + 1) (a :: t) a 1 = if a < 192 then utf_first.j1 k (a :: t) a 1 else utf_first.l0 k (a :: t) a 2 := by
      intro hh k
      simp only [utf_first.l0]
      rw [if_pos (by decide), if_pos (by decide), w1]
      by_cases h : a < 192
      · rw [if_pos (t1.2 (by omega)), if_pos h]
      · rw [if_neg (fun h2 => by have := t1.1 h2; omega), if_neg h]
    have s2 : ¬ a < 192 → ∀ k, utf_first.l0 (k + 1) (a :: t) a 2 = if a < 224 then utf_first.j1 k (a :: t) a 2 else utf_first.l0 k (a :: t) a 3 := by
      intro hh k
      simp only [utf_first.l0]
      rw [if_pos (by decide), if_pos (by decide), w2]
      by_cases h : a < 224
      · rw [if_pos (t2.2 (by omega)), if_pos h]
      · rw [if_neg (fun h2 => by have := t2.1 h2; omega), if_neg h]
    have s3 : ¬ a < 224 → ∀ k, utf_first.l0 (k + 1) (a :: t) a 3 = if a < 240 then utf_first.j1 k (a :: t) a 3 else utf_first.l0 k (a :: t) a 4 := by
      intro hh k
      simp only [utf_first.l0]
      rw [if_pos (by decide), if_pos (by decide), w3]
      by_cases h : a < 240
      · rw [if_pos (t3.2 (by omega)), if_pos h]
      · rw [if_neg (fun h2 => by have := t3.1 h2; omega), if_neg h]
    have s4 : ¬ a < 240 → ∀ k, utf_first.l0 (k + 2) (a :: t) a 4 = if a < 248 then utf_first.j1 (k + 1) (a :: t) a 4 else utf_first.j1 k (a :: t) a 5 := by
      intro hh k
      simp only [utf_first.l0]
      rw [if_pos (by decide), if_pos (by decide), w4]
      by_cases h : a < 248
      · rw [if_pos (t4.2 (by omega)), if_pos h]
      · rw [if_neg (fun h2 => by have := t4.1 h2; omega), if_neg h, if_neg (by decide)]
    have bad : ∀ k n, utf_first.j2 (k + 1) (a :: t) a n true = some (65533, 1) := by
      intro k n
      simp only [utf_first.j2, if_true]
    have good : ∀ (k : Nat) (n : Int) (c : Int), 2 ≤ n → n ≤ 4 → n ≤ ((a :: t).length : Int) → bits .and .i64 a (wrap64 ((shl .i64 1 (wrap64 (7 - n))) - 1)) = c →
        utf_first.j2 (k + 1) (a :: t) a n false = utf_first.l1 k n c (t.take (n.toNat - 1)) ((t.take (n.toNat - 1)).length : Int) 0 := by
      intro k n c h2 h4 hn hc
      have e : ((a :: t).take n.toNat).drop 1 = t.take (n.toNat - 1) := by
        obtain ⟨q, hq⟩ : ∃ q, n.toNat = q + 1 := ⟨n.toNat - 1, by omega⟩
        rw [hq]
        rfl
      simp only [utf_first.j2, Bool.false_eq_true, if_false]
      have w7 : wrap64 (7 - n) = 7 - n := wrap_in (by omega) (by omega)
      rw [if_pos (by rw [w7]; omega), if_pos (by omega), if_pos hn, e, wa, hc]
    show utf_first.l0 (m + 16) (a :: t) a 0 = some (firstS (a :: t))
    rw [s0, firstS_cons]
    by_cases h1 : a < 128
    · rw [if_pos h1, if_pos h1]
      simp only [utf_first.j1, if_true, wa]
    rw [if_neg h1, if_neg h1, s1 h1]
    by_cases h2 : a < 192
    · rw [if_pos h2, if_pos h2]
      simp only [utf_first.j1, show ¬ ((1 : Int) = 0) by decide, if_false, if_true, bad]
    rw [if_neg h2, if_neg h2, s2 h2]
    by_cases h3 : a < 224
    · rw [if_pos h3, if_pos h3]
      simp only [utf_first.j1, show ¬ ((2 : Int) = 0) by decide, show ¬ ((2 : Int) = 1) by decide, show ¬ ((2 : Int) > 4) by decide, if_false]
      cases t with
      | nil => simp only [List.length_cons, List.length_nil, show (decide (((0 + 1 : Nat) : Int) < 2)) = true by decide, bad, f2, f3, f4]
      | cons b1 t =>
        have hb1 := hb b1 (by simp)
        simp only [f2, f3, f4]
        rw [decide_eq_false (by simp only [List.length_cons]; omega), good _ 2 (a - 192) (by decide) (by decide) (by simp only [List.length_cons]; omega) (by
          rw [show wrap64 (shl .i64 1 (wrap64 (7 - 2)) - 1) = 31 by kernel_rfl, (mask_f a ha.1 ha.2).1]; omega)]
        rw [show (2 : Int).toNat - 1 = 1 by decide]
        simp only [List.take_succ_cons, List.take_zero]
        rw [show (0 : Int) = ((0 : Nat) : Int) by rfl, l1_step _ 2 _ _ 0 b1 rfl (by decide) (by omega) (by omega) hb1.1 hb1.2]
        by_cases c1 : contN b1 = true
        · rw [if_pos c1, if_pos c1, l1_end _ _ _ _ _ _ (by simp)]
        · rw [if_neg c1, if_neg c1]
    rw [if_neg h3, if_neg h3, s3 h3]
    by_cases h4 : a < 240
    · rw [if_pos h4, if_pos h4]
      simp only [utf_first.j1, show ¬ ((3 : Int) = 0) by decide, show ¬ ((3 : Int) = 1) by decide, show ¬ ((3 : Int) > 4) by decide, if_false]
      match t, hb with
      | [], _ => simp only [List.length_cons, List.length_nil, show (decide (((0 + 1 : Nat) : Int) < 3)) = true by decide, bad, f2, f3, f4]
      | [b1], _ => simp only [List.length_cons, List.length_nil, show (decide (((0 + 1 + 1 : Nat) : Int) < 3)) = true by decide, bad, f2, f3, f4]
      | b1 :: b2 :: t, hb =>
        have hb1 := hb b1 (by simp)
        have hb2 := hb b2 (by simp)
        simp only [f2, f3, f4]
        rw [decide_eq_false (by simp only [List.length_cons]; omega), good _ 3 (a - 224) (by decide) (by decide) (by simp only [List.length_cons]; omega) (by
          rw [show wrap64 (shl .i64 1 (wrap64 (7 - 3)) - 1) = 15 by kernel_rfl, (mask_f a ha.1 ha.2).2.1]; omega)]
        rw [show (3 : Int).toNat - 1 = 2 by decide]
        simp only [List.take_succ_cons, List.take_zero]
        rw [show (0 : Int) = ((0 : Nat) : Int) by rfl, l1_step _ 3 _ _ 0 b1 rfl (by decide) (by omega) (by omega) hb1.1 hb1.2]
        by_cases c1 : contN b1 = true
        · rw [if_pos c1, if_pos c1, l1_step _ 3 _ _ 1 b2 rfl (by decide) (by have := decide_eq_true_eq.mp c1; omega) (by have := decide_eq_true_eq.mp c1; omega) hb2.1 hb2.2]
          by_cases c2 : contN b2 = true
          · rw [if_pos c2, if_pos c2, l1_end _ _ _ _ _ _ (by simp)]
          · rw [if_neg c2, if_neg c2]
        · rw [if_neg c1, if_neg c1]
    rw [if_neg h4, if_neg h4, s4 h4]
    by_cases h5 : a < 248
    · rw [if_pos h5, if_pos h5]
      simp only [utf_first.j1, show ¬ ((4 : Int) = 0) by decide, show ¬ ((4 : Int) = 1) by decide, show ¬ ((4 : Int) > 4) by decide, if_false]
      match t, hb with
      | [], _ => simp only [List.length_cons, List.length_nil, show (decide (((0 + 1 : Nat) : Int) < 4)) = true by decide, bad, f2, f3, f4]
      | [b1], _ => simp only [List.length_cons, List.length_nil, show (decide (((0 + 1 + 1 : Nat) : Int) < 4)) = true by decide, bad, f2, f3, f4]
      | [b1, b2], _ => simp only [List.length_cons, List.length_nil, show (decide (((0 + 1 + 1 + 1 : Nat) : Int) < 4)) = true by decide, bad, f2, f3, f4]
      | b1 :: b2 :: b3 :: t, hb =>
        have hb1 := hb b1 (by simp)
        have hb2 := hb b2 (by simp)
        have hb3 := hb b3 (by simp)
        simp only [f2, f3, f4]
        rw [decide_eq_false (by simp only [List.length_cons]; omega), good _ 4 (a - 240) (by decide) (by decide) (by simp only [List.length_cons]; omega) (by
          rw [show wrap64 (shl .i64 1 (wrap64 (7 - 4)) - 1) = 7 by kernel_rfl, (mask_f a ha.1 ha.2).2.2]; omega)]
        rw [show (4 : Int).toNat - 1 = 3 by decide]
        simp only [List.take_succ_cons, List.take_zero]
        rw [show (0 : Int) = ((0 : Nat) : Int) by rfl, l1_step _ 4 _ _ 0 b1 rfl (by decide) (by omega) (by omega) hb1.1 hb1.2]
        by_cases c1 : contN b1 = true
        · have d1 := decide_eq_true_eq.mp c1
          rw [if_pos c1, if_pos c1, l1_step _ 4 _ _ 1 b2 rfl (by decide) (by omega) (by omega) hb2.1 hb2.2]
          by_cases c2 : contN b2 = true
          · have d2 := decide_eq_true_eq.mp c2
            rw [if_pos c2, if_pos c2, l1_step _ 4 _ _ 2 b3 rfl (by decide) (by omega) (by omega) hb3.1 hb3.2]
            by_cases c3 : contN b3 = true
            · rw [if_pos c3, if_pos c3, l1_end _ _ _ _ _ _ (by simp)]
            · rw [if_neg c3, if_neg c3]
          · rw [if_neg c2, if_neg c2]
        · rw [if_neg c1, if_neg c1]
    rw [if_neg h5, if_neg h5]
    simp only [utf_first.j1, show ¬ ((5 : Int) = 0) by decide, show ¬ ((5 : Int) = 1) by decide, show ((5 : Int) > 4) by decide, if_false, if_true, bad]
end Go.Proofs.YteofdfknemopiaaDoor.P
end
section
/- The plain law of decoding: all characters of bytes; back and forth. -/
namespace Go.Proofs.YteofdfknemopiaaDoor.P
open Go.RowKit Go.Proofs.YteofdfknemopiaaDoorW.PrintWords Go.Proofs.YteofdfknemopiaaDoorW.PrintLast Go.Proofs.YteofdfknemopiaaDoorW.PrintMore
set_option linter.unusedVariables false
set_option linter.unusedSimpArgs false

theorem chkS_cases (c n : Int) : (chkS c n = (c, n) ∧ isR c = true ∧ manyS c = n) ∨ chkS c n = (65533, 1) := by
  unfold chkS
  by_cases h : isR c = true ∧ manyS c = n
  · rw [if_pos h]; exact .inl ⟨rfl, h.1, h.2⟩
  · rw [if_neg h]; exact .inr rfl
/-- What the beginning of bytes is: a character with just its bytes, or Bad. -/
theorem firstS_inv (l : List Int) (hl : 0 < l.length) (hb : AllB l) : firstS l = (65533, 1) ∨ ∃ c, isR c = true ∧ firstS l = (c, manyS c) ∧ ∃ r, l = encS c ++ r ∧ ((encS c).length : Int) = manyS c := by
  cases l with
  | nil => cases hl
  | cons a t =>
    have ha := hb a (List.mem_cons_self ..)
    rw [firstS_cons]
    by_cases h1 : a < 128
    · rw [if_pos h1]
      exact .inr ⟨a, (isR_iff a).2 (by omega), by unfold manyS; rw [if_pos h1], t, by unfold encS; rw [if_pos h1]; rfl, by unfold encS manyS; rw [if_pos h1, if_pos h1]; rfl⟩
    rw [if_neg h1]
    by_cases h2 : a < 192
    · rw [if_pos h2]; exact .inl rfl
    rw [if_neg h2]
    by_cases h3 : a < 224
    · rw [if_pos h3]
      match t with
      | [] => exact .inl rfl
      | b1 :: t =>
        simp only [f2]
        by_cases c1 : contN b1 = true
        case neg => rw [if_neg c1]; exact .inl rfl
        have d1 := decide_eq_true_eq.mp c1
        rw [if_pos c1]
        rcases chkS_cases ((a - 192) * 64 + (b1 - 128)) 2 with ⟨he, hr, hm⟩ | he
        · refine .inr ⟨_, hr, by rw [he, hm], t, ?_, ?_⟩
          · have hn : 128 ≤ (a - 192) * 64 + (b1 - 128) ∧ (a - 192) * 64 + (b1 - 128) < 2048 := by unfold manyS at hm; (repeat' split at hm) <;> omega
            unfold encS
            rw [if_neg (by omega), if_pos (by omega)]
            simp only [List.cons_append, List.nil_append, List.cons.injEq, and_true]
            omega
          · rw [hm]
            have hn : 128 ≤ (a - 192) * 64 + (b1 - 128) ∧ (a - 192) * 64 + (b1 - 128) < 2048 := by unfold manyS at hm; (repeat' split at hm) <;> omega
            unfold encS
            rw [if_neg (by omega), if_pos (by omega)]
            rfl
        · rw [he]; exact .inl rfl
    rw [if_neg h3]
    by_cases h4 : a < 240
    · rw [if_pos h4]
      match t with
      | [] => exact .inl rfl
      | [b1] => exact .inl rfl
      | b1 :: b2 :: t =>
        simp only [f3]
        by_cases c1 : contN b1 = true
        case neg => rw [if_neg c1]; exact .inl rfl
        have d1 := decide_eq_true_eq.mp c1
        rw [if_pos c1]
        by_cases c2 : contN b2 = true
        case neg => rw [if_neg c2]; exact .inl rfl
        have d2 := decide_eq_true_eq.mp c2
        rw [if_pos c2]
        rcases chkS_cases (((a - 224) * 64 + (b1 - 128)) * 64 + (b2 - 128)) 3 with ⟨he, hr, hm⟩ | he
        · have hn : 2048 ≤ ((a - 224) * 64 + (b1 - 128)) * 64 + (b2 - 128) ∧ ((a - 224) * 64 + (b1 - 128)) * 64 + (b2 - 128) < 65536 := by unfold manyS at hm; (repeat' split at hm) <;> omega
          refine .inr ⟨_, hr, by rw [he, hm], t, ?_, ?_⟩
          · unfold encS
            rw [if_neg (by omega), if_neg (by omega), if_pos (by omega)]
            simp only [List.cons_append, List.nil_append, List.cons.injEq, and_true]
            omega
          · rw [hm]
            unfold encS
            rw [if_neg (by omega), if_neg (by omega), if_pos (by omega)]
            rfl
        · rw [he]; exact .inl rfl
    rw [if_neg h4]
    by_cases h5 : a < 248
    · rw [if_pos h5]
      match t with
      | [] => exact .inl rfl
      | [b1] => exact .inl rfl
      | [b1, b2] => exact .inl rfl
      | b1 :: b2 :: b3 :: t =>
        simp only [f4]
        by_cases c1 : contN b1 = true
        case neg => rw [if_neg c1]; exact .inl rfl
        have d1 := decide_eq_true_eq.mp c1
        rw [if_pos c1]
        by_cases c2 : contN b2 = true
        case neg => rw [if_neg c2]; exact .inl rfl
        have d2 := decide_eq_true_eq.mp c2
        rw [if_pos c2]
        by_cases c3 : contN b3 = true
        case neg => rw [if_neg c3]; exact .inl rfl
        have d3 := decide_eq_true_eq.mp c3
        rw [if_pos c3]
        rcases chkS_cases ((((a - 240) * 64 + (b1 - 128)) * 64 + (b2 - 128)) * 64 + (b3 - 128)) 4 with ⟨he, hr, hm⟩ | he
        · have hn : 65536 ≤ (((a - 240) * 64 + (b1 - 128)) * 64 + (b2 - 128)) * 64 + (b3 - 128) := by unfold manyS at hm; (repeat' split at hm) <;> omega
          refine .inr ⟨_, hr, by rw [he, hm], t, ?_, ?_⟩
          · unfold encS
            rw [if_neg (by omega), if_neg (by omega), if_neg (by omega)]
            simp only [List.cons_append, List.nil_append, List.cons.injEq, and_true]
            omega
          · rw [hm]
            unfold encS
            rw [if_neg (by omega), if_neg (by omega), if_neg (by omega)]
            rfl
        · rw [he]; exact .inl rfl
    rw [if_neg h5]; exact .inl rfl
theorem many_pos (c : Int) : 1 ≤ manyS c ∧ manyS c ≤ 4 := by unfold manyS; (repeat' split) <;> omega
theorem firstS_n (l : List Int) (hl : 0 < l.length) (hb : AllB l) : 1 ≤ (firstS l).2 ∧ (firstS l).2 ≤ (l.length : Int) := by
  rcases firstS_inv l hl hb with h | ⟨c, hr, h, r, he, hn⟩
  · rw [h]; dsimp only; omega
  · rw [h]
    have := many_pos c
    refine ⟨this.1, ?_⟩
    have h2 : l.length = (encS c).length + r.length := by rw [he, List.length_append]
    dsimp only
    omega
theorem many_len (c : Int) : ((encS c).length : Int) = manyS c := by
  unfold encS manyS
  (repeat' split) <;> rfl
theorem firstS_enc (c : Int) (r : List Int) (hr : isR c = true) : firstS (encS c ++ r) = (c, manyS c) := by
  have h := (isR_iff c).1 hr
  have hc : ∀ x : Int, contN (128 + x % 64) = true := fun x => decide_eq_true (by omega)
  have hk : chkS c (manyS c) = (c, manyS c) := by unfold chkS; rw [if_pos ⟨hr, rfl⟩]
  by_cases h1 : c < 128
  · have e : encS c = [c] := by unfold encS; rw [if_pos h1]
    have m : manyS c = 1 := by unfold manyS; rw [if_pos h1]
    rw [e, m, List.cons_append, firstS_cons, if_pos h1]
  by_cases h2 : c < 2048
  · have e : encS c = [192 + c / 64, 128 + c % 64] := by unfold encS; rw [if_neg h1, if_pos h2]
    have m : manyS c = 2 := by unfold manyS; rw [if_neg h1, if_pos h2]
    rw [m] at hk
    rw [e, m, List.cons_append, firstS_cons, if_neg (by omega), if_neg (by omega), if_pos (by omega)]
    simp only [List.cons_append, f2]
    rw [if_pos (hc c), show (192 + c / 64 - 192) * 64 + (128 + c % 64 - 128) = c by omega, hk]
  by_cases h3 : c < 65536
  · have e : encS c = [224 + c / 4096, 128 + c / 64 % 64, 128 + c % 64] := by unfold encS; rw [if_neg h1, if_neg h2, if_pos h3]
    have m : manyS c = 3 := by unfold manyS; rw [if_neg h1, if_neg h2, if_pos h3]
    rw [m] at hk
    rw [e, m, List.cons_append, firstS_cons, if_neg (by omega), if_neg (by omega), if_neg (by omega), if_pos (by omega)]
    simp only [List.cons_append, f3]
    rw [if_pos (hc _), if_pos (hc _), show ((224 + c / 4096 - 224) * 64 + (128 + c / 64 % 64 - 128)) * 64 + (128 + c % 64 - 128) = c by omega, hk]
  · have e : encS c = [240 + c / 262144, 128 + c / 4096 % 64, 128 + c / 64 % 64, 128 + c % 64] := by unfold encS; rw [if_neg h1, if_neg h2, if_neg h3]
    have m : manyS c = 4 := by unfold manyS; rw [if_neg h1, if_neg h2, if_neg h3]
    rw [m] at hk
    rw [e, m, List.cons_append, firstS_cons, if_neg (by omega), if_neg (by omega), if_neg (by omega), if_neg (by omega), if_pos (by omega)]
    simp only [List.cons_append, f4]
    rw [if_pos (hc _), if_pos (hc _), if_pos (hc _), show (((240 + c / 262144 - 240) * 64 + (128 + c / 4096 % 64 - 128)) * 64 + (128 + c / 64 % 64 - 128)) * 64 + (128 + c % 64 - 128) = c by omega, hk]
/-- A byte below 128 behind bytes: the first character is the same. -/
theorem firstS_mark (l : List Int) (m : Int) (r : List Int) (hl : 0 < l.length) (hm : m < 128) : firstS (l ++ m :: r) = firstS l := by
  have hc : contN m = false := decide_eq_false (by omega)
  match l with
  | a :: t =>
    rw [List.cons_append, firstS_cons, firstS_cons]
    congr 2
    · congr 1
      · match t with
        | [] => simp only [List.nil_append, f2, hc, Bool.false_eq_true, if_false]
        | b1 :: t => rfl
      congr 1
      · match t with
        | [] => cases r <;> simp only [List.nil_append, f3, hc, Bool.false_eq_true, if_false]
        | [b1] => simp only [List.cons_append, List.nil_append, f3, hc, Bool.false_eq_true, if_false, ite_self]
        | b1 :: b2 :: t => rfl
      congr 1
      · match t with
        | [] => rcases r with _ | ⟨r1, _ | ⟨r2, r⟩⟩ <;> simp only [List.nil_append, f4, hc, Bool.false_eq_true, if_false]
        | [b1] => cases r <;> simp only [List.cons_append, List.nil_append, f4, hc, Bool.false_eq_true, if_false, ite_self]
        | [b1, b2] => simp only [List.cons_append, List.nil_append, f4, hc, Bool.false_eq_true, if_false, ite_self]
        | b1 :: b2 :: b3 :: t => rfl

/-- The characters of bytes (d: no fewer than there are bytes). -/
def decF : Nat → List Int → List Int
  | 0, _ => []
  | _ + 1, [] => []
  | d + 1, a :: t => (firstS (a :: t)).1 :: decF d ((a :: t).drop (firstS (a :: t)).2.toNat)
def decS (l : List Int) : List Int := decF l.length l
theorem AllB.drop {l : List Int} (h : AllB l) (n : Nat) : AllB (l.drop n) := fun x hx => h x (List.mem_of_mem_drop hx)
theorem decF_eq (d : Nat) : ∀ l : List Int, AllB l → l.length ≤ d → decF d l = decF l.length l := by
  induction d using Nat.strongRecOn with
  | _ d ih =>
    intro l hb hd
    match d, l with
    | 0, l => obtain rfl : l = [] := List.eq_nil_of_length_eq_zero (by omega); rfl
    | d + 1, [] => rfl
    | d + 1, a :: t =>
      have hn := firstS_n (a :: t) (by simp) hb
      have hlen : ((a :: t).drop (firstS (a :: t)).2.toNat).length ≤ t.length := by rw [List.length_drop, List.length_cons]; omega
      simp only [List.length_cons] at hd
      show _ :: decF d _ = _ :: decF t.length _
      rw [ih d (by omega) _ (hb.drop _) (by omega)]
      by_cases e : d = t.length
      · rw [← ih d (by omega) _ (hb.drop _) (by omega), e]
      · rw [ih t.length (by omega) _ (hb.drop _) hlen]
theorem decS_nil : decS [] = [] := rfl
theorem decS_cons (l : List Int) (hl : 0 < l.length) (hb : AllB l) : decS l = (firstS l).1 :: decS (l.drop (firstS l).2.toNat) := by
  match l with
  | a :: t =>
    have hn := firstS_n (a :: t) (by simp) hb
    have hlen : ((a :: t).drop (firstS (a :: t)).2.toNat).length ≤ t.length := by rw [List.length_drop, List.length_cons]; omega
    show _ :: decF t.length _ = _
    rw [decF_eq _ _ (hb.drop _) hlen]
    rfl
theorem dec_f (d : Nat) : ∀ (l acc : List Int) (k : Nat), AllB l → l.length ≤ d → acc.length + l.length < 10000000000000 → d + 20 ≤ k → utf_Decode.l0 k l acc = some (acc ++ decS l) := by
  induction d with
  | zero =>
    intro l acc k hb hd ha hk
    obtain ⟨m, rfl⟩ : ∃ m, k = m + 1 := ⟨k - 1, by omega⟩
    obtain rfl : l = [] := List.eq_nil_of_length_eq_zero (by omega)
    simp only [utf_Decode.l0]
    rw [if_neg (by simp), decS_nil, List.append_nil]
  | succ d ih =>
    intro l acc k hb hd ha hk
    obtain ⟨m, rfl⟩ : ∃ m, k = m + 1 := ⟨k - 1, by omega⟩
    by_cases hl : 0 < l.length
    · have hn := firstS_n l hl hb
      simp only [utf_Decode.l0]
      rw [if_pos (by exact_mod_cast hl), first_f l hl hb m (by omega), Option.bind_some, if_pos (by omega), if_pos (by omega), if_pos hn.2]
      rw [ih _ _ _ (hb.drop _) (by rw [List.length_drop]; omega) (by rw [List.length_append, List.length_drop, List.length_singleton]; omega) (by omega)]
      rw [decS_cons l hl hb, List.append_assoc]
      rfl
    · obtain rfl : l = [] := List.eq_nil_of_length_eq_zero (by omega)
      simp only [utf_Decode.l0]
      rw [if_neg (by simp), decS_nil, List.append_nil]
theorem decode_f (l : List Int) (k : Nat) (hb : AllB l) (hl : l.length < 1000000000000) (hk : l.length + 20 ≤ k) : utf_Decode.f k l = some (decS l) := by
  unfold utf_Decode.f
  rw [dec_f l.length l [] k hb (Nat.le_refl _) (by simp; omega) hk, List.nil_append]
theorem decS_enc (c : Int) (r : List Int) (hr : isR c = true) (hb : AllB (encS c ++ r)) : decS (encS c ++ r) = c :: decS r := by
  have hp := many_pos c
  have hl := many_len c
  rw [decS_cons _ (by rw [List.length_append]; omega) hb, firstS_enc c r hr]
  dsimp only
  rw [show (manyS c).toNat = (encS c).length by omega, List.drop_left]
theorem decS_mark (m : Int) (b : List Int) (h0 : 0 ≤ m) (hm : m < 128) (hbb : AllB b) (d : Nat) : ∀ a : List Int, AllB a → a.length ≤ d → decS (a ++ m :: b) = decS a ++ m :: decS b := by
  have hmb : AllB (m :: b) := fun x hx => by
    rcases List.mem_cons.1 hx with rfl | hx
    · omega
    · exact hbb x hx
  have hbase : decS (m :: b) = m :: decS b := by
    rw [decS_cons _ (by simp) hmb, firstS_cons, if_pos hm]
    rfl
  induction d with
  | zero =>
    intro a ha hd
    obtain rfl : a = [] := List.eq_nil_of_length_eq_zero (by omega)
    rw [List.nil_append, hbase]; rfl
  | succ d ih =>
    intro a ha hd
    by_cases hl : 0 < a.length
    · have hn := firstS_n a hl ha
      have hab : AllB (a ++ m :: b) := fun x hx => by
        rcases List.mem_append.1 hx with hx | hx
        · exact ha x hx
        · exact hmb x hx
      rw [decS_cons _ (by rw [List.length_append]; omega) hab, firstS_mark a m b hl hm, decS_cons a hl ha, List.drop_append_of_le_length (by omega),
        ih _ (ha.drop _) (by rw [List.length_drop]; omega)]
      rfl
    · obtain rfl : a = [] := List.eq_nil_of_length_eq_zero (by omega)
      rw [List.nil_append, hbase]; rfl
theorem decS_length (d : Nat) : ∀ l : List Int, AllB l → l.length ≤ d → (decS l).length ≤ l.length := by
  induction d with
  | zero => intro l hb hd; obtain rfl : l = [] := List.eq_nil_of_length_eq_zero (by omega); exact Nat.le_refl _
  | succ d ih =>
    intro l hb hd
    by_cases hl : 0 < l.length
    · have hn := firstS_n l hl hb
      rw [decS_cons l hl hb, List.length_cons]
      have := ih _ (hb.drop (firstS l).2.toNat) (by rw [List.length_drop]; omega)
      rw [List.length_drop] at this
      omega
    · obtain rfl : l = [] := List.eq_nil_of_length_eq_zero (by omega); exact Nat.le_refl _
/-- Bytes without Bad among their characters are just the characters' bytes. -/
theorem decS_only (d : Nat) : ∀ l : List Int, AllB l → l.length ≤ d → (∀ c ∈ decS l, c ≠ 65533) → (decS l).flatMap encS = l ∧ ∀ c ∈ decS l, isR c = true := by
  induction d with
  | zero => intro l hb hd _; obtain rfl : l = [] := List.eq_nil_of_length_eq_zero (by omega); exact ⟨rfl, fun c h => by cases h⟩
  | succ d ih =>
    intro l hb hd hc
    by_cases hl : 0 < l.length
    · have hn := firstS_n l hl hb
      rw [decS_cons l hl hb] at hc ⊢
      rcases firstS_inv l hl hb with h | ⟨c, hr, h, r, he, hlen⟩
      · exact absurd (by rw [h]) (hc _ (List.mem_cons_self ..))
      · rw [h] at hc ⊢
        dsimp only at hc ⊢
        have hdrop : l.drop (manyS c).toNat = r := by
          rw [he, show (manyS c).toNat = (encS c).length by omega, List.drop_left]
        rw [hdrop] at hc ⊢
        have hlr : r.length ≤ d := by
          have : l.length = (encS c).length + r.length := by rw [he, List.length_append]
          have := many_pos c
          omega
        obtain ⟨q1, q2⟩ := ih r (by rw [← hdrop]; exact hb.drop _) hlr (fun x hx => hc x (List.mem_cons_of_mem _ hx))
        refine ⟨by rw [List.flatMap_cons, q1, ← he], fun x hx => ?_⟩
        rcases List.mem_cons.1 hx with rfl | hx
        · exact hr
        · exact q2 x hx
    · obtain rfl : l = [] := List.eq_nil_of_length_eq_zero (by omega); exact ⟨rfl, fun c h => by cases h⟩
theorem encS_bytes (c : Int) (hr : isR c = true) : AllB (encS c) := by
  have h := (isR_iff c).1 hr
  unfold encS AllB
  intro x hx
  (repeat' split at hx) <;> simp only [List.mem_cons, List.not_mem_nil, or_false] at hx <;> omega
end Go.Proofs.YteofdfknemopiaaDoor.P
end
section
/- Small facts on lists, wraps and bytes that the plain laws share. -/
namespace Go.Proofs.YteofdfknemopiaaDoor.P
open Go.RowKit Go.Proofs.YteofdfknemopiaaDoorW.PrintWords Go.Proofs.YteofdfknemopiaaDoorW.PrintLast Go.Proofs.YteofdfknemopiaaDoorW.PrintMore
set_option linter.unusedVariables false
set_option linter.unusedSimpArgs false
theorem le_mono {α : Type} {g : Nat → Option α} (hm : ∀ k, LeO (g k) (g (k + 1))) {k : Nat} {r : α} (h : g k = some r) : ∀ j, g (k + j) = some r
  | 0 => h
  | j + 1 => hm (k + j) r (le_mono hm h j)
theorem rd_at (l : List Int) (i : Nat) (h : i < l.length) : rd l (i : Int) = l[i] := by
  unfold rd
  rw [Int.toNat_natCast, List.getD_eq_getElem?_getD, List.getElem?_eq_getElem h]
  rfl
theorem succ_wrap (i n : Nat) (h : i < n) (hn : n ≤ 1000000000000) : wrap64 ((i : Int) + 1) = ((i + 1 : Nat) : Int) := by
  rw [wrap_in (by omega) (by omega)]
  omega
theorem u8_bytes {l : List Int} (h : ∀ x ∈ l, (Lit.int .u8 x).wf = true) : AllB l := fun x hx => by
  have := h x hx
  simp [Lit.wf, IntKind.min, IntKind.max, IntKind.signed, IntKind.bits] at this
  omega
theorem AllB.append {a b : List Int} (ha : AllB a) (hb : AllB b) : AllB (a ++ b) := fun x hx => by
  rcases List.mem_append.1 hx with hx | hx
  · exact ha x hx
  · exact hb x hx

end Go.Proofs.YteofdfknemopiaaDoor.P
end
section
/- The plain law of the reference's decoding: it is decS. -/
namespace Go.Proofs.YteofdfknemopiaaDoor.P
open Go.RowKit Go.Proofs.YteofdfknemopiaaDoorW.PrintWords Go.Proofs.YteofdfknemopiaaDoorW.PrintLast Go.Proofs.YteofdfknemopiaaDoorW.PrintMore
set_option linter.unusedVariables false
set_option linter.unusedSimpArgs false
theorem str_inj {a b : List Int} (ha : AllB a) (hb : AllB b) (h : (strOfNums a).toList = (strOfNums b).toList) : a = b := by
  rw [Lib.strOfNums_toList, Lib.strOfNums_toList] at h
  unfold Lib.bytesOf at h
  induction a generalizing b with
  | nil => cases b with
    | nil => rfl
    | cons y b => simp at h
  | cons x a ih => cases b with
    | nil => simp at h
    | cons y b =>
      simp only [List.map_cons, List.cons.injEq] at h
      have hx := ha x (List.mem_cons_self ..)
      have hy := hb y (List.mem_cons_self ..)
      have h1 : x.toNat = y.toNat := by
        have := congrArg UInt8.toNat h.1
        simp at this
        omega
      rw [show x = y by omega, ih (fun z hz => ha z (List.mem_cons_of_mem _ hz)) (fun z hz => hb z (List.mem_cons_of_mem _ hz)) h.2]
/-- What the first k bytes would be as a character. -/
def begS (l : List Int) (k : Nat) : Int := if l.length < k then -1 else match k with
  | 1 => l.getD 0 0
  | 2 => (l.getD 0 0 - 192) * 64 + l.getD 1 0 - 128
  | 3 => ((l.getD 0 0 - 224) * 64 + l.getD 1 0 - 128) * 64 + l.getD 2 0 - 128
  | _ => (((l.getD 0 0 - 240) * 64 + l.getD 1 0 - 128) * 64 + l.getD 2 0 - 128) * 64 + l.getD 3 0 - 128
theorem rd_nat (l : List Int) (i : Nat) : rd l (i : Int) = l.getD i 0 := rfl
theorem getD_byte {l : List Int} (hb : AllB l) (i : Nat) : 0 ≤ l.getD i 0 ∧ l.getD i 0 ≤ 255 := by
  rw [List.getD_eq_getElem?_getD]
  cases h : l[i]? with
  | none => simp
  | some x => simpa using hb x (List.mem_of_getElem? h)
theorem bl_end (m : Nat) (l : List Int) (k : Nat) (c : Int) : rubrickref04_begins.l0 (m + 1) l k c (k : Int) = some c := by
  unfold rubrickref04_begins.l0
  rw [if_neg (by omega)]
theorem bl_step (m : Nat) (l : List Int) (k i : Nat) (c : Int) (hi : i < k) (hl : i < l.length) (h4 : k ≤ 4) (hb : AllB l) (h0 : -1000000000 ≤ c) (h1 : c ≤ 1000000000) : rubrickref04_begins.l0 (m + 1) l k c (i : Int) = rubrickref04_begins.l0 m l k (c * 64 + l.getD i 0 - 128) ((i + 1 : Nat) : Int) := by
  have b := getD_byte hb i
  rw [rubrickref04_begins.l0, if_pos (by omega), if_pos (by omega), if_pos (by omega), rd_nat]
  rw [wrap_in (n := c * 64) (by omega) (by omega), wrap_in (n := l.getD i 0) (by omega) (by omega), wrap_in (n := c * 64 + l.getD i 0) (by omega) (by omega), wrap_in (n := c * 64 + l.getD i 0 - 128) (by omega) (by omega), wrap_in (n := (i : Int) + 1) (by omega) (by omega)]
  rfl
theorem begins_f (l : List Int) (hb : AllB l) (hp : 0 < l.length) (k : Nat) (h1 : 1 ≤ k) (h4 : k ≤ 4) : rubrickref04_begins.f 20 l k = some (begS l k) := by
  have b0 := getD_byte hb 0
  have b1 := getD_byte hb 1
  have b2 := getD_byte hb (1 + 1)
  unfold rubrickref04_begins.f begS
  by_cases hl : l.length < k
  · rw [if_pos (by omega), if_pos hl]
  rw [if_neg (by omega), if_neg hl, Option.bind_some, if_pos (by omega), if_pos (by omega), if_pos (by simp; omega)]
  have e0 : rd l 0 = l.getD 0 0 := rfl
  rw [e0]
  have one : (1 : Int) = ((1 : Nat) : Int) := rfl
  obtain rfl | rfl | rfl | rfl : k = 1 ∨ k = 2 ∨ k = 3 ∨ k = 4 := by omega
  · rw [show rd [0, 0, 192, 224, 240] ((1 : Nat) : Int) = 0 from rfl, wrap_in (n := l.getD 0 0) (by omega) (by omega), wrap_in (n := l.getD 0 0 - 0) (by omega) (by omega), one, bl_end]
    show some (l.getD 0 0 - 0) = some (l.getD 0 0)
    rw [Int.sub_zero]
  · rw [show rd [0, 0, 192, 224, 240] ((2 : Nat) : Int) = 192 from rfl, wrap_in (n := l.getD 0 0) (by omega) (by omega), wrap_in (n := l.getD 0 0 - 192) (by omega) (by omega), one, bl_step _ _ _ _ _ (by omega) (by omega) (by omega) hb (by omega) (by omega), bl_end]
    rfl
  · rw [show rd [0, 0, 192, 224, 240] ((3 : Nat) : Int) = 224 from rfl, wrap_in (n := l.getD 0 0) (by omega) (by omega), wrap_in (n := l.getD 0 0 - 224) (by omega) (by omega), one, bl_step _ _ _ _ _ (by omega) (by omega) (by omega) hb (by omega) (by omega), bl_step _ _ _ _ _ (by omega) (by omega) (by omega) hb (by omega) (by omega), bl_end]
    rfl
  · rw [show rd [0, 0, 192, 224, 240] ((4 : Nat) : Int) = 240 from rfl, wrap_in (n := l.getD 0 0) (by omega) (by omega), wrap_in (n := l.getD 0 0 - 240) (by omega) (by omega), one, bl_step _ _ _ _ _ (by omega) (by omega) (by omega) hb (by omega) (by omega), bl_step _ _ _ _ _ (by omega) (by omega) (by omega) hb (by omega) (by omega), bl_step _ _ _ _ _ (by omega) (by omega) (by omega) hb (by omega) (by omega), bl_end]
    rfl
/-- A character's own bytes begin as it. -/
theorem begS_enc (c : Int) (r : List Int) (hr : isR c = true) : begS (encS c ++ r) (manyS c).toNat = c := by
  have h := (isR_iff c).1 hr
  unfold begS encS manyS
  by_cases h1 : c < 128
  · simp [h1]
  · by_cases h2 : c < 2048
    · simp [h1, h2]; omega
    · by_cases h3 : c < 65536
      · simp [h1, h2, h3]; omega
      · simp [h1, h2, h3]; omega
/-- One try. -/
theorem try_f (b : List Int) (i k : Nat) (cn : Int × Int) (hb : AllB b) (hi : i < b.length) (h1 : 1 ≤ k) (h4 : k ≤ 4) :
    rdTry b i k cn = some (if firstS (b.drop i) ≠ (65533, 1) ∧ (firstS (b.drop i)).2 = (k : Int) then firstS (b.drop i) else cn) := by
  have hbd := hb.drop i
  have hpd : 0 < (b.drop i).length := by rw [List.length_drop]; omega
  unfold rdTry
  rw [begins_f _ hbd hpd k h1 h4, Option.bind_some, rright_f, Option.bind_some]
  have hcut : (b.take (min (i + k) b.length)).drop i = (b.drop i).take k := by
    rw [List.drop_take]
    by_cases hk : i + k ≤ b.length
    · rw [Nat.min_eq_left hk, Nat.add_sub_cancel_left]
    · rw [Nat.min_eq_right (by omega), List.take_of_length_le (by rw [List.length_drop]; omega), List.take_of_length_le (by rw [List.length_drop]; omega)]
  rw [hcut]
  generalize hl : b.drop i = l at *
  -- what a try that goes well tells
  have hwell : isR (begS l k) = true → encS (begS l k) = l.take k → firstS l = (begS l k, (k : Int)) := by
    intro hr he
    have hlk : ¬ l.length < k := by
      intro hlt
      have : begS l k = -1 := by unfold begS; rw [if_pos hlt]
      rw [this] at hr
      exact absurd hr (by decide)
    have hlen : ((encS (begS l k)).length : Int) = k := by rw [he, List.length_take]; omega
    rw [many_len] at hlen
    have := firstS_enc (begS l k) (l.drop k) hr
    rw [he, List.take_append_drop, hlen] at this
    exact this
  by_cases hr : isR (begS l k) = true
  · rw [if_pos hr, renc_f _ hr, Option.bind_some]
    have hiff : ((strOfNums (encS (begS l k))).toList = (strOfNums (l.take k)).toList) ↔ encS (begS l k) = l.take k :=
      ⟨fun h => str_inj (encS_bytes _ hr) (fun x hx => hbd x (List.mem_of_mem_take hx)) h, fun h => by rw [h]⟩
    by_cases he : encS (begS l k) = l.take k
    · rw [if_pos (hiff.2 he)]
      have hf := hwell hr he
      rw [hf]
      have hne : (begS l k, (k : Int)) ≠ (65533, 1) := by
        intro h
        simp only [Prod.mk.injEq] at h
        have : (encS (begS l k)).length ≤ 1 := by rw [he, List.length_take]; omega
        rw [h.1] at this
        exact absurd this (by decide)
      rw [if_pos ⟨hne, rfl⟩]
    · rw [if_neg (fun h => he (hiff.1 h))]
      congr 1
      rw [if_neg]
      rintro ⟨hne, hk⟩
      rcases firstS_inv l hpd hbd with h | ⟨c, hc, hf, r, hl2, hm⟩
      · exact hne h
      · rw [hf] at hk
        dsimp only at hk
        have hkk : k = (manyS c).toNat := by omega
        have := begS_enc c r hc
        rw [← hl2, ← hkk] at this
        apply he
        rw [this]
        have hlen : (encS c).length = k := by omega
        rw [hl2, ← hlen, List.take_left']
        rfl
  · rw [if_neg hr]
    congr 1
    rw [if_neg]
    rintro ⟨hne, hk⟩
    rcases firstS_inv l hpd hbd with h | ⟨c, hc, hf, r, hl2, hm⟩
    · exact hne h
    · rw [hf] at hk
      dsimp only at hk
      have hkk : k = (manyS c).toNat := by omega
      have := begS_enc c r hc
      rw [← hl2, ← hkk] at this
      rw [this] at hr
      exact hr hc
theorem tries_f (b : List Int) (i : Nat) (hb : AllB b) (hi : i < b.length) : rdTries b i 4 1 (65533, 1) = some (firstS (b.drop i)) := by
  have hbd := hb.drop i
  have hpd : 0 < (b.drop i).length := by rw [List.length_drop]; omega
  simp only [rdTries]
  rw [try_f b i 1 _ hb hi (by omega) (by omega), Option.bind_some, try_f b i 2 _ hb hi (by omega) (by omega), Option.bind_some, try_f b i 3 _ hb hi (by omega) (by omega), Option.bind_some, try_f b i 4 _ hb hi (by omega) (by omega), Option.bind_some]
  rcases firstS_inv _ hpd hbd with h | ⟨c, hc, hf, r, hl2, hm⟩
  · rw [h]; rfl
  · have := many_pos c
    have hne : firstS (b.drop i) ≠ (65533, 1) := by
      rw [hf]
      intro h
      simp only [Prod.mk.injEq] at h
      rw [h.1] at h
      exact absurd h.2 (by decide)
    congr 1
    have h2 : (firstS (b.drop i)).2 = manyS c := by rw [hf]
    generalize firstS (b.drop i) = x at *
    obtain h | h | h | h : manyS c = 1 ∨ manyS c = 2 ∨ manyS c = 3 ∨ manyS c = 4 := by omega
    all_goals simp [hne, h2, h]
theorem go_f (b : List Int) (hb : AllB b) (d : Nat) : ∀ (i : Nat) (out : List Int) (f : Nat), i ≤ b.length → b.length - i ≤ d → d + 1 ≤ f → rdGo b f i out = some (out ++ decS (b.drop i)) := by
  induction d with
  | zero =>
    intro i out f hi hd hf
    obtain ⟨f, rfl⟩ : ∃ f', f = f' + 1 := ⟨f - 1, by omega⟩
    unfold rdGo
    rw [if_neg (by omega), List.drop_of_length_le (by omega), decS_nil, List.append_nil]
  | succ d ih =>
    intro i out f hi hd hf
    obtain ⟨f, rfl⟩ : ∃ f', f = f' + 1 := ⟨f - 1, by omega⟩
    unfold rdGo
    by_cases hlt : i < b.length
    · have hpd : 0 < (b.drop i).length := by rw [List.length_drop]; omega
      have hn := firstS_n _ hpd (hb.drop i)
      have hn4 : (firstS (b.drop i)).2 ≤ 4 := by
        rcases firstS_inv _ hpd (hb.drop i) with h | ⟨c, hc, hf, r, hl2, hm⟩
        · rw [h]; decide
        · rw [hf]; exact (many_pos c).2
      rw [if_pos hlt, tries_f b i hb hlt, Option.bind_some, if_pos ⟨hn.1, hn4⟩]
      rw [List.length_drop] at hn
      rw [ih _ _ f (by omega) (by omega) (by omega), decS_cons _ hpd (hb.drop i), List.drop_drop, List.append_assoc]
      rfl
    · rw [if_neg hlt, List.drop_of_length_le (by omega), decS_nil, List.append_nil]
theorem rdecode_f (b : List Int) (hb : AllB b) (hl : b.length ≤ 1099511627776) : rubrickref04_Decode.f b = some (decS b) := by
  unfold rubrickref04_Decode.f
  rw [if_pos hl, go_f b hb b.length 0 [] _ (by omega) (by omega) (by omega)]
  rfl
end Go.Proofs.YteofdfknemopiaaDoor.P
end
section
/- Plain laws on terms (those of the Token laws that speak of no law): characters of words, the terms of bytes, which texts are terms. Printed by gen_qtok.py. -/
set_option linter.unusedVariables false
set_option linter.unusedSimpArgs false
namespace Go.Proofs.YteofdfknemopiaaDoor.P
open Go.RowKit Go.Proofs.YteofdfknemopiaaDoorW.PrintWords Go.Proofs.YteofdfknemopiaaDoorW.PrintLast Go.Proofs.YteofdfknemopiaaDoorW.PrintMore
/-- Is a character one of a word? -/
def wordB (c : Int) : Bool := letB c || decide (48 ≤ c ∧ c ≤ 57)
def takeS (s : TS) (c : Int) : TS := if s.fu = true ∨ 64 < s.b.length + (encS (smallS c)).length then { s with op := true, fu := true } else { s with op := true, b := s.b ++ encS (smallS c) }
def stepS (s : TS) (c : Int) : TS := if wordB c = true then takeS s c else endT s
def termsS (l : List Int) : List ByteArray := (endT (l.foldl stepS ⟨[], false, false, []⟩)).out
theorem word_range {c : Int} (h : wordB c = true) : 48 ≤ c ∧ c ≤ 1119 := by
  unfold wordB at h
  rcases Bool.or_eq_true_iff.1 h with h | h
  · have := (letB_iff c).1 h; omega
  · have := of_decide_eq_true h; omega
theorem small_right {c : Int} (h : wordB c = true) : isR (smallS c) = true ∧ 48 ≤ smallS c ∧ smallS c ≤ 1199 := by
  have hr := word_range h
  rw [isR_iff, smallS_eq]
  (repeat' split) <;> omega
theorem digit_f (c : Int) : utf_Digit.f c = some (decide (48 ≤ c ∧ c ≤ 57)) := by
  unfold utf_Digit.f
  by_cases h : c ≥ 48
  · rw [if_pos h]; congr 1; rw [Bool.eq_iff_iff]; simp; omega
  · rw [if_neg h]; congr 1; rw [Bool.eq_iff_iff]; simp; omega
theorem enc_len (c : Int) : (encS c).length ≤ 4 := by
  have := many_len c
  have := many_pos c
  omega
theorem take_f (s : TS) (c : Int) (h : wordB c = true) : takeT s c = some (takeS s c) := by
  have hr := word_range h
  have hs := small_right h
  unfold takeT takeS
  rw [small_f c (by omega) (by omega), Option.bind_some, enc_f _ 50 (by omega), Option.bind_some, if_pos hs.1]
  dsimp only
  have := enc_len (smallS c)
  rw [if_pos (by omega)]
  simp
theorem step_f (s : TS) (c : Int) : stepT s c = some (stepS s c) := by
  unfold stepT stepS
  rw [letter_f, Option.bind_some]
  by_cases hl : letB c = true
  · rw [if_pos hl, Option.bind_some, if_pos rfl]
    have hw : wordB c = true := by unfold wordB; rw [hl]; rfl
    rw [if_pos hw, take_f s c hw]
  · rw [if_neg hl, digit_f, Option.bind_some]
    have hw : wordB c = decide (48 ≤ c ∧ c ≤ 57) := by unfold wordB; rw [Bool.eq_false_iff.2 hl, Bool.false_or]
    rw [← hw]
    by_cases h : wordB c = true
    · rw [if_pos h, if_pos h, take_f s c h]
    · rw [if_neg h, if_neg h]
theorem run_f (l : List Int) : ∀ s : TS, runT l s = some (l.foldl stepS s) := by
  induction l with
  | nil => intro s; rfl
  | cons c l ih => intro s; unfold runT; rw [step_f, Option.bind_some, ih]; rfl
theorem terms_f (b : List Int) (hb : AllB b) (hl : b.length ≤ 100000000) : token_Terms.f b = some (termsS (decS b)) := by
  unfold token_Terms.f
  rw [if_pos (by omega), decode_f b _ hb (by omega) (by omega), Option.bind_some]
  have := decS_length b.length b hb (Nat.le_refl _)
  rw [if_pos (by omega), run_f]
  rfl
/-- Terms that lie already stay ahead. -/
theorem step_out (o : List ByteArray) (s : TS) (c : Int) : stepS { s with out := o ++ s.out } c = { stepS s c with out := o ++ (stepS s c).out } := by
  unfold stepS takeS endT
  dsimp only
  (repeat' split) <;> simp_all
theorem fold_out (o : List ByteArray) (l : List Int) : ∀ s : TS, l.foldl stepS { s with out := o ++ s.out } = { l.foldl stepS s with out := o ++ (l.foldl stepS s).out } := by
  induction l with
  | nil => intro s; rfl
  | cons c l ih => intro s; rw [List.foldl_cons, List.foldl_cons, step_out, ih]
theorem end_out (o : List ByteArray) (s : TS) : (endT { s with out := o ++ s.out }).out = o ++ (endT s).out := by
  unfold endT
  dsimp only
  split <;> simp
theorem terms_mark (a b : List Int) (m : Int) (hm : wordB m = false) : termsS (a ++ m :: b) = termsS a ++ termsS b := by
  unfold termsS
  rw [List.foldl_append, List.foldl_cons]
  have h1 : stepS (a.foldl stepS ⟨[], false, false, []⟩) m = endT (a.foldl stepS ⟨[], false, false, []⟩) := by
    unfold stepS
    rw [if_neg (by rw [hm]; decide)]
  rw [h1]
  generalize a.foldl stepS ⟨[], false, false, []⟩ = s
  have h2 : endT s = { (⟨[], false, false, []⟩ : TS) with out := (endT s).out ++ (⟨[], false, false, []⟩ : TS).out } := by
    unfold endT
    simp
  rw [h2, fold_out, end_out]
  simp
theorem in_word (c : Int) : rubrickref05_In.f c = some (wordB c) := by
  unfold rubrickref05_In.f
  rw [rletter_f, Option.bind_some]
  by_cases hl : letB c = true
  · rw [if_pos hl]
    have hw : wordB c = true := by unfold wordB; rw [hl]; rfl
    rw [hw]
  · rw [if_neg hl]
    have hw : wordB c = decide (48 ≤ c ∧ c ≤ 57) := by unfold wordB; rw [Bool.eq_false_iff.2 hl, Bool.false_or]
    rw [hw]
    by_cases h : c ≥ 48
    · rw [if_pos h]; congr 1; rw [Bool.eq_iff_iff]; simp; omega
    · rw [if_neg h]; congr 1; rw [Bool.eq_iff_iff]; simp; omega
/-- A word's text, as far as it has room. -/
def wordT : List Int → List Int → List Int
  | acc, [] => acc
  | acc, c :: l => if 64 < acc.length + (encS (smallS c)).length then acc else wordT (acc ++ encS (smallS c)) l
theorem fold_full (w : List Int) (hw : ∀ c ∈ w, wordB c = true) : ∀ s : TS, s.op = true → s.fu = true → w.foldl stepS s = s := by
  induction w with
  | nil => intro s _ _; rfl
  | cons c w ih =>
    intro s ho hf
    rw [List.foldl_cons]
    have : stepS s c = s := by
      unfold stepS takeS
      rw [if_pos (hw c (List.mem_cons_self ..)), if_pos (.inl hf)]
      cases s
      simp_all
    rw [this]
    exact ih (fun c hc => hw c (List.mem_cons_of_mem _ hc)) s ho hf
theorem fold_word (w : List Int) (hw : ∀ c ∈ w, wordB c = true) : ∀ (out : List ByteArray) (o : Bool) (acc : List Int), ∃ o' f', w.foldl stepS ⟨out, o, false, acc⟩ = ⟨out, o', f', wordT acc w⟩ ∧ (o' = true ∨ w = [] ∧ o' = o) := by
  induction w with
  | nil => intro out o acc; exact ⟨o, false, rfl, .inr ⟨rfl, rfl⟩⟩
  | cons c w ih =>
    intro out o acc
    have hc := hw c (List.mem_cons_self ..)
    have hw' : ∀ c ∈ w, wordB c = true := fun c hc => hw c (List.mem_cons_of_mem _ hc)
    rw [List.foldl_cons, wordT]
    by_cases h : 64 < acc.length + (encS (smallS c)).length
    · have : stepS ⟨out, o, false, acc⟩ c = ⟨out, true, true, acc⟩ := by
        unfold stepS takeS
        rw [if_pos hc, if_pos (.inr h)]
      rw [this, if_pos h, fold_full w hw' _ rfl rfl]
      exact ⟨true, true, rfl, .inl rfl⟩
    · have : stepS ⟨out, o, false, acc⟩ c = ⟨out, true, false, acc ++ encS (smallS c)⟩ := by
        unfold stepS takeS
        rw [if_pos hc, if_neg (by simp only [Bool.false_eq_true, false_or]; exact h)]
      rw [this, if_neg h]
      obtain ⟨o', f', h1, h2⟩ := ih hw' out true (acc ++ encS (smallS c))
      exact ⟨o', f', h1, .inl (h2.elim id (·.2))⟩
/-- The terms of a word and what is behind it. -/
theorem terms_word (w r : List Int) (hw : ∀ c ∈ w, wordB c = true) (hr : ∀ c, r.head? = some c → wordB c = false) (out : List ByteArray) :
    (endT ((w ++ r).foldl stepS ⟨out, false, false, []⟩)).out = (if w = [] then out else out ++ [strOfNums (wordT [] w)]) ++ termsS r.tail := by
  rw [List.foldl_append]
  obtain ⟨o', f', h1, h2⟩ := fold_word w hw out false []
  rw [h1]
  have hout : (endT ⟨out, o', f', wordT [] w⟩).out = if w = [] then out else out ++ [strOfNums (wordT [] w)] := by
    unfold endT
    dsimp only
    by_cases hw0 : w = []
    · subst hw0
      rcases h2 with rfl | ⟨_, rfl⟩
      · exfalso
        have := congrArg TS.op h1
        simp at this
      · simp
    · rcases h2 with rfl | ⟨h2, _⟩
      · rw [if_pos rfl, if_neg hw0]
      · exact absurd h2 hw0
  cases r with
  | nil =>
    rw [List.foldl_nil, hout]
    have : termsS ([] : List Int).tail = [] := by unfold termsS endT; simp
    rw [this, List.append_nil]
  | cons c r =>
    have hc := hr c rfl
    rw [List.foldl_cons, List.tail_cons]
    have h3 : stepS ⟨out, o', f', wordT [] w⟩ c = endT ⟨out, o', f', wordT [] w⟩ := by unfold stepS; rw [if_neg (by rw [hc]; decide)]
    rw [h3, ← hout]
    have h4 : endT ⟨out, o', f', wordT [] w⟩ = { (⟨[], false, false, []⟩ : TS) with out := (endT ⟨out, o', f', wordT [] w⟩).out ++ (⟨[], false, false, []⟩ : TS).out } := by unfold endT; simp
    rw [h4, fold_out, end_out]
    simp [termsS]
theorem bytes_ext {a b : ByteArray} (h : a.toList = b.toList) : a = b := by
  rw [Lib.toList_data, Lib.toList_data] at h
  cases a; cases b
  congr 1
  exact Array.toList_inj.1 h
theorem str_append (a b : List Int) : strOfNums a ++ strOfNums b = strOfNums (a ++ b) := by
  apply bytes_ext
  rw [Lib.toList_data, Lib.toList_data]
  simp [strOfNums]
theorem terms_nil : termsS [] = [] := by unfold termsS endT; simp
/-- The small letters' bytes of a word. -/
def flatW (w : List Int) : List Int := w.flatMap fun c => encS (smallS c)
theorem wordT_pre : ∀ (w acc : List Int), acc.length ≤ 64 → ∃ n, n ≤ w.length ∧ wordT acc w = acc ++ flatW (w.take n) ∧ (wordT acc w).length ≤ 64 ∧ (n = w.length ∨ (wordT acc w).length < acc.length + (flatW w).length)
  | [], acc, h => ⟨0, Nat.le_refl _, by simp [wordT, flatW], by simpa [wordT] using h, .inl rfl⟩
  | c :: w, acc, h => by
    rw [wordT]
    by_cases hb : 64 < acc.length + (encS (smallS c)).length
    · rw [if_pos hb]
      refine ⟨0, Nat.zero_le _, by simp [flatW], h, .inr ?_⟩
      have : (encS (smallS c)).length ≤ (flatW (c :: w)).length := by unfold flatW; rw [List.flatMap_cons, List.length_append]; omega
      omega
    · rw [if_neg hb]
      obtain ⟨n, h1, h2, h3, h4⟩ := wordT_pre w (acc ++ encS (smallS c)) (by rw [List.length_append]; omega)
      refine ⟨n + 1, by simp; omega, ?_, h3, ?_⟩
      · rw [h2, List.take_succ_cons]
        unfold flatW
        rw [List.flatMap_cons, List.append_assoc]
      · rcases h4 with rfl | h4
        · exact .inl (by simp)
        · refine .inr ?_
          rw [List.length_append] at h4
          have : (flatW (c :: w)).length = (encS (smallS c)).length + (flatW w).length := by unfold flatW; rw [List.flatMap_cons, List.length_append]
          omega
theorem wordT_one (c : Int) (w : List Int) : ∃ n, 1 ≤ n ∧ n ≤ (c :: w).length ∧ wordT [] (c :: w) = flatW ((c :: w).take n) ∧ (wordT [] (c :: w)).length ≤ 64 := by
  rw [wordT]
  have hl := enc_len (smallS c)
  rw [if_neg (by simp; omega), List.nil_append]
  obtain ⟨n, h1, h2, h3, _⟩ := wordT_pre w (encS (smallS c)) (by omega)
  refine ⟨n + 1, by omega, by simp; omega, ?_, h3⟩
  rw [h2, List.take_succ_cons]
  unfold flatW
  rw [List.flatMap_cons]
theorem small_word {c : Int} (h : wordB c = true) : wordB (smallS c) = true ∧ smallS (smallS c) = smallS c ∧ manyS (smallS c) = manyS c := by
  have hr := word_range h
  unfold wordB at h
  rcases Bool.or_eq_true_iff.1 h with h | h
  · have hl := (letB_iff c).1 h
    have e := smallS_eq c
    refine ⟨?_, ?_, ?_⟩
    · unfold wordB
      rw [(letB_iff (smallS c)).2 (by rw [e]; (repeat' split) <;> omega)]
      rfl
    · rw [smallS_eq (smallS c), e]
      (repeat' split) <;> omega
    · rw [e]
      unfold manyS
      (repeat' split) <;> omega
  · have hd := of_decide_eq_true h
    have e : smallS c = c := by rw [smallS_eq, if_neg (by omega), if_neg (by omega)]
    rw [e]
    refine ⟨?_, e, rfl⟩
    unfold wordB
    rw [decide_eq_true hd, Bool.or_true]
theorem dflat_bytes (l : List Int) (h : ∀ c ∈ l, isR c = true) : AllB (l.flatMap encS) := fun x hx => by
  obtain ⟨c, hc, hx⟩ := List.mem_flatMap.1 hx
  exact encS_bytes c (h c hc) x hx
theorem dflat (l : List Int) (h : ∀ c ∈ l, isR c = true) : decS (l.flatMap encS) = l := by
  induction l with
  | nil => rfl
  | cons c l ih =>
    rw [List.flatMap_cons, decS_enc c _ (h c (List.mem_cons_self ..)), ih (fun x hx => h x (List.mem_cons_of_mem _ hx))]
    exact (encS_bytes c (h c (List.mem_cons_self ..))).append (dflat_bytes l (fun x hx => h x (List.mem_cons_of_mem _ hx)))
theorem flatW_eq (w : List Int) : flatW w = (w.map smallS).flatMap encS := by unfold flatW; rw [List.flatMap_map]
theorem flatW_dec (w : List Int) (h : ∀ c ∈ w, wordB c = true) : decS (flatW w) = w.map smallS ∧ AllB (flatW w) := by
  have hr : ∀ c ∈ w.map smallS, isR c = true := fun c hc => by
    obtain ⟨d, hd, rfl⟩ := List.mem_map.1 hc
    exact (small_right (h d hd)).1
  rw [flatW_eq]
  exact ⟨dflat _ hr, fun x hx => by
    obtain ⟨c, hc, hx⟩ := List.mem_flatMap.1 hx
    exact encS_bytes c (hr c hc) x hx⟩
/-- What a character costs at least. -/
def costC (c : Int) : Nat := if wordB c = true then (encS (smallS c)).length else 1
def costL : List Int → Nat
  | [] => 0
  | c :: l => costC c + costL l
/-- What the words' characters cost. -/
def costW : List Int → Nat
  | [] => 0
  | c :: l => (if wordB c = true then (encS (smallS c)).length else 0) + costW l
theorem cost_le : ∀ l, costW l ≤ costL l
  | [] => Nat.le_refl _
  | c :: l => by
    have := cost_le l
    unfold costW costL costC
    split <;> omega
theorem cost_lt : ∀ l, (∃ c ∈ l, wordB c = false) → costW l < costL l
  | c :: l, ⟨x, hx, hw⟩ => by
    have hle := cost_le l
    unfold costW costL costC
    rcases List.mem_cons.1 hx with rfl | hx
    · rw [hw]
      simp
      omega
    · have := cost_lt l ⟨x, hx, hw⟩
      split <;> omega
theorem cost_dec (d : Nat) : ∀ l : List Int, AllB l → l.length ≤ d → costL (decS l) ≤ l.length := by
  induction d with
  | zero =>
    intro l hb hl
    obtain rfl : l = [] := List.eq_nil_of_length_eq_zero (by omega)
    simp [decS_nil, costL]
  | succ d ih =>
    intro l hb hl
    by_cases hp : 0 < l.length
    · have hn := firstS_n l hp hb
      have ih' := ih (l.drop (firstS l).2.toNat) (hb.drop _) (by rw [List.length_drop]; omega)
      rw [List.length_drop] at ih'
      rw [decS_cons l hp hb, costL]
      have hc : (costC (firstS l).1 : Int) ≤ (firstS l).2 := by
        unfold costC
        by_cases hw : wordB (firstS l).1 = true
        · rw [if_pos hw]
          rcases firstS_inv l hp hb with h | ⟨c, hr, h, _⟩
          · rw [h] at hw; exact absurd hw (by decide)
          · rw [h] at hw ⊢
            rw [many_len]
            exact Int.le_of_eq (small_word hw).2.2
        · rw [if_neg hw]
          exact hn.1
      omega
    · obtain rfl : l = [] := List.eq_nil_of_length_eq_zero (by omega)
      simp [decS_nil, costL]
/-- The bytes of terms, and of the word that goes on. -/
def sizeL : List ByteArray → Nat
  | [] => 0
  | s :: l => s.size + sizeL l
theorem sizeL_append (a b : List ByteArray) : sizeL (a ++ b) = sizeL a + sizeL b := by
  induction a with
  | nil => simp [sizeL]
  | cons x a ih => rw [List.cons_append, sizeL, sizeL, ih]; omega
theorem end_size (s : TS) : sizeL (endT s).out ≤ sizeL s.out + s.b.length := by
  unfold endT
  dsimp only
  split
  · rw [sizeL_append, sizeL, sizeL, strOfNums_size]
    omega
  · omega
theorem fold_size (l : List Int) : ∀ s : TS, sizeL (l.foldl stepS s).out + (l.foldl stepS s).b.length ≤ sizeL s.out + s.b.length + costW l := by
  induction l with
  | nil => intro s; simp [costW]
  | cons c l ih =>
    intro s
    rw [List.foldl_cons, costW]
    have h := ih (stepS s c)
    have hs : sizeL (stepS s c).out + (stepS s c).b.length ≤ sizeL s.out + s.b.length + (if wordB c = true then (encS (smallS c)).length else 0) := by
      unfold stepS
      by_cases hw : wordB c = true
      · rw [if_pos hw, if_pos hw]
        unfold takeS
        split
        · dsimp only; omega
        · dsimp only; rw [List.length_append]; omega
      · rw [if_neg hw, if_neg hw]
        have := end_size s
        have e : (endT s).b.length = 0 := rfl
        omega
    omega
theorem terms_size (l : List Int) : sizeL (termsS l) ≤ costW l := by
  unfold termsS
  have h1 := end_size (l.foldl stepS ⟨[], false, false, []⟩)
  have h2 := fold_size l ⟨[], false, false, []⟩
  simp only [sizeL, List.length_nil] at h2
  omega
theorem costW_flat : ∀ w, (∀ c ∈ w, wordB c = true) → costW w = (flatW w).length
  | [], _ => rfl
  | c :: w, h => by
    have := costW_flat w (fun c hc => h c (List.mem_cons_of_mem _ hc))
    unfold costW flatW
    rw [if_pos (h c (List.mem_cons_self ..)), List.flatMap_cons, List.length_append, this]
    rfl
/-- Are bytes those of a term? -/
def OkT (l : List Int) : Prop := (∀ c ∈ decS l, wordB c = true ∧ smallS c = c) ∧ 0 < (decS l).length ∧ l.length ≤ 64
theorem terms_all (w : List Int) (hw : ∀ c ∈ w, wordB c = true) (hne : w ≠ []) : termsS w = [strOfNums (wordT [] w)] := by
  have h := terms_word w [] hw (fun c hc => by cases hc) []
  rw [List.append_nil, if_neg hne, List.nil_append, List.tail_nil, terms_nil, List.append_nil] at h
  exact h
theorem ok_terms (l : List Int) (hb : AllB l) (h : OkT l) : termsS (decS l) = [strOfNums l] := by
  obtain ⟨h1, h2, h3⟩ := h
  have hw : ∀ c ∈ decS l, wordB c = true := fun c hc => (h1 c hc).1
  have hne : decS l ≠ [] := fun e => by rw [e] at h2; exact absurd h2 (by decide)
  have hbad : ∀ c ∈ decS l, c ≠ 65533 := fun c hc e => by
    have := word_range (hw c hc)
    omega
  have hflat := (decS_only l.length l hb (Nat.le_refl _) hbad).1
  have hf : flatW (decS l) = l := by
    rw [flatW_eq]
    have : (decS l).map smallS = decS l := by
      conv => rhs; rw [← List.map_id (decS l)]
      exact List.map_congr_left (fun c hc => (h1 c hc).2)
    rw [this, hflat]
  rw [terms_all _ hw hne]
  obtain ⟨n, hn, he, _, hor⟩ := wordT_pre (decS l) [] (by simp)
  rcases hor with rfl | hlt
  · rw [List.take_length, List.nil_append, hf] at he
    rw [he]
  · -- nothing is cut: it has room
    exfalso
    rw [hf] at hlt
    have hroom : ∀ (w acc : List Int), acc.length + (flatW w).length ≤ 64 → wordT acc w = acc ++ flatW w := by
      intro w
      induction w with
      | nil => intro acc _; simp [wordT, flatW]
      | cons c w ih =>
        intro acc hr
        have e : flatW (c :: w) = encS (smallS c) ++ flatW w := by unfold flatW; rw [List.flatMap_cons]
        rw [e, List.length_append] at hr
        rw [wordT, if_neg (by omega), ih _ (by rw [List.length_append]; omega), e, List.append_assoc]
    rw [hroom (decS l) [] (by rw [hf]; simpa using h3), hf] at hlt
    simp at hlt
theorem terms_ok (l : List Int) (hb : AllB l) (h : termsS (decS l) = [strOfNums l]) : OkT l := by
  have hs := terms_size (decS l)
  rw [h] at hs
  simp only [sizeL, strOfNums_size] at hs
  have hc := cost_dec l.length l hb (Nat.le_refl _)
  have hw : ∀ c ∈ decS l, wordB c = true := fun c hcm => by
    cases hq : wordB c with
    | true => rfl
    | false =>
      have := cost_lt (decS l) ⟨c, hcm, hq⟩
      omega
  have hne : decS l ≠ [] := fun e => by rw [e, terms_nil] at h; cases h
  rw [terms_all _ hw hne] at h
  obtain ⟨n, hn, he, h64, hor⟩ := wordT_pre (decS l) [] (by simp)
  rw [List.nil_append] at he
  have hwt : ∀ c ∈ (decS l).take n, wordB c = true := fun c hc => hw c (List.mem_of_mem_take hc)
  have hfd := flatW_dec _ hwt
  have hl : wordT [] (decS l) = l := by
    refine str_inj (by rw [he]; exact hfd.2) hb ?_
    have := List.head_eq_of_cons_eq h
    rw [this]
  have hcw := costW_flat (decS l) hw
  have hnl : n = (decS l).length := by
    rcases hor with e | hlt
    · exact e
    · rw [hl] at hlt
      have hcl := cost_le (decS l)
      simp only [List.length_nil] at hlt
      omega
  have hfl : flatW (decS l) = l := by
    have q := he
    rw [hnl, List.take_length] at q
    rw [← q]
    exact hl
  have hfd2 := flatW_dec (decS l) hw
  rw [hfl] at hfd2
  refine ⟨fun c hc => ⟨hw c hc, ?_⟩, List.length_pos_iff.2 hne, by rw [← hl]; exact h64⟩
  obtain ⟨i, hi, rfl⟩ := List.mem_iff_getElem.1 hc
  have e := congrArg (fun q => q[i]?) hfd2.1
  simp only [List.getElem?_map, List.getElem?_eq_getElem hi, Option.map_some, Option.some.injEq] at e
  exact e.symm
theorem takeW (l : List Int) : ∀ c ∈ l.takeWhile wordB, wordB c = true := by
  induction l with
  | nil => intro c hc; cases hc
  | cons x l ih =>
    intro c hc
    rw [List.takeWhile_cons] at hc
    by_cases h : wordB x = true
    · rw [if_pos h] at hc
      rcases List.mem_cons.1 hc with rfl | hc
      · exact h
      · exact ih c hc
    · rw [if_neg h] at hc
      cases hc
/-- Each term of characters is right. -/
theorem terms_each (d : Nat) : ∀ l : List Int, l.length ≤ d → ∀ t ∈ termsS l, ∃ u, AllB u ∧ OkT u ∧ t = strOfNums u ∧ 0 < u.length := by
  induction d with
  | zero =>
    intro l hl t ht
    obtain rfl : l = [] := List.eq_nil_of_length_eq_zero (by omega)
    rw [terms_nil] at ht
    cases ht
  | succ d ih =>
    intro l hl t ht
    have hsp : l = l.takeWhile wordB ++ l.dropWhile wordB := (List.takeWhile_append_dropWhile).symm
    have hw : ∀ c ∈ l.takeWhile wordB, wordB c = true := takeW l
    have hr : ∀ c, (l.dropWhile wordB).head? = some c → wordB c = false := fun c hc => by
      have := List.head?_dropWhile_not wordB l
      rw [hc] at this
      simpa using this
    have h := terms_word (l.takeWhile wordB) (l.dropWhile wordB) hw hr []
    rw [← hsp] at h
    have h' : termsS l = (if l.takeWhile wordB = [] then [] else [] ++ [strOfNums (wordT [] (l.takeWhile wordB))]) ++ termsS (l.dropWhile wordB).tail := h
    rw [h'] at ht
    rcases List.mem_append.1 ht with ht | ht
    · by_cases h0 : l.takeWhile wordB = []
      · rw [if_pos h0] at ht; cases ht
      · rw [if_neg h0, List.nil_append] at ht
        rw [List.mem_singleton.1 ht]
        cases hq : l.takeWhile wordB with
        | nil => exact absurd hq h0
        | cons c w =>
          rw [hq] at hw
          obtain ⟨n, n1, n2, he, h64⟩ := wordT_one c w
          have hwt : ∀ x ∈ (c :: w).take n, wordB x = true := fun x hx => hw x (List.mem_of_mem_take hx)
          have hfd := flatW_dec _ hwt
          rw [he] at h64 ⊢
          have hlen : 0 < ((c :: w).take n).length := by rw [List.length_take]; omega
          refine ⟨_, hfd.2, ⟨?_, by rw [hfd.1, List.length_map]; exact hlen, h64⟩, rfl, ?_⟩
          · intro x hx
            rw [hfd.1] at hx
            obtain ⟨y, hy, rfl⟩ := List.mem_map.1 hx
            exact ⟨(small_word (hwt y hy)).1, (small_word (hwt y hy)).2.1⟩
          · have := decS_length _ (flatW ((c :: w).take n)) hfd.2 (Nat.le_refl _)
            rw [hfd.1, List.length_map] at this
            omega
    · refine ih _ ?_ t ht
      have h1 := congrArg List.length hsp
      rw [List.length_append] at h1
      rw [List.length_tail]
      by_cases h0 : (l.dropWhile wordB).length = 0
      · omega
      · omega
theorem bytes_all (s : ByteArray) : AllB (bytesOf s) := fun x hx => by
  unfold bytesOf at hx
  obtain ⟨b, _, rfl⟩ := List.mem_map.1 hx
  have := UInt8.toNat_lt b
  omega
theorem str_bytes (s : ByteArray) : strOfNums (bytesOf s) = s := by
  apply bytes_ext
  rw [Lib.toList_data, Lib.toList_data]
  unfold strOfNums bytesOf
  simp only [List.map_map]
  conv => rhs; rw [← List.map_id s.data.toList]
  refine List.map_congr_left (fun x hx => ?_)
  simp
theorem bytes_str (u : List Int) (hu : AllB u) : bytesOf (strOfNums u) = u := by
  unfold strOfNums bytesOf
  simp only [List.map_map]
  conv => rhs; rw [← List.map_id u]
  refine List.map_congr_left (fun x hx => ?_)
  have := hu x hx
  simp
  omega
theorem bytesO_f (s : ByteArray) (h : s.size ≤ 1000) : bytesO s = some (bytesOf s) := by
  unfold bytesO
  rw [if_pos (by omega)]
open Classical in
theorem right_tok (l : List Int) (hb : AllB l) (hl : l.length ≤ 1000) : token_Right.f (strOfNums l) = some (decide (OkT l)) := by
  unfold token_Right.f
  rw [bytesO_f _ (by rw [strOfNums_size]; exact hl), bytes_str l hb, Option.bind_some, terms_f l hb (by omega), Option.bind_some]
  by_cases ho : OkT l
  · rw [ok_terms l hb ho, if_pos (by simp), if_pos (by simp), decide_eq_true ho]
    congr 1
    show ((strOfNums l).toList == (strOfNums l).toList) = true
    exact beq_self_eq_true _
  · rw [decide_eq_false ho]
    by_cases h1 : ((termsS (decS l)).length : Int) = 1
    · rw [if_pos h1, if_pos (by omega)]
      congr 1
      match hq : termsS (decS l), h1 with
      | [t], _ =>
        show (t.toList == (strOfNums l).toList) = false
        rw [beq_eq_false_iff_ne]
        intro he
        exact ho (terms_ok l hb (by rw [hq, bytes_ext he]))
    · rw [if_neg h1]
theorem rr_l0 (s : ByteArray) (l : List Int) (hl : l.length ≤ 100000) (hlb : ∀ c ∈ l, -1 ≤ c ∧ c ≤ 2000000) (d : Nat) : ∀ (i k : Nat), l.length - i ≤ d → i ≤ l.length → d + 2 ≤ k →
    rubrickref05_Right.l0 k s l (i : Int) = some (decide ((∀ c ∈ l.drop i, wordB c = true ∧ smallS c = c) ∧ 0 < l.length ∧ s.size ≤ 64)) := by
  have hend : ∀ (i : Nat), l.length ≤ i → (if (l.length : Int) > 0 then (some (decide ((s.size : Int) ≤ 64))) else (some false)) = some (decide ((∀ c ∈ l.drop i, wordB c = true ∧ smallS c = c) ∧ 0 < l.length ∧ s.size ≤ 64)) := by
    intro i hi
    rw [List.drop_of_length_le hi]
    by_cases h0 : 0 < l.length
    · rw [if_pos (by omega)]
      congr 1
      rw [Bool.eq_iff_iff, decide_eq_true_iff, decide_eq_true_iff]
      exact ⟨fun h => ⟨fun c hc => (by cases hc), h0, by omega⟩, fun h => by have := h.2.2; omega⟩
    · rw [if_neg (by omega), decide_eq_false (fun h => h0 h.2.1)]
  induction d with
  | zero =>
    intro i k hi hi2 hk
    obtain ⟨k, rfl⟩ : ∃ k', k = k' + 1 := ⟨k - 1, by omega⟩
    rw [rubrickref05_Right.l0, if_neg (by omega)]
    exact hend i (by omega)
  | succ d ih =>
    intro i k hi hi2 hk
    obtain ⟨k, rfl⟩ : ∃ k', k = k' + 1 := ⟨k - 1, by omega⟩
    rw [rubrickref05_Right.l0]
    by_cases h : i < l.length
    · have hc := hlb l[i] (List.getElem_mem h)
      rw [if_pos (by omega), if_pos (by omega), rd_at l i h, in_word, Option.bind_some]
      have hd := List.drop_eq_getElem_cons h
      by_cases hw : wordB l[i] = true
      · rw [if_pos hw, rsmall_f _ (by omega) (by omega), Option.bind_some]
        by_cases hs : smallS l[i] = l[i]
        · rw [if_pos hs, succ_wrap i l.length h (by omega), ih (i + 1) k (by omega) (by omega) (by omega)]
          congr 1
          rw [Bool.eq_iff_iff, decide_eq_true_iff, decide_eq_true_iff, hd]
          constructor
          · rintro ⟨h1, h2⟩
            refine ⟨fun c hc => ?_, h2⟩
            rcases List.mem_cons.1 hc with rfl | hc
            · exact ⟨hw, hs⟩
            · exact h1 c hc
          · rintro ⟨h1, h2⟩
            exact ⟨fun c hc => h1 c (List.mem_cons_of_mem _ hc), h2⟩
        · rw [if_neg hs, decide_eq_false]
          rintro ⟨h1, _⟩
          exact hs (h1 _ (by rw [hd]; exact List.mem_cons_self ..)).2
      · rw [if_neg hw, decide_eq_false]
        rintro ⟨h1, _⟩
        exact hw (h1 _ (by rw [hd]; exact List.mem_cons_self ..)).1
    · rw [if_neg (by omega)]
      exact hend i (by omega)
theorem dec_bound (d : Nat) : ∀ l : List Int, AllB l → l.length ≤ d → ∀ c ∈ decS l, -1 ≤ c ∧ c ≤ 2000000 := by
  induction d with
  | zero =>
    intro l hb hl c hc
    obtain rfl : l = [] := List.eq_nil_of_length_eq_zero (by omega)
    cases hc
  | succ d ih =>
    intro l hb hl c hc
    by_cases hp : 0 < l.length
    · have hn := firstS_n l hp hb
      rw [decS_cons l hp hb] at hc
      rcases List.mem_cons.1 hc with rfl | hc
      · rcases firstS_inv l hp hb with h | ⟨c, hr, h, _⟩
        · rw [h]; decide
        · rw [h]
          have := (isR_iff c).1 hr
          dsimp only
          omega
      · exact ih _ (hb.drop _) (by rw [List.length_drop]; omega) c hc
    · obtain rfl : l = [] := List.eq_nil_of_length_eq_zero (by omega)
      cases hc
open Classical in
theorem right_ref (l : List Int) (hb : AllB l) (hl : l.length ≤ 1000) (k : Nat) (hk : 2000 ≤ k) : rubrickref05_Right.f k (strOfNums l) = some (decide (OkT l)) := by
  have hn := decS_length l.length l hb (Nat.le_refl _)
  unfold rubrickref05_Right.f
  rw [bytesO_f _ (by rw [strOfNums_size]; exact hl), bytes_str l hb, Option.bind_some, rdecode_f l hb (by omega), Option.bind_some]
  have h := rr_l0 (strOfNums l) (decS l) (by omega) (dec_bound l.length l hb (Nat.le_refl _)) (decS l).length 0 k (by omega) (by omega) (by omega)
  rw [List.drop_zero] at h
  rw [show ((0 : Int)) = ((0 : Nat) : Int) from rfl, h]
  congr 1
  rw [Bool.eq_iff_iff, decide_eq_true_iff, decide_eq_true_iff, strOfNums_size]
  rfl
end Go.Proofs.YteofdfknemopiaaDoor.P
end
section
/- Query, plain (1): the things of a text. -/
set_option linter.unusedVariables false
set_option linter.unusedSimpArgs false
namespace Go.Proofs.YteofdfknemopiaaDoor.P
open Go.RowKit Go.Proofs.YteofdfknemopiaaDoorW.PrintWords Go.Proofs.YteofdfknemopiaaDoorW.PrintLast Go.Proofs.YteofdfknemopiaaDoorW.PrintMore
/-- The characters of the word that a row begins with. -/
def headW (r : List Int) : List Int := (decS r).takeWhile wordB
def wlen (r : List Int) : Nat := ((headW r).flatMap encS).length
def wtext (r : List Int) : ByteArray := strOfNums (wordT [] (headW r))
theorem word_isR {c : Int} (h : wordB c = true) : isR c = true := by
  have := word_range h
  exact (isR_iff c).2 (by omega)
theorem head_word (r : List Int) : ∀ c ∈ headW r, wordB c = true := fun c hc => by
  have h := List.all_takeWhile (p := wordB) (l := decS r)
  exact List.all_eq_true.1 h c hc
theorem enc_pos (c : Int) : 1 ≤ (encS c).length := by
  have h1 := many_len c
  have h2 := many_pos c
  omega
theorem wordL_f (k : Nat) (hk : 6 ≤ k) : ∀ (cs : List Int) (n : Int), 0 ≤ n → n + 4 * (cs.length : Int) < 1000000000000000 → wordL k cs n = some (n + (((cs.takeWhile wordB).flatMap encS).length : Int))
  | [], n, _, _ => by simp [wordL]
  | c :: cs, n, h0, h1 => by
    have hl := enc_len c
    simp only [List.length_cons] at h1
    have hw : wrap64 (n + ((encS c).length : Int)) = n + ((encS c).length : Int) := by unfold wrap64; omega
    have ih := wordL_f k hk cs (n + ((encS c).length : Int)) (by omega) (by omega)
    rw [wordL, letter_f, Option.bind_some]
    by_cases hL : letB c = true
    · have hW : wordB c = true := by unfold wordB; rw [hL]; rfl
      rw [if_pos hL, enc_f c k hk, Option.bind_some, if_pos (word_isR hW)]
      rw [hw, ih, List.takeWhile_cons_of_pos hW, List.flatMap_cons, List.length_append]
      congr 1; omega
    · rw [if_neg hL, digit_f, Option.bind_some]
      by_cases hD : 48 ≤ c ∧ c ≤ 57
      · have hW : wordB c = true := by unfold wordB; rw [decide_eq_true hD, Bool.or_true]
        rw [decide_eq_true hD, if_pos rfl, enc_f c k hk, Option.bind_some, if_pos (word_isR hW)]
        rw [hw, ih, List.takeWhile_cons_of_pos hW, List.flatMap_cons, List.length_append]
        congr 1; omega
      · have hW : ¬ wordB c = true := by
          unfold wordB
          rw [decide_eq_false hD, Bool.or_false]
          exact hL
        rw [decide_eq_false hD, if_neg (by decide), List.takeWhile_cons_of_neg hW]
        simp
theorem word_f (kw : Nat) (r : List Int) (hb : AllB r) (hl : r.length < 1000000000) (hk : r.length + 20 ≤ kw) : wordF kw r = some (wlen r : Int) := by
  unfold wordF
  have hd := decS_length r.length r hb (Nat.le_refl _)
  rw [decode_f r kw hb (by omega) hk, Option.bind_some, wordL_f kw (by omega) _ 0 (by omega) (by omega)]
  congr 1
  unfold wlen headW
  omega
theorem head_split (d : Nat) : ∀ r : List Int, AllB r → r.length ≤ d → ∃ s, r = (headW r).flatMap encS ++ s ∧ decS s = (decS r).dropWhile wordB := by
  induction d with
  | zero =>
    intro r hb hl
    obtain rfl : r = [] := List.eq_nil_of_length_eq_zero (by omega)
    exact ⟨[], rfl, rfl⟩
  | succ d ih =>
    intro r hb hl
    rcases Nat.eq_zero_or_pos r.length with h0 | h0
    · obtain rfl : r = [] := List.eq_nil_of_length_eq_zero h0
      exact ⟨[], rfl, rfl⟩
    · have hc := decS_cons r h0 hb
      rcases firstS_inv r h0 hb with hf | ⟨c, hr, hf, r', hr', hm⟩
      · have hw : ¬ wordB (firstS r).1 = true := by rw [hf]; decide
        refine ⟨r, ?_, ?_⟩
        · unfold headW; rw [hc, List.takeWhile_cons_of_neg hw]; rfl
        · rw [hc, List.dropWhile_cons_of_neg hw]
      · rw [hf] at hc
        dsimp only at hc
        have hdr : r.drop (manyS c).toNat = r' := by
          rw [← hm, Int.toNat_natCast]
          conv => lhs; rw [hr']
          rw [List.drop_left]
        rw [hdr] at hc
        by_cases hw : wordB c = true
        · have hb' : AllB r' := fun x hx => hb x (by rw [hr']; exact List.mem_append_right _ hx)
          have hl' : r'.length ≤ d := by
            have := enc_pos c
            have h2 := congrArg List.length hr'
            rw [List.length_append] at h2
            omega
          obtain ⟨s, h1, h2⟩ := ih r' hb' hl'
          refine ⟨s, ?_, ?_⟩
          · unfold headW at h1 ⊢
            rw [hc, List.takeWhile_cons_of_pos hw, List.flatMap_cons, List.append_assoc, ← h1]
            exact hr'
          · rw [hc, List.dropWhile_cons_of_pos hw]; exact h2
        · refine ⟨r, ?_, ?_⟩
          · unfold headW; rw [hc, List.takeWhile_cons_of_neg hw]; rfl
          · rw [hc, List.dropWhile_cons_of_neg hw]
theorem wlen_le (r : List Int) (hb : AllB r) : wlen r ≤ r.length := by
  obtain ⟨s, h, _⟩ := head_split r.length r hb (Nat.le_refl _)
  have := congrArg List.length h
  rw [List.length_append] at this
  unfold wlen
  omega
theorem word_take (r : List Int) (hb : AllB r) : r.take (wlen r) = (headW r).flatMap encS := by
  obtain ⟨s, h, _⟩ := head_split r.length r hb (Nat.le_refl _)
  have h2 : ((headW r).flatMap encS ++ s).take (wlen r) = (headW r).flatMap encS := by
    unfold wlen
    rw [List.take_left]
  rw [← h] at h2
  exact h2
theorem wlen_pos (r : List Int) (h : headW r ≠ []) : 1 ≤ wlen r := by
  unfold wlen
  cases hh : headW r with
  | nil => exact absurd hh h
  | cons c w =>
    rw [List.flatMap_cons, List.length_append]
    have := enc_pos c
    omega
theorem word_terms (r : List Int) (hb : AllB r) (hl : r.length ≤ 1000000) (h : headW r ≠ []) : token_Terms.f (r.take (wlen r)) = some [wtext r] := by
  have ht := word_take r hb
  have hlen := wlen_le r hb
  have hw := head_word r
  rw [ht]
  have hbb : AllB ((headW r).flatMap encS) := dflat_bytes _ (fun c hc => word_isR (hw c hc))
  rw [terms_f _ hbb (by rw [← ht, List.length_take]; omega), dflat _ (fun c hc => word_isR (hw c hc)), terms_all _ hw h]
  rfl
/-- What a text has. -/
inductive Tk where
  | word (t : ByteArray)
  | sign (c : Int)
def lexF : Nat → List Int → List Tk
  | 0, _ => []
  | _ + 1, [] => []
  | k + 1, c :: r => if c = 32 then lexF k r else if headW (c :: r) = [] then .sign c :: lexF k r else .word (wtext (c :: r)) :: lexF k ((c :: r).drop (wlen (c :: r)))
def lex (b : List Int) : List Tk := lexF b.length b
theorem lexF_eq : ∀ (k : Nat) (r : List Int), r.length ≤ k → lexF k r = lexF r.length r := by
  intro k
  induction k using Nat.strongRecOn with
  | ind k ih =>
    intro r hr
    cases r with
    | nil => cases k <;> rfl
    | cons c r =>
      cases k with
      | zero => simp at hr
      | succ k =>
        simp only [List.length_cons] at hr ⊢
        rw [lexF, lexF]
        have h1 := ih k (by omega) r (by omega)
        by_cases c1 : c = 32
        · rw [if_pos c1, if_pos c1, h1]
        · rw [if_neg c1, if_neg c1]
          by_cases c2 : headW (c :: r) = []
          · rw [if_pos c2, if_pos c2, h1]
          · rw [if_neg c2, if_neg c2]
            have hp := wlen_pos _ c2
            have hd : ((c :: r).drop (wlen (c :: r))).length ≤ r.length := by rw [List.length_drop, List.length_cons]; omega
            congr 1
            by_cases hk : k = r.length
            · rw [hk]
            · rw [ih k (by omega) _ (by omega), ih r.length (by omega) _ hd]
theorem lex_nil : lex [] = [] := rfl
theorem lex_space (r : List Int) : lex (32 :: r) = lex r := by
  unfold lex
  rw [List.length_cons, lexF, if_pos rfl]
theorem lex_sign (c : Int) (r : List Int) (h : c ≠ 32) (hw : headW (c :: r) = []) : lex (c :: r) = .sign c :: lex r := by
  unfold lex
  rw [List.length_cons, lexF, if_neg h, if_pos hw]
theorem ascii_dec (c : Int) (r : List Int) (h0 : 0 ≤ c) (h1 : c < 128) (hb : AllB r) : decS (c :: r) = c :: decS r := by
  have := decS_mark c r h0 h1 hb 0 [] (fun x hx => by cases hx) (Nat.le_refl _)
  simpa [decS_nil] using this
theorem ascii_head (c : Int) (r : List Int) (h0 : 0 ≤ c) (h1 : c < 128) (hw : wordB c = false) (hb : AllB r) : headW (c :: r) = [] := by
  unfold headW
  rw [ascii_dec c r h0 h1 hb, List.takeWhile_cons_of_neg (by rw [hw]; decide)]
theorem lex_word (r : List Int) (hb : AllB r) (h : headW r ≠ []) : lex r = .word (wtext r) :: lex (r.drop (wlen r)) := by
  cases r with
  | nil => exact absurd rfl h
  | cons c r =>
    have hc : c ≠ 32 := fun e => h (by subst e; exact ascii_head 32 r (by decide) (by decide) (by decide) (fun x hx => hb x (List.mem_cons_of_mem _ hx)))
    unfold lex
    rw [List.length_cons, lexF, if_neg hc, if_neg h]
    have hp := wlen_pos _ h
    congr 1
    exact lexF_eq _ _ (by rw [List.length_drop, List.length_cons]; omega)
theorem lex_len : ∀ (d : Nat) (r : List Int), AllB r → r.length ≤ d → (lex r).length ≤ r.length := by
  intro d
  induction d with
  | zero =>
    intro r hb hl
    obtain rfl : r = [] := List.eq_nil_of_length_eq_zero (by omega)
    exact Nat.le_refl _
  | succ d ih =>
    intro r hb hl
    cases r with
    | nil => exact Nat.le_refl _
    | cons c r =>
      have hb' : AllB r := fun x hx => hb x (List.mem_cons_of_mem _ hx)
      simp only [List.length_cons] at hl ⊢
      by_cases h1 : headW (c :: r) = []
      · by_cases h2 : c = 32
        · rw [h2, lex_space]; have := ih r hb' (by omega); omega
        · rw [lex_sign c r h2 h1, List.length_cons]; have := ih r hb' (by omega); omega
      · have hp := wlen_pos _ h1
        have hd : ((c :: r).drop (wlen (c :: r))).length ≤ r.length := by rw [List.length_drop, List.length_cons]; omega
        rw [lex_word _ hb h1, List.length_cons]
        have := ih ((c :: r).drop (wlen (c :: r))) (hb.drop _) (by omega)
        omega
theorem skip_lex (b : List Int) : ∀ (d a : Nat), b.length - a ≤ d → lex (b.drop a) = lex (b.drop (skipN b a)) ∧ b[skipN b a]? ≠ some 32 := by
  intro d
  induction d with
  | zero =>
    intro a h
    have hn : b[a]? = none := List.getElem?_eq_none (by omega)
    rw [skipN_stop b a (by rw [hn]; simp)]
    exact ⟨rfl, by rw [hn]; simp⟩
  | succ d ih =>
    intro a h
    by_cases hc : b[a]? = some 32
    · obtain ⟨hlt, he⟩ := List.getElem?_eq_some_iff.1 hc
      rw [skipN_space b a hc, List.drop_eq_getElem_cons hlt, he, lex_space]
      exact ih (a + 1) (by omega)
    · rw [skipN_stop b a hc]
      exact ⟨rfl, hc⟩
end Go.Proofs.YteofdfknemopiaaDoor.P
end
section
/- Query, plain (2): reading the things of a text; the parser does so. -/
set_option linter.unusedVariables false
set_option linter.unusedSimpArgs false
namespace Go.Proofs.YteofdfknemopiaaDoor.P
open Go.RowKit Go.Proofs.YteofdfknemopiaaDoorW.PrintWords Go.Proofs.YteofdfknemopiaaDoorW.PrintLast Go.Proofs.YteofdfknemopiaaDoorW.PrintMore
/-- What was read: the steps, how many words, the things that are left; or the error. -/
inductive Res where
  | ok (out : List Qo) (w : Nat) (rest : List Tk)
  | er (e : Int)
def Res.go (x : Option Res) (f : List Qo → Nat → List Tk → Option Res) : Option Res := x.bind fun r => match r with
  | .ok o w t => f o w t
  | .er e => some (.er e)
def opS (k : Int) : Qo := ⟨k, ByteArray.empty⟩
mutual
def unitT : Nat → Nat → Nat → List Tk → Option Res
  | 0, _, _, _ => none
  | k + 1, d, w, T => match T with
    | [] => some (.er 2)
    | .word t :: T' => if w = 16 then some (.er 8) else some (.ok [⟨0, t⟩] (w + 1) T')
    | .sign c :: T' =>
      if c = 33 then some (.er 9)
      else if c = 40 then (if d = 8 then some (.er 8) else Res.go (askT k (d + 1) w T') fun o w' r => match r with
        | .sign c2 :: r' => if c2 = 41 then some (.ok o w' r') else some (.er 2)
        | _ => some (.er 2))
      else some (.er 2)
def partT : Nat → Nat → Nat → List Tk → Option Res
  | 0, _, _, _ => none
  | k + 1, d, w, T => Res.go (unitT k d w T) fun o w' r => partLT k d w' r o
def partLT : Nat → Nat → Nat → List Tk → List Qo → Option Res
  | 0, _, _, _, _ => none
  | k + 1, d, w, T, acc => match T with
    | .sign c :: T' =>
      if c = 33 then Res.go (unitT k d w T') fun o w' r => partLT k d w' r (acc ++ o ++ [opS 3])
      else if c = 38 then Res.go (unitT k d w T') fun o w' r => partLT k d w' r (acc ++ o ++ [opS 1])
      else some (.ok acc w T)
    | _ => some (.ok acc w T)
def askT : Nat → Nat → Nat → List Tk → Option Res
  | 0, _, _, _ => none
  | k + 1, d, w, T => Res.go (partT k d w T) fun o w' r => askLT k d w' r o
def askLT : Nat → Nat → Nat → List Tk → List Qo → Option Res
  | 0, _, _, _, _ => none
  | k + 1, d, w, T, acc => match T with
    | .sign c :: T' =>
      if c = 124 then Res.go (partT k d w T') fun o w' r => askLT k d w' r (acc ++ o ++ [opS 2])
      else some (.ok acc w T)
    | _ => some (.ok acc w T)
end
theorem partLT_nil (k d w : Nat) (acc : List Qo) : partLT (k + 1) d w [] acc = some (.ok acc w []) := by unfold partLT; rfl
theorem partLT_word (k d w : Nat) (t : ByteArray) (T : List Tk) (acc : List Qo) : partLT (k + 1) d w (.word t :: T) acc = some (.ok acc w (.word t :: T)) := by unfold partLT; rfl
theorem partLT_sign (k d w : Nat) (c : Int) (T : List Tk) (acc : List Qo) : partLT (k + 1) d w (.sign c :: T) acc = if c = 33 then Res.go (unitT k d w T) fun o w' r => partLT k d w' r (acc ++ o ++ [opS 3]) else if c = 38 then Res.go (unitT k d w T) fun o w' r => partLT k d w' r (acc ++ o ++ [opS 1]) else some (.ok acc w (.sign c :: T)) := by
  conv => lhs; unfold partLT
theorem askLT_nil (k d w : Nat) (acc : List Qo) : askLT (k + 1) d w [] acc = some (.ok acc w []) := by unfold askLT; rfl
theorem askLT_word (k d w : Nat) (t : ByteArray) (T : List Tk) (acc : List Qo) : askLT (k + 1) d w (.word t :: T) acc = some (.ok acc w (.word t :: T)) := by unfold askLT; rfl
theorem askLT_sign (k d w : Nat) (c : Int) (T : List Tk) (acc : List Qo) : askLT (k + 1) d w (.sign c :: T) acc = if c = 124 then Res.go (partT k d w T) fun o w' r => askLT k d w' r (acc ++ o ++ [opS 2]) else some (.ok acc w (.sign c :: T)) := by
  conv => lhs; unfold askLT
theorem Res.go_some {x : Option Res} {f : List Qo → Nat → List Tk → Option Res} {R : Res} (h : Res.go x f = some R) : (∃ e, x = some (.er e) ∧ R = .er e) ∨ ∃ o w t, x = some (.ok o w t) ∧ f o w t = some R := by
  unfold Res.go at h
  cases x with
  | none => cases h
  | some r =>
    cases r with
    | ok o w t => exact Or.inr ⟨o, w, t, rfl, h⟩
    | er e => exact Or.inl ⟨e, rfl, (Option.some.inj h).symm⟩
/-- No more is told than there is: steps and things left are at most the things there were. -/
def Le (n : Nat) : Option Res → Prop
  | some (.ok o _ t) => o.length + t.length ≤ n
  | _ => True
theorem Le.go {x : Option Res} {f : List Qo → Nat → List Tk → Option Res} {n m : Nat} (hx : Le n x) (hf : ∀ o w t, o.length + t.length ≤ n → Le m (f o w t)) : Le m (Res.go x f) := by
  cases x with
  | none => trivial
  | some r => cases r with
    | ok o w t => exact hf o w t hx
    | er e => trivial
theorem len_T : ∀ k : Nat, (∀ d w T, Le T.length (unitT k d w T)) ∧ (∀ d w T, Le T.length (partT k d w T)) ∧ (∀ d w T acc, Le (acc.length + T.length) (partLT k d w T acc)) ∧ (∀ d w T, Le T.length (askT k d w T)) ∧ (∀ d w T acc, Le (acc.length + T.length) (askLT k d w T acc)) := by
  intro k
  induction k with
  | zero => exact ⟨fun _ _ _ => by rw [unitT]; trivial, fun _ _ _ => by rw [partT]; trivial, fun _ _ _ _ => by rw [partLT]; trivial, fun _ _ _ => by rw [askT]; trivial, fun _ _ _ _ => by rw [askLT]; trivial⟩
  | succ k ih =>
    obtain ⟨hU, hP, hPL, hA, hAL⟩ := ih
    refine ⟨fun d w T => ?_, fun d w T => ?_, fun d w T acc => ?_, fun d w T => ?_, fun d w T acc => ?_⟩
    · cases T with
      | nil => rw [unitT]; trivial
      | cons x T =>
        cases x with
        | word t =>
          rw [unitT]
          by_cases h : w = 16
          · rw [if_pos h]; trivial
          · rw [if_neg h]; show 1 + T.length ≤ T.length + 1; omega
        | sign c =>
          rw [unitT]
          by_cases h1 : c = 33
          · rw [if_pos h1]; trivial
          · rw [if_neg h1]
            by_cases h2 : c = 40
            · rw [if_pos h2]
              by_cases h3 : d = 8
              · rw [if_pos h3]; trivial
              · rw [if_neg h3]
                refine (hA (d + 1) w T).go fun o w' r h => ?_
                rcases r with _ | ⟨_ | c2, r⟩
                · trivial
                · trivial
                · dsimp only
                  by_cases h4 : c2 = 41
                  · rw [if_pos h4]
                    simp only [List.length_cons] at h
                    show o.length + r.length ≤ T.length + 1
                    omega
                  · rw [if_neg h4]; trivial
            · rw [if_neg h2]; trivial
    · rw [partT]
      refine (hU d w T).go fun o w' r h => ?_
      have := hPL d w' r o
      revert this
      cases partLT k d w' r o with
      | none => exact fun _ => trivial
      | some R => cases R with
        | er e => exact fun _ => trivial
        | ok o2 w2 t2 => intro h2; show o2.length + t2.length ≤ T.length; have h3 : o2.length + t2.length ≤ o.length + r.length := h2; omega
    · have self : Le (acc.length + T.length) (some (.ok acc w T)) := Nat.le_refl _
      have step : ∀ (T' : List Tk) (p : Qo), T.length = T'.length + 1 → Le (acc.length + T.length) (Res.go (unitT k d w T') fun o w' r => partLT k d w' r (acc ++ o ++ [p])) := fun T' p hT => by
        refine (hU d w T').go fun o w' r h => ?_
        have := hPL d w' r (acc ++ o ++ [p])
        revert this
        cases partLT k d w' r (acc ++ o ++ [p]) with
        | none => exact fun _ => trivial
        | some R => cases R with
          | er e => exact fun _ => trivial
          | ok o2 w2 t2 =>
            intro h2
            have h3 : o2.length + t2.length ≤ (acc ++ o ++ [p]).length + r.length := h2
            simp only [List.length_append, List.length_singleton] at h3
            show o2.length + t2.length ≤ acc.length + T.length
            omega
      rcases T with _ | ⟨_ | c, T⟩
      · rw [partLT_nil]; exact self
      · rw [partLT_word]; exact self
      · rw [partLT_sign]
        by_cases h1 : c = 33
        · rw [if_pos h1]; exact step T _ rfl
        · rw [if_neg h1]
          by_cases h2 : c = 38
          · rw [if_pos h2]; exact step T _ rfl
          · rw [if_neg h2]; exact self
    · rw [askT]
      refine (hP d w T).go fun o w' r h => ?_
      have := hAL d w' r o
      revert this
      cases askLT k d w' r o with
      | none => exact fun _ => trivial
      | some R => cases R with
        | er e => exact fun _ => trivial
        | ok o2 w2 t2 => intro h2; show o2.length + t2.length ≤ T.length; have h3 : o2.length + t2.length ≤ o.length + r.length := h2; omega
    · have self : Le (acc.length + T.length) (some (.ok acc w T)) := Nat.le_refl _
      have step : ∀ (T' : List Tk) (p : Qo), T.length = T'.length + 1 → Le (acc.length + T.length) (Res.go (partT k d w T') fun o w' r => askLT k d w' r (acc ++ o ++ [p])) := fun T' p hT => by
        refine (hP d w T').go fun o w' r h => ?_
        have := hAL d w' r (acc ++ o ++ [p])
        revert this
        cases askLT k d w' r (acc ++ o ++ [p]) with
        | none => exact fun _ => trivial
        | some R => cases R with
          | er e => exact fun _ => trivial
          | ok o2 w2 t2 =>
            intro h2
            have h3 : o2.length + t2.length ≤ (acc ++ o ++ [p]).length + r.length := h2
            simp only [List.length_append, List.length_singleton] at h3
            show o2.length + t2.length ≤ acc.length + T.length
            omega
      rcases T with _ | ⟨_ | c, T⟩
      · rw [askLT_nil]; exact self
      · rw [askLT_word]; exact self
      · rw [askLT_sign]
        by_cases h1 : c = 124
        · rw [if_pos h1]; exact step T _ rfl
        · rw [if_neg h1]; exact self
/-- What the parser's state and answer are, where this was read (B: the steps that stood before). -/
def Sim (b : List Int) (B : List Qo) (dp : Nat) : Res → Bool × Ps → Prop
  | .ok o w t, x => x.1 = true ∧ x.2.out = B ++ o ∧ x.2.words = w ∧ x.2.deep = dp ∧ lex (b.drop x.2.at_) = t ∧ x.2.at_ ≤ b.length
  | .er e, x => x.1 = false ∧ x.2.e = e ∧ x.2.at_ ≤ b.length
theorem getD_lt {b : List Int} {a : Nat} (h : a < b.length) : b.getD a 0 = b[a] := by
  rw [List.getD_eq_getElem?_getD, List.getElem?_eq_getElem h]; rfl
theorem getD_ge {b : List Int} {a : Nat} (h : b.length ≤ a) : b.getD a 0 = 0 := by
  rw [List.getD_eq_getElem?_getD, List.getElem?_eq_none h]; rfl
theorem sign_head (c : Int) (r : List Int) (hb : AllB r) (h : c = 33 ∨ c = 38 ∨ c = 40 ∨ c = 41 ∨ c = 124) : headW (c :: r) = [] := by
  rcases h with rfl | rfl | rfl | rfl | rfl <;> exact ascii_head _ r (by decide) (by decide) (by decide) hb
/-- What stands behind spaces: the end; a sign; a word. -/
inductive At (b : List Int) (a : Nat) : List Tk → Prop where
  | nil (h : a = b.length) (hc : b.getD a 0 = 0) (hw : wlen (b.drop a) = 0) : At b a []
  | sign (c : Int) (h : a < b.length) (hc : b.getD a 0 = c) (hw : wlen (b.drop a) = 0) : At b a (.sign c :: lex (b.drop (a + 1)))
  | word (h : a < b.length) (hn : headW (b.drop a) ≠ []) (hc : b.getD a 0 ≠ 33 ∧ b.getD a 0 ≠ 38 ∧ b.getD a 0 ≠ 40 ∧ b.getD a 0 ≠ 41 ∧ b.getD a 0 ≠ 124) : At b a (.word (wtext (b.drop a)) :: lex (b.drop (a + wlen (b.drop a))))
theorem at_of (b : List Int) (hb : AllB b) (a0 : Nat) (h0 : a0 ≤ b.length) : At b (skipN b a0) (lex (b.drop a0)) := by
  obtain ⟨h1, h2⟩ := skip_lex b b.length a0 (by omega)
  have hle := skipN_le b a0 h0
  rw [h1]
  generalize skipN b a0 = a at h1 h2 hle
  rcases Nat.lt_or_ge a b.length with hlt | hge
  · have hd := List.drop_eq_getElem_cons hlt
    have hg := getD_lt hlt
    have hc : b[a] ≠ 32 := fun e => h2 (by rw [List.getElem?_eq_getElem hlt, e])
    by_cases hw : headW (b.drop a) = []
    · have hl : lex (b.drop a) = .sign (b[a]) :: lex (b.drop (a + 1)) := by
        rw [hd]
        rw [hd] at hw
        exact lex_sign _ _ hc hw
      rw [hl]
      refine At.sign _ hlt hg ?_
      unfold wlen; rw [hw]; rfl
    · have hl := lex_word (b.drop a) (hb.drop a) hw
      rw [List.drop_drop] at hl
      rw [hl]
      refine At.word hlt hw ?_
      have key : ¬ (b[a] = 33 ∨ b[a] = 38 ∨ b[a] = 40 ∨ b[a] = 41 ∨ b[a] = 124) := fun h => hw (by rw [hd]; exact sign_head _ _ (hb.drop _) h)
      rw [hg]
      omega
  · obtain rfl : a = b.length := by omega
    have hd : b.drop b.length = [] := List.drop_length
    rw [hd]
    exact At.nil rfl (getD_ge (Nat.le_refl _)) (by rw [hd]; rfl)
end Go.Proofs.YteofdfknemopiaaDoor.P
end
section
/- Query, plain (3): the parser reads what the things say. -/
set_option linter.unusedVariables false
set_option linter.unusedSimpArgs false
namespace Go.Proofs.YteofdfknemopiaaDoor.P
open Go.RowKit Go.Proofs.YteofdfknemopiaaDoorW.PrintWords Go.Proofs.YteofdfknemopiaaDoorW.PrintLast Go.Proofs.YteofdfknemopiaaDoorW.PrintMore
def SU (kw : Nat) (b : List Int) (F : Ps → Option (Bool × Ps)) (T : Nat → Nat → List Tk → Option Res) : Prop :=
  ∀ (p : Ps) (R : Res), p.at_ ≤ b.length → p.out.length + (lex (b.drop p.at_)).length ≤ 50000 → T p.deep p.words (lex (b.drop p.at_)) = some R → ∃ x, F p = some x ∧ Sim b p.out p.deep R x
def SL (kw : Nat) (b : List Int) (F : Ps → Option (Bool × Ps)) (T : Nat → Nat → List Tk → List Qo → Option Res) : Prop :=
  ∀ (p : Ps) (B acc : List Qo) (R : Res), p.out = B ++ acc → p.at_ ≤ b.length → p.out.length + (lex (b.drop p.at_)).length ≤ 50000 → T p.deep p.words (lex (b.drop p.at_)) acc = some R → ∃ x, F p = some x ∧ Sim b B p.deep R x
theorem unit_sim (kw : Nat) (b : List Int) (hb : AllB b) (hbl : b.length ≤ 1000000) (hk : b.length + 20 ≤ kw) (k : Nat) (hA : SU kw b (askF kw b k) (askT k)) : SU kw b (unitF kw b (k + 1)) (unitT (k + 1)) := by
  intro p R hle hsz hR
  have hat := at_of b hb p.at_ hle
  have hs := skipN_le b p.at_ hle
  rw [unitF]
  generalize lex (b.drop p.at_) = T at *
  generalize skipN b p.at_ = a at *
  rw [word_f kw (b.drop a) (hb.drop a) (by rw [List.length_drop]; omega) (by rw [List.length_drop]; omega), Option.bind_some]
  cases hat with
  | nil h hc hw =>
    rw [unitT] at hR
    obtain rfl := Option.some.inj hR
    rw [hc, hw, if_neg (by decide), if_neg (by decide), if_neg (by decide)]
    exact ⟨_, rfl, rfl, rfl, hs.2⟩
  | sign c h hc hw =>
    rw [unitT] at hR
    rw [hc, hw]
    by_cases c1 : c = 33
    · rw [if_pos c1] at hR ⊢
      obtain rfl := Option.some.inj hR
      exact ⟨_, rfl, rfl, rfl, hs.2⟩
    · rw [if_neg c1] at hR ⊢
      by_cases c2 : c = 40
      · rw [if_pos c2] at hR ⊢
        by_cases c3 : p.deep = 8
        · rw [if_pos c3] at hR ⊢
          obtain rfl := Option.some.inj hR
          exact ⟨_, rfl, rfl, rfl, hs.2⟩
        · rw [if_neg c3] at hR ⊢
          simp only [List.length_cons] at hsz
          have ih := fun R => hA { p with at_ := a + 1, deep := p.deep + 1 } R (by show a + 1 ≤ b.length; omega) (by show p.out.length + (lex (b.drop (a + 1))).length ≤ 50000; omega)
          rcases Res.go_some hR with ⟨e, hx, rfl⟩ | ⟨o, w, t, hx, hR⟩
          · obtain ⟨⟨r, q⟩, h1, h2, h3, h4⟩ := ih _ hx
            dsimp only at h2
            subst h2
            rw [h1, Option.bind_some, if_neg (by simp)]
            exact ⟨_, rfl, rfl, h3, h4⟩
          · obtain ⟨⟨r, q⟩, h1, h2, h3, h4, h5, h6, h7⟩ := ih _ hx
            dsimp only at h2 h3 h4 h5 h6 h7
            subst h2
            rw [h1, Option.bind_some, if_pos rfl]
            have hat2 := at_of b hb q.at_ h7
            have hs2 := skipN_le b q.at_ h7
            rw [h6] at hat2
            dsimp only
            generalize skipN b q.at_ = a2 at *
            cases hat2 with
            | nil g1 g2 g3 =>
              obtain rfl := Option.some.inj hR
              rw [g2, if_neg (by decide)]
              exact ⟨_, rfl, rfl, rfl, hs2.2⟩
            | sign c' g1 g2 g3 =>
              dsimp only at hR
              rw [g2]
              by_cases c4 : c' = 41
              · rw [if_pos c4] at hR ⊢
                obtain rfl := Option.some.inj hR
                rw [if_neg (by rw [h5]; omega)]
                exact ⟨_, rfl, rfl, h3, h4, by show q.deep - 1 = p.deep; rw [h5]; omega, rfl, by show a2 + 1 ≤ b.length; omega⟩
              · rw [if_neg c4] at hR ⊢
                obtain rfl := Option.some.inj hR
                exact ⟨_, rfl, rfl, rfl, hs2.2⟩
            | word g1 g2 g3 =>
              obtain rfl := Option.some.inj hR
              rw [if_neg g3.2.2.2.1]
              exact ⟨_, rfl, rfl, rfl, hs2.2⟩
      · rw [if_neg c2] at hR ⊢
        rw [if_neg (by decide)]
        obtain rfl := Option.some.inj hR
        exact ⟨_, rfl, rfl, rfl, hs.2⟩
  | word h hn hc =>
    rw [unitT] at hR
    have hp := wlen_pos _ hn
    have hwl := wlen_le (b.drop a) (hb.drop a)
    rw [List.length_drop] at hwl
    rw [if_neg hc.1, if_neg hc.2.2.1, if_pos (by omega)]
    by_cases c1 : p.words = 16
    · rw [if_pos c1] at hR ⊢
      obtain rfl := Option.some.inj hR
      exact ⟨_, rfl, rfl, rfl, hs.2⟩
    · rw [if_neg c1] at hR ⊢
      obtain rfl := Option.some.inj hR
      rw [Int.toNat_natCast, if_pos (by omega), word_terms _ (hb.drop a) (by rw [List.length_drop]; omega) hn, Option.bind_some]
      dsimp only
      unfold putO
      simp only [List.length_cons] at hsz
      rw [if_pos (by omega), Option.bind_some]
      exact ⟨_, rfl, rfl, rfl, rfl, rfl, rfl, by show a + wlen (b.drop a) ≤ b.length; omega⟩
/-- A level of the grammar: the first, then the loop. -/
theorem first_sim {kw : Nat} {b : List Int} {F G : Ps → Option (Bool × Ps)} {T : Nat → Nat → List Tk → Option Res} {L : Nat → Nat → List Tk → List Qo → Option Res} (hT : ∀ d w t, Le t.length (T d w t)) (h1 : SU kw b F T) (h2 : SL kw b G L) :
    SU kw b (fun p => (F p).bind fun r => if r.1 = true then G r.2 else some (false, r.2)) (fun d w t => Res.go (T d w t) fun o w' r => L d w' r o) := by
  intro p R hle hsz hR
  dsimp only at hR ⊢
  have hl := hT p.deep p.words (lex (b.drop p.at_))
  rcases Res.go_some hR with ⟨e, hx, rfl⟩ | ⟨o, w, t, hx, hR⟩
  · obtain ⟨⟨r, q⟩, g1, g2, g3, g4⟩ := h1 p _ hle hsz hx
    dsimp only at g2
    subst g2
    rw [g1, Option.bind_some, if_neg (by simp)]
    exact ⟨_, rfl, rfl, g3, g4⟩
  · rw [hx] at hl
    have hl2 : o.length + t.length ≤ (lex (b.drop p.at_)).length := hl
    obtain ⟨⟨r, q⟩, g1, g2, g3, g4, g5, g6, g7⟩ := h1 p _ hle hsz hx
    dsimp only at g2 g3 g4 g5 g6 g7
    subst g2
    rw [g1, Option.bind_some, if_pos rfl]
    rw [← g4, ← g5, ← g6] at hR
    have := h2 q p.out o R g3 g7 (by rw [g3, List.length_append, g6]; omega) hR
    rw [g5] at this
    exact this
/-- One round of a loop: the sign, then what is read, then its step. -/
theorem round_sim {kw : Nat} {b : List Int} {F G : Ps → Option (Bool × Ps)} {T : Nat → Nat → List Tk → Option Res} {L : Nat → Nat → List Tk → List Qo → Option Res} (hT : ∀ d w t, Le t.length (T d w t)) (h1 : SU kw b F T) (h2 : SL kw b G L)
    (p : Ps) (B acc : List Qo) (R : Res) (o0 : Qo) (a : Nat) (ho : p.out = B ++ acc) (ha : a < b.length) (hsz : p.out.length + (lex (b.drop (a + 1))).length + 1 ≤ 50000)
    (hR : Res.go (T p.deep p.words (lex (b.drop (a + 1)))) (fun o w' r => L p.deep w' r (acc ++ o ++ [o0])) = some R) :
    ∃ x, ((F { p with at_ := a + 1 }).bind fun r => if r.1 = true then (putO r.2 o0).bind fun q => G q else some (false, r.2)) = some x ∧ Sim b B p.deep R x := by
  have hl := hT p.deep p.words (lex (b.drop (a + 1)))
  have ih := fun R => h1 { p with at_ := a + 1 } R (by show a + 1 ≤ b.length; omega) (by show p.out.length + (lex (b.drop (a + 1))).length ≤ 50000; omega)
  rcases Res.go_some hR with ⟨e, hx, rfl⟩ | ⟨o, w, t, hx, hR⟩
  · obtain ⟨⟨r, q⟩, g1, g2, g3, g4⟩ := ih _ hx
    dsimp only at g2
    subst g2
    rw [g1, Option.bind_some, if_neg (by simp)]
    exact ⟨_, rfl, rfl, g3, g4⟩
  · rw [hx] at hl
    have hl2 : o.length + t.length ≤ (lex (b.drop (a + 1))).length := hl
    obtain ⟨⟨r, q⟩, g1, g2, g3, g4, g5, g6, g7⟩ := ih _ hx
    dsimp only at g2 g3 g4 g5 g6 g7
    subst g2
    rw [g1, Option.bind_some, if_pos rfl]
    have hql : q.out.length = p.out.length + o.length := by rw [g3, List.length_append]
    unfold putO
    rw [if_pos (by dsimp only; omega), Option.bind_some]
    dsimp only
    rw [← g4, ← g5, ← g6] at hR
    have hq : ({ q with out := q.out ++ [o0] } : Ps).out = B ++ (acc ++ o ++ [o0]) := by
      show q.out ++ [o0] = _
      rw [g3, ho]; simp [List.append_assoc]
    obtain ⟨x, hx2, hS⟩ := h2 { q with out := q.out ++ [o0] } B (acc ++ o ++ [o0]) R hq g7 (by
      show (q.out ++ [o0]).length + (lex (b.drop q.at_)).length ≤ 50000
      rw [List.length_append, g6, hql, List.length_singleton]; omega) hR
    have e : q.deep = p.deep := g5
    exact ⟨x, hx2, by rw [← e]; exact hS⟩
theorem all_sim (kw : Nat) (b : List Int) (hb : AllB b) (hbl : b.length ≤ 1000000) (hk : b.length + 20 ≤ kw) : ∀ k : Nat,
    SU kw b (unitF kw b k) (unitT k) ∧ SU kw b (partF kw b k) (partT k) ∧ SL kw b (partL kw b k) (partLT k) ∧ SU kw b (askF kw b k) (askT k) ∧ SL kw b (askL kw b k) (askLT k) := by
  intro k
  induction k with
  | zero =>
    refine ⟨fun p R _ _ h => ?_, fun p R _ _ h => ?_, fun p _ _ R _ _ _ h => ?_, fun p R _ _ h => ?_, fun p _ _ R _ _ _ h => ?_⟩
    · rw [unitT] at h; cases h
    · rw [partT] at h; cases h
    · rw [partLT] at h; cases h
    · rw [askT] at h; cases h
    · rw [askLT] at h; cases h
  | succ k ih =>
    obtain ⟨hU, hP, hPL, hA, hAL⟩ := ih
    obtain ⟨lU, lP, _, _, _⟩ := len_T k
    refine ⟨unit_sim kw b hb hbl hk k hA, fun p R h1 h2 h3 => ?_, fun p B acc R ho hle hsz hR => ?_, fun p R h1 h2 h3 => ?_, fun p B acc R ho hle hsz hR => ?_⟩
    · rw [partT] at h3
      rw [partF]
      exact first_sim lU hU hPL p R h1 h2 h3
    · have hat := at_of b hb p.at_ hle
      have hs := skipN_le b p.at_ hle
      have hlx : lex (b.drop p.at_) = lex (b.drop (skipN b p.at_)) := (skip_lex b b.length p.at_ (by omega)).1
      rw [partL]
      have stop : ∀ t, lex (b.drop p.at_) = t → Sim b B p.deep (.ok acc p.words t) (true, { p with at_ := skipN b p.at_ }) := fun t ht => ⟨rfl, ho, rfl, rfl, by rw [← ht]; exact hlx.symm, hs.2⟩
      generalize lex (b.drop p.at_) = T at *
      generalize skipN b p.at_ = a at *
      cases hat with
      | nil h hc hw =>
        rw [partLT_nil] at hR
        obtain rfl := Option.some.inj hR
        rw [hc, if_neg (by decide), if_neg (by decide)]
        exact ⟨_, rfl, stop _ rfl⟩
      | sign c h hc hw =>
        rw [partLT_sign] at hR
        rw [hc]
        simp only [List.length_cons] at hsz
        by_cases c1 : c = 33
        · rw [if_pos c1] at hR ⊢
          exact round_sim lU hU hPL p B acc R ⟨3, ByteArray.empty⟩ a ho h (by omega) hR
        · rw [if_neg c1] at hR ⊢
          by_cases c2 : c = 38
          · rw [if_pos c2] at hR ⊢
            exact round_sim lU hU hPL p B acc R ⟨1, ByteArray.empty⟩ a ho h (by omega) hR
          · rw [if_neg c2] at hR ⊢
            obtain rfl := Option.some.inj hR
            exact ⟨_, rfl, stop _ rfl⟩
      | word h hn hc =>
        rw [partLT_word] at hR
        obtain rfl := Option.some.inj hR
        rw [if_neg hc.1, if_neg hc.2.1]
        exact ⟨_, rfl, stop _ rfl⟩
    · rw [askT] at h3
      rw [askF]
      exact first_sim lP hP hAL p R h1 h2 h3
    · have hat := at_of b hb p.at_ hle
      have hs := skipN_le b p.at_ hle
      have hlx : lex (b.drop p.at_) = lex (b.drop (skipN b p.at_)) := (skip_lex b b.length p.at_ (by omega)).1
      rw [askL]
      have stop : ∀ t, lex (b.drop p.at_) = t → Sim b B p.deep (.ok acc p.words t) (true, { p with at_ := skipN b p.at_ }) := fun t ht => ⟨rfl, ho, rfl, rfl, by rw [← ht]; exact hlx.symm, hs.2⟩
      generalize lex (b.drop p.at_) = T at *
      generalize skipN b p.at_ = a at *
      cases hat with
      | nil h hc hw =>
        rw [askLT_nil] at hR
        obtain rfl := Option.some.inj hR
        rw [hc, if_neg (by decide)]
        exact ⟨_, rfl, stop _ rfl⟩
      | sign c h hc hw =>
        rw [askLT_sign] at hR
        rw [hc]
        simp only [List.length_cons] at hsz
        by_cases c1 : c = 124
        · rw [if_pos c1] at hR ⊢
          exact round_sim lP hP hAL p B acc R ⟨2, ByteArray.empty⟩ a ho h (by omega) hR
        · rw [if_neg c1] at hR ⊢
          obtain rfl := Option.some.inj hR
          exact ⟨_, rfl, stop _ rfl⟩
      | word h hn hc =>
        rw [askLT_word] at hR
        obtain rfl := Option.some.inj hR
        rw [if_neg hc.2.2.2.2]
        exact ⟨_, rfl, stop _ rfl⟩
/-! ### There is always an answer -/
def Def (x : Option Res) : Prop := x ≠ none
theorem Res.go_def {x : Option Res} {f : List Qo → Nat → List Tk → Option Res} (hx : Def x) (hf : ∀ o w t, x = some (.ok o w t) → Def (f o w t)) : Def (Res.go x f) := by
  cases x with
  | none => exact absurd rfl hx
  | some r => cases r with
    | ok o w t => exact hf o w t rfl
    | er e => intro h; cases h
/-- What a unit takes is not nothing. -/
theorem unit_less (k d w : Nat) (T : List Tk) (o : List Qo) (w' : Nat) (t : List Tk) (h : unitT k d w T = some (.ok o w' t)) : o.length + t.length ≤ T.length ∧ t.length < T.length := by
  cases k with
  | zero => rw [unitT] at h; cases h
  | succ k =>
    have hl := (len_T (k + 1)).1 d w T
    rw [h] at hl
    refine ⟨hl, ?_⟩
    cases T with
    | nil => rw [unitT] at h; cases h
    | cons x T =>
      cases x with
      | word s =>
        rw [unitT] at h
        by_cases c : w = 16
        · rw [if_pos c] at h; cases h
        · rw [if_neg c] at h
          simp only [Option.some.injEq, Res.ok.injEq] at h
          rw [← h.2.2, List.length_cons]; omega
      | sign c =>
        rw [unitT] at h
        by_cases c1 : c = 33
        · rw [if_pos c1] at h; cases h
        · rw [if_neg c1] at h
          by_cases c2 : c = 40
          · rw [if_pos c2] at h
            by_cases c3 : d = 8
            · rw [if_pos c3] at h; cases h
            · rw [if_neg c3] at h
              rcases Res.go_some h with ⟨e, _, h⟩ | ⟨o2, w2, t2, hx, h⟩
              · cases h
              · have hl2 := (len_T k).2.2.2.1 (d + 1) w T
                rw [hx] at hl2
                have hl3 : o2.length + t2.length ≤ T.length := hl2
                rcases t2 with _ | ⟨_ | c4, t2⟩
                · cases h
                · cases h
                · dsimp only at h
                  by_cases c5 : c4 = 41
                  · rw [if_pos c5] at h
                    simp only [Option.some.injEq, Res.ok.injEq] at h
                    rw [← h.2.2, List.length_cons]
                    simp only [List.length_cons] at hl3
                    omega
                  · rw [if_neg c5] at h; cases h
          · rw [if_neg c2] at h; cases h
theorem partL_less : ∀ k d w T acc o w' t, partLT k d w T acc = some (.ok o w' t) → t.length ≤ T.length := by
  intro k
  induction k with
  | zero => intro d w T acc o w' t h; rw [partLT] at h; cases h
  | succ k ih =>
    intro d w T acc o w' t h
    rcases T with _ | ⟨_ | c, T⟩
    · rw [partLT_nil] at h
      simp only [Option.some.injEq, Res.ok.injEq] at h
      rw [← h.2.2]; exact Nat.le_refl _
    · rw [partLT_word] at h
      simp only [Option.some.injEq, Res.ok.injEq] at h
      rw [← h.2.2]; exact Nat.le_refl _
    · rw [partLT_sign] at h
      have step : ∀ q, Res.go (unitT k d w T) (fun o w' r => partLT k d w' r (acc ++ o ++ [q])) = some (.ok o w' t) → t.length ≤ (Tk.sign c :: T).length := fun q h => by
        rcases Res.go_some h with ⟨e, _, h⟩ | ⟨o2, w2, t2, hx, h⟩
        · cases h
        · have h1 := unit_less k d w T o2 w2 t2 hx
          have h2 := ih d w2 t2 _ o w' t h
          rw [List.length_cons]; omega
      by_cases c1 : c = 33
      · rw [if_pos c1] at h; exact step _ h
      · rw [if_neg c1] at h
        by_cases c2 : c = 38
        · rw [if_pos c2] at h; exact step _ h
        · rw [if_neg c2] at h
          simp only [Option.some.injEq, Res.ok.injEq] at h
          rw [← h.2.2]; exact Nat.le_refl _
theorem part_less (k d w : Nat) (T : List Tk) (o : List Qo) (w' : Nat) (t : List Tk) (h : partT k d w T = some (.ok o w' t)) : t.length < T.length := by
  cases k with
  | zero => rw [partT] at h; cases h
  | succ k =>
    rw [partT] at h
    rcases Res.go_some h with ⟨e, _, h⟩ | ⟨o2, w2, t2, hx, h⟩
    · cases h
    · have h1 := unit_less k d w T o2 w2 t2 hx
      have h2 := partL_less k d w2 t2 _ o w' t h
      omega
theorem def_T : ∀ (n : Nat), (∀ k d w T, T.length = n → 4 * n + 1 ≤ k → Def (unitT k d w T)) ∧ (∀ k d w T acc, T.length = n → 4 * n + 1 ≤ k → Def (partLT k d w T acc)) ∧ (∀ k d w T, T.length = n → 4 * n + 3 ≤ k → Def (partT k d w T)) ∧ (∀ k d w T acc, T.length = n → 4 * n + 1 ≤ k → Def (askLT k d w T acc)) ∧ (∀ k d w T, T.length = n → 4 * n + 4 ≤ k → Def (askT k d w T)) := by
  intro n
  induction n using Nat.strongRecOn with
  | ind n ih =>
    have hU : ∀ k d w T, T.length = n → 4 * n + 1 ≤ k → Def (unitT k d w T) := by
      intro k d w T hn hk
      obtain ⟨k, rfl⟩ : ∃ j, k = j + 1 := ⟨k - 1, by omega⟩
      cases T with
      | nil => rw [unitT]; intro h; cases h
      | cons x T =>
        simp only [List.length_cons] at hn
        cases x with
        | word s => rw [unitT]; by_cases c : w = 16 <;> simp [c, Def]
        | sign c =>
          rw [unitT]
          by_cases c1 : c = 33
          · rw [if_pos c1]; intro h; cases h
          · rw [if_neg c1]
            by_cases c2 : c = 40
            · rw [if_pos c2]
              by_cases c3 : d = 8
              · rw [if_pos c3]; intro h; cases h
              · rw [if_neg c3]
                refine Res.go_def ((ih T.length (by omega)).2.2.2.2 k (d + 1) w T rfl (by omega)) fun o w' t _ => ?_
                rcases t with _ | ⟨_ | c4, t⟩
                · intro h; cases h
                · intro h; cases h
                · dsimp only
                  by_cases c5 : c4 = 41
                  · rw [if_pos c5]; intro h; cases h
                  · rw [if_neg c5]; intro h; cases h
            · rw [if_neg c2]; intro h; cases h
    have hPL : ∀ k d w T acc, T.length = n → 4 * n + 1 ≤ k → Def (partLT k d w T acc) := by
      intro k d w T acc hn hk
      obtain ⟨k, rfl⟩ : ∃ j, k = j + 1 := ⟨k - 1, by omega⟩
      rcases T with _ | ⟨_ | c, T⟩
      · rw [partLT_nil]; intro h; cases h
      · rw [partLT_word]; intro h; cases h
      · simp only [List.length_cons] at hn
        rw [partLT_sign]
        have step : ∀ q, Def (Res.go (unitT k d w T) fun o w' r => partLT k d w' r (acc ++ o ++ [q])) := fun q =>
          Res.go_def ((ih T.length (by omega)).1 k d w T rfl (by omega)) fun o w' t hx => (ih t.length (by have := unit_less k d w T o w' t hx; omega)).2.1 k d w' t _ rfl (by have := unit_less k d w T o w' t hx; omega)
        by_cases c1 : c = 33
        · rw [if_pos c1]; exact step _
        · rw [if_neg c1]
          by_cases c2 : c = 38
          · rw [if_pos c2]; exact step _
          · rw [if_neg c2]; intro h; cases h
    have hP : ∀ k d w T, T.length = n → 4 * n + 3 ≤ k → Def (partT k d w T) := by
      intro k d w T hn hk
      obtain ⟨k, rfl⟩ : ∃ j, k = j + 1 := ⟨k - 1, by omega⟩
      rw [partT]
      exact Res.go_def (hU k d w T hn (by omega)) fun o w' t hx => (ih t.length (by have := unit_less k d w T o w' t hx; omega)).2.1 k d w' t _ rfl (by have := unit_less k d w T o w' t hx; omega)
    have lessP := part_less
    have hAL : ∀ k d w T acc, T.length = n → 4 * n + 1 ≤ k → Def (askLT k d w T acc) := by
      intro k d w T acc hn hk
      obtain ⟨k, rfl⟩ : ∃ j, k = j + 1 := ⟨k - 1, by omega⟩
      rcases T with _ | ⟨_ | c, T⟩
      · rw [askLT_nil]; intro h; cases h
      · rw [askLT_word]; intro h; cases h
      · simp only [List.length_cons] at hn
        rw [askLT_sign]
        by_cases c1 : c = 124
        · rw [if_pos c1]
          exact Res.go_def ((ih T.length (by omega)).2.2.1 k d w T rfl (by omega)) fun o w' t hx => (ih t.length (by have := lessP k d w T o w' t hx; omega)).2.2.2.1 k d w' t _ rfl (by have := lessP k d w T o w' t hx; omega)
        · rw [if_neg c1]; intro h; cases h
    refine ⟨hU, hPL, hP, hAL, ?_⟩
    intro k d w T hn hk
    obtain ⟨k, rfl⟩ : ∃ j, k = j + 1 := ⟨k - 1, by omega⟩
    rw [askT]
    exact Res.go_def (hP k d w T hn (by omega)) fun o w' t hx => (ih t.length (by have := lessP k d w T o w' t hx; omega)).2.2.2.1 k d w' t _ rfl (by have := lessP k d w T o w' t hx; omega)
end Go.Proofs.YteofdfknemopiaaDoor.P
end
section
/- Query, plain (4): what is read is a question; what Parse answers. -/
set_option linter.unusedVariables false
set_option linter.unusedSimpArgs false
namespace Go.Proofs.YteofdfknemopiaaDoor.P
open Go.RowKit Go.Proofs.YteofdfknemopiaaDoorW.PrintWords Go.Proofs.YteofdfknemopiaaDoorW.PrintLast Go.Proofs.YteofdfknemopiaaDoorW.PrintMore
/-- A text that is a term. -/
def TermT (t : ByteArray) : Prop := ∃ u, AllB u ∧ OkT u ∧ t = strOfNums u ∧ 0 < u.length
/-- A question, of so many words. -/
inductive Qs : List Qo → Nat → Prop where
  | word (t : ByteArray) (h : TermT t) : Qs [⟨0, t⟩] 1
  | op (x y : List Qo) (m n : Nat) (k : Int) (hx : Qs x m) (hy : Qs y n) (h1 : 1 ≤ k) (h3 : k ≤ 3) : Qs (x ++ y ++ [opS k]) (m + n)
def Good (T : List Tk) : Prop := ∀ t, Tk.word t ∈ T → TermT t
theorem wtext_term (r : List Int) (h : headW r ≠ []) : TermT (wtext r) := by
  have h1 := terms_all (headW r) (head_word r) h
  exact terms_each (headW r).length (headW r) (Nat.le_refl _) (wtext r) (by rw [h1]; exact List.mem_singleton.2 rfl)
theorem lex_good : ∀ (d : Nat) (r : List Int), AllB r → r.length ≤ d → Good (lex r) := by
  intro d
  induction d with
  | zero =>
    intro r hb hl
    obtain rfl : r = [] := List.eq_nil_of_length_eq_zero (by omega)
    intro t ht; cases ht
  | succ d ih =>
    intro r hb hl
    cases r with
    | nil => intro t ht; cases ht
    | cons c r =>
      have hb' : AllB r := fun x hx => hb x (List.mem_cons_of_mem _ hx)
      simp only [List.length_cons] at hl
      by_cases h1 : headW (c :: r) = []
      · by_cases h2 : c = 32
        · rw [h2, lex_space]; exact ih r hb' (by omega)
        · rw [lex_sign c r h2 h1]
          intro t ht
          rcases List.mem_cons.1 ht with h | h
          · cases h
          · exact ih r hb' (by omega) t h
      · have hp := wlen_pos _ h1
        have hd : ((c :: r).drop (wlen (c :: r))).length ≤ r.length := by rw [List.length_drop, List.length_cons]; omega
        rw [lex_word _ hb h1]
        intro t ht
        rcases List.mem_cons.1 ht with h | h
        · simp only [Tk.word.injEq] at h
          rw [h]; exact wtext_term _ h1
        · exact ih ((c :: r).drop (wlen (c :: r))) (hb.drop _) (by omega) t h
/-- What is told is right: a question of the words that were read; or one of three errors. -/
def OkR (w m0 : Nat) : Option Res → Prop
  | none => True
  | some (.er e) => e = 2 ∨ e = 8 ∨ e = 9
  | some (.ok o w' t) => ∃ m, Qs o m ∧ w' + m0 = w + m ∧ w' ≤ 16 ∧ Good t
theorem OkR.go {x : Option Res} {f : List Qo → Nat → List Tk → Option Res} {w a m0 : Nat} (hx : OkR w a x) (hf : ∀ o w' t m, Qs o m → w' + a = w + m → w' ≤ 16 → Good t → OkR w m0 (f o w' t)) : OkR w m0 (Res.go x f) := by
  cases x with
  | none => trivial
  | some r => cases r with
    | ok o w' t => obtain ⟨m, h1, h2, h3, h4⟩ := hx; exact hf o w' t m h1 h2 h3 h4
    | er e => exact hx
theorem OkR.shift {w w' m m0 : Nat} {x : Option Res} (h : OkR w' (m0 + m) x) (e : w' = w + m) : OkR w m0 x := by
  cases x with
  | none => trivial
  | some r => cases r with
    | ok o w2 t => obtain ⟨m2, h1, h2, h3, h4⟩ := h; exact ⟨m2, h1, by omega, h3, h4⟩
    | er e => exact h
theorem good_tail {x : Tk} {T : List Tk} (h : Good (x :: T)) : Good T := fun t ht => h t (List.mem_cons_of_mem _ ht)
theorem ok_T : ∀ k : Nat, (∀ d w T, Good T → w ≤ 16 → OkR w 0 (unitT k d w T)) ∧ (∀ d w T, Good T → w ≤ 16 → OkR w 0 (partT k d w T)) ∧ (∀ d w T acc m0, Good T → w ≤ 16 → Qs acc m0 → OkR w m0 (partLT k d w T acc)) ∧ (∀ d w T, Good T → w ≤ 16 → OkR w 0 (askT k d w T)) ∧ (∀ d w T acc m0, Good T → w ≤ 16 → Qs acc m0 → OkR w m0 (askLT k d w T acc)) := by
  intro k
  induction k with
  | zero => exact ⟨fun _ _ _ _ _ => by rw [unitT]; trivial, fun _ _ _ _ _ => by rw [partT]; trivial, fun _ _ _ _ _ _ _ _ => by rw [partLT]; trivial, fun _ _ _ _ _ => by rw [askT]; trivial, fun _ _ _ _ _ _ _ _ => by rw [askLT]; trivial⟩
  | succ k ih =>
    obtain ⟨hU, hP, hPL, hA, hAL⟩ := ih
    refine ⟨fun d w T hg hw => ?_, fun d w T hg hw => ?_, fun d w T acc m0 hg hw hq => ?_, fun d w T hg hw => ?_, fun d w T acc m0 hg hw hq => ?_⟩
    · cases T with
      | nil => rw [unitT]; exact Or.inl rfl
      | cons x T =>
        cases x with
        | word t =>
          rw [unitT]
          by_cases h : w = 16
          · rw [if_pos h]; exact Or.inr (Or.inl rfl)
          · rw [if_neg h]; exact ⟨1, Qs.word t (hg t List.mem_cons_self), rfl, by omega, good_tail hg⟩
        | sign c =>
          rw [unitT]
          by_cases h1 : c = 33
          · rw [if_pos h1]; exact Or.inr (Or.inr rfl)
          · rw [if_neg h1]
            by_cases h2 : c = 40
            · rw [if_pos h2]
              by_cases h3 : d = 8
              · rw [if_pos h3]; exact Or.inr (Or.inl rfl)
              · rw [if_neg h3]
                refine (hA (d + 1) w T (good_tail hg) hw).go fun o w' r m q1 q2 q3 q4 => ?_
                rcases r with _ | ⟨_ | c2, r⟩
                · exact Or.inl rfl
                · exact Or.inl rfl
                · dsimp only
                  by_cases h4 : c2 = 41
                  · rw [if_pos h4]; exact ⟨m, q1, q2, q3, good_tail q4⟩
                  · rw [if_neg h4]; exact Or.inl rfl
            · rw [if_neg h2]; exact Or.inl rfl
    · rw [partT]
      exact (hU d w T hg hw).go fun o w' r m q1 q2 q3 q4 => OkR.shift (w := w) (m := m) (m0 := 0) (by rw [Nat.zero_add]; exact hPL d w' r o m q4 q3 q1) (by omega)
    · have self : OkR w m0 (some (.ok acc w T)) := ⟨m0, hq, rfl, hw, hg⟩
      have step : ∀ (T' : List Tk) (p : Int), 1 ≤ p → p ≤ 3 → Good T' → OkR w m0 (Res.go (unitT k d w T') fun o w' r => partLT k d w' r (acc ++ o ++ [opS p])) := fun T' p h1 h3 hg' =>
        (hU d w T' hg' hw).go fun o w' r m q1 q2 q3 q4 => (hPL d w' r _ (m0 + m) q4 q3 (Qs.op acc o m0 m p hq q1 h1 h3)).shift (by omega)
      rcases T with _ | ⟨_ | c, T⟩
      · rw [partLT_nil]; exact self
      · rw [partLT_word]; exact self
      · rw [partLT_sign]
        by_cases h1 : c = 33
        · rw [if_pos h1]; exact step T 3 (by decide) (by decide) (good_tail hg)
        · rw [if_neg h1]
          by_cases h2 : c = 38
          · rw [if_pos h2]; exact step T 1 (by decide) (by decide) (good_tail hg)
          · rw [if_neg h2]; exact self
    · rw [askT]
      exact (hP d w T hg hw).go fun o w' r m q1 q2 q3 q4 => OkR.shift (w := w) (m := m) (m0 := 0) (by rw [Nat.zero_add]; exact hAL d w' r o m q4 q3 q1) (by omega)
    · have self : OkR w m0 (some (.ok acc w T)) := ⟨m0, hq, rfl, hw, hg⟩
      have step : ∀ (T' : List Tk) (p : Int), 1 ≤ p → p ≤ 3 → Good T' → OkR w m0 (Res.go (partT k d w T') fun o w' r => askLT k d w' r (acc ++ o ++ [opS p])) := fun T' p h1 h3 hg' =>
        (hP d w T' hg' hw).go fun o w' r m q1 q2 q3 q4 => (hAL d w' r _ (m0 + m) q4 q3 (Qs.op acc o m0 m p hq q1 h1 h3)).shift (by omega)
      rcases T with _ | ⟨_ | c, T⟩
      · rw [askLT_nil]; exact self
      · rw [askLT_word]; exact self
      · rw [askLT_sign]
        by_cases h1 : c = 124
        · rw [if_pos h1]; exact step T 2 (by decide) (by decide) (good_tail hg)
        · rw [if_neg h1]; exact self
/-- What Parse answers, by what the things say. -/
def Ans (b : List Int) : Res → Option (List Qo × Int × Int) → Prop
  | .ok o _ [], x => x = some (o, 0, 0)
  | .ok _ _ (_ :: _), x => ∃ i : Int, 0 ≤ i ∧ i ≤ (b.length : Int) ∧ x = some ([], i, 2)
  | .er e, x => ∃ i : Int, 0 ≤ i ∧ i ≤ (b.length : Int) ∧ x = some ([], i, e)
theorem parse_of (b : List Int) (hb : AllB b) (hl : b.length ≤ 2000) : ∃ R, askT (4 * b.length + 20) 0 0 (lex b) = some R ∧ Ans b R (query_Parse.f b) := by
  have hll := lex_len b.length b hb (Nat.le_refl _)
  have hdef := (def_T (lex b).length).2.2.2.2 (4 * b.length + 20) 0 0 (lex b) rfl (by omega)
  cases hR : askT (4 * b.length + 20) 0 0 (lex b) with
  | none => exact absurd hR hdef
  | some R =>
    refine ⟨R, rfl, ?_⟩
    obtain ⟨⟨r, q⟩, h1, h2⟩ := (all_sim (b.length + 100) b hb (by omega) (by omega) (4 * b.length + 20)).2.2.2.1 ⟨0, 0, 0, [], 0⟩ R (Nat.zero_le _) (by show 0 + (lex b).length ≤ 50000; omega) hR
    unfold query_Parse.f
    rw [if_neg (by omega), h1, Option.bind_some]
    cases R with
    | er e =>
      obtain ⟨g1, g2, g3⟩ := h2
      dsimp only at g1 g2 g3
      subst g1 g2
      rw [if_neg (by simp)]
      exact ⟨(q.at_ : Int), by omega, by omega, rfl⟩
    | ok o w t =>
      obtain ⟨g1, g2, g3, g4, g5, g6⟩ := h2
      dsimp only at g1 g2 g3 g4 g5 g6
      subst g1
      rw [if_pos rfl]
      have hat := at_of b hb q.at_ g6
      have hs := skipN_le b q.at_ g6
      rw [g5] at hat
      dsimp only
      generalize skipN b q.at_ = a at *
      cases hat with
      | nil k1 k2 k3 =>
        rw [if_neg (by omega), g2]
        rfl
      | sign c k1 k2 k3 =>
        rw [if_pos k1]
        exact ⟨_, by omega, by omega, rfl⟩
      | word k1 k2 k3 =>
        rw [if_pos k1]
        exact ⟨_, by omega, by omega, rfl⟩
end Go.Proofs.YteofdfknemopiaaDoor.P
end
section
/- Query, plain (5): a question is right, and has as many terms as words at most. -/
set_option linter.unusedVariables false
set_option linter.unusedSimpArgs false
namespace Go.Proofs.YteofdfknemopiaaDoor.P
open Go.RowKit Go.Proofs.YteofdfknemopiaaDoorW.PrintWords Go.Proofs.YteofdfknemopiaaDoorW.PrintLast Go.Proofs.YteofdfknemopiaaDoorW.PrintMore
theorem rdQ (L : List Qo) (i : Nat) (h : i < L.length) : rd_T38 L (i : Int) = L[i] := by
  unfold rd_T38
  rw [Int.toNat_natCast, List.getD_eq_getElem?_getD, List.getElem?_eq_getElem h]; rfl
theorem pre_split {a b L : List Qo} {i : Nat} (h : (a ++ b) <+: L.drop i) : a <+: L.drop i ∧ b <+: L.drop (i + a.length) := by
  obtain ⟨t, ht⟩ := h
  refine ⟨⟨b ++ t, by rw [← List.append_assoc]; exact ht⟩, ⟨t, ?_⟩⟩
  rw [← List.drop_drop, ← ht, List.append_assoc, List.drop_left]
theorem pre_one {o : Qo} {L : List Qo} {i : Nat} (h : [o] <+: L.drop i) : ∃ hi : i < L.length, L[i] = o := by
  obtain ⟨t, ht⟩ := h
  have hl : i < L.length := by
    rcases Nat.lt_or_ge i L.length with h | h
    · exact h
    · rw [List.drop_eq_nil_of_le h] at ht; cases ht
  refine ⟨hl, ?_⟩
  rw [List.drop_eq_getElem_cons hl] at ht
  simp only [List.singleton_append, List.cons.injEq] at ht
  exact ht.1.symm
theorem empty_list : ByteArray.empty.toList = [] := by rw [ByteArray.toList_eq]; rfl
theorem wnat (d : Nat) (h : d ≤ 1000000000) : wrap64 ((d : Int) + 1) = ((d + 1 : Nat) : Int) := by unfold wrap64; omega
open Classical in
theorem term_right {t : ByteArray} (h : TermT t) : token_Right.f t = some true := by
  obtain ⟨u, h1, h2, rfl, h3⟩ := h
  have hl : u.length ≤ 64 := h2.2.2
  rw [right_tok u h1 (by omega)]
  exact congrArg some (decide_eq_true h2)
theorem Qs.len {x : List Qo} {m : Nat} (h : Qs x m) : x.length + 1 = 2 * m ∧ 1 ≤ m := by
  induction h with
  | word t h => exact ⟨rfl, Nat.le_refl _⟩
  | op x y m n k hx hy h1 h3 ihx ihy =>
    simp only [List.length_append, List.length_singleton]
    omega
theorem right_run {x : List Qo} {m : Nat} (h : Qs x m) : ∀ (L : List Qo) (i d n k : Nat), x <+: L.drop i → L.length ≤ 100000 → d ≤ 100000 → n ≤ 100000 → d + x.length ≤ 100000 → n + x.length ≤ 100000 →
    query_Right.l0 (k + 2 * x.length) (d : Int) (n : Int) L (L.length : Int) (i : Int) = query_Right.l0 k ((d + 1 : Nat) : Int) ((n + m : Nat) : Int) L (L.length : Int) ((i + x.length : Nat) : Int) := by
  induction h with
  | word t h =>
    intro L i d n k hp hL hd hn _ _
    obtain ⟨hi, he⟩ := pre_one hp
    show query_Right.l0 (k + 1 + 1) _ _ _ _ _ = _
    rw [query_Right.l0, if_pos (by omega), if_pos (by omega), if_pos (by omega), rdQ L i hi, he, if_pos rfl, term_right h, Option.bind_some, query_Right.j1, if_pos rfl, wnat d (by omega), wnat n (by omega), wnat i (by omega)]
    rfl
  | op x y m n k0 hx hy h1 h3 ihx ihy =>
    intro L i d n0 k hp hL hd hn hdl hnl
    obtain ⟨hp1, hp2⟩ := pre_split hp
    obtain ⟨hpx, hpy⟩ := pre_split hp1
    simp only [List.length_append, List.length_singleton] at hp2 hdl hnl ⊢
    have lx := hx.len
    have ly := hy.len
    obtain ⟨hi, he⟩ := pre_one hp2
    rw [show k + 2 * (x.length + y.length + 1) = (k + 2 + 2 * y.length) + 2 * x.length by omega, ihx L i d n0 _ hpx hL hd hn (by omega) (by omega)]
    rw [ihy L (i + x.length) (d + 1) (n0 + m) _ hpy hL (by omega) (by omega) (by omega) (by omega)]
    rw [show i + x.length + y.length = i + (x.length + y.length) by omega]
    show query_Right.l0 (k + 1 + 1) _ _ _ _ _ = _
    rw [query_Right.l0, if_pos (by omega), if_pos (by omega), if_pos (by omega), rdQ L _ hi, he]
    unfold opS
    dsimp only
    rw [if_neg (by omega), query_Right.j1, if_neg (by decide), if_pos (by omega), if_pos h3, if_pos empty_list, if_pos (by omega)]
    rw [show wrap64 (((d + 1 + 1 : Nat) : Int) - 1) = ((d + 1 : Nat) : Int) by unfold wrap64; omega, wnat _ (by omega)]
    congr 1 <;> omega
theorem qright_f {o : List Qo} {m : Nat} (h : Qs o m) (hm : m ≤ 16) (k : Nat) (hk : 100 ≤ k) : query_Right.f k o = some true := by
  have hl := h.len
  obtain ⟨j, rfl⟩ : ∃ j, k = j + 1 + 2 * o.length := ⟨k - 1 - 2 * o.length, by omega⟩
  unfold query_Right.f
  have hr := right_run h o 0 0 0 (j + 1) (by rw [List.drop_zero]; exact List.prefix_refl _) (by omega) (by omega) (by omega) (by omega) (by omega)
  have hr2 : query_Right.l0 (j + 1 + 2 * o.length) 0 0 o (o.length : Int) 0 = _ := hr
  rw [hr2, query_Right.l0, if_neg (by omega), if_pos (by omega), decide_eq_true (by omega)]
/-! ### Terms -/
def cntW : List Qo → Nat
  | [] => 0
  | o :: os => (if o.f0 = 0 then 1 else 0) + cntW os
theorem cntW_append : ∀ (a b : List Qo), cntW (a ++ b) = cntW a + cntW b
  | [], b => by simp [cntW]
  | o :: a, b => by
    rw [List.cons_append, cntW, cntW, cntW_append a b]; omega
theorem Qs.cnt {x : List Qo} {m : Nat} (h : Qs x m) : cntW x = m := by
  induction h with
  | word t h => rfl
  | op x y m n k hx hy h1 h3 ihx ihy =>
    rw [cntW_append, cntW_append, ihx, ihy]
    have : cntW [opS k] = 0 := by
      unfold opS
      rw [cntW, cntW, if_neg (by show ¬ k = 0; omega)]
    omega
theorem terms_mono0 (k j : Nat) (a b c e : _) {r : List ByteArray} (h : query_Terms.l0 k a b c e = some r) : query_Terms.l0 (k + j) a b c e = some r :=
  le_mono (g := fun k => query_Terms.l0 k a b c e) (fun k => (query_Terms.mono_l k).1 _ _ _ _) h j
theorem terms_l1 (L : List Qo) (j : Nat) (kd : Int) (t : ByteArray) (hj : j ≤ 1000000) (acc : List ByteArray) (ha : acc.length ≤ 1000000) : ∀ (d i : Nat), acc.length - i ≤ d → i ≤ acc.length →
    ∃ acc' : List ByteArray, (acc'.length = acc.length ∨ acc'.length = acc.length + 1) ∧ 1 ≤ acc'.length ∧ ∀ k r, query_Terms.l0 k acc' L (L.length : Int) ((j + 1 : Nat) : Int) = some r → query_Terms.l1 (k + d + 1) acc (i : Int) L (L.length : Int) (j : Int) kd t = some r := by
  intro d
  induction d with
  | zero =>
    intro i hd hi
    obtain rfl : i = acc.length := by omega
    refine ⟨acc.take acc.length ++ [t] ++ (acc.drop acc.length), Or.inr (by simp), by first | (simp; done) | (simp; omega), fun k r h => ?_⟩
    rw [query_Terms.l1, if_neg (by omega)]
    simp only [Option.bind_some, List.nil_append, List.length_nil, Int.toNat_natCast]
    rw [if_pos (by omega), if_pos (by omega), if_pos (by simp), if_pos (by first | (simp; done) | (simp; omega)), if_pos (by first | (simp; done) | (simp; omega)), wnat j (by omega)]
    exact h
  | succ d ih =>
    intro i hd hi
    rcases Nat.lt_or_ge i acc.length with hlt | hge
    · by_cases c1 : Op.bytesLess ((rdOf ByteArray.empty acc (i : Int)).toList) t.toList = true
      · obtain ⟨acc', h1, h2, h3⟩ := ih (i + 1) (by omega) (by omega)
        refine ⟨acc', h1, h2, fun k r h => ?_⟩
        rw [query_Terms.l1, if_pos (by omega), if_pos (by omega), if_pos c1, wnat i (by omega)]
        have := h3 k r h
        rw [show k + (d + 1) = k + d + 1 by omega]
        exact this
      · by_cases c2 : (rdOf ByteArray.empty acc (i : Int)).toList = t.toList
        · refine ⟨acc, Or.inl rfl, by omega, fun k r h => ?_⟩
          rw [query_Terms.l1, if_pos (by omega), if_pos (by omega), if_neg c1, if_pos c2, wnat j (by omega)]
          exact terms_mono0 k (d + 1) _ _ _ _ h
        · refine ⟨acc.take i ++ [t] ++ (acc.drop i), Or.inr (by first | (simp; done) | (simp; omega)), by first | (simp; done) | (simp; omega), fun k r h => ?_⟩
          rw [query_Terms.l1, if_pos (by omega), if_pos (by omega), if_neg c1, if_neg c2]
          simp only [Option.bind_some, List.nil_append, List.length_nil, Int.toNat_natCast]
          rw [if_pos (by omega), if_pos (by first | (simp; done) | (simp; omega)), if_pos (by first | (simp; done) | (simp; omega)), if_pos (by first | (simp; done) | (simp; omega)), wnat j (by omega)]
          exact terms_mono0 k (d + 1) _ _ _ _ h
    · obtain rfl : i = acc.length := by omega
      refine ⟨acc.take acc.length ++ [t] ++ (acc.drop acc.length), Or.inr (by simp), by first | (simp; done) | (simp; omega), fun k r h => ?_⟩
      rw [query_Terms.l1, if_neg (by omega)]
      simp only [Option.bind_some, List.nil_append, List.length_nil, Int.toNat_natCast]
      rw [if_pos (by omega), if_pos (by omega), if_pos (by simp), if_pos (by first | (simp; done) | (simp; omega)), if_pos (by first | (simp; done) | (simp; omega)), wnat j (by omega)]
      exact terms_mono0 k (d + 1) _ _ _ _ h
theorem terms_l0 (L : List Qo) (hL : L.length ≤ 1000) : ∀ (d j : Nat) (acc : List ByteArray), L.length - j ≤ d → j ≤ L.length → acc.length ≤ j →
    ∃ r : List ByteArray, r.length ≤ acc.length + cntW (L.drop j) ∧ (1 ≤ acc.length ∨ 1 ≤ cntW (L.drop j) → 1 ≤ r.length) ∧ query_Terms.l0 (d * 2000 + 1) acc L (L.length : Int) (j : Int) = some r := by
  intro d
  induction d with
  | zero =>
    intro j acc hd hj ha
    obtain rfl : j = L.length := by omega
    refine ⟨acc, by omega, fun h => ?_, ?_⟩
    · rw [List.drop_length] at h
      rcases h with h | h
      · exact h
      · cases h
    · rw [query_Terms.l0, if_neg (by omega)]
  | succ d ih =>
    intro j acc hd hj ha
    rcases Nat.lt_or_ge j L.length with hlt | hge
    · have hcnt : cntW (L.drop j) = (if (L[j]).f0 = 0 then 1 else 0) + cntW (L.drop (j + 1)) := by rw [List.drop_eq_getElem_cons hlt, cntW]
      have hq : query_Terms.l0 ((d + 1) * 2000 + 1) acc L (L.length : Int) (j : Int) = if (L[j]).f0 = 0 then query_Terms.l1 (d * 2000 + 1999 + 1) acc 0 L (L.length : Int) (j : Int) (L[j]).f0 (L[j]).f1 else query_Terms.l0 (d * 2000 + 1999 + 1) acc L (L.length : Int) (wrap64 ((j : Int) + 1)) := by
        rw [show (d + 1) * 2000 + 1 = (d * 2000 + 1999 + 1) + 1 by omega, query_Terms.l0, if_pos (by omega), if_pos (by omega), if_pos (by omega), rdQ L j hlt]
      rw [hq, hcnt]
      by_cases c1 : (L[j]).f0 = 0
      · obtain ⟨acc', h1, h2, h3⟩ := terms_l1 L j (L[j]).f0 (L[j]).f1 (by omega) acc (by omega) acc.length 0 (by omega) (by omega)
        obtain ⟨r, g1, g2, g3⟩ := ih (j + 1) acc' (by omega) (by omega) (by omega)
        refine ⟨r, by rw [if_pos c1]; omega, fun _ => g2 (Or.inl h2), ?_⟩
        rw [if_pos c1]
        have := h3 _ _ (terms_mono0 (d * 2000 + 1) (1998 - acc.length) _ _ _ _ g3)
        rw [show d * 2000 + 1 + (1998 - acc.length) + acc.length + 1 = d * 2000 + 1999 + 1 by omega] at this
        exact this
      · obtain ⟨r, g1, g2, g3⟩ := ih (j + 1) acc (by omega) (by omega) (by omega)
        refine ⟨r, by rw [if_neg c1]; omega, fun h => g2 (by rw [if_neg c1] at h; omega), ?_⟩
        rw [if_neg c1, wnat j (by omega), show d * 2000 + 1999 + 1 = d * 2000 + 1 + 1999 by omega]
        exact terms_mono0 _ 1999 _ _ _ _ g3
    · obtain rfl : j = L.length := by omega
      refine ⟨acc, by omega, fun h => ?_, ?_⟩
      · rw [List.drop_length] at h
        rcases h with h | h
        · exact h
        · cases h
      · rw [show (d + 1) * 2000 + 1 = (d * 2000 + 2000) + 1 by omega, query_Terms.l0, if_neg (by omega)]
theorem terms_q {o : List Qo} {m : Nat} (h : Qs o m) (hm : m ≤ 16) (k : Nat) (hk : 100000 ≤ k) : ∃ r : List ByteArray, 1 ≤ r.length ∧ r.length ≤ 16 ∧ query_Terms.f k o = some r := by
  have hl := h.len
  have hc := h.cnt
  obtain ⟨r, g1, g2, g3⟩ := terms_l0 o (by omega) o.length 0 [] (by omega) (by omega) (Nat.le_refl _)
  rw [List.drop_zero, hc] at g1 g2
  refine ⟨r, g2 (Or.inr hl.2), by simp at g1; omega, ?_⟩
  unfold query_Terms.f
  have := terms_mono0 (o.length * 2000 + 1) (k - (o.length * 2000 + 1)) _ _ _ _ g3
  rw [show o.length * 2000 + 1 + (k - (o.length * 2000 + 1)) = k by omega] at this
  exact this
end Go.Proofs.YteofdfknemopiaaDoor.P
end
