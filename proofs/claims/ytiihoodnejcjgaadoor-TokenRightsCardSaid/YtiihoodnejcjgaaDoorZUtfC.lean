/- The plain law of characters' bytes: what the printed Encode, first and Decode answer. -/
import Derived.Test.YtiihoodnejcjgaaDoorZUtfA
import Derived.KernelRfl
import Derived.Test.YtiihoodnejcjgaaDoorHBU
namespace Go.Proofs.YtiihoodnejcjgaaDoor.P
open Go.RowKit Go.Proofs.YtiihoodnejcjgaaDoorW.PrintWords Go.Proofs.YtiihoodnejcjgaaDoorW.PrintLast Go.Proofs.YtiihoodnejcjgaaDoorW.PrintMore
set_option linter.unusedVariables false
set_option linter.unusedSimpArgs false

/-- Is it a character? -/
def isR (c : Int) : Bool := decide (0 ≤ c ∧ c ≤ 1114111 ∧ (c < 55296 ∨ 57343 < c))
/-- How many bytes it has. -/
def manyS (c : Int) : Int := if c < 128 then 1 else if c < 2048 then 2 else if c < 65536 then 3 else 4
/-- Its bytes. -/
def encS (c : Int) : List Int := if c < 128 then [c] else if c < 2048 then [192 + c / 64, 128 + c % 64] else if c < 65536 then [224 + c / 4096, 128 + c / 64 % 64, 128 + c % 64] else [240 + c / 262144, 128 + c / 4096 % 64, 128 + c / 64 % 64, 128 + c % 64]
/-- Bytes, as numbers. -/
def AllB (l : List Int) : Prop := ∀ x ∈ l, 0 ≤ x ∧ x ≤ 255

theorem isR_iff (c : Int) : isR c = true ↔ 0 ≤ c ∧ c ≤ 1114111 ∧ (c < 55296 ∨ 57343 < c) := by unfold isR; simp
theorem right_f (c : Int) : utf_Right.f c = some (isR c) := by
  unfold utf_Right.f isR
  (repeat' split) <;> refine congrArg some ?_ <;> rw [Bool.eq_iff_iff] <;> simp <;> omega
theorem rright_f (c : Int) : rubrickref04_Right.f c = some (isR c) := by
  unfold rubrickref04_Right.f isR
  (repeat' split) <;> refine congrArg some ?_ <;> rw [Bool.eq_iff_iff] <;> simp <;> omega
theorem many_f (c : Int) : utf_many.f c = some (manyS c) := rfl
theorem wraps_i64 (n : Int) (h₀ : 0 ≤ n) (h₁ : n < 2 ^ 62) : IntKind.i64.wrap n = n := by rw [IntKind.wrap_i64]; omega
theorem i64_and63 (x : Int) (h₀ : 0 ≤ x) (h₁ : x < 2 ^ 62) : bits .and .i64 x 63 = x % 64 := bits_mask .i64 62 (by decide) wraps_i64 6 (by decide) x h₀ h₁
theorem i64_or6 (x y : Int) (hx₀ : 0 ≤ x) (hx : x % 64 = 0) (hx₁ : x < 2 ^ 62) (h₀ : 0 ≤ y) (h₁ : y < 64) : bits .or .i64 x y = x + y :=
  bits_join .i64 62 (by decide) wraps_i64 6 x y hx₀ hx hx₁ h₀ h₁ (by omega)
theorem w256 {n : Int} (h0 : 0 ≤ n) (h1 : n ≤ 255) : n % 256 = n := by omega

theorem enc_f (c : Int) (k : Nat) (hk : 6 ≤ k) : utf_Encode.f k c = some (if isR c = true then (encS c, 0) else ([], 1)) := by
  obtain ⟨m, rfl⟩ : ∃ m, k = m + 6 := ⟨k - 6, by omega⟩
  unfold utf_Encode.f
  rw [right_f, Option.bind_some]
  by_cases hr : isR c = true
  case neg => rw [if_neg hr, if_neg hr]
  rw [if_pos hr, if_pos hr, many_f, Option.bind_some]
  have h := (isR_iff c).1 hr
  have a1 : bits .and .i64 c 63 = c % 64 := i64_and63 c (by omega) (by omega)
  have a2 : bits .and .i64 (c / 64) 63 = c / 64 % 64 := i64_and63 _ (by omega) (by omega)
  have a3 : bits .and .i64 (c / 64 / 64) 63 = c / 64 / 64 % 64 := i64_and63 _ (by omega) (by omega)
  have b1 : bits .or .u8 128 (c % 64 % 256) = 128 + c % 64 := by rw [u8_or128 _ (by omega) (by omega)]; omega
  have b2 : bits .or .u8 128 (c / 64 % 64 % 256) = 128 + c / 64 % 64 := by rw [u8_or128 _ (by omega) (by omega)]; omega
  have b3 : bits .or .u8 128 (c / 64 / 64 % 64 % 256) = 128 + c / 4096 % 64 := by rw [u8_or128 _ (by omega) (by omega)]; omega
  have wr1 : wrap64 (2 - 1) = 1 := by unfold wrap64; omega
  have wr2 : wrap64 (3 - 1) = 2 := by unfold wrap64; omega
  have wr3 : wrap64 (4 - 1) = 3 := by unfold wrap64; omega
  have wr4 : wrap64 (1 - 1) = 0 := by unfold wrap64; omega
  unfold manyS encS
  by_cases h1 : c < 128
  · rw [if_pos h1, if_pos h1]
    simp only [if_true]
    rw [w256 (by omega) (by omega)]
  rw [if_neg h1, if_neg h1]
  by_cases h2 : c < 2048
  · rw [if_pos h2, if_pos h2]
    have e2 : (shr .i64 3840 2) % 256 = 192 := by kernel_rfl
    have o2 : bits .or .u8 192 (c / 64 % 256) = 192 + c / 64 := by rw [u8_or192 _ (by omega) (by omega)]; omega
    simp only [show ¬ ((2 : Int) = 1) by decide, if_false, show (0 : Int) ≤ 2 by decide, if_true, show (2 : Int).toNat = 2 by decide, show (2 : Nat) ≤ 281474976710656 by decide, wr1, List.replicate]
    simp only [utf_Encode.l0, show (1 : Int) > 0 by decide, show (0 : Int) ≤ 1 by decide, if_true, List.length_cons, List.length_nil, List.length_set, show (1 : Int) < ((0 + 1 + 1 : Nat) : Int) by decide, wr4, show ¬ ((0 : Int) > 0) by decide, if_false, show (0 : Int) ≤ 2 by decide, show (0 : Int) < ((0 + 1 + 1 : Nat) : Int) by decide, a1, b1, e2, o2]
    rfl
  rw [if_neg h2, if_neg h2]
  by_cases h3 : c < 65536
  · rw [if_pos h3, if_pos h3]
    have e2 : (shr .i64 3840 3) % 256 = 224 := by kernel_rfl
    have o2 : bits .or .u8 224 (c / 64 / 64 % 256) = 224 + c / 4096 := by rw [u8_or224 _ (by omega) (by omega)]; omega
    simp only [show ¬ ((3 : Int) = 1) by decide, if_false, show (0 : Int) ≤ 3 by decide, if_true, show (3 : Int).toNat = 3 by decide, show (3 : Nat) ≤ 281474976710656 by decide, wr2, List.replicate]
    simp only [utf_Encode.l0, show (2 : Int) > 0 by decide, show (0 : Int) ≤ 2 by decide, show (1 : Int) > 0 by decide, show (0 : Int) ≤ 1 by decide, if_true, List.length_cons, List.length_nil, List.length_set, show (2 : Int) < ((0 + 1 + 1 + 1 : Nat) : Int) by decide, show (1 : Int) < ((0 + 1 + 1 + 1 : Nat) : Int) by decide, wr1, wr4, show ¬ ((0 : Int) > 0) by decide, if_false, show (0 : Int) ≤ 3 by decide, show (0 : Int) < ((0 + 1 + 1 + 1 : Nat) : Int) by decide, a1, b1, a2, b2, e2, o2]
    rfl
  rw [if_neg h3, if_neg h3]
  have e2 : (shr .i64 3840 4) % 256 = 240 := by kernel_rfl
  have o2 : bits .or .u8 240 (c / 64 / 64 / 64 % 256) = 240 + c / 262144 := by rw [u8_or240 _ (by omega) (by omega)]; omega
  simp only [show ¬ ((4 : Int) = 1) by decide, if_false, show (0 : Int) ≤ 4 by decide, if_true, show (4 : Int).toNat = 4 by decide, show (4 : Nat) ≤ 281474976710656 by decide, wr3, List.replicate]
  simp only [utf_Encode.l0, show (3 : Int) > 0 by decide, show (0 : Int) ≤ 3 by decide, show (2 : Int) > 0 by decide, show (0 : Int) ≤ 2 by decide, show (1 : Int) > 0 by decide, show (0 : Int) ≤ 1 by decide, if_true, List.length_cons, List.length_nil, List.length_set, show (3 : Int) < ((0 + 1 + 1 + 1 + 1 : Nat) : Int) by decide, show (2 : Int) < ((0 + 1 + 1 + 1 + 1 : Nat) : Int) by decide, show (1 : Int) < ((0 + 1 + 1 + 1 + 1 : Nat) : Int) by decide, wr1, wr2, wr4, show ¬ ((0 : Int) > 0) by decide, if_false, show (0 : Int) ≤ 4 by decide, show (0 : Int) < ((0 + 1 + 1 + 1 + 1 : Nat) : Int) by decide, a1, b1, a2, b2, a3, b3, e2, o2]
  rfl
theorem renc_f (c : Int) (hr : isR c = true) : rubrickref04_Encode.f c = some (encS c) := by
  have h := (isR_iff c).1 hr
  unfold rubrickref04_Encode.f encS
  simp only [Int.tdiv_eq_ediv_of_nonneg h.1, Int.tmod_eq_emod_of_nonneg h.1]
  have w1 : wrap64 (c / 64) = c / 64 := wrap_in (by omega) (by omega)
  have w2 : wrap64 (c / 4096) = c / 4096 := wrap_in (by omega) (by omega)
  have w3 : wrap64 (c / 262144) = c / 262144 := wrap_in (by omega) (by omega)
  simp only [w1, w2, w3, Int.tmod_eq_emod_of_nonneg (show 0 ≤ c / 64 by omega), Int.tmod_eq_emod_of_nonneg (show 0 ≤ c / 4096 by omega)]
  have v1 : wrap64 (128 + c % 64) = 128 + c % 64 := wrap_in (by omega) (by omega)
  have v2 : wrap64 (128 + c / 64 % 64) = 128 + c / 64 % 64 := wrap_in (by omega) (by omega)
  have v3 : wrap64 (128 + c / 4096 % 64) = 128 + c / 4096 % 64 := wrap_in (by omega) (by omega)
  have v4 : wrap64 (192 + c / 64) = 192 + c / 64 := wrap_in (by omega) (by omega)
  have v5 : wrap64 (224 + c / 4096) = 224 + c / 4096 := wrap_in (by omega) (by omega)
  have v6 : wrap64 (240 + c / 262144) = 240 + c / 262144 := wrap_in (by omega) (by omega)
  simp only [v1, v2, v3, v4, v5, v6]
  have q1 : (128 + c % 64) % 256 = 128 + c % 64 := by omega
  have q2 : (128 + c / 64 % 64) % 256 = 128 + c / 64 % 64 := by omega
  have q3 : (128 + c / 4096 % 64) % 256 = 128 + c / 4096 % 64 := by omega
  simp only [q1, q2, q3]
  by_cases h1 : c < 128
  · rw [if_pos h1, if_pos h1, w256 (by omega) (by omega)]
  rw [if_neg h1, if_neg h1]
  by_cases h2 : c < 2048
  · rw [if_pos h2, if_pos h2, w256 (by omega) (by omega)]
  rw [if_neg h2, if_neg h2]
  by_cases h3 : c < 65536
  · rw [if_pos h3, if_pos h3, w256 (by omega) (by omega)]
  rw [if_neg h3, if_neg h3, w256 (by omega) (by omega)]
end Go.Proofs.YtiihoodnejcjgaaDoor.P
