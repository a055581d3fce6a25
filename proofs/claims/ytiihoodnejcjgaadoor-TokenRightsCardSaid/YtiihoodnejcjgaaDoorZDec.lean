/- The plain law of the reference's decoding: it is decS. -/
import Derived.Test.YtiihoodnejcjgaaDoorZUtfF
import Derived.Test.YtiihoodnejcjgaaDoorZHelp
import Derived.Test.YtiihoodnejcjgaaDoorHRefDec
import Derived.Lib.Bytes
namespace Go.Proofs.YtiihoodnejcjgaaDoor.P
open Go.RowKit Go.Proofs.YtiihoodnejcjgaaDoorW.PrintWords Go.Proofs.YtiihoodnejcjgaaDoorW.PrintLast Go.Proofs.YtiihoodnejcjgaaDoorW.PrintMore
set_option linter.unusedVariables false
set_option linter.unusedSimpArgs false
theorem str_inj {a b : List Int} (ha : AllB a) (hb : AllB b) (h : (strOfNums a).toList = (strOfNums b).toList) : a = b := by
  rw [Lib.strOfNums_toList, Lib.strOfNums_toList] at h
  unfold Lib.bytesOf at h
  induction a generalizing b with
  | nil => cases b with
    | nil => rfl
    | cons y b => simp at h
  | cons x a ih => cases b with
    | nil => simp at h
    | cons y b =>
      simp only [List.map_cons, List.cons.injEq] at h
      have hx := ha x (List.mem_cons_self ..)
      have hy := hb y (List.mem_cons_self ..)
      have h1 : x.toNat = y.toNat := by
        have := congrArg UInt8.toNat h.1
        simp at this
        omega
      rw [show x = y by omega, ih (fun z hz => ha z (List.mem_cons_of_mem _ hz)) (fun z hz => hb z (List.mem_cons_of_mem _ hz)) h.2]
/-- What the first k bytes would be as a character. -/
def begS (l : List Int) (k : Nat) : Int := if l.length < k then -1 else match k with
  | 1 => l.getD 0 0
  | 2 => (l.getD 0 0 - 192) * 64 + l.getD 1 0 - 128
  | 3 => ((l.getD 0 0 - 224) * 64 + l.getD 1 0 - 128) * 64 + l.getD 2 0 - 128
  | _ => (((l.getD 0 0 - 240) * 64 + l.getD 1 0 - 128) * 64 + l.getD 2 0 - 128) * 64 + l.getD 3 0 - 128
theorem rd_nat (l : List Int) (i : Nat) : rd l (i : Int) = l.getD i 0 := rfl
theorem getD_byte {l : List Int} (hb : AllB l) (i : Nat) : 0 ≤ l.getD i 0 ∧ l.getD i 0 ≤ 255 := by
  rw [List.getD_eq_getElem?_getD]
  cases h : l[i]? with
  | none => simp
  | some x => simpa using hb x (List.mem_of_getElem? h)
theorem bl_end (m : Nat) (l : List Int) (k : Nat) (c : Int) : rubrickref04_begins.l0 (m + 1) l k c (k : Int) = some c := by
  unfold rubrickref04_begins.l0
  rw [if_neg (by omega)]
theorem bl_step (m : Nat) (l : List Int) (k i : Nat) (c : Int) (hi : i < k) (hl : i < l.length) (h4 : k ≤ 4) (hb : AllB l) (h0 : -1000000000 ≤ c) (h1 : c ≤ 1000000000) : rubrickref04_begins.l0 (m + 1) l k c (i : Int) = rubrickref04_begins.l0 m l k (c * 64 + l.getD i 0 - 128) ((i + 1 : Nat) : Int) := by
  have b := getD_byte hb i
  rw [rubrickref04_begins.l0, if_pos (by omega), if_pos (by omega), if_pos (by omega), rd_nat]
  rw [wrap_in (n := c * 64) (by omega) (by omega), wrap_in (n := l.getD i 0) (by omega) (by omega), wrap_in (n := c * 64 + l.getD i 0) (by omega) (by omega), wrap_in (n := c * 64 + l.getD i 0 - 128) (by omega) (by omega), wrap_in (n := (i : Int) + 1) (by omega) (by omega)]
  rfl
theorem begins_f (l : List Int) (hb : AllB l) (hp : 0 < l.length) (k : Nat) (h1 : 1 ≤ k) (h4 : k ≤ 4) : rubrickref04_begins.f 20 l k = some (begS l k) := by
  have b0 := getD_byte hb 0
  have b1 := getD_byte hb 1
  have b2 := getD_byte hb (1 + 1)
  unfold rubrickref04_begins.f begS
  by_cases hl : l.length < k
  · rw [if_pos (by omega), if_pos hl]
  rw [if_neg (by omega), if_neg hl, Option.bind_some, if_pos (by omega), if_pos (by omega), if_pos (by simp; omega)]
  have e0 : rd l 0 = l.getD 0 0 := rfl
  rw [e0]
  have one : (1 : Int) = ((1 : Nat) : Int) := rfl
  obtain rfl | rfl | rfl | rfl : k = 1 ∨ k = 2 ∨ k = 3 ∨ k = 4 := by omega
  · rw [show rd [0, 0, 192, 224, 240] ((1 : Nat) : Int) = 0 from rfl, wrap_in (n := l.getD 0 0) (by omega) (by omega), wrap_in (n := l.getD 0 0 - 0) (by omega) (by omega), one, bl_end]
    show some (l.getD 0 0 - 0) = some (l.getD 0 0)
    rw [Int.sub_zero]
  · rw [show rd [0, 0, 192, 224, 240] ((2 : Nat) : Int) = 192 from rfl, wrap_in (n := l.getD 0 0) (by omega) (by omega), wrap_in (n := l.getD 0 0 - 192) (by omega) (by omega), one, bl_step _ _ _ _ _ (by omega) (by omega) (by omega) hb (by omega) (by omega), bl_end]
    rfl
  · rw [show rd [0, 0, 192, 224, 240] ((3 : Nat) : Int) = 224 from rfl, wrap_in (n := l.getD 0 0) (by omega) (by omega), wrap_in (n := l.getD 0 0 - 224) (by omega) (by omega), one, bl_step _ _ _ _ _ (by omega) (by omega) (by omega) hb (by omega) (by omega), bl_step _ _ _ _ _ (by omega) (by omega) (by omega) hb (by omega) (by omega), bl_end]
    rfl
  · rw [show rd [0, 0, 192, 224, 240] ((4 : Nat) : Int) = 240 from rfl, wrap_in (n := l.getD 0 0) (by omega) (by omega), wrap_in (n := l.getD 0 0 - 240) (by omega) (by omega), one, bl_step _ _ _ _ _ (by omega) (by omega) (by omega) hb (by omega) (by omega), bl_step _ _ _ _ _ (by omega) (by omega) (by omega) hb (by omega) (by omega), bl_step _ _ _ _ _ (by omega) (by omega) (by omega) hb (by omega) (by omega), bl_end]
    rfl
/-- A character's own bytes begin as it. -/
theorem begS_enc (c : Int) (r : List Int) (hr : isR c = true) : begS (encS c ++ r) (manyS c).toNat = c := by
  have h := (isR_iff c).1 hr
  unfold begS encS manyS
  by_cases h1 : c < 128
  · simp [h1]
  · by_cases h2 : c < 2048
    · simp [h1, h2]; omega
    · by_cases h3 : c < 65536
      · simp [h1, h2, h3]; omega
      · simp [h1, h2, h3]; omega
/-- One try. -/
theorem try_f (b : List Int) (i k : Nat) (cn : Int × Int) (hb : AllB b) (hi : i < b.length) (h1 : 1 ≤ k) (h4 : k ≤ 4) :
    rdTry b i k cn = some (if firstS (b.drop i) ≠ (65533, 1) ∧ (firstS (b.drop i)).2 = (k : Int) then firstS (b.drop i) else cn) := by
  have hbd := hb.drop i
  have hpd : 0 < (b.drop i).length := by rw [List.length_drop]; omega
  unfold rdTry
  rw [begins_f _ hbd hpd k h1 h4, Option.bind_some, rright_f, Option.bind_some]
  have hcut : (b.take (min (i + k) b.length)).drop i = (b.drop i).take k := by
    rw [List.drop_take]
    by_cases hk : i + k ≤ b.length
    · rw [Nat.min_eq_left hk, Nat.add_sub_cancel_left]
    · rw [Nat.min_eq_right (by omega), List.take_of_length_le (by rw [List.length_drop]; omega), List.take_of_length_le (by rw [List.length_drop]; omega)]
  rw [hcut]
  generalize hl : b.drop i = l at *
  -- what a try that goes well tells
  have hwell : isR (begS l k) = true → encS (begS l k) = l.take k → firstS l = (begS l k, (k : Int)) := by
    intro hr he
    have hlk : ¬ l.length < k := by
      intro hlt
      have : begS l k = -1 := by unfold begS; rw [if_pos hlt]
      rw [this] at hr
      exact absurd hr (by decide)
    have hlen : ((encS (begS l k)).length : Int) = k := by rw [he, List.length_take]; omega
    rw [many_len] at hlen
    have := firstS_enc (begS l k) (l.drop k) hr
    rw [he, List.take_append_drop, hlen] at this
    exact this
  by_cases hr : isR (begS l k) = true
  · rw [if_pos hr, renc_f _ hr, Option.bind_some]
    have hiff : ((strOfNums (encS (begS l k))).toList = (strOfNums (l.take k)).toList) ↔ encS (begS l k) = l.take k :=
      ⟨fun h => str_inj (encS_bytes _ hr) (fun x hx => hbd x (List.mem_of_mem_take hx)) h, fun h => by rw [h]⟩
    by_cases he : encS (begS l k) = l.take k
    · rw [if_pos (hiff.2 he)]
      have hf := hwell hr he
      rw [hf]
      have hne : (begS l k, (k : Int)) ≠ (65533, 1) := by
        intro h
        simp only [Prod.mk.injEq] at h
        have : (encS (begS l k)).length ≤ 1 := by rw [he, List.length_take]; omega
        rw [h.1] at this
        exact absurd this (by decide)
      rw [if_pos ⟨hne, rfl⟩]
    · rw [if_neg (fun h => he (hiff.1 h))]
      congr 1
      rw [if_neg]
      rintro ⟨hne, hk⟩
      rcases firstS_inv l hpd hbd with h | ⟨c, hc, hf, r, hl2, hm⟩
      · exact hne h
      · rw [hf] at hk
        dsimp only at hk
        have hkk : k = (manyS c).toNat := by omega
        have := begS_enc c r hc
        rw [← hl2, ← hkk] at this
        apply he
        rw [this]
        have hlen : (encS c).length = k := by omega
        rw [hl2, ← hlen, List.take_left']
        rfl
  · rw [if_neg hr]
    congr 1
    rw [if_neg]
    rintro ⟨hne, hk⟩
    rcases firstS_inv l hpd hbd with h | ⟨c, hc, hf, r, hl2, hm⟩
    · exact hne h
    · rw [hf] at hk
      dsimp only at hk
      have hkk : k = (manyS c).toNat := by omega
      have := begS_enc c r hc
      rw [← hl2, ← hkk] at this
      rw [this] at hr
      exact hr hc
theorem tries_f (b : List Int) (i : Nat) (hb : AllB b) (hi : i < b.length) : rdTries b i 4 1 (65533, 1) = some (firstS (b.drop i)) := by
  have hbd := hb.drop i
  have hpd : 0 < (b.drop i).length := by rw [List.length_drop]; omega
  simp only [rdTries]
  rw [try_f b i 1 _ hb hi (by omega) (by omega), Option.bind_some, try_f b i 2 _ hb hi (by omega) (by omega), Option.bind_some, try_f b i 3 _ hb hi (by omega) (by omega), Option.bind_some, try_f b i 4 _ hb hi (by omega) (by omega), Option.bind_some]
  rcases firstS_inv _ hpd hbd with h | ⟨c, hc, hf, r, hl2, hm⟩
  · rw [h]; rfl
  · have := many_pos c
    have hne : firstS (b.drop i) ≠ (65533, 1) := by
      rw [hf]
      intro h
      simp only [Prod.mk.injEq] at h
      rw [h.1] at h
      exact absurd h.2 (by decide)
    congr 1
    have h2 : (firstS (b.drop i)).2 = manyS c := by rw [hf]
    generalize firstS (b.drop i) = x at *
    obtain h | h | h | h : manyS c = 1 ∨ manyS c = 2 ∨ manyS c = 3 ∨ manyS c = 4 := by omega
    all_goals simp [hne, h2, h]
theorem go_f (b : List Int) (hb : AllB b) (d : Nat) : ∀ (i : Nat) (out : List Int) (f : Nat), i ≤ b.length → b.length - i ≤ d → d + 1 ≤ f → rdGo b f i out = some (out ++ decS (b.drop i)) := by
  induction d with
  | zero =>
    intro i out f hi hd hf
    obtain ⟨f, rfl⟩ : ∃ f', f = f' + 1 := ⟨f - 1, by omega⟩
    unfold rdGo
    rw [if_neg (by omega), List.drop_of_length_le (by omega), decS_nil, List.append_nil]
  | succ d ih =>
    intro i out f hi hd hf
    obtain ⟨f, rfl⟩ : ∃ f', f = f' + 1 := ⟨f - 1, by omega⟩
    unfold rdGo
    by_cases hlt : i < b.length
    · have hpd : 0 < (b.drop i).length := by rw [List.length_drop]; omega
      have hn := firstS_n _ hpd (hb.drop i)
      have hn4 : (firstS (b.drop i)).2 ≤ 4 := by
        rcases firstS_inv _ hpd (hb.drop i) with h | ⟨c, hc, hf, r, hl2, hm⟩
        · rw [h]; decide
        · rw [hf]; exact (many_pos c).2
      rw [if_pos hlt, tries_f b i hb hlt, Option.bind_some, if_pos ⟨hn.1, hn4⟩]
      rw [List.length_drop] at hn
      rw [ih _ _ f (by omega) (by omega) (by omega), decS_cons _ hpd (hb.drop i), List.drop_drop, List.append_assoc]
      rfl
    · rw [if_neg hlt, List.drop_of_length_le (by omega), decS_nil, List.append_nil]
theorem rdecode_f (b : List Int) (hb : AllB b) (hl : b.length ≤ 1099511627776) : rubrickref04_Decode.f b = some (decS b) := by
  unfold rubrickref04_Decode.f
  rw [if_pos hl, go_f b hb b.length 0 [] _ (by omega) (by omega) (by omega)]
  rfl
end Go.Proofs.YtiihoodnejcjgaaDoor.P
