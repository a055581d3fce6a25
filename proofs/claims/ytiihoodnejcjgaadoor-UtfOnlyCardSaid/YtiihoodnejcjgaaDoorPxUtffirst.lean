-- Printed by this session's patched printer.
import Derived.Test.YtiihoodnejcjgaaDoorPx0
import Derived.Test.YtiihoodnejcjgaaDoorPxUtfRight
import Derived.Test.YtiihoodnejcjgaaDoorHUtf
namespace Go.Proofs.YtiihoodnejcjgaaDoor.P
open Go.RowKit Go.Proofs.YtiihoodnejcjgaaDoorW.PrintWords Go.Proofs.YtiihoodnejcjgaaDoorW.PrintLast Go.Proofs.YtiihoodnejcjgaaDoorW.PrintMore
attribute [local go_sem] max2_int min2_int max_two min_two max_three min_three max_four min_four   -- for this text's walks alone
set_option linter.unusedVariables false
set_option linter.unusedSimpArgs false

/-! ### utf_first: function 69 -/
mutual
def utf_first.j1 : Nat → List Int → Int → Int → Option (Int × Int)
  | 0, _, _, _ => none
  | k + 1, x0, x4, x5 => if x5 = 0 then (some (wrap64 (x4), 1)) else (if x5 = 1 then (utf_first.j2 k x0 x4 x5 true) else (if x5 > 4 then (utf_first.j2 k x0 x4 x5 true) else (utf_first.j2 k x0 x4 x5 (decide ((x0.length : Int) < x5)))))
def utf_first.j2 : Nat → List Int → Int → Int → Bool → Option (Int × Int)
  | 0, _, _, _, _ => none
  | k + 1, x0, x4, x5, x38 => if x38 = true then (some (65533, 1)) else (if 0 ≤ (wrap64 (7 - x5)) then (if 1 ≤ x5 then (if x5 ≤ (x0.length : Int) then (utf_first.l1 k x5 (Go.bits .and .i64 (wrap64 (x4)) (wrap64 ((shl .i64 1 (wrap64 (7 - x5))) - 1))) ((x0.take (x5 : Int).toNat).drop 1) (((x0.take (x5 : Int).toNat).drop 1).length : Int) 0) else (none)) else (none)) else (none))
def utf_first.l1 : Nat → Int → Int → List Int → Int → Int → Option (Int × Int)
  | 0, _, _, _, _, _ => none
  | k + 1, x5, x6, x48, x49, x50 => if x50 < x49 then (if 0 ≤ x50 then (if x50 < (x48.length : Int) then (if (Go.bits .and .u8 (rd x48 x50) 192) = 128 then (utf_first.l1 k x5 (Go.bits .or .i64 (wrap64 (x6 * 64)) (wrap64 (Go.bits .and .u8 (rd x48 x50) 63))) x48 x49 (wrap64 (x50 + 1))) else (some (65533, 1))) else (none)) else (none)) else ((utf_Right.f x6).bind fun t104 => (if t104 = true then ((utf_many.f x6).bind fun t105 => (if t105 = x5 then (some (x6, x5)) else (some (65533, 1)))) else (some (65533, 1))))
def utf_first.l0 : Nat → List Int → Int → Int → Option (Int × Int)
  | 0, _, _, _ => none
  | k + 1, x0, x4, x5 => if x5 < 5 then (if 0 ≤ x5 then (if (Go.bits .and .u8 (shl .u8 x4 x5) 128) = 0 then (utf_first.j1 k x0 x4 x5) else (utf_first.l0 k x0 x4 (wrap64 (x5 + 1)))) else (none)) else (utf_first.j1 k x0 x4 x5)
end
def utf_first.f (k : Nat) (l0 : List Int) : Option (Int × Int) := if 0 < (l0.length : Int) then (utf_first.l0 k l0 (rd l0 0) 0) else (none)
theorem utf_first.mono_l : ∀ k, (∀ y0 y1 y2, LeO (utf_first.j1 k y0 y1 y2) (utf_first.j1 (k + 1) y0 y1 y2)) ∧ (∀ y0 y1 y2 y3, LeO (utf_first.j2 k y0 y1 y2 y3) (utf_first.j2 (k + 1) y0 y1 y2 y3)) ∧ (∀ y0 y1 y2 y3 y4, LeO (utf_first.l1 k y0 y1 y2 y3 y4) (utf_first.l1 (k + 1) y0 y1 y2 y3 y4)) ∧ (∀ y0 y1 y2, LeO (utf_first.l0 k y0 y1 y2) (utf_first.l0 (k + 1) y0 y1 y2))
  | 0 => ⟨fun _ _ _ r h => by simp [utf_first.j1] at h, fun _ _ _ _ r h => by simp [utf_first.j2] at h, fun _ _ _ _ _ r h => by simp [utf_first.l1] at h, fun _ _ _ r h => by simp [utf_first.l0] at h⟩
  | k + 1 => by
    obtain ⟨ih0, ih1, ih2, ih3⟩ := utf_first.mono_l k
    refine ⟨?_, ?_, ?_, ?_⟩
    · intro y0 y1 y2
      unfold utf_first.j1
      repeat' first
      | (with_reducible exact ih0 _ _ _)
      | (with_reducible exact ih1 _ _ _ _)
      | (with_reducible exact ih2 _ _ _ _ _)
      | (with_reducible exact ih3 _ _ _)
      | (with_reducible exact LeO.refl _)
      | (with_reducible exact LeO.none _)
      | (with_reducible refine LeO.ite ?_ ?_)
      | (with_reducible refine LeO.bind ?_ (fun _ => ?_))
      | exact ih0 _ _ _
      | exact ih1 _ _ _ _
      | exact ih2 _ _ _ _ _
      | exact ih3 _ _ _
      | exact LeO.none _
      | refine LeO.ite ?_ ?_
      | refine LeO.bind ?_ (fun _ => ?_)
    · intro y0 y1 y2 y3
      unfold utf_first.j2
      repeat' first
      | (with_reducible exact ih0 _ _ _)
      | (with_reducible exact ih1 _ _ _ _)
      | (with_reducible exact ih2 _ _ _ _ _)
      | (with_reducible exact ih3 _ _ _)
      | (with_reducible exact LeO.refl _)
      | (with_reducible exact LeO.none _)
      | (with_reducible refine LeO.ite ?_ ?_)
      | (with_reducible refine LeO.bind ?_ (fun _ => ?_))
      | exact ih0 _ _ _
      | exact ih1 _ _ _ _
      | exact ih2 _ _ _ _ _
      | exact ih3 _ _ _
      | exact LeO.none _
      | refine LeO.ite ?_ ?_
      | refine LeO.bind ?_ (fun _ => ?_)
    · intro y0 y1 y2 y3 y4
      unfold utf_first.l1
      repeat' first
      | (with_reducible exact ih0 _ _ _)
      | (with_reducible exact ih1 _ _ _ _)
      | (with_reducible exact ih2 _ _ _ _ _)
      | (with_reducible exact ih3 _ _ _)
      | (with_reducible exact LeO.refl _)
      | (with_reducible exact LeO.none _)
      | (with_reducible refine LeO.ite ?_ ?_)
      | (with_reducible refine LeO.bind ?_ (fun _ => ?_))
      | exact ih0 _ _ _
      | exact ih1 _ _ _ _
      | exact ih2 _ _ _ _ _
      | exact ih3 _ _ _
      | exact LeO.none _
      | refine LeO.ite ?_ ?_
      | refine LeO.bind ?_ (fun _ => ?_)
    · intro y0 y1 y2
      unfold utf_first.l0
      repeat' first
      | (with_reducible exact ih0 _ _ _)
      | (with_reducible exact ih1 _ _ _ _)
      | (with_reducible exact ih2 _ _ _ _ _)
      | (with_reducible exact ih3 _ _ _)
      | (with_reducible exact LeO.refl _)
      | (with_reducible exact LeO.none _)
      | (with_reducible refine LeO.ite ?_ ?_)
      | (with_reducible refine LeO.bind ?_ (fun _ => ?_))
      | exact ih0 _ _ _
      | exact ih1 _ _ _ _
      | exact ih2 _ _ _ _ _
      | exact ih3 _ _ _
      | exact LeO.none _
      | refine LeO.ite ?_ ?_
      | refine LeO.bind ?_ (fun _ => ?_)
theorem utf_first.mono : ∀ a0 k, LeO (utf_first.f k a0) (utf_first.f (k + 1) a0) := by
  intro a0 k
  obtain ⟨ih0, ih1, ih2, ih3⟩ := utf_first.mono_l k
  unfold utf_first.f
  repeat' first
      | (with_reducible exact ih0 _ _ _)
      | (with_reducible exact ih1 _ _ _ _)
      | (with_reducible exact ih2 _ _ _ _ _)
      | (with_reducible exact ih3 _ _ _)
      | (with_reducible exact LeO.refl _)
      | (with_reducible exact LeO.none _)
      | (with_reducible refine LeO.ite ?_ ?_)
      | (with_reducible refine LeO.bind ?_ (fun _ => ?_))
      | exact ih0 _ _ _
      | exact ih1 _ _ _ _
      | exact ih2 _ _ _ _ _
      | exact ih3 _ _ _
      | exact LeO.none _
      | refine LeO.ite ?_ ?_
      | refine LeO.bind ?_ (fun _ => ?_)
set_option maxHeartbeats 8000000 in
set_option maxRecDepth 100000 in
theorem utf_first.calls (k : Nat) (A0 : Option Addr) (c0 : Nat) (l0 : List Int) (r1 : Int) (r2 : Int) (w : World) (hr0 : Kd.C (Kd.int .u8) w A0 l0.length l0) (hc0 : l0.length ≤ c0) (h : utf_first.f k l0 = some (r1, r2)) :
    Calls Tryd.prog 69 #[.slice A0 l0.length c0] w fun e w' => e = .returned (.tuple #[.int .i64 r1, .int .i64 r2]) ∧ Below w.heap.size w w' := by
  have HR0 := Aside0.mk hr0
  have HC0 := Aside0.mk hc0
  clear hr0 hc0
  have HB := Aside0.mk (Below.refl w.heap.size w)
  have H : (if 0 < (l0.length : Int) then (utf_first.l0 k l0 (rd l0 0) 0) else (none)) = some (r1, r2) := h
  clear h
  by_cases c2 : 0 < (l0.length : Int)
  · rw [if_pos c2] at H
    have c2b0 : decide (0 < (l0.length : Int)) = true := decide_eq_true c2
    have c2b1 : decide (0 < l0.length) = true := decide_eq_true (by omega)
    clear c2
    have HC3 := Aside0.mk H
    clear H
    have p101 : 0 ≤ (0 : Int) := (by omega)
    have q101 : 0 < (l0.length : Int) := of_decide_eq_true (by first | (with_reducible assumption) | assumption)
    obtain ⟨ad101, e101, hx101_0⟩ := Kd.at_int HR0.out 0 p101 q101
    cases e101
    have qi101 : (0 < l0.length) = True := eq_true (by omega)
    (try rw [show ((0 : Int)).toNat = 0 from rfl] at hx101_0)
    (try rw [Addr.add_zero'] at hx101_0)
    replace p101 := eq_true p101
    replace q101 := eq_true q101
    go_enter Tryd.func69, Tryd.ntmps69
    go_upto_block 0 with (fail)
    go_cut [5] (fun v5 wc => ∃ (kq : Nat) (x5_2 : Int), v5 = .int .i64 x5_2 ∧ Aside0 (utf_first.j1 kq l0 (rd l0 0) x5_2 = some (r1, r2)) ∧ Aside0 (kq ≤ k) ∧ Aside0 (Below w.heap.size w wc))
    case first =>
      have H := HC3.out
      clear HC3
      have H' := Aside0.mk H
      clear H
      go_wp2
      go_loopg [5] k (fun kq v5 w' => ∃ (x5_1 : Int), v5 = .int .i64 x5_1 ∧ Aside0 (utf_first.l0 kq l0 (rd l0 0) x5_1 = some (r1, r2)) ∧ Aside0 (kq ≤ k) ∧ Aside0 (Below w.heap.size w w'))
      case atStart => exact ⟨(0), (by first | rfl | (simp; done) | (simp [*]; done)), H', ⟨Nat.le_refl _⟩, ⟨by repeat (first | (with_reducible first | exact HB.out | apply below_alloc | apply pw_below_drewN | apply below_drew1) | exact HB.out)⟩⟩
      case round =>
        clear H'
        try clear p1
        try clear q1
        try clear hx1
        try clear qi1
        try clear c2
        try clear c2b0
        try clear c2b1
        try clear p2
        try clear hx101_0
        try clear p101
        try clear q101
        obtain ⟨x5_1, rfl, HA, HK1, HB⟩ := hrel
        cases gk with
        | zero => exact absurd HA.out (by simp [utf_first.l0])
        | succ k1 =>
          have H := HA.out
          clear HA
          simp only [utf_first.l0] at H
          by_cases c4 : x5_1 < 5
          · rw [if_pos c4] at H
            have c4b0 : decide (x5_1 < 5) = true := decide_eq_true c4
            clear c4
            (first | rw [c4b0] | (simp only [i64_w, i32_w]; rw [c4b0]) | skip)
            by_cases c5 : 0 ≤ x5_1
            · rw [if_pos c5] at H
              have c5b0 := eq_true c5
              have c5b1 : decide (0 ≤ x5_1) = true := decide_eq_true c5
              clear c5
              obtain ⟨ji6, hji6⟩ : ∃ j_ : Int, (shl .u8 (rd l0 0) x5_1) = j_ := ⟨_, rfl⟩
              replace H : (if (Go.bits .and .u8 (ji6) 128) = 0 then (utf_first.j1 k1 l0 (rd l0 0) x5_1) else (utf_first.l0 k1 l0 (rd l0 0) (wrap64 (x5_1 + 1)))) = some (r1, r2) := by first | (rw [hji6] at H; exact H) | (simp only [hji6] at H ⊢; exact H)
              have hji6_ : (IntKind.u8.wrap ((rd l0 0) * 2 ^ min x5_1.toNat 8)) = ji6 := hji6
              have hji6z : x5_1 ≤ 8 → (IntKind.u8.wrap ((rd l0 0) * 2 ^ x5_1.toNat)) = ji6 := shl_small hji6
              by_cases c7 : (Go.bits .and .u8 (ji6) 128) = 0
              · rw [if_pos c7] at H
                have c7b0 : ((Go.bits .and .u8 (ji6) 128) == 0) = true := beq_iff_eq.mpr c7
                have c7b1 : ((Go.bits .and .u8 (ji6) 128) != 0) = false := bne_eq_false_iff_eq.mpr c7
                clear c7
                have H' := Aside0.mk H
                clear H
                go_wp2
                go_meet
                case rel => exact ⟨_, (x5_1), (by first | rfl | (simp; done) | (simp [*]; done)), H', ⟨by have := HK1.out; first | omega | exact Nat.le_refl _⟩, ⟨by repeat (first | (with_reducible first | exact HB.out | apply below_alloc | apply pw_below_drewN | apply below_drew1) | exact HB.out)⟩⟩
              · rw [if_neg c7] at H
                have c7b0 : ((Go.bits .and .u8 (ji6) 128) == 0) = false := beq_eq_false_iff_ne.mpr c7
                have c7b1 : ((Go.bits .and .u8 (ji6) 128) != 0) = true := bne_iff_ne.mpr c7
                have H' := Aside0.mk H
                clear H
                go_wp2
                go_roundg k1
                case measure => have := HK1.out; omega
                case rel => exact ⟨(wrap64 (x5_1 + 1)), (by first | rfl | (simp; done) | (simp [*]; done)), H', ⟨by have := HK1.out; omega⟩, ⟨by repeat (first | (with_reducible first | exact HB.out | apply below_alloc | apply pw_below_drewN | apply below_drew1) | exact HB.out)⟩⟩
            · rw [if_neg c5] at H
              exact absurd H (by simp)
          · rw [if_neg c4] at H
            have c4b0 : decide (x5_1 < 5) = false := decide_eq_false c4
            clear c4
            (first | rw [c4b0] | (simp only [i64_w, i32_w]; rw [c4b0]) | skip)
            have H' := Aside0.mk H
            clear H
            go_wp2
            go_meet
            case rel => exact ⟨_, (x5_1), (by first | rfl | (simp; done) | (simp [*]; done)), H', ⟨by have := HK1.out; first | omega | exact Nat.le_refl _⟩, ⟨by repeat (first | (with_reducible first | exact HB.out | apply below_alloc | apply pw_below_drewN | apply below_drew1) | exact HB.out)⟩⟩
    case rest =>
      clear HC3
      try clear p1
      try clear q1
      try clear hx1
      try clear qi1
      try clear c2
      try clear c2b0
      try clear c2b1
      try clear p2
      try clear c4
      try clear c4b0
      try clear c5
      try clear c5b0
      try clear c5b1
      try clear c6
      try clear p6
      try clear c7
      try clear c7b0
      try clear c7b1
      try clear hx101_0
      try clear p1
      try clear p101
      try clear p2
      try clear q1
      try clear q101
      obtain ⟨kq, x5_2, rfl, HA, HJ2, HB⟩ := hcut
      cases kq with
      | zero => exact absurd HA.out (by simp [utf_first.j1])
      | succ kj2 =>
        have H := HA.out
        clear HA
        simp only [utf_first.j1] at H
        by_cases c8 : x5_2 = 0
        · rw [if_pos c8] at H
          have c8b0 : (x5_2 == 0) = true := beq_iff_eq.mpr c8
          have c8b1 : (x5_2 != 0) = false := bne_eq_false_iff_eq.mpr c8
          clear c8
          simp only [Option.some.injEq, Prod.mk.injEq] at H
          obtain ⟨rfl, rfl⟩ := H
          go_wp2
          go_ret2
          exact ⟨by first | rfl | (simp [errW_none, errW_some] <;> rfl) | (simp [*, errW_none, errW_some] <;> rfl), by repeat (first | (with_reducible first | exact HB.out | apply below_alloc | apply pw_below_drewN | apply below_drew1) | exact HB.out)⟩
        · rw [if_neg c8] at H
          have c8b0 : (x5_2 == 0) = false := beq_eq_false_iff_ne.mpr c8
          have c8b1 : (x5_2 != 0) = true := bne_iff_ne.mpr c8
          have HC9 := Aside0.mk H
          clear H
          go_upto_region 7 with (fail)
          go_cut [38] (fun v38 wc => ∃ (kq : Nat) (x38_8 : Bool), v38 = .bool x38_8 ∧ Aside0 (utf_first.j2 kq l0 (rd l0 0) x5_2 x38_8 = some (r1, r2)) ∧ Aside0 (kq ≤ kj2) ∧ Aside0 (Below w.heap.size w wc))
          case first =>
            have H := HC9.out
            clear HC9
            by_cases c10 : x5_2 = 1
            · rw [if_pos c10] at H
              have c10b0 : (x5_2 == 1) = true := beq_iff_eq.mpr c10
              have c10b1 : (x5_2 != 1) = false := bne_eq_false_iff_eq.mpr c10
              clear c10
              (first | rw [c10b0] | (simp only [i64_w, i32_w]; rw [c10b0]) | skip)
              have H' := Aside0.mk H
              clear H
              go_wp2
              go_meet
              case rel => exact ⟨_, (true), (by first | rfl | (simp; done) | (simp [*]; done)), H', ⟨by have := HJ2.out; first | omega | exact Nat.le_refl _⟩, ⟨by repeat (first | (with_reducible first | exact HB.out | apply below_alloc | apply pw_below_drewN | apply below_drew1) | exact HB.out)⟩⟩
            · rw [if_neg c10] at H
              have c10b0 : (x5_2 == 1) = false := beq_eq_false_iff_ne.mpr c10
              have c10b1 : (x5_2 != 1) = true := bne_iff_ne.mpr c10
              (first | rw [c10b0] | (simp only [i64_w, i32_w]; rw [c10b0]) | skip)
              by_cases c11 : x5_2 > 4
              · rw [if_pos c11] at H
                have c11b0 : decide (4 < x5_2) = true := decide_eq_true c11
                clear c11
                have H' := Aside0.mk H
                clear H
                go_wp2
                go_meet
                case rel => exact ⟨_, (true), (by first | rfl | (simp; done) | (simp [*]; done)), H', ⟨by have := HJ2.out; first | omega | exact Nat.le_refl _⟩, ⟨by repeat (first | (with_reducible first | exact HB.out | apply below_alloc | apply pw_below_drewN | apply below_drew1) | exact HB.out)⟩⟩
              · rw [if_neg c11] at H
                have c11b0 : decide (4 < x5_2) = false := decide_eq_false c11
                clear c11
                have H' := Aside0.mk H
                clear H
                go_wp2
                go_meet
                case rel => exact ⟨_, (decide ((l0.length : Int) < x5_2)), (by first | rfl | (simp; done) | (simp [*]; done)), H', ⟨by have := HJ2.out; first | omega | exact Nat.le_refl _⟩, ⟨by repeat (first | (with_reducible first | exact HB.out | apply below_alloc | apply pw_below_drewN | apply below_drew1) | exact HB.out)⟩⟩
          case rest =>
            clear HC9
            try clear c1
            try clear p1
            try clear q1
            try clear hx1
            try clear qi1
            try clear c2
            try clear c2b0
            try clear c2b1
            try clear p2
            try clear c4
            try clear c4b0
            try clear c5
            try clear c5b0
            try clear c5b1
            try clear c6
            try clear p6
            try clear c7
            try clear c7b0
            try clear c7b1
            try clear c8
            try clear c8b0
            try clear c8b1
            try clear c10
            try clear c10b0
            try clear c10b1
            try clear p10
            try clear q10
            try clear hx10
            try clear qi10
            try clear c11
            try clear c11b0
            try clear hx101_0
            try clear p1
            try clear p101
            try clear p2
            try clear p6
            try clear q1
            try clear q101
            obtain ⟨kq, x38_8, rfl, HA, HJ8, HB⟩ := hcut
            cases kq with
            | zero => exact absurd HA.out (by simp [utf_first.j2])
            | succ kj8 =>
              have H := HA.out
              clear HA
              simp only [utf_first.j2] at H
              by_cases c12 : x38_8 = true
              · subst c12
                have H1 : (some (65533, 1)) = some (r1, r2) := by rw [if_pos rfl] at H; exact H
                clear H
                have H := H1
                clear H1
                simp only [Option.some.injEq, Prod.mk.injEq] at H
                obtain ⟨rfl, rfl⟩ := H
                go_wp2
                go_ret2
                exact ⟨by first | rfl | (simp [errW_none, errW_some] <;> rfl) | (simp [*, errW_none, errW_some] <;> rfl), by repeat (first | (with_reducible first | exact HB.out | apply below_alloc | apply pw_below_drewN | apply below_drew1) | exact HB.out)⟩
              · replace c12 := Bool.eq_false_iff.mpr c12
                subst c12
                have H1 : (if 0 ≤ (wrap64 (7 - x5_2)) then (if 1 ≤ x5_2 then (if x5_2 ≤ (l0.length : Int) then (utf_first.l1 kj8 x5_2 (Go.bits .and .i64 (wrap64 ((rd l0 0))) (wrap64 ((shl .i64 1 (wrap64 (7 - x5_2))) - 1))) ((l0.take (x5_2 : Int).toNat).drop 1) (((l0.take (x5_2 : Int).toNat).drop 1).length : Int) 0) else (none)) else (none)) else (none)) = some (r1, r2) := by rw [if_neg (show ¬ (false = true) by decide)] at H; exact H
                clear H
                have H := H1
                clear H1
                obtain ⟨ji13, hji13⟩ : ∃ j_ : Int, (wrap64 (7 - x5_2)) = j_ := ⟨_, rfl⟩
                replace H : (if 0 ≤ (ji13) then (if 1 ≤ x5_2 then (if x5_2 ≤ (l0.length : Int) then (utf_first.l1 kj8 x5_2 (Go.bits .and .i64 (wrap64 ((rd l0 0))) (wrap64 ((shl .i64 1 (ji13)) - 1))) ((l0.take (x5_2 : Int).toNat).drop 1) (((l0.take (x5_2 : Int).toNat).drop 1).length : Int) 0) else (none)) else (none)) else (none)) = some (r1, r2) := by first | (rw [hji13] at H; exact H) | (simp only [hji13] at H ⊢; exact H)
                have hji13w : (IntKind.i64.wrap (7 - x5_2)) = ji13 := (i64_w _).trans hji13
                by_cases c14 : 0 ≤ (ji13)
                · rw [if_pos c14] at H
                  have c14b0 := eq_true c14
                  have c14b1 : decide (0 ≤ (ji13)) = true := decide_eq_true c14
                  clear c14
                  obtain ⟨ji15, hji15⟩ : ∃ j_ : Int, (shl .i64 1 (ji13)) = j_ := ⟨_, rfl⟩
                  replace H : (if 1 ≤ x5_2 then (if x5_2 ≤ (l0.length : Int) then (utf_first.l1 kj8 x5_2 (Go.bits .and .i64 (wrap64 ((rd l0 0))) (wrap64 ((ji15) - 1))) ((l0.take (x5_2 : Int).toNat).drop 1) (((l0.take (x5_2 : Int).toNat).drop 1).length : Int) 0) else (none)) else (none)) = some (r1, r2) := by first | (rw [hji15] at H; exact H) | (simp only [hji15] at H ⊢; exact H)
                  have hji15_ : (IntKind.i64.wrap (1 * 2 ^ min (ji13).toNat 64)) = ji15 := hji15
                  have hji15z : (ji13) ≤ 64 → (IntKind.i64.wrap (1 * 2 ^ (ji13).toNat)) = ji15 := shl_small hji15
                  have hji15u : (IntKind.i64.wrap (2 ^ min (ji13).toNat 64)) = ji15 := by have h_ := hji15_; rw [Int.one_mul] at h_; exact h_
                  have hji15v : (ji13) ≤ 64 → (IntKind.i64.wrap (2 ^ (ji13).toNat)) = ji15 := fun hle_ => by have h_ := hji15z hle_; rw [Int.one_mul] at h_; exact h_
                  have hji15y : (wrap64 (1 * 2 ^ min (ji13).toNat 64)) = ji15 := (i64_w _).symm.trans hji15_
                  have hji15x : (ji13) ≤ 64 → (wrap64 (1 * 2 ^ (ji13).toNat)) = ji15 := fun h_ => (i64_w _).symm.trans (hji15z h_)
                  by_cases c16 : 1 ≤ x5_2
                  · rw [if_pos c16] at H
                    have c16b0 := eq_true c16
                    have c16b1 : decide (1 ≤ x5_2) = true := decide_eq_true c16
                    clear c16
                    by_cases c17 : x5_2 ≤ (l0.length : Int)
                    · rw [if_pos c17] at H
                      have c17b0 := eq_true c17
                      have c17b1 : decide (x5_2 ≤ (l0.length : Int)) = true := decide_eq_true c17
                      clear c17
                      have H' := Aside0.mk H
                      clear H
                      obtain ⟨i018, hi018, _, hsz18, _⟩ := info_parts info5
                      obtain ⟨A18, hcut18, hA18, hC18⟩ := print_mid_of (P := Tryd.prog) (Value.int .u8) 0 22 5 .i64 .i64 Tryd.underlying22 hi018 hsz18 (some ad101) c0 l0 1 x5_2 (by omega) (by first | omega | exact of_decide_eq_true (by first | (with_reducible assumption) | assumption)) (of_decide_eq_true (by first | (with_reducible assumption) | assumption)) HC0.out
                      have HR102 := Aside0.mk (Kd.C_of_reads (h1 := fun _ => rfl) (hA18 _ (Kd.reads_of_C HR0.out)))
                      have HC102 := Aside0.mk hC18
                      clear hA18 hC18 hi018 hsz18
                      (try have HLN19 := Aside0.mk (show ((l0.take (x5_2 : Int).toNat).drop 1).length = (x5_2.toNat - 1) from (by rw [List.length_drop, List.length_take]; have h_ : (x5_2 : Int) ≤ (l0.length : Int) := of_decide_eq_true (by first | (with_reducible assumption) | assumption); omega)))
                      go_wp2
                      go_loopg [6, 50] kj8 (fun kq v6 v50 w' => ∃ (x6_3 : Int) (x50_3 : Int), v6 = .int .i64 x6_3 ∧ v50 = .int .i64 x50_3 ∧ Aside0 (utf_first.l1 kq x5_2 x6_3 ((l0.take (x5_2 : Int).toNat).drop 1) (((l0.take (x5_2 : Int).toNat).drop 1).length : Int) x50_3 = some (r1, r2)) ∧ Aside0 (kq ≤ kj8) ∧ Aside0 (Below w.heap.size w w'))
                      case atStart => exact ⟨(Go.bits .and .i64 (wrap64 ((rd l0 0))) (wrap64 ((ji15) - 1))), (0), (by first | rfl | (simp; done) | (simp only [← hji15] <;> (first | rfl | simp)) | (simp [*]; done)), (by first | rfl | (simp; done) | (simp [*]; done)), H', ⟨Nat.le_refl _⟩, ⟨by repeat (first | (with_reducible first | exact HB.out | apply below_alloc | apply pw_below_drewN | apply below_drew1) | exact HB.out)⟩⟩
                      case round =>
                        clear H'
                        try clear c1
                        try clear p1
                        try clear q1
                        try clear hx1
                        try clear qi1
                        try clear c2
                        try clear c2b0
                        try clear c2b1
                        try clear p2
                        try clear c4
                        try clear c4b0
                        try clear c5
                        try clear c5b0
                        try clear c5b1
                        try clear c6
                        try clear p6
                        try clear c7
                        try clear c7b0
                        try clear c7b1
                        try clear c8
                        try clear c8b0
                        try clear c8b1
                        try clear c10
                        try clear c10b0
                        try clear c10b1
                        try clear p10
                        try clear q10
                        try clear hx10
                        try clear qi10
                        try clear c11
                        try clear c11b0
                        try clear c12
                        try clear c14
                        try clear c14b0
                        try clear c14b1
                        try clear c16
                        try clear c16b0
                        try clear c16b1
                        try clear c17
                        try clear c17b0
                        try clear c17b1
                        try clear hx101_0
                        try clear p1
                        try clear p10
                        try clear p101
                        try clear p2
                        try clear p6
                        try clear q1
                        try clear q10
                        try clear q101
                        obtain ⟨x6_3, x50_3, rfl, rfl, HA, HK3, HB⟩ := hrel
                        cases gk with
                        | zero => exact absurd HA.out (by simp [utf_first.l1])
                        | succ k3 =>
                          have H := HA.out
                          clear HA
                          simp only [utf_first.l1] at H
                          by_cases c20 : x50_3 < (((l0.take (x5_2 : Int).toNat).drop 1).length : Int)
                          · rw [if_pos c20] at H
                            have c20b0 : decide (x50_3 < (((l0.take (x5_2 : Int).toNat).drop 1).length : Int)) = true := decide_eq_true c20
                            (try (have c20b1 : decide (x50_3 < ((x5_2.toNat - 1 : Nat) : Int)) = true := by have h_ : decide (x50_3 < (((l0.take (x5_2 : Int).toNat).drop 1).length : Int)) = true := decide_eq_true c20; have he_ := (show Aside0 (((l0.take (x5_2 : Int).toNat).drop 1).length = ((x5_2 : Int).toNat - 1)) by assumption).out; rw [he_] at h_; exact h_))
                            (try (have c20b2 : (x50_3 < ((x5_2.toNat - 1 : Nat) : Int)) = True := by have h_ : decide (x50_3 < (((l0.take (x5_2 : Int).toNat).drop 1).length : Int)) = true := decide_eq_true c20; have he_ := (show Aside0 (((l0.take (x5_2 : Int).toNat).drop 1).length = ((x5_2 : Int).toNat - 1)) by assumption).out; rw [he_] at h_; exact eq_true (of_decide_eq_true h_)))
                            (try (have c20b3 : decide (x50_3 < (((l0.take (x5_2 : Int).toNat).tail).length : Int)) = true := by have h_ : decide (x50_3 < (((l0.take (x5_2 : Int).toNat).drop 1).length : Int)) = true := decide_eq_true c20; simpa only [List.drop_one] using h_))
                            clear c20
                            by_cases c21 : 0 ≤ x50_3
                            · rw [if_pos c21] at H
                              have c21b0 : decide (0 ≤ x50_3) = true := decide_eq_true c21
                              clear c21
                              by_cases c22 : x50_3 < (((l0.take (x5_2 : Int).toNat).drop 1).length : Int)
                              · rw [if_pos c22] at H
                                have c22b0 : decide (x50_3 < (((l0.take (x5_2 : Int).toNat).drop 1).length : Int)) = true := decide_eq_true c22
                                (try (have c22b1 : decide (x50_3 < ((x5_2.toNat - 1 : Nat) : Int)) = true := by have h_ : decide (x50_3 < (((l0.take (x5_2 : Int).toNat).drop 1).length : Int)) = true := decide_eq_true c22; have he_ := (show Aside0 (((l0.take (x5_2 : Int).toNat).drop 1).length = ((x5_2 : Int).toNat - 1)) by assumption).out; rw [he_] at h_; exact h_))
                                (try (have c22b2 : (x50_3 < ((x5_2.toNat - 1 : Nat) : Int)) = True := by have h_ : decide (x50_3 < (((l0.take (x5_2 : Int).toNat).drop 1).length : Int)) = true := decide_eq_true c22; have he_ := (show Aside0 (((l0.take (x5_2 : Int).toNat).drop 1).length = ((x5_2 : Int).toNat - 1)) by assumption).out; rw [he_] at h_; exact eq_true (of_decide_eq_true h_)))
                                (try (have c22b3 : decide (x50_3 < (((l0.take (x5_2 : Int).toNat).tail).length : Int)) = true := by have h_ : decide (x50_3 < (((l0.take (x5_2 : Int).toNat).drop 1).length : Int)) = true := decide_eq_true c22; simpa only [List.drop_one] using h_))
                                clear c22
                                by_cases c23 : (Go.bits .and .u8 (rd ((l0.take (x5_2 : Int).toNat).drop 1) x50_3) 192) = 128
                                · rw [if_pos c23] at H
                                  have c23b0 : ((Go.bits .and .u8 (rd ((l0.take (x5_2 : Int).toNat).drop 1) x50_3) 192) == 128) = true := beq_iff_eq.mpr c23
                                  (try (have c23b1 : ((Go.bits .and .u8 (rd ((l0.take (x5_2 : Int).toNat).tail) x50_3) 192) == 128) = true := by have h_ : ((Go.bits .and .u8 (rd ((l0.take (x5_2 : Int).toNat).drop 1) x50_3) 192) == 128) = true := beq_iff_eq.mpr c23; simpa only [List.drop_one] using h_))
                                  have c23b2 : ((Go.bits .and .u8 (rd ((l0.take (x5_2 : Int).toNat).drop 1) x50_3) 192) != 128) = false := bne_eq_false_iff_eq.mpr c23
                                  (try (have c23b3 : ((Go.bits .and .u8 (rd ((l0.take (x5_2 : Int).toNat).tail) x50_3) 192) != 128) = false := by have h_ : ((Go.bits .and .u8 (rd ((l0.take (x5_2 : Int).toNat).drop 1) x50_3) 192) != 128) = false := bne_eq_false_iff_eq.mpr c23; simpa only [List.drop_one] using h_))
                                  clear c23
                                  have H' := Aside0.mk H
                                  clear H
                                  have p103 : 0 ≤ (x50_3 : Int) := of_decide_eq_true (by first | (with_reducible assumption) | assumption)
                                  have q103 : x50_3 < (((l0.take (x5_2 : Int).toNat).drop 1).length : Int) := of_decide_eq_true (by first | (with_reducible assumption) | assumption)
                                  obtain ⟨ad103, e103, hx103_0⟩ := Kd.at_int HR102.out x50_3 p103 q103
                                  cases e103
                                  replace hx103_0 := (HB.out.cell (World.block_lt_of_cell? w _ hx103_0)).trans hx103_0
                                  replace p103 := eq_true p103
                                  replace q103 := eq_true q103
                                  go_wp2
                                  go_roundg k3
                                  case measure => have := HJ2.out; have := HJ8.out; have := HK3.out; omega
                                  case rel => exact ⟨(Go.bits .or .i64 (wrap64 (x6_3 * 64)) (wrap64 (Go.bits .and .u8 (rd ((l0.take (x5_2 : Int).toNat).drop 1) x50_3) 63))), (wrap64 (x50_3 + 1)), (by first | rfl | (simp; done) | (simp [*]; done)), (by first | rfl | (simp; done) | (simp [*]; done)), H', ⟨by have := HJ2.out; have := HJ8.out; have := HK3.out; omega⟩, ⟨by repeat (first | (with_reducible first | exact HB.out | apply below_alloc | apply pw_below_drewN | apply below_drew1) | exact HB.out)⟩⟩
                                · rw [if_neg c23] at H
                                  have c23b0 : ((Go.bits .and .u8 (rd ((l0.take (x5_2 : Int).toNat).drop 1) x50_3) 192) == 128) = false := beq_eq_false_iff_ne.mpr c23
                                  (try (have c23b1 : ((Go.bits .and .u8 (rd ((l0.take (x5_2 : Int).toNat).tail) x50_3) 192) == 128) = false := by have h_ : ((Go.bits .and .u8 (rd ((l0.take (x5_2 : Int).toNat).drop 1) x50_3) 192) == 128) = false := beq_eq_false_iff_ne.mpr c23; simpa only [List.drop_one] using h_))
                                  have c23b2 : ((Go.bits .and .u8 (rd ((l0.take (x5_2 : Int).toNat).drop 1) x50_3) 192) != 128) = true := bne_iff_ne.mpr c23
                                  (try (have c23b3 : ((Go.bits .and .u8 (rd ((l0.take (x5_2 : Int).toNat).tail) x50_3) 192) != 128) = true := by have h_ : ((Go.bits .and .u8 (rd ((l0.take (x5_2 : Int).toNat).drop 1) x50_3) 192) != 128) = true := bne_iff_ne.mpr c23; simpa only [List.drop_one] using h_))
                                  simp only [Option.some.injEq, Prod.mk.injEq] at H
                                  obtain ⟨rfl, rfl⟩ := H
                                  have p103 : 0 ≤ (x50_3 : Int) := of_decide_eq_true (by first | (with_reducible assumption) | assumption)
                                  have q103 : x50_3 < (((l0.take (x5_2 : Int).toNat).drop 1).length : Int) := of_decide_eq_true (by first | (with_reducible assumption) | assumption)
                                  obtain ⟨ad103, e103, hx103_0⟩ := Kd.at_int HR102.out x50_3 p103 q103
                                  cases e103
                                  replace hx103_0 := (HB.out.cell (World.block_lt_of_cell? w _ hx103_0)).trans hx103_0
                                  replace p103 := eq_true p103
                                  replace q103 := eq_true q103
                                  go_wp2
                                  go_ret2
                                  exact ⟨by first | rfl | (simp [errW_none, errW_some] <;> rfl) | (simp only [← hji13, ← hji15]; first | rfl | (simp [errW_none, errW_some] <;> rfl)) | (simp [*, errW_none, errW_some] <;> rfl), by repeat (first | (with_reducible first | exact HB.out | apply below_alloc | apply pw_below_drewN | apply below_drew1) | exact HB.out)⟩
                              · rw [if_neg c22] at H
                                exact absurd H (by simp)
                            · rw [if_neg c21] at H
                              exact absurd H (by simp)
                          · rw [if_neg c20] at H
                            have c20b0 : decide (x50_3 < (((l0.take (x5_2 : Int).toNat).drop 1).length : Int)) = false := decide_eq_false c20
                            (try (have c20b1 : decide (x50_3 < ((x5_2.toNat - 1 : Nat) : Int)) = false := by have h_ : decide (x50_3 < (((l0.take (x5_2 : Int).toNat).drop 1).length : Int)) = false := decide_eq_false c20; have he_ := (show Aside0 (((l0.take (x5_2 : Int).toNat).drop 1).length = ((x5_2 : Int).toNat - 1)) by assumption).out; rw [he_] at h_; exact h_))
                            (try (have c20b2 : decide (x50_3 < (((l0.take (x5_2 : Int).toNat).tail).length : Int)) = false := by have h_ : decide (x50_3 < (((l0.take (x5_2 : Int).toNat).drop 1).length : Int)) = false := decide_eq_false c20; simpa only [List.drop_one] using h_))
                            clear c20
                            replace H := Option.bind_eq_some_iff.mp H
                            obtain ⟨t104, A240, H⟩ := H
                            replace H : (if t104 = true then ((utf_many.f x6_3).bind fun t105 => (if t105 = x5_2 then (some (x6_3, x5_2)) else (some (65533, 1)))) else (some (65533, 1))) = some (r1, r2) := H
                            have A24 := Aside0.mk A240
                            clear A240
                            by_cases c25 : t104 = true
                            · subst c25
                              have H1 : ((utf_many.f x6_3).bind fun t105 => (if t105 = x5_2 then (some (x6_3, x5_2)) else (some (65533, 1)))) = some (r1, r2) := by rw [if_pos rfl] at H; exact H
                              clear H
                              have H := H1
                              clear H1
                              replace H := Option.bind_eq_some_iff.mp H
                              obtain ⟨t105, A260, H⟩ := H
                              replace H : (if t105 = x5_2 then (some (x6_3, x5_2)) else (some (65533, 1))) = some (r1, r2) := H
                              have A26 := Aside0.mk A260
                              clear A260
                              by_cases c27 : t105 = x5_2
                              · rw [if_pos c27] at H
                                have c27b0 : (t105 == x5_2) = true := beq_iff_eq.mpr c27
                                have c27b1 : (t105 != x5_2) = false := bne_eq_false_iff_eq.mpr c27
                                clear c27
                                simp only [Option.some.injEq, Prod.mk.injEq] at H
                                obtain ⟨rfl, rfl⟩ := H
                                go_wp2_with (first | ((with_reducible refine gate_callee (f := 31) rfl ?_); refine goesL_ (some 65) rfl rfl Tryd.func31 (by kernel_rfl) rfl #[.int .i64 x6_3] rfl (by (try simp only [List.map_toArray, List.map_cons, List.map_nil]); first | done | rfl | (simp only [List.length_drop, List.length_take]; rfl)) ?_; (with_reducible refine (utf_Right.calls x6_3 true _ A24.out).mono ?_); rintro e w' ⟨rfl, ⟨nd, rfl⟩⟩; refine ⟨_, rfl, ?_⟩) | (go_at_call 74; (with_reducible refine (utf_many.calls x6_3 t105 _ A26.out).mono ?_); rintro e w28 ⟨rfl, hb⟩; have n0_ := Aside0.mk (below_step (by repeat (first | (with_reducible first | exact HB.out | apply below_alloc | apply pw_below_drewN | apply below_drew1) | exact HB.out)) hb); clear HB; have HB := n0_; clear n0_; (try clear hb); (try clear hb2); (try clear hk); (try clear hi)))
                                go_ret2
                                exact ⟨by first | rfl | (simp [errW_none, errW_some] <;> rfl) | (simp only [← hji13, ← hji15]; first | rfl | (simp [errW_none, errW_some] <;> rfl)) | (simp [*, errW_none, errW_some] <;> rfl), by repeat (first | (with_reducible first | exact HB.out | apply below_alloc | apply pw_below_drewN | apply below_drew1) | exact HB.out)⟩
                              · rw [if_neg c27] at H
                                have c27b0 : (t105 == x5_2) = false := beq_eq_false_iff_ne.mpr c27
                                have c27b1 : (t105 != x5_2) = true := bne_iff_ne.mpr c27
                                simp only [Option.some.injEq, Prod.mk.injEq] at H
                                obtain ⟨rfl, rfl⟩ := H
                                go_wp2_with (first | ((with_reducible refine gate_callee (f := 31) rfl ?_); refine goesL_ (some 65) rfl rfl Tryd.func31 (by kernel_rfl) rfl #[.int .i64 x6_3] rfl (by (try simp only [List.map_toArray, List.map_cons, List.map_nil]); first | done | rfl | (simp only [List.length_drop, List.length_take]; rfl)) ?_; (with_reducible refine (utf_Right.calls x6_3 true _ A24.out).mono ?_); rintro e w' ⟨rfl, ⟨nd, rfl⟩⟩; refine ⟨_, rfl, ?_⟩) | (go_at_call 74; (with_reducible refine (utf_many.calls x6_3 t105 _ A26.out).mono ?_); rintro e w29 ⟨rfl, hb⟩; have n0_ := Aside0.mk (below_step (by repeat (first | (with_reducible first | exact HB.out | apply below_alloc | apply pw_below_drewN | apply below_drew1) | exact HB.out)) hb); clear HB; have HB := n0_; clear n0_; (try clear hb); (try clear hb2); (try clear hk); (try clear hi)))
                                go_ret2
                                exact ⟨by first | rfl | (simp [errW_none, errW_some] <;> rfl) | (simp only [← hji13, ← hji15]; first | rfl | (simp [errW_none, errW_some] <;> rfl)) | (simp [*, errW_none, errW_some] <;> rfl), by repeat (first | (with_reducible first | exact HB.out | apply below_alloc | apply pw_below_drewN | apply below_drew1) | exact HB.out)⟩
                            · replace c25 := Bool.eq_false_iff.mpr c25
                              subst c25
                              have H1 : (some (65533, 1)) = some (r1, r2) := by rw [if_neg (show ¬ (false = true) by decide)] at H; exact H
                              clear H
                              have H := H1
                              clear H1
                              simp only [Option.some.injEq, Prod.mk.injEq] at H
                              obtain ⟨rfl, rfl⟩ := H
                              go_wp2_with (first | ((with_reducible refine gate_callee (f := 31) rfl ?_); refine goesL_ (some 65) rfl rfl Tryd.func31 (by kernel_rfl) rfl #[.int .i64 x6_3] rfl (by (try simp only [List.map_toArray, List.map_cons, List.map_nil]); first | done | rfl | (simp only [List.length_drop, List.length_take]; rfl)) ?_; (with_reducible refine (utf_Right.calls x6_3 false _ A24.out).mono ?_); rintro e w' ⟨rfl, ⟨nd, rfl⟩⟩; refine ⟨_, rfl, ?_⟩))
                              go_ret2
                              exact ⟨by first | rfl | (simp [errW_none, errW_some] <;> rfl) | (simp only [← hji13, ← hji15]; first | rfl | (simp [errW_none, errW_some] <;> rfl)) | (simp [*, errW_none, errW_some] <;> rfl), by repeat (first | (with_reducible first | exact HB.out | apply below_alloc | apply pw_below_drewN | apply below_drew1) | exact HB.out)⟩
                    · rw [if_neg c17] at H
                      exact absurd H (by simp)
                  · rw [if_neg c16] at H
                    exact absurd H (by simp)
                · rw [if_neg c14] at H
                  exact absurd H (by simp)
  · rw [if_neg c2] at H
    exact absurd H (by simp)

end Go.Proofs.YtiihoodnejcjgaaDoor.P
