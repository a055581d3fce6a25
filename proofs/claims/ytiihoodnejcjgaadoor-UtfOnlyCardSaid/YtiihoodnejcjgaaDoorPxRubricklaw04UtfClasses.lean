-- Printed by this session's patched printer.
import Derived.Test.YtiihoodnejcjgaaDoorPx0
import Derived.Test.YtiihoodnejcjgaaDoorPxUtfLetter
import Derived.Test.YtiihoodnejcjgaaDoorPxUtfDigit
import Derived.Test.YtiihoodnejcjgaaDoorPxUtfSmall
import Derived.Test.YtiihoodnejcjgaaDoorPxRubricklaw04knows
import Derived.Test.YtiihoodnejcjgaaDoorPxRubrickref04Letter
import Derived.Test.YtiihoodnejcjgaaDoorPxRubrickref04Small
namespace Go.Proofs.YtiihoodnejcjgaaDoor.P
open Go.RowKit Go.Proofs.YtiihoodnejcjgaaDoorW.PrintWords Go.Proofs.YtiihoodnejcjgaaDoorW.PrintLast Go.Proofs.YtiihoodnejcjgaaDoorW.PrintMore
attribute [local go_sem] max2_int min2_int max_two min_two max_three min_three max_four min_four   -- for this text's walks alone
set_option linter.unusedVariables false
set_option linter.unusedSimpArgs false

/-! ### rubricklaw04_UtfClasses: function 4 -/
def rubricklaw04_UtfClasses.f (k : Nat) (a0 : Int) : Option (Bool) := (utf_Letter.f a0).bind fun t194 => ((rubrickref04_Letter.f a0).bind fun t195 => (if (t194 == t195) = true then ((utf_Digit.f a0).bind fun t196 => (if a0 ≥ 48 then (if (t196 == (decide (a0 ≤ 57))) = true then ((utf_Small.f a0).bind fun t197 => ((rubrickref04_Small.f a0).bind fun t198 => (if t197 = t198 then ((rubricklaw04_knows.f k).bind fun t199 => (some t199)) else (some false)))) else (some false)) else (if (t196 == false) = true then ((utf_Small.f a0).bind fun t200 => ((rubrickref04_Small.f a0).bind fun t201 => (if t200 = t201 then ((rubricklaw04_knows.f k).bind fun t202 => (some t202)) else (some false)))) else (some false)))) else (some false)))
theorem rubricklaw04_UtfClasses.mono : ∀ a0 k, LeO (rubricklaw04_UtfClasses.f k a0) (rubricklaw04_UtfClasses.f (k + 1) a0) := by
  intro a0 k
  unfold rubricklaw04_UtfClasses.f
  repeat' first
      | (with_reducible exact rubricklaw04_knows.mono _)
      | (with_reducible exact LeO.refl _)
      | (with_reducible exact LeO.none _)
      | (with_reducible refine LeO.ite ?_ ?_)
      | (with_reducible refine LeO.bind ?_ (fun _ => ?_))
      | exact rubricklaw04_knows.mono _
      | exact LeO.none _
      | refine LeO.ite ?_ ?_
      | refine LeO.bind ?_ (fun _ => ?_)
set_option maxHeartbeats 8000000 in
set_option maxRecDepth 100000 in
theorem rubricklaw04_UtfClasses.calls (k : Nat) (a0 : Int) (r : Bool) (w : World) (hG : G w) (h : rubricklaw04_UtfClasses.f k a0 = some r) :
    Calls Tryd.prog 4 #[.int .i64 a0] w fun e w' => e = .returned (.bool r) ∧ Below w.heap.size w w' := by
  have HG := Aside0.mk hG
  clear hG
  have HB := Aside0.mk (Below.refl w.heap.size w)
  have H : ((utf_Letter.f a0).bind fun t194 => ((rubrickref04_Letter.f a0).bind fun t195 => (if (t194 == t195) = true then ((utf_Digit.f a0).bind fun t196 => (if a0 ≥ 48 then (if (t196 == (decide (a0 ≤ 57))) = true then ((utf_Small.f a0).bind fun t197 => ((rubrickref04_Small.f a0).bind fun t198 => (if t197 = t198 then ((rubricklaw04_knows.f k).bind fun t199 => (some t199)) else (some false)))) else (some false)) else (if (t196 == false) = true then ((utf_Small.f a0).bind fun t200 => ((rubrickref04_Small.f a0).bind fun t201 => (if t200 = t201 then ((rubricklaw04_knows.f k).bind fun t202 => (some t202)) else (some false)))) else (some false)))) else (some false)))) = some r := h
  clear h
  replace H := Option.bind_eq_some_iff.mp H
  obtain ⟨t194, A20, H⟩ := H
  replace H : ((rubrickref04_Letter.f a0).bind fun t195 => (if (t194 == t195) = true then ((utf_Digit.f a0).bind fun t196 => (if a0 ≥ 48 then (if (t196 == (decide (a0 ≤ 57))) = true then ((utf_Small.f a0).bind fun t197 => ((rubrickref04_Small.f a0).bind fun t198 => (if t197 = t198 then ((rubricklaw04_knows.f k).bind fun t199 => (some t199)) else (some false)))) else (some false)) else (if (t196 == false) = true then ((utf_Small.f a0).bind fun t200 => ((rubrickref04_Small.f a0).bind fun t201 => (if t200 = t201 then ((rubricklaw04_knows.f k).bind fun t202 => (some t202)) else (some false)))) else (some false)))) else (some false))) = some r := H
  have A2 := Aside0.mk A20
  clear A20
  replace H := Option.bind_eq_some_iff.mp H
  obtain ⟨t195, A30, H⟩ := H
  replace H : (if (t194 == t195) = true then ((utf_Digit.f a0).bind fun t196 => (if a0 ≥ 48 then (if (t196 == (decide (a0 ≤ 57))) = true then ((utf_Small.f a0).bind fun t197 => ((rubrickref04_Small.f a0).bind fun t198 => (if t197 = t198 then ((rubricklaw04_knows.f k).bind fun t199 => (some t199)) else (some false)))) else (some false)) else (if (t196 == false) = true then ((utf_Small.f a0).bind fun t200 => ((rubrickref04_Small.f a0).bind fun t201 => (if t200 = t201 then ((rubricklaw04_knows.f k).bind fun t202 => (some t202)) else (some false)))) else (some false)))) else (some false)) = some r := H
  have A3 := Aside0.mk A30
  clear A30
  by_cases c4 : (t194 == t195) = true
  · rw [if_pos c4] at H
    have c4b0 : (t194 == t195) = true := c4
    (try (have c4b1 : decide (t194 = t195) = true := by simpa using c4))
    (try (have c4b2 : (t194 == t195) = true := by simpa using c4))
    clear c4
    replace H := Option.bind_eq_some_iff.mp H
    obtain ⟨t196, A50, H⟩ := H
    replace H : (if a0 ≥ 48 then (if (t196 == (decide (a0 ≤ 57))) = true then ((utf_Small.f a0).bind fun t197 => ((rubrickref04_Small.f a0).bind fun t198 => (if t197 = t198 then ((rubricklaw04_knows.f k).bind fun t199 => (some t199)) else (some false)))) else (some false)) else (if (t196 == false) = true then ((utf_Small.f a0).bind fun t200 => ((rubrickref04_Small.f a0).bind fun t201 => (if t200 = t201 then ((rubricklaw04_knows.f k).bind fun t202 => (some t202)) else (some false)))) else (some false))) = some r := H
    have A5 := Aside0.mk A50
    clear A50
    by_cases c6 : a0 ≥ 48
    · rw [if_pos c6] at H
      have c6b0 : decide (48 ≤ a0) = true := decide_eq_true c6
      clear c6
      by_cases c7 : (t196 == (decide (a0 ≤ 57))) = true
      · rw [if_pos c7] at H
        have c7b0 : (t196 == (decide (a0 ≤ 57))) = true := c7
        (try (have c7b1 : decide (t196 = (decide (a0 ≤ 57))) = true := by simpa using c7))
        (try (have c7b2 : (t196 == (decide (a0 ≤ 57))) = true := by simpa using c7))
        clear c7
        replace H := Option.bind_eq_some_iff.mp H
        obtain ⟨t197, A80, H⟩ := H
        replace H : ((rubrickref04_Small.f a0).bind fun t198 => (if t197 = t198 then ((rubricklaw04_knows.f k).bind fun t199 => (some t199)) else (some false))) = some r := H
        have A8 := Aside0.mk A80
        clear A80
        replace H := Option.bind_eq_some_iff.mp H
        obtain ⟨t198, A90, H⟩ := H
        replace H : (if t197 = t198 then ((rubricklaw04_knows.f k).bind fun t199 => (some t199)) else (some false)) = some r := H
        have A9 := Aside0.mk A90
        clear A90
        by_cases c10 : t197 = t198
        · rw [if_pos c10] at H
          have c10b0 : (t197 == t198) = true := beq_iff_eq.mpr c10
          have c10b1 : (t197 != t198) = false := bne_eq_false_iff_eq.mpr c10
          clear c10
          replace H := Option.bind_eq_some_iff.mp H
          obtain ⟨t199, A110, H⟩ := H
          replace H : (some t199) = some r := H
          have A11 := Aside0.mk A110
          clear A110
          obtain rfl := Option.some.inj H
          go_enter Tryd.func4, Tryd.ntmps4
          go_wp2_with (first | ((with_reducible refine gate_callee (f := 26) rfl ?_); refine goesL_ (some 4) rfl rfl Tryd.func26 (by kernel_rfl) rfl #[.int .i64 a0] rfl (by (try simp only [List.map_toArray, List.map_cons, List.map_nil]); first | done | rfl | (simp only [List.length_drop, List.length_take]; rfl)) ?_; (with_reducible refine (utf_Letter.calls a0 t194 _ ?side1 A2.out).mono ?_); (case side1 => first | exact HG.out | exact G.below HG.out (by repeat (first | (with_reducible first | exact HB.out | apply below_alloc | apply pw_below_drewN | apply below_drew1) | exact HB.out)) | (repeat (first | exact HG.out | apply G.drewN | apply G.drew | apply G.alloc))); rintro e w12 ⟨rfl, hb⟩; refine ⟨_, rfl, ?_⟩; have n0_ := Aside0.mk (below_step (by repeat (first | (with_reducible first | exact HB.out | apply below_alloc | apply pw_below_drewN | apply below_drew1) | exact HB.out)) hb); clear HB; have HB := n0_; clear n0_; (try clear hb); (try clear hb2); (try clear hk); (try clear hi)) | ((with_reducible refine gate_callee (f := 27) rfl ?_); refine goesL_ (some 6) rfl rfl Tryd.func27 (by kernel_rfl) rfl #[.int .i64 a0] rfl (by (try simp only [List.map_toArray, List.map_cons, List.map_nil]); first | done | rfl | (simp only [List.length_drop, List.length_take]; rfl)) ?_; (with_reducible refine (rubrickref04_Letter.calls a0 t195 _ A3.out).mono ?_); rintro e w' ⟨rfl, ⟨nd, rfl⟩⟩; refine ⟨_, rfl, ?_⟩) | (go_at_call 28; (with_reducible refine (utf_Digit.calls a0 t196 _ A5.out).mono ?_); rintro e w' ⟨rfl, ⟨nd, rfl⟩⟩) | (go_at_call 29; (with_reducible refine (utf_Small.calls a0 t197 _ ?side1 A8.out).mono ?_); (case side1 => first | exact HG.out | exact G.below HG.out (by repeat (first | (with_reducible first | exact HB.out | apply below_alloc | apply pw_below_drewN | apply below_drew1) | exact HB.out)) | (repeat (first | exact HG.out | apply G.drewN | apply G.drew | apply G.alloc))); rintro e w13 ⟨rfl, hb⟩; have n0_ := Aside0.mk (below_step (by repeat (first | (with_reducible first | exact HB.out | apply below_alloc | apply pw_below_drewN | apply below_drew1) | exact HB.out)) hb); clear HB; have HB := n0_; clear n0_; (try clear hb); (try clear hb2); (try clear hk); (try clear hi)) | (go_at_call 30; (with_reducible refine (rubrickref04_Small.calls a0 t198 _ A9.out).mono ?_); rintro e w' ⟨rfl, ⟨nd, rfl⟩⟩) | (go_at_call 23; (with_reducible refine (rubricklaw04_knows.calls k  t199 _ ?side1 A11.out).mono ?_); (case side1 => first | exact HG.out | exact G.below HG.out (by repeat (first | (with_reducible first | exact HB.out | apply below_alloc | apply pw_below_drewN | apply below_drew1) | exact HB.out)) | (repeat (first | exact HG.out | apply G.drewN | apply G.drew | apply G.alloc))); rintro e w14 ⟨rfl, hb⟩; have n0_ := Aside0.mk (below_step (by repeat (first | (with_reducible first | exact HB.out | apply below_alloc | apply pw_below_drewN | apply below_drew1) | exact HB.out)) hb); clear HB; have HB := n0_; clear n0_; (try clear hb); (try clear hb2); (try clear hk); (try clear hi)))
          go_ret
          exact ⟨by first | rfl | (simp [errW_none, errW_some] <;> rfl) | (simp [*, errW_none, errW_some] <;> rfl), by repeat (first | (with_reducible first | exact HB.out | apply below_alloc | apply pw_below_drewN | apply below_drew1) | exact HB.out)⟩
        · rw [if_neg c10] at H
          have c10b0 : (t197 == t198) = false := beq_eq_false_iff_ne.mpr c10
          have c10b1 : (t197 != t198) = true := bne_iff_ne.mpr c10
          obtain rfl := Option.some.inj H
          go_enter Tryd.func4, Tryd.ntmps4
          go_wp2_with (first | ((with_reducible refine gate_callee (f := 26) rfl ?_); refine goesL_ (some 4) rfl rfl Tryd.func26 (by kernel_rfl) rfl #[.int .i64 a0] rfl (by (try simp only [List.map_toArray, List.map_cons, List.map_nil]); first | done | rfl | (simp only [List.length_drop, List.length_take]; rfl)) ?_; (with_reducible refine (utf_Letter.calls a0 t194 _ ?side1 A2.out).mono ?_); (case side1 => first | exact HG.out | exact G.below HG.out (by repeat (first | (with_reducible first | exact HB.out | apply below_alloc | apply pw_below_drewN | apply below_drew1) | exact HB.out)) | (repeat (first | exact HG.out | apply G.drewN | apply G.drew | apply G.alloc))); rintro e w15 ⟨rfl, hb⟩; refine ⟨_, rfl, ?_⟩; have n0_ := Aside0.mk (below_step (by repeat (first | (with_reducible first | exact HB.out | apply below_alloc | apply pw_below_drewN | apply below_drew1) | exact HB.out)) hb); clear HB; have HB := n0_; clear n0_; (try clear hb); (try clear hb2); (try clear hk); (try clear hi)) | ((with_reducible refine gate_callee (f := 27) rfl ?_); refine goesL_ (some 6) rfl rfl Tryd.func27 (by kernel_rfl) rfl #[.int .i64 a0] rfl (by (try simp only [List.map_toArray, List.map_cons, List.map_nil]); first | done | rfl | (simp only [List.length_drop, List.length_take]; rfl)) ?_; (with_reducible refine (rubrickref04_Letter.calls a0 t195 _ A3.out).mono ?_); rintro e w' ⟨rfl, ⟨nd, rfl⟩⟩; refine ⟨_, rfl, ?_⟩) | (go_at_call 28; (with_reducible refine (utf_Digit.calls a0 t196 _ A5.out).mono ?_); rintro e w' ⟨rfl, ⟨nd, rfl⟩⟩) | (go_at_call 29; (with_reducible refine (utf_Small.calls a0 t197 _ ?side1 A8.out).mono ?_); (case side1 => first | exact HG.out | exact G.below HG.out (by repeat (first | (with_reducible first | exact HB.out | apply below_alloc | apply pw_below_drewN | apply below_drew1) | exact HB.out)) | (repeat (first | exact HG.out | apply G.drewN | apply G.drew | apply G.alloc))); rintro e w16 ⟨rfl, hb⟩; have n0_ := Aside0.mk (below_step (by repeat (first | (with_reducible first | exact HB.out | apply below_alloc | apply pw_below_drewN | apply below_drew1) | exact HB.out)) hb); clear HB; have HB := n0_; clear n0_; (try clear hb); (try clear hb2); (try clear hk); (try clear hi)) | (go_at_call 30; (with_reducible refine (rubrickref04_Small.calls a0 t198 _ A9.out).mono ?_); rintro e w' ⟨rfl, ⟨nd, rfl⟩⟩))
          go_ret
          exact ⟨by first | rfl | (simp [errW_none, errW_some] <;> rfl) | (simp [*, errW_none, errW_some] <;> rfl), by repeat (first | (with_reducible first | exact HB.out | apply below_alloc | apply pw_below_drewN | apply below_drew1) | exact HB.out)⟩
      · rw [if_neg c7] at H
        have c7b0 : (t196 == (decide (a0 ≤ 57))) = false := by simpa using c7
        (try (have c7b1 : decide (t196 = (decide (a0 ≤ 57))) = false := by simpa using c7))
        (try (have c7b2 : (t196 == (decide (a0 ≤ 57))) = false := by simpa using c7))
        (try (have c7b3 : ¬ (t196 = (decide (a0 ≤ 57))) := by simpa using c7))
        clear c7
        obtain rfl := Option.some.inj H
        go_enter Tryd.func4, Tryd.ntmps4
        go_wp2_with (first | ((with_reducible refine gate_callee (f := 26) rfl ?_); refine goesL_ (some 4) rfl rfl Tryd.func26 (by kernel_rfl) rfl #[.int .i64 a0] rfl (by (try simp only [List.map_toArray, List.map_cons, List.map_nil]); first | done | rfl | (simp only [List.length_drop, List.length_take]; rfl)) ?_; (with_reducible refine (utf_Letter.calls a0 t194 _ ?side1 A2.out).mono ?_); (case side1 => first | exact HG.out | exact G.below HG.out (by repeat (first | (with_reducible first | exact HB.out | apply below_alloc | apply pw_below_drewN | apply below_drew1) | exact HB.out)) | (repeat (first | exact HG.out | apply G.drewN | apply G.drew | apply G.alloc))); rintro e w17 ⟨rfl, hb⟩; refine ⟨_, rfl, ?_⟩; have n0_ := Aside0.mk (below_step (by repeat (first | (with_reducible first | exact HB.out | apply below_alloc | apply pw_below_drewN | apply below_drew1) | exact HB.out)) hb); clear HB; have HB := n0_; clear n0_; (try clear hb); (try clear hb2); (try clear hk); (try clear hi)) | ((with_reducible refine gate_callee (f := 27) rfl ?_); refine goesL_ (some 6) rfl rfl Tryd.func27 (by kernel_rfl) rfl #[.int .i64 a0] rfl (by (try simp only [List.map_toArray, List.map_cons, List.map_nil]); first | done | rfl | (simp only [List.length_drop, List.length_take]; rfl)) ?_; (with_reducible refine (rubrickref04_Letter.calls a0 t195 _ A3.out).mono ?_); rintro e w' ⟨rfl, ⟨nd, rfl⟩⟩; refine ⟨_, rfl, ?_⟩) | (go_at_call 28; (with_reducible refine (utf_Digit.calls a0 t196 _ A5.out).mono ?_); rintro e w' ⟨rfl, ⟨nd, rfl⟩⟩))
        go_ret
        exact ⟨by first | rfl | (simp [errW_none, errW_some] <;> rfl) | (simp [*, errW_none, errW_some] <;> rfl), by repeat (first | (with_reducible first | exact HB.out | apply below_alloc | apply pw_below_drewN | apply below_drew1) | exact HB.out)⟩
    · rw [if_neg c6] at H
      have c6b0 : decide (48 ≤ a0) = false := decide_eq_false c6
      clear c6
      by_cases c18 : (t196 == false) = true
      · rw [if_pos c18] at H
        have c18b0 : (t196 == false) = true := c18
        (try (have c18b1 : decide (t196 = false) = true := by simpa using c18))
        (try (have c18b2 : (t196 == false) = true := by simpa using c18))
        clear c18
        replace H := Option.bind_eq_some_iff.mp H
        obtain ⟨t200, A190, H⟩ := H
        replace H : ((rubrickref04_Small.f a0).bind fun t201 => (if t200 = t201 then ((rubricklaw04_knows.f k).bind fun t202 => (some t202)) else (some false))) = some r := H
        have A19 := Aside0.mk A190
        clear A190
        replace H := Option.bind_eq_some_iff.mp H
        obtain ⟨t201, A200, H⟩ := H
        replace H : (if t200 = t201 then ((rubricklaw04_knows.f k).bind fun t202 => (some t202)) else (some false)) = some r := H
        have A20 := Aside0.mk A200
        clear A200
        by_cases c21 : t200 = t201
        · rw [if_pos c21] at H
          have c21b0 : (t200 == t201) = true := beq_iff_eq.mpr c21
          have c21b1 : (t200 != t201) = false := bne_eq_false_iff_eq.mpr c21
          clear c21
          replace H := Option.bind_eq_some_iff.mp H
          obtain ⟨t202, A220, H⟩ := H
          replace H : (some t202) = some r := H
          have A22 := Aside0.mk A220
          clear A220
          obtain rfl := Option.some.inj H
          go_enter Tryd.func4, Tryd.ntmps4
          go_wp2_with (first | ((with_reducible refine gate_callee (f := 26) rfl ?_); refine goesL_ (some 4) rfl rfl Tryd.func26 (by kernel_rfl) rfl #[.int .i64 a0] rfl (by (try simp only [List.map_toArray, List.map_cons, List.map_nil]); first | done | rfl | (simp only [List.length_drop, List.length_take]; rfl)) ?_; (with_reducible refine (utf_Letter.calls a0 t194 _ ?side1 A2.out).mono ?_); (case side1 => first | exact HG.out | exact G.below HG.out (by repeat (first | (with_reducible first | exact HB.out | apply below_alloc | apply pw_below_drewN | apply below_drew1) | exact HB.out)) | (repeat (first | exact HG.out | apply G.drewN | apply G.drew | apply G.alloc))); rintro e w23 ⟨rfl, hb⟩; refine ⟨_, rfl, ?_⟩; have n0_ := Aside0.mk (below_step (by repeat (first | (with_reducible first | exact HB.out | apply below_alloc | apply pw_below_drewN | apply below_drew1) | exact HB.out)) hb); clear HB; have HB := n0_; clear n0_; (try clear hb); (try clear hb2); (try clear hk); (try clear hi)) | ((with_reducible refine gate_callee (f := 27) rfl ?_); refine goesL_ (some 6) rfl rfl Tryd.func27 (by kernel_rfl) rfl #[.int .i64 a0] rfl (by (try simp only [List.map_toArray, List.map_cons, List.map_nil]); first | done | rfl | (simp only [List.length_drop, List.length_take]; rfl)) ?_; (with_reducible refine (rubrickref04_Letter.calls a0 t195 _ A3.out).mono ?_); rintro e w' ⟨rfl, ⟨nd, rfl⟩⟩; refine ⟨_, rfl, ?_⟩) | (go_at_call 28; (with_reducible refine (utf_Digit.calls a0 t196 _ A5.out).mono ?_); rintro e w' ⟨rfl, ⟨nd, rfl⟩⟩) | (go_at_call 29; (with_reducible refine (utf_Small.calls a0 t200 _ ?side1 A19.out).mono ?_); (case side1 => first | exact HG.out | exact G.below HG.out (by repeat (first | (with_reducible first | exact HB.out | apply below_alloc | apply pw_below_drewN | apply below_drew1) | exact HB.out)) | (repeat (first | exact HG.out | apply G.drewN | apply G.drew | apply G.alloc))); rintro e w24 ⟨rfl, hb⟩; have n0_ := Aside0.mk (below_step (by repeat (first | (with_reducible first | exact HB.out | apply below_alloc | apply pw_below_drewN | apply below_drew1) | exact HB.out)) hb); clear HB; have HB := n0_; clear n0_; (try clear hb); (try clear hb2); (try clear hk); (try clear hi)) | (go_at_call 30; (with_reducible refine (rubrickref04_Small.calls a0 t201 _ A20.out).mono ?_); rintro e w' ⟨rfl, ⟨nd, rfl⟩⟩) | (go_at_call 23; (with_reducible refine (rubricklaw04_knows.calls k  t202 _ ?side1 A22.out).mono ?_); (case side1 => first | exact HG.out | exact G.below HG.out (by repeat (first | (with_reducible first | exact HB.out | apply below_alloc | apply pw_below_drewN | apply below_drew1) | exact HB.out)) | (repeat (first | exact HG.out | apply G.drewN | apply G.drew | apply G.alloc))); rintro e w25 ⟨rfl, hb⟩; have n0_ := Aside0.mk (below_step (by repeat (first | (with_reducible first | exact HB.out | apply below_alloc | apply pw_below_drewN | apply below_drew1) | exact HB.out)) hb); clear HB; have HB := n0_; clear n0_; (try clear hb); (try clear hb2); (try clear hk); (try clear hi)))
          go_ret
          exact ⟨by first | rfl | (simp [errW_none, errW_some] <;> rfl) | (simp [*, errW_none, errW_some] <;> rfl), by repeat (first | (with_reducible first | exact HB.out | apply below_alloc | apply pw_below_drewN | apply below_drew1) | exact HB.out)⟩
        · rw [if_neg c21] at H
          have c21b0 : (t200 == t201) = false := beq_eq_false_iff_ne.mpr c21
          have c21b1 : (t200 != t201) = true := bne_iff_ne.mpr c21
          obtain rfl := Option.some.inj H
          go_enter Tryd.func4, Tryd.ntmps4
          go_wp2_with (first | ((with_reducible refine gate_callee (f := 26) rfl ?_); refine goesL_ (some 4) rfl rfl Tryd.func26 (by kernel_rfl) rfl #[.int .i64 a0] rfl (by (try simp only [List.map_toArray, List.map_cons, List.map_nil]); first | done | rfl | (simp only [List.length_drop, List.length_take]; rfl)) ?_; (with_reducible refine (utf_Letter.calls a0 t194 _ ?side1 A2.out).mono ?_); (case side1 => first | exact HG.out | exact G.below HG.out (by repeat (first | (with_reducible first | exact HB.out | apply below_alloc | apply pw_below_drewN | apply below_drew1) | exact HB.out)) | (repeat (first | exact HG.out | apply G.drewN | apply G.drew | apply G.alloc))); rintro e w26 ⟨rfl, hb⟩; refine ⟨_, rfl, ?_⟩; have n0_ := Aside0.mk (below_step (by repeat (first | (with_reducible first | exact HB.out | apply below_alloc | apply pw_below_drewN | apply below_drew1) | exact HB.out)) hb); clear HB; have HB := n0_; clear n0_; (try clear hb); (try clear hb2); (try clear hk); (try clear hi)) | ((with_reducible refine gate_callee (f := 27) rfl ?_); refine goesL_ (some 6) rfl rfl Tryd.func27 (by kernel_rfl) rfl #[.int .i64 a0] rfl (by (try simp only [List.map_toArray, List.map_cons, List.map_nil]); first | done | rfl | (simp only [List.length_drop, List.length_take]; rfl)) ?_; (with_reducible refine (rubrickref04_Letter.calls a0 t195 _ A3.out).mono ?_); rintro e w' ⟨rfl, ⟨nd, rfl⟩⟩; refine ⟨_, rfl, ?_⟩) | (go_at_call 28; (with_reducible refine (utf_Digit.calls a0 t196 _ A5.out).mono ?_); rintro e w' ⟨rfl, ⟨nd, rfl⟩⟩) | (go_at_call 29; (with_reducible refine (utf_Small.calls a0 t200 _ ?side1 A19.out).mono ?_); (case side1 => first | exact HG.out | exact G.below HG.out (by repeat (first | (with_reducible first | exact HB.out | apply below_alloc | apply pw_below_drewN | apply below_drew1) | exact HB.out)) | (repeat (first | exact HG.out | apply G.drewN | apply G.drew | apply G.alloc))); rintro e w27 ⟨rfl, hb⟩; have n0_ := Aside0.mk (below_step (by repeat (first | (with_reducible first | exact HB.out | apply below_alloc | apply pw_below_drewN | apply below_drew1) | exact HB.out)) hb); clear HB; have HB := n0_; clear n0_; (try clear hb); (try clear hb2); (try clear hk); (try clear hi)) | (go_at_call 30; (with_reducible refine (rubrickref04_Small.calls a0 t201 _ A20.out).mono ?_); rintro e w' ⟨rfl, ⟨nd, rfl⟩⟩))
          go_ret
          exact ⟨by first | rfl | (simp [errW_none, errW_some] <;> rfl) | (simp [*, errW_none, errW_some] <;> rfl), by repeat (first | (with_reducible first | exact HB.out | apply below_alloc | apply pw_below_drewN | apply below_drew1) | exact HB.out)⟩
      · rw [if_neg c18] at H
        have c18b0 : (t196 == false) = false := by simpa using c18
        (try (have c18b1 : decide (t196 = false) = false := by simpa using c18))
        (try (have c18b2 : (t196 == false) = false := by simpa using c18))
        (try (have c18b3 : ¬ (t196 = false) := by simpa using c18))
        clear c18
        obtain rfl := Option.some.inj H
        go_enter Tryd.func4, Tryd.ntmps4
        go_wp2_with (first | ((with_reducible refine gate_callee (f := 26) rfl ?_); refine goesL_ (some 4) rfl rfl Tryd.func26 (by kernel_rfl) rfl #[.int .i64 a0] rfl (by (try simp only [List.map_toArray, List.map_cons, List.map_nil]); first | done | rfl | (simp only [List.length_drop, List.length_take]; rfl)) ?_; (with_reducible refine (utf_Letter.calls a0 t194 _ ?side1 A2.out).mono ?_); (case side1 => first | exact HG.out | exact G.below HG.out (by repeat (first | (with_reducible first | exact HB.out | apply below_alloc | apply pw_below_drewN | apply below_drew1) | exact HB.out)) | (repeat (first | exact HG.out | apply G.drewN | apply G.drew | apply G.alloc))); rintro e w28 ⟨rfl, hb⟩; refine ⟨_, rfl, ?_⟩; have n0_ := Aside0.mk (below_step (by repeat (first | (with_reducible first | exact HB.out | apply below_alloc | apply pw_below_drewN | apply below_drew1) | exact HB.out)) hb); clear HB; have HB := n0_; clear n0_; (try clear hb); (try clear hb2); (try clear hk); (try clear hi)) | ((with_reducible refine gate_callee (f := 27) rfl ?_); refine goesL_ (some 6) rfl rfl Tryd.func27 (by kernel_rfl) rfl #[.int .i64 a0] rfl (by (try simp only [List.map_toArray, List.map_cons, List.map_nil]); first | done | rfl | (simp only [List.length_drop, List.length_take]; rfl)) ?_; (with_reducible refine (rubrickref04_Letter.calls a0 t195 _ A3.out).mono ?_); rintro e w' ⟨rfl, ⟨nd, rfl⟩⟩; refine ⟨_, rfl, ?_⟩) | (go_at_call 28; (with_reducible refine (utf_Digit.calls a0 t196 _ A5.out).mono ?_); rintro e w' ⟨rfl, ⟨nd, rfl⟩⟩))
        go_ret
        exact ⟨by first | rfl | (simp [errW_none, errW_some] <;> rfl) | (simp [*, errW_none, errW_some] <;> rfl), by repeat (first | (with_reducible first | exact HB.out | apply below_alloc | apply pw_below_drewN | apply below_drew1) | exact HB.out)⟩
  · rw [if_neg c4] at H
    have c4b0 : (t194 == t195) = false := by simpa using c4
    (try (have c4b1 : decide (t194 = t195) = false := by simpa using c4))
    (try (have c4b2 : (t194 == t195) = false := by simpa using c4))
    (try (have c4b3 : ¬ (t194 = t195) := by simpa using c4))
    clear c4
    obtain rfl := Option.some.inj H
    go_enter Tryd.func4, Tryd.ntmps4
    go_wp2_with (first | ((with_reducible refine gate_callee (f := 26) rfl ?_); refine goesL_ (some 4) rfl rfl Tryd.func26 (by kernel_rfl) rfl #[.int .i64 a0] rfl (by (try simp only [List.map_toArray, List.map_cons, List.map_nil]); first | done | rfl | (simp only [List.length_drop, List.length_take]; rfl)) ?_; (with_reducible refine (utf_Letter.calls a0 t194 _ ?side1 A2.out).mono ?_); (case side1 => first | exact HG.out | exact G.below HG.out (by repeat (first | (with_reducible first | exact HB.out | apply below_alloc | apply pw_below_drewN | apply below_drew1) | exact HB.out)) | (repeat (first | exact HG.out | apply G.drewN | apply G.drew | apply G.alloc))); rintro e w29 ⟨rfl, hb⟩; refine ⟨_, rfl, ?_⟩; have n0_ := Aside0.mk (below_step (by repeat (first | (with_reducible first | exact HB.out | apply below_alloc | apply pw_below_drewN | apply below_drew1) | exact HB.out)) hb); clear HB; have HB := n0_; clear n0_; (try clear hb); (try clear hb2); (try clear hk); (try clear hi)) | ((with_reducible refine gate_callee (f := 27) rfl ?_); refine goesL_ (some 6) rfl rfl Tryd.func27 (by kernel_rfl) rfl #[.int .i64 a0] rfl (by (try simp only [List.map_toArray, List.map_cons, List.map_nil]); first | done | rfl | (simp only [List.length_drop, List.length_take]; rfl)) ?_; (with_reducible refine (rubrickref04_Letter.calls a0 t195 _ A3.out).mono ?_); rintro e w' ⟨rfl, ⟨nd, rfl⟩⟩; refine ⟨_, rfl, ?_⟩))
    go_ret
    exact ⟨by first | rfl | (simp [errW_none, errW_some] <;> rfl) | (simp [*, errW_none, errW_some] <;> rfl), by repeat (first | (with_reducible first | exact HB.out | apply below_alloc | apply pw_below_drewN | apply below_drew1) | exact HB.out)⟩

end Go.Proofs.YtiihoodnejcjgaaDoor.P
