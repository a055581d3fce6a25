-- Printed by this session's patched printer.
import Derived.Test.YtiihoodnejcjgaaDoorPx0
import Derived.Test.YtiihoodnejcjgaaDoorPxRubrickref04in
namespace Go.Proofs.YtiihoodnejcjgaaDoor.P
open Go.RowKit Go.Proofs.YtiihoodnejcjgaaDoorW.PrintWords Go.Proofs.YtiihoodnejcjgaaDoorW.PrintLast Go.Proofs.YtiihoodnejcjgaaDoorW.PrintMore
attribute [local go_sem] max2_int min2_int max_two min_two max_three min_three max_four min_four   -- for this text's walks alone
set_option linter.unusedVariables false
set_option linter.unusedSimpArgs false

/-! ### rubrickref04_Small: function 30 -/
def rubrickref04_Small.f (a0 : Int) : Option (Int) := (rubrickref04_in.f a0 1024 1039).bind fun t187 => (if t187 = true then (some (wrap64 (a0 + 80))) else ((rubrickref04_in.f a0 65 90).bind fun t188 => (if t188 = true then (some (wrap64 (a0 + 32))) else ((rubrickref04_in.f a0 192 214).bind fun t189 => (if t189 = true then (some (wrap64 (a0 + 32))) else ((rubrickref04_in.f a0 216 222).bind fun t190 => (if t190 = true then (some (wrap64 (a0 + 32))) else ((rubrickref04_in.f a0 913 929).bind fun t191 => (if t191 = true then (some (wrap64 (a0 + 32))) else ((rubrickref04_in.f a0 931 937).bind fun t192 => (if t192 = true then (some (wrap64 (a0 + 32))) else ((rubrickref04_in.f a0 1040 1071).bind fun t193 => (if t193 = true then (some (wrap64 (a0 + 32))) else (some a0))))))))))))))
set_option maxHeartbeats 8000000 in
set_option maxRecDepth 100000 in
theorem rubrickref04_Small.calls (a0 : Int) (r : Int) (w : World) (h : rubrickref04_Small.f a0 = some r) :
    Calls Tryd.prog 30 #[.int .i64 a0] w fun e w' => e = .returned (.int .i64 r) ∧ Drawn0 w w' := by
  have H : ((rubrickref04_in.f a0 1024 1039).bind fun t187 => (if t187 = true then (some (wrap64 (a0 + 80))) else ((rubrickref04_in.f a0 65 90).bind fun t188 => (if t188 = true then (some (wrap64 (a0 + 32))) else ((rubrickref04_in.f a0 192 214).bind fun t189 => (if t189 = true then (some (wrap64 (a0 + 32))) else ((rubrickref04_in.f a0 216 222).bind fun t190 => (if t190 = true then (some (wrap64 (a0 + 32))) else ((rubrickref04_in.f a0 913 929).bind fun t191 => (if t191 = true then (some (wrap64 (a0 + 32))) else ((rubrickref04_in.f a0 931 937).bind fun t192 => (if t192 = true then (some (wrap64 (a0 + 32))) else ((rubrickref04_in.f a0 1040 1071).bind fun t193 => (if t193 = true then (some (wrap64 (a0 + 32))) else (some a0))))))))))))))) = some r := h
  clear h
  replace H := Option.bind_eq_some_iff.mp H
  obtain ⟨t187, A20, H⟩ := H
  replace H : (if t187 = true then (some (wrap64 (a0 + 80))) else ((rubrickref04_in.f a0 65 90).bind fun t188 => (if t188 = true then (some (wrap64 (a0 + 32))) else ((rubrickref04_in.f a0 192 214).bind fun t189 => (if t189 = true then (some (wrap64 (a0 + 32))) else ((rubrickref04_in.f a0 216 222).bind fun t190 => (if t190 = true then (some (wrap64 (a0 + 32))) else ((rubrickref04_in.f a0 913 929).bind fun t191 => (if t191 = true then (some (wrap64 (a0 + 32))) else ((rubrickref04_in.f a0 931 937).bind fun t192 => (if t192 = true then (some (wrap64 (a0 + 32))) else ((rubrickref04_in.f a0 1040 1071).bind fun t193 => (if t193 = true then (some (wrap64 (a0 + 32))) else (some a0)))))))))))))) = some r := H
  have A2 := Aside0.mk A20
  clear A20
  by_cases c3 : t187 = true
  · subst c3
    have H1 : (some (wrap64 (a0 + 80))) = some r := by rw [if_pos rfl] at H; exact H
    clear H
    have H := H1
    clear H1
    obtain rfl := Option.some.inj H
    go_enter Tryd.func30, Tryd.ntmps30
    go_wp2_with (first | ((with_reducible refine gate_callee (f := 73) rfl ?_); refine goesL_ (some 4) rfl rfl Tryd.func73 (by kernel_rfl) rfl #[.int .i64 a0, .int .i64 1024, .int .i64 1039] rfl (by (try simp only [List.map_toArray, List.map_cons, List.map_nil]); first | done | rfl | (simp only [List.length_drop, List.length_take]; rfl)) ?_; (with_reducible refine (rubrickref04_in.calls a0 1024 1039 true _ A2.out).mono ?_); rintro e w' ⟨rfl, ⟨nd, rfl⟩⟩; refine ⟨_, rfl, ?_⟩))
    go_ret
    exact ⟨by first | rfl | (simp; done) | (simp [*]; done), by repeat (first | exact Drawn0.refl _ | apply Drawn0.step)⟩
  · replace c3 := Bool.eq_false_iff.mpr c3
    subst c3
    have H1 : ((rubrickref04_in.f a0 65 90).bind fun t188 => (if t188 = true then (some (wrap64 (a0 + 32))) else ((rubrickref04_in.f a0 192 214).bind fun t189 => (if t189 = true then (some (wrap64 (a0 + 32))) else ((rubrickref04_in.f a0 216 222).bind fun t190 => (if t190 = true then (some (wrap64 (a0 + 32))) else ((rubrickref04_in.f a0 913 929).bind fun t191 => (if t191 = true then (some (wrap64 (a0 + 32))) else ((rubrickref04_in.f a0 931 937).bind fun t192 => (if t192 = true then (some (wrap64 (a0 + 32))) else ((rubrickref04_in.f a0 1040 1071).bind fun t193 => (if t193 = true then (some (wrap64 (a0 + 32))) else (some a0))))))))))))) = some r := by rw [if_neg (show ¬ (false = true) by decide)] at H; exact H
    clear H
    have H := H1
    clear H1
    replace H := Option.bind_eq_some_iff.mp H
    obtain ⟨t188, A40, H⟩ := H
    replace H : (if t188 = true then (some (wrap64 (a0 + 32))) else ((rubrickref04_in.f a0 192 214).bind fun t189 => (if t189 = true then (some (wrap64 (a0 + 32))) else ((rubrickref04_in.f a0 216 222).bind fun t190 => (if t190 = true then (some (wrap64 (a0 + 32))) else ((rubrickref04_in.f a0 913 929).bind fun t191 => (if t191 = true then (some (wrap64 (a0 + 32))) else ((rubrickref04_in.f a0 931 937).bind fun t192 => (if t192 = true then (some (wrap64 (a0 + 32))) else ((rubrickref04_in.f a0 1040 1071).bind fun t193 => (if t193 = true then (some (wrap64 (a0 + 32))) else (some a0)))))))))))) = some r := H
    have A4 := Aside0.mk A40
    clear A40
    by_cases c5 : t188 = true
    · subst c5
      have H1 : (some (wrap64 (a0 + 32))) = some r := by rw [if_pos rfl] at H; exact H
      clear H
      have H := H1
      clear H1
      obtain rfl := Option.some.inj H
      go_enter Tryd.func30, Tryd.ntmps30
      go_wp2_with (first | ((with_reducible refine gate_callee (f := 73) rfl ?_); refine goesL_ (some 4) rfl rfl Tryd.func73 (by kernel_rfl) rfl #[.int .i64 a0, .int .i64 1024, .int .i64 1039] rfl (by (try simp only [List.map_toArray, List.map_cons, List.map_nil]); first | done | rfl | (simp only [List.length_drop, List.length_take]; rfl)) ?_; (with_reducible refine (rubrickref04_in.calls a0 1024 1039 false _ A2.out).mono ?_); rintro e w' ⟨rfl, ⟨nd, rfl⟩⟩; refine ⟨_, rfl, ?_⟩) | ((with_reducible refine gate_callee (f := 73) rfl ?_); refine goesL_ (some 8) rfl rfl Tryd.func73 (by kernel_rfl) rfl #[.int .i64 a0, .int .i64 65, .int .i64 90] rfl (by (try simp only [List.map_toArray, List.map_cons, List.map_nil]); first | done | rfl | (simp only [List.length_drop, List.length_take]; rfl)) ?_; (with_reducible refine (rubrickref04_in.calls a0 65 90 true _ A4.out).mono ?_); rintro e w' ⟨rfl, ⟨nd, rfl⟩⟩; refine ⟨_, rfl, ?_⟩))
      go_ret
      exact ⟨by first | rfl | (simp; done) | (simp [*]; done), by repeat (first | exact Drawn0.refl _ | apply Drawn0.step)⟩
    · replace c5 := Bool.eq_false_iff.mpr c5
      subst c5
      have H1 : ((rubrickref04_in.f a0 192 214).bind fun t189 => (if t189 = true then (some (wrap64 (a0 + 32))) else ((rubrickref04_in.f a0 216 222).bind fun t190 => (if t190 = true then (some (wrap64 (a0 + 32))) else ((rubrickref04_in.f a0 913 929).bind fun t191 => (if t191 = true then (some (wrap64 (a0 + 32))) else ((rubrickref04_in.f a0 931 937).bind fun t192 => (if t192 = true then (some (wrap64 (a0 + 32))) else ((rubrickref04_in.f a0 1040 1071).bind fun t193 => (if t193 = true then (some (wrap64 (a0 + 32))) else (some a0))))))))))) = some r := by rw [if_neg (show ¬ (false = true) by decide)] at H; exact H
      clear H
      have H := H1
      clear H1
      replace H := Option.bind_eq_some_iff.mp H
      obtain ⟨t189, A60, H⟩ := H
      replace H : (if t189 = true then (some (wrap64 (a0 + 32))) else ((rubrickref04_in.f a0 216 222).bind fun t190 => (if t190 = true then (some (wrap64 (a0 + 32))) else ((rubrickref04_in.f a0 913 929).bind fun t191 => (if t191 = true then (some (wrap64 (a0 + 32))) else ((rubrickref04_in.f a0 931 937).bind fun t192 => (if t192 = true then (some (wrap64 (a0 + 32))) else ((rubrickref04_in.f a0 1040 1071).bind fun t193 => (if t193 = true then (some (wrap64 (a0 + 32))) else (some a0)))))))))) = some r := H
      have A6 := Aside0.mk A60
      clear A60
      by_cases c7 : t189 = true
      · subst c7
        have H1 : (some (wrap64 (a0 + 32))) = some r := by rw [if_pos rfl] at H; exact H
        clear H
        have H := H1
        clear H1
        obtain rfl := Option.some.inj H
        go_enter Tryd.func30, Tryd.ntmps30
        go_wp2_with (first | ((with_reducible refine gate_callee (f := 73) rfl ?_); refine goesL_ (some 4) rfl rfl Tryd.func73 (by kernel_rfl) rfl #[.int .i64 a0, .int .i64 1024, .int .i64 1039] rfl (by (try simp only [List.map_toArray, List.map_cons, List.map_nil]); first | done | rfl | (simp only [List.length_drop, List.length_take]; rfl)) ?_; (with_reducible refine (rubrickref04_in.calls a0 1024 1039 false _ A2.out).mono ?_); rintro e w' ⟨rfl, ⟨nd, rfl⟩⟩; refine ⟨_, rfl, ?_⟩) | ((with_reducible refine gate_callee (f := 73) rfl ?_); refine goesL_ (some 8) rfl rfl Tryd.func73 (by kernel_rfl) rfl #[.int .i64 a0, .int .i64 65, .int .i64 90] rfl (by (try simp only [List.map_toArray, List.map_cons, List.map_nil]); first | done | rfl | (simp only [List.length_drop, List.length_take]; rfl)) ?_; (with_reducible refine (rubrickref04_in.calls a0 65 90 false _ A4.out).mono ?_); rintro e w' ⟨rfl, ⟨nd, rfl⟩⟩; refine ⟨_, rfl, ?_⟩) | (go_at_call 73; (with_reducible refine (rubrickref04_in.calls a0 192 214 true _ A6.out).mono ?_); rintro e w' ⟨rfl, ⟨nd, rfl⟩⟩))
        go_ret
        exact ⟨by first | rfl | (simp; done) | (simp [*]; done), by repeat (first | exact Drawn0.refl _ | apply Drawn0.step)⟩
      · replace c7 := Bool.eq_false_iff.mpr c7
        subst c7
        have H1 : ((rubrickref04_in.f a0 216 222).bind fun t190 => (if t190 = true then (some (wrap64 (a0 + 32))) else ((rubrickref04_in.f a0 913 929).bind fun t191 => (if t191 = true then (some (wrap64 (a0 + 32))) else ((rubrickref04_in.f a0 931 937).bind fun t192 => (if t192 = true then (some (wrap64 (a0 + 32))) else ((rubrickref04_in.f a0 1040 1071).bind fun t193 => (if t193 = true then (some (wrap64 (a0 + 32))) else (some a0))))))))) = some r := by rw [if_neg (show ¬ (false = true) by decide)] at H; exact H
        clear H
        have H := H1
        clear H1
        replace H := Option.bind_eq_some_iff.mp H
        obtain ⟨t190, A80, H⟩ := H
        replace H : (if t190 = true then (some (wrap64 (a0 + 32))) else ((rubrickref04_in.f a0 913 929).bind fun t191 => (if t191 = true then (some (wrap64 (a0 + 32))) else ((rubrickref04_in.f a0 931 937).bind fun t192 => (if t192 = true then (some (wrap64 (a0 + 32))) else ((rubrickref04_in.f a0 1040 1071).bind fun t193 => (if t193 = true then (some (wrap64 (a0 + 32))) else (some a0)))))))) = some r := H
        have A8 := Aside0.mk A80
        clear A80
        by_cases c9 : t190 = true
        · subst c9
          have H1 : (some (wrap64 (a0 + 32))) = some r := by rw [if_pos rfl] at H; exact H
          clear H
          have H := H1
          clear H1
          obtain rfl := Option.some.inj H
          go_enter Tryd.func30, Tryd.ntmps30
          go_wp2_with (first | ((with_reducible refine gate_callee (f := 73) rfl ?_); refine goesL_ (some 4) rfl rfl Tryd.func73 (by kernel_rfl) rfl #[.int .i64 a0, .int .i64 1024, .int .i64 1039] rfl (by (try simp only [List.map_toArray, List.map_cons, List.map_nil]); first | done | rfl | (simp only [List.length_drop, List.length_take]; rfl)) ?_; (with_reducible refine (rubrickref04_in.calls a0 1024 1039 false _ A2.out).mono ?_); rintro e w' ⟨rfl, ⟨nd, rfl⟩⟩; refine ⟨_, rfl, ?_⟩) | ((with_reducible refine gate_callee (f := 73) rfl ?_); refine goesL_ (some 8) rfl rfl Tryd.func73 (by kernel_rfl) rfl #[.int .i64 a0, .int .i64 65, .int .i64 90] rfl (by (try simp only [List.map_toArray, List.map_cons, List.map_nil]); first | done | rfl | (simp only [List.length_drop, List.length_take]; rfl)) ?_; (with_reducible refine (rubrickref04_in.calls a0 65 90 false _ A4.out).mono ?_); rintro e w' ⟨rfl, ⟨nd, rfl⟩⟩; refine ⟨_, rfl, ?_⟩) | (go_at_call 73; (with_reducible refine (rubrickref04_in.calls a0 192 214 false _ A6.out).mono ?_); rintro e w' ⟨rfl, ⟨nd, rfl⟩⟩) | (go_at_call 73; (with_reducible refine (rubrickref04_in.calls a0 216 222 true _ A8.out).mono ?_); rintro e w' ⟨rfl, ⟨nd, rfl⟩⟩))
          go_ret
          exact ⟨by first | rfl | (simp; done) | (simp [*]; done), by repeat (first | exact Drawn0.refl _ | apply Drawn0.step)⟩
        · replace c9 := Bool.eq_false_iff.mpr c9
          subst c9
          have H1 : ((rubrickref04_in.f a0 913 929).bind fun t191 => (if t191 = true then (some (wrap64 (a0 + 32))) else ((rubrickref04_in.f a0 931 937).bind fun t192 => (if t192 = true then (some (wrap64 (a0 + 32))) else ((rubrickref04_in.f a0 1040 1071).bind fun t193 => (if t193 = true then (some (wrap64 (a0 + 32))) else (some a0))))))) = some r := by rw [if_neg (show ¬ (false = true) by decide)] at H; exact H
          clear H
          have H := H1
          clear H1
          replace H := Option.bind_eq_some_iff.mp H
          obtain ⟨t191, A100, H⟩ := H
          replace H : (if t191 = true then (some (wrap64 (a0 + 32))) else ((rubrickref04_in.f a0 931 937).bind fun t192 => (if t192 = true then (some (wrap64 (a0 + 32))) else ((rubrickref04_in.f a0 1040 1071).bind fun t193 => (if t193 = true then (some (wrap64 (a0 + 32))) else (some a0)))))) = some r := H
          have A10 := Aside0.mk A100
          clear A100
          by_cases c11 : t191 = true
          · subst c11
            have H1 : (some (wrap64 (a0 + 32))) = some r := by rw [if_pos rfl] at H; exact H
            clear H
            have H := H1
            clear H1
            obtain rfl := Option.some.inj H
            go_enter Tryd.func30, Tryd.ntmps30
            go_wp2_with (first | ((with_reducible refine gate_callee (f := 73) rfl ?_); refine goesL_ (some 4) rfl rfl Tryd.func73 (by kernel_rfl) rfl #[.int .i64 a0, .int .i64 1024, .int .i64 1039] rfl (by (try simp only [List.map_toArray, List.map_cons, List.map_nil]); first | done | rfl | (simp only [List.length_drop, List.length_take]; rfl)) ?_; (with_reducible refine (rubrickref04_in.calls a0 1024 1039 false _ A2.out).mono ?_); rintro e w' ⟨rfl, ⟨nd, rfl⟩⟩; refine ⟨_, rfl, ?_⟩) | ((with_reducible refine gate_callee (f := 73) rfl ?_); refine goesL_ (some 8) rfl rfl Tryd.func73 (by kernel_rfl) rfl #[.int .i64 a0, .int .i64 65, .int .i64 90] rfl (by (try simp only [List.map_toArray, List.map_cons, List.map_nil]); first | done | rfl | (simp only [List.length_drop, List.length_take]; rfl)) ?_; (with_reducible refine (rubrickref04_in.calls a0 65 90 false _ A4.out).mono ?_); rintro e w' ⟨rfl, ⟨nd, rfl⟩⟩; refine ⟨_, rfl, ?_⟩) | (go_at_call 73; (with_reducible refine (rubrickref04_in.calls a0 192 214 false _ A6.out).mono ?_); rintro e w' ⟨rfl, ⟨nd, rfl⟩⟩) | (go_at_call 73; (with_reducible refine (rubrickref04_in.calls a0 216 222 false _ A8.out).mono ?_); rintro e w' ⟨rfl, ⟨nd, rfl⟩⟩) | (go_at_call 73; (with_reducible refine (rubrickref04_in.calls a0 913 929 true _ A10.out).mono ?_); rintro e w' ⟨rfl, ⟨nd, rfl⟩⟩))
            go_ret
            exact ⟨by first | rfl | (simp; done) | (simp [*]; done), by repeat (first | exact Drawn0.refl _ | apply Drawn0.step)⟩
          · replace c11 := Bool.eq_false_iff.mpr c11
            subst c11
            have H1 : ((rubrickref04_in.f a0 931 937).bind fun t192 => (if t192 = true then (some (wrap64 (a0 + 32))) else ((rubrickref04_in.f a0 1040 1071).bind fun t193 => (if t193 = true then (some (wrap64 (a0 + 32))) else (some a0))))) = some r := by rw [if_neg (show ¬ (false = true) by decide)] at H; exact H
            clear H
            have H := H1
            clear H1
            replace H := Option.bind_eq_some_iff.mp H
            obtain ⟨t192, A120, H⟩ := H
            replace H : (if t192 = true then (some (wrap64 (a0 + 32))) else ((rubrickref04_in.f a0 1040 1071).bind fun t193 => (if t193 = true then (some (wrap64 (a0 + 32))) else (some a0)))) = some r := H
            have A12 := Aside0.mk A120
            clear A120
            by_cases c13 : t192 = true
            · subst c13
              have H1 : (some (wrap64 (a0 + 32))) = some r := by rw [if_pos rfl] at H; exact H
              clear H
              have H := H1
              clear H1
              obtain rfl := Option.some.inj H
              go_enter Tryd.func30, Tryd.ntmps30
              go_wp2_with (first | ((with_reducible refine gate_callee (f := 73) rfl ?_); refine goesL_ (some 4) rfl rfl Tryd.func73 (by kernel_rfl) rfl #[.int .i64 a0, .int .i64 1024, .int .i64 1039] rfl (by (try simp only [List.map_toArray, List.map_cons, List.map_nil]); first | done | rfl | (simp only [List.length_drop, List.length_take]; rfl)) ?_; (with_reducible refine (rubrickref04_in.calls a0 1024 1039 false _ A2.out).mono ?_); rintro e w' ⟨rfl, ⟨nd, rfl⟩⟩; refine ⟨_, rfl, ?_⟩) | ((with_reducible refine gate_callee (f := 73) rfl ?_); refine goesL_ (some 8) rfl rfl Tryd.func73 (by kernel_rfl) rfl #[.int .i64 a0, .int .i64 65, .int .i64 90] rfl (by (try simp only [List.map_toArray, List.map_cons, List.map_nil]); first | done | rfl | (simp only [List.length_drop, List.length_take]; rfl)) ?_; (with_reducible refine (rubrickref04_in.calls a0 65 90 false _ A4.out).mono ?_); rintro e w' ⟨rfl, ⟨nd, rfl⟩⟩; refine ⟨_, rfl, ?_⟩) | (go_at_call 73; (with_reducible refine (rubrickref04_in.calls a0 192 214 false _ A6.out).mono ?_); rintro e w' ⟨rfl, ⟨nd, rfl⟩⟩) | (go_at_call 73; (with_reducible refine (rubrickref04_in.calls a0 216 222 false _ A8.out).mono ?_); rintro e w' ⟨rfl, ⟨nd, rfl⟩⟩) | (go_at_call 73; (with_reducible refine (rubrickref04_in.calls a0 913 929 false _ A10.out).mono ?_); rintro e w' ⟨rfl, ⟨nd, rfl⟩⟩) | (go_at_call 73; (with_reducible refine (rubrickref04_in.calls a0 931 937 true _ A12.out).mono ?_); rintro e w' ⟨rfl, ⟨nd, rfl⟩⟩))
              go_ret
              exact ⟨by first | rfl | (simp; done) | (simp [*]; done), by repeat (first | exact Drawn0.refl _ | apply Drawn0.step)⟩
            · replace c13 := Bool.eq_false_iff.mpr c13
              subst c13
              have H1 : ((rubrickref04_in.f a0 1040 1071).bind fun t193 => (if t193 = true then (some (wrap64 (a0 + 32))) else (some a0))) = some r := by rw [if_neg (show ¬ (false = true) by decide)] at H; exact H
              clear H
              have H := H1
              clear H1
              replace H := Option.bind_eq_some_iff.mp H
              obtain ⟨t193, A140, H⟩ := H
              replace H : (if t193 = true then (some (wrap64 (a0 + 32))) else (some a0)) = some r := H
              have A14 := Aside0.mk A140
              clear A140
              by_cases c15 : t193 = true
              · subst c15
                have H1 : (some (wrap64 (a0 + 32))) = some r := by rw [if_pos rfl] at H; exact H
                clear H
                have H := H1
                clear H1
                obtain rfl := Option.some.inj H
                go_enter Tryd.func30, Tryd.ntmps30
                go_wp2_with (first | ((with_reducible refine gate_callee (f := 73) rfl ?_); refine goesL_ (some 4) rfl rfl Tryd.func73 (by kernel_rfl) rfl #[.int .i64 a0, .int .i64 1024, .int .i64 1039] rfl (by (try simp only [List.map_toArray, List.map_cons, List.map_nil]); first | done | rfl | (simp only [List.length_drop, List.length_take]; rfl)) ?_; (with_reducible refine (rubrickref04_in.calls a0 1024 1039 false _ A2.out).mono ?_); rintro e w' ⟨rfl, ⟨nd, rfl⟩⟩; refine ⟨_, rfl, ?_⟩) | ((with_reducible refine gate_callee (f := 73) rfl ?_); refine goesL_ (some 8) rfl rfl Tryd.func73 (by kernel_rfl) rfl #[.int .i64 a0, .int .i64 65, .int .i64 90] rfl (by (try simp only [List.map_toArray, List.map_cons, List.map_nil]); first | done | rfl | (simp only [List.length_drop, List.length_take]; rfl)) ?_; (with_reducible refine (rubrickref04_in.calls a0 65 90 false _ A4.out).mono ?_); rintro e w' ⟨rfl, ⟨nd, rfl⟩⟩; refine ⟨_, rfl, ?_⟩) | (go_at_call 73; (with_reducible refine (rubrickref04_in.calls a0 192 214 false _ A6.out).mono ?_); rintro e w' ⟨rfl, ⟨nd, rfl⟩⟩) | (go_at_call 73; (with_reducible refine (rubrickref04_in.calls a0 216 222 false _ A8.out).mono ?_); rintro e w' ⟨rfl, ⟨nd, rfl⟩⟩) | (go_at_call 73; (with_reducible refine (rubrickref04_in.calls a0 913 929 false _ A10.out).mono ?_); rintro e w' ⟨rfl, ⟨nd, rfl⟩⟩) | (go_at_call 73; (with_reducible refine (rubrickref04_in.calls a0 931 937 false _ A12.out).mono ?_); rintro e w' ⟨rfl, ⟨nd, rfl⟩⟩) | (go_at_call 73; (with_reducible refine (rubrickref04_in.calls a0 1040 1071 true _ A14.out).mono ?_); rintro e w' ⟨rfl, ⟨nd, rfl⟩⟩))
                go_ret
                exact ⟨by first | rfl | (simp; done) | (simp [*]; done), by repeat (first | exact Drawn0.refl _ | apply Drawn0.step)⟩
              · replace c15 := Bool.eq_false_iff.mpr c15
                subst c15
                have H1 : (some a0) = some r := by rw [if_neg (show ¬ (false = true) by decide)] at H; exact H
                clear H
                have H := H1
                clear H1
                obtain rfl := Option.some.inj H
                go_enter Tryd.func30, Tryd.ntmps30
                go_wp2_with (first | ((with_reducible refine gate_callee (f := 73) rfl ?_); refine goesL_ (some 4) rfl rfl Tryd.func73 (by kernel_rfl) rfl #[.int .i64 a0, .int .i64 1024, .int .i64 1039] rfl (by (try simp only [List.map_toArray, List.map_cons, List.map_nil]); first | done | rfl | (simp only [List.length_drop, List.length_take]; rfl)) ?_; (with_reducible refine (rubrickref04_in.calls a0 1024 1039 false _ A2.out).mono ?_); rintro e w' ⟨rfl, ⟨nd, rfl⟩⟩; refine ⟨_, rfl, ?_⟩) | ((with_reducible refine gate_callee (f := 73) rfl ?_); refine goesL_ (some 8) rfl rfl Tryd.func73 (by kernel_rfl) rfl #[.int .i64 a0, .int .i64 65, .int .i64 90] rfl (by (try simp only [List.map_toArray, List.map_cons, List.map_nil]); first | done | rfl | (simp only [List.length_drop, List.length_take]; rfl)) ?_; (with_reducible refine (rubrickref04_in.calls a0 65 90 false _ A4.out).mono ?_); rintro e w' ⟨rfl, ⟨nd, rfl⟩⟩; refine ⟨_, rfl, ?_⟩) | (go_at_call 73; (with_reducible refine (rubrickref04_in.calls a0 192 214 false _ A6.out).mono ?_); rintro e w' ⟨rfl, ⟨nd, rfl⟩⟩) | (go_at_call 73; (with_reducible refine (rubrickref04_in.calls a0 216 222 false _ A8.out).mono ?_); rintro e w' ⟨rfl, ⟨nd, rfl⟩⟩) | (go_at_call 73; (with_reducible refine (rubrickref04_in.calls a0 913 929 false _ A10.out).mono ?_); rintro e w' ⟨rfl, ⟨nd, rfl⟩⟩) | (go_at_call 73; (with_reducible refine (rubrickref04_in.calls a0 931 937 false _ A12.out).mono ?_); rintro e w' ⟨rfl, ⟨nd, rfl⟩⟩) | (go_at_call 73; (with_reducible refine (rubrickref04_in.calls a0 1040 1071 false _ A14.out).mono ?_); rintro e w' ⟨rfl, ⟨nd, rfl⟩⟩))
                go_ret
                exact ⟨by first | rfl | (simp; done) | (simp [*]; done), by repeat (first | exact Drawn0.refl _ | apply Drawn0.step)⟩

end Go.Proofs.YtiihoodnejcjgaaDoor.P
