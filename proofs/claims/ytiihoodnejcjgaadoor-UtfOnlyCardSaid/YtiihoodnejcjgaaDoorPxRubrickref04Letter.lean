-- Printed by this session's patched printer.
import Derived.Test.YtiihoodnejcjgaaDoorPx0
import Derived.Test.YtiihoodnejcjgaaDoorPxRubrickref04in
namespace Go.Proofs.YtiihoodnejcjgaaDoor.P
open Go.RowKit Go.Proofs.YtiihoodnejcjgaaDoorW.PrintWords Go.Proofs.YtiihoodnejcjgaaDoorW.PrintLast Go.Proofs.YtiihoodnejcjgaaDoorW.PrintMore
attribute [local go_sem] max2_int min2_int max_two min_two max_three min_three max_four min_four   -- for this text's walks alone
set_option linter.unusedVariables false
set_option linter.unusedSimpArgs false

/-! ### rubrickref04_Letter: function 27 -/
def rubrickref04_Letter.f (a0 : Int) : Option (Bool) := (rubrickref04_in.f a0 65 90).bind fun t178 => (if t178 = true then (some true) else ((rubrickref04_in.f a0 97 122).bind fun t179 => (if t179 = true then (some true) else ((rubrickref04_in.f a0 192 214).bind fun t180 => (if t180 = true then (some true) else ((rubrickref04_in.f a0 216 246).bind fun t181 => (if t181 = true then (some true) else ((rubrickref04_in.f a0 248 255).bind fun t182 => (if t182 = true then (some true) else ((rubrickref04_in.f a0 913 929).bind fun t183 => (if t183 = true then (some true) else ((rubrickref04_in.f a0 931 937).bind fun t184 => (if t184 = true then (some true) else ((rubrickref04_in.f a0 945 969).bind fun t185 => (if t185 = true then (some true) else ((rubrickref04_in.f a0 1024 1119).bind fun t186 => (some t186)))))))))))))))))
set_option maxHeartbeats 8000000 in
set_option maxRecDepth 100000 in
theorem rubrickref04_Letter.calls (a0 : Int) (r : Bool) (w : World) (h : rubrickref04_Letter.f a0 = some r) :
    Calls Tryd.prog 27 #[.int .i64 a0] w fun e w' => e = .returned (.bool r) ∧ Drawn0 w w' := by
  have H : ((rubrickref04_in.f a0 65 90).bind fun t178 => (if t178 = true then (some true) else ((rubrickref04_in.f a0 97 122).bind fun t179 => (if t179 = true then (some true) else ((rubrickref04_in.f a0 192 214).bind fun t180 => (if t180 = true then (some true) else ((rubrickref04_in.f a0 216 246).bind fun t181 => (if t181 = true then (some true) else ((rubrickref04_in.f a0 248 255).bind fun t182 => (if t182 = true then (some true) else ((rubrickref04_in.f a0 913 929).bind fun t183 => (if t183 = true then (some true) else ((rubrickref04_in.f a0 931 937).bind fun t184 => (if t184 = true then (some true) else ((rubrickref04_in.f a0 945 969).bind fun t185 => (if t185 = true then (some true) else ((rubrickref04_in.f a0 1024 1119).bind fun t186 => (some t186)))))))))))))))))) = some r := h
  clear h
  replace H := Option.bind_eq_some_iff.mp H
  obtain ⟨t178, A20, H⟩ := H
  replace H : (if t178 = true then (some true) else ((rubrickref04_in.f a0 97 122).bind fun t179 => (if t179 = true then (some true) else ((rubrickref04_in.f a0 192 214).bind fun t180 => (if t180 = true then (some true) else ((rubrickref04_in.f a0 216 246).bind fun t181 => (if t181 = true then (some true) else ((rubrickref04_in.f a0 248 255).bind fun t182 => (if t182 = true then (some true) else ((rubrickref04_in.f a0 913 929).bind fun t183 => (if t183 = true then (some true) else ((rubrickref04_in.f a0 931 937).bind fun t184 => (if t184 = true then (some true) else ((rubrickref04_in.f a0 945 969).bind fun t185 => (if t185 = true then (some true) else ((rubrickref04_in.f a0 1024 1119).bind fun t186 => (some t186))))))))))))))))) = some r := H
  have A2 := Aside0.mk A20
  clear A20
  by_cases c3 : t178 = true
  · subst c3
    have H1 : (some true) = some r := by rw [if_pos rfl] at H; exact H
    clear H
    have H := H1
    clear H1
    obtain rfl := Option.some.inj H
    go_enter Tryd.func27, Tryd.ntmps27
    go_wp2_with (first | ((with_reducible refine gate_callee (f := 73) rfl ?_); refine goesL_ (some 4) rfl rfl Tryd.func73 (by kernel_rfl) rfl #[.int .i64 a0, .int .i64 65, .int .i64 90] rfl (by (try simp only [List.map_toArray, List.map_cons, List.map_nil]); first | done | rfl | (simp only [List.length_drop, List.length_take]; rfl)) ?_; (with_reducible refine (rubrickref04_in.calls a0 65 90 true _ A2.out).mono ?_); rintro e w' ⟨rfl, ⟨nd, rfl⟩⟩; refine ⟨_, rfl, ?_⟩))
    go_ret
    exact ⟨by first | rfl | (simp; done) | (simp [*]; done), by repeat (first | exact Drawn0.refl _ | apply Drawn0.step)⟩
  · replace c3 := Bool.eq_false_iff.mpr c3
    subst c3
    have H1 : ((rubrickref04_in.f a0 97 122).bind fun t179 => (if t179 = true then (some true) else ((rubrickref04_in.f a0 192 214).bind fun t180 => (if t180 = true then (some true) else ((rubrickref04_in.f a0 216 246).bind fun t181 => (if t181 = true then (some true) else ((rubrickref04_in.f a0 248 255).bind fun t182 => (if t182 = true then (some true) else ((rubrickref04_in.f a0 913 929).bind fun t183 => (if t183 = true then (some true) else ((rubrickref04_in.f a0 931 937).bind fun t184 => (if t184 = true then (some true) else ((rubrickref04_in.f a0 945 969).bind fun t185 => (if t185 = true then (some true) else ((rubrickref04_in.f a0 1024 1119).bind fun t186 => (some t186)))))))))))))))) = some r := by rw [if_neg (show ¬ (false = true) by decide)] at H; exact H
    clear H
    have H := H1
    clear H1
    replace H := Option.bind_eq_some_iff.mp H
    obtain ⟨t179, A40, H⟩ := H
    replace H : (if t179 = true then (some true) else ((rubrickref04_in.f a0 192 214).bind fun t180 => (if t180 = true then (some true) else ((rubrickref04_in.f a0 216 246).bind fun t181 => (if t181 = true then (some true) else ((rubrickref04_in.f a0 248 255).bind fun t182 => (if t182 = true then (some true) else ((rubrickref04_in.f a0 913 929).bind fun t183 => (if t183 = true then (some true) else ((rubrickref04_in.f a0 931 937).bind fun t184 => (if t184 = true then (some true) else ((rubrickref04_in.f a0 945 969).bind fun t185 => (if t185 = true then (some true) else ((rubrickref04_in.f a0 1024 1119).bind fun t186 => (some t186))))))))))))))) = some r := H
    have A4 := Aside0.mk A40
    clear A40
    by_cases c5 : t179 = true
    · subst c5
      have H1 : (some true) = some r := by rw [if_pos rfl] at H; exact H
      clear H
      have H := H1
      clear H1
      obtain rfl := Option.some.inj H
      go_enter Tryd.func27, Tryd.ntmps27
      go_wp2_with (first | ((with_reducible refine gate_callee (f := 73) rfl ?_); refine goesL_ (some 4) rfl rfl Tryd.func73 (by kernel_rfl) rfl #[.int .i64 a0, .int .i64 65, .int .i64 90] rfl (by (try simp only [List.map_toArray, List.map_cons, List.map_nil]); first | done | rfl | (simp only [List.length_drop, List.length_take]; rfl)) ?_; (with_reducible refine (rubrickref04_in.calls a0 65 90 false _ A2.out).mono ?_); rintro e w' ⟨rfl, ⟨nd, rfl⟩⟩; refine ⟨_, rfl, ?_⟩) | (go_at_call 73; (with_reducible refine (rubrickref04_in.calls a0 97 122 true _ A4.out).mono ?_); rintro e w' ⟨rfl, ⟨nd, rfl⟩⟩))
      go_ret
      exact ⟨by first | rfl | (simp; done) | (simp [*]; done), by repeat (first | exact Drawn0.refl _ | apply Drawn0.step)⟩
    · replace c5 := Bool.eq_false_iff.mpr c5
      subst c5
      have H1 : ((rubrickref04_in.f a0 192 214).bind fun t180 => (if t180 = true then (some true) else ((rubrickref04_in.f a0 216 246).bind fun t181 => (if t181 = true then (some true) else ((rubrickref04_in.f a0 248 255).bind fun t182 => (if t182 = true then (some true) else ((rubrickref04_in.f a0 913 929).bind fun t183 => (if t183 = true then (some true) else ((rubrickref04_in.f a0 931 937).bind fun t184 => (if t184 = true then (some true) else ((rubrickref04_in.f a0 945 969).bind fun t185 => (if t185 = true then (some true) else ((rubrickref04_in.f a0 1024 1119).bind fun t186 => (some t186)))))))))))))) = some r := by rw [if_neg (show ¬ (false = true) by decide)] at H; exact H
      clear H
      have H := H1
      clear H1
      replace H := Option.bind_eq_some_iff.mp H
      obtain ⟨t180, A60, H⟩ := H
      replace H : (if t180 = true then (some true) else ((rubrickref04_in.f a0 216 246).bind fun t181 => (if t181 = true then (some true) else ((rubrickref04_in.f a0 248 255).bind fun t182 => (if t182 = true then (some true) else ((rubrickref04_in.f a0 913 929).bind fun t183 => (if t183 = true then (some true) else ((rubrickref04_in.f a0 931 937).bind fun t184 => (if t184 = true then (some true) else ((rubrickref04_in.f a0 945 969).bind fun t185 => (if t185 = true then (some true) else ((rubrickref04_in.f a0 1024 1119).bind fun t186 => (some t186))))))))))))) = some r := H
      have A6 := Aside0.mk A60
      clear A60
      by_cases c7 : t180 = true
      · subst c7
        have H1 : (some true) = some r := by rw [if_pos rfl] at H; exact H
        clear H
        have H := H1
        clear H1
        obtain rfl := Option.some.inj H
        go_enter Tryd.func27, Tryd.ntmps27
        go_wp2_with (first | ((with_reducible refine gate_callee (f := 73) rfl ?_); refine goesL_ (some 4) rfl rfl Tryd.func73 (by kernel_rfl) rfl #[.int .i64 a0, .int .i64 65, .int .i64 90] rfl (by (try simp only [List.map_toArray, List.map_cons, List.map_nil]); first | done | rfl | (simp only [List.length_drop, List.length_take]; rfl)) ?_; (with_reducible refine (rubrickref04_in.calls a0 65 90 false _ A2.out).mono ?_); rintro e w' ⟨rfl, ⟨nd, rfl⟩⟩; refine ⟨_, rfl, ?_⟩) | (go_at_call 73; (with_reducible refine (rubrickref04_in.calls a0 97 122 false _ A4.out).mono ?_); rintro e w' ⟨rfl, ⟨nd, rfl⟩⟩) | (go_at_call 73; (with_reducible refine (rubrickref04_in.calls a0 192 214 true _ A6.out).mono ?_); rintro e w' ⟨rfl, ⟨nd, rfl⟩⟩))
        go_ret
        exact ⟨by first | rfl | (simp; done) | (simp [*]; done), by repeat (first | exact Drawn0.refl _ | apply Drawn0.step)⟩
      · replace c7 := Bool.eq_false_iff.mpr c7
        subst c7
        have H1 : ((rubrickref04_in.f a0 216 246).bind fun t181 => (if t181 = true then (some true) else ((rubrickref04_in.f a0 248 255).bind fun t182 => (if t182 = true then (some true) else ((rubrickref04_in.f a0 913 929).bind fun t183 => (if t183 = true then (some true) else ((rubrickref04_in.f a0 931 937).bind fun t184 => (if t184 = true then (some true) else ((rubrickref04_in.f a0 945 969).bind fun t185 => (if t185 = true then (some true) else ((rubrickref04_in.f a0 1024 1119).bind fun t186 => (some t186)))))))))))) = some r := by rw [if_neg (show ¬ (false = true) by decide)] at H; exact H
        clear H
        have H := H1
        clear H1
        replace H := Option.bind_eq_some_iff.mp H
        obtain ⟨t181, A80, H⟩ := H
        replace H : (if t181 = true then (some true) else ((rubrickref04_in.f a0 248 255).bind fun t182 => (if t182 = true then (some true) else ((rubrickref04_in.f a0 913 929).bind fun t183 => (if t183 = true then (some true) else ((rubrickref04_in.f a0 931 937).bind fun t184 => (if t184 = true then (some true) else ((rubrickref04_in.f a0 945 969).bind fun t185 => (if t185 = true then (some true) else ((rubrickref04_in.f a0 1024 1119).bind fun t186 => (some t186))))))))))) = some r := H
        have A8 := Aside0.mk A80
        clear A80
        by_cases c9 : t181 = true
        · subst c9
          have H1 : (some true) = some r := by rw [if_pos rfl] at H; exact H
          clear H
          have H := H1
          clear H1
          obtain rfl := Option.some.inj H
          go_enter Tryd.func27, Tryd.ntmps27
          go_wp2_with (first | ((with_reducible refine gate_callee (f := 73) rfl ?_); refine goesL_ (some 4) rfl rfl Tryd.func73 (by kernel_rfl) rfl #[.int .i64 a0, .int .i64 65, .int .i64 90] rfl (by (try simp only [List.map_toArray, List.map_cons, List.map_nil]); first | done | rfl | (simp only [List.length_drop, List.length_take]; rfl)) ?_; (with_reducible refine (rubrickref04_in.calls a0 65 90 false _ A2.out).mono ?_); rintro e w' ⟨rfl, ⟨nd, rfl⟩⟩; refine ⟨_, rfl, ?_⟩) | (go_at_call 73; (with_reducible refine (rubrickref04_in.calls a0 97 122 false _ A4.out).mono ?_); rintro e w' ⟨rfl, ⟨nd, rfl⟩⟩) | (go_at_call 73; (with_reducible refine (rubrickref04_in.calls a0 192 214 false _ A6.out).mono ?_); rintro e w' ⟨rfl, ⟨nd, rfl⟩⟩) | (go_at_call 73; (with_reducible refine (rubrickref04_in.calls a0 216 246 true _ A8.out).mono ?_); rintro e w' ⟨rfl, ⟨nd, rfl⟩⟩))
          go_ret
          exact ⟨by first | rfl | (simp; done) | (simp [*]; done), by repeat (first | exact Drawn0.refl _ | apply Drawn0.step)⟩
        · replace c9 := Bool.eq_false_iff.mpr c9
          subst c9
          have H1 : ((rubrickref04_in.f a0 248 255).bind fun t182 => (if t182 = true then (some true) else ((rubrickref04_in.f a0 913 929).bind fun t183 => (if t183 = true then (some true) else ((rubrickref04_in.f a0 931 937).bind fun t184 => (if t184 = true then (some true) else ((rubrickref04_in.f a0 945 969).bind fun t185 => (if t185 = true then (some true) else ((rubrickref04_in.f a0 1024 1119).bind fun t186 => (some t186)))))))))) = some r := by rw [if_neg (show ¬ (false = true) by decide)] at H; exact H
          clear H
          have H := H1
          clear H1
          replace H := Option.bind_eq_some_iff.mp H
          obtain ⟨t182, A100, H⟩ := H
          replace H : (if t182 = true then (some true) else ((rubrickref04_in.f a0 913 929).bind fun t183 => (if t183 = true then (some true) else ((rubrickref04_in.f a0 931 937).bind fun t184 => (if t184 = true then (some true) else ((rubrickref04_in.f a0 945 969).bind fun t185 => (if t185 = true then (some true) else ((rubrickref04_in.f a0 1024 1119).bind fun t186 => (some t186))))))))) = some r := H
          have A10 := Aside0.mk A100
          clear A100
          by_cases c11 : t182 = true
          · subst c11
            have H1 : (some true) = some r := by rw [if_pos rfl] at H; exact H
            clear H
            have H := H1
            clear H1
            obtain rfl := Option.some.inj H
            go_enter Tryd.func27, Tryd.ntmps27
            go_wp2_with (first | ((with_reducible refine gate_callee (f := 73) rfl ?_); refine goesL_ (some 4) rfl rfl Tryd.func73 (by kernel_rfl) rfl #[.int .i64 a0, .int .i64 65, .int .i64 90] rfl (by (try simp only [List.map_toArray, List.map_cons, List.map_nil]); first | done | rfl | (simp only [List.length_drop, List.length_take]; rfl)) ?_; (with_reducible refine (rubrickref04_in.calls a0 65 90 false _ A2.out).mono ?_); rintro e w' ⟨rfl, ⟨nd, rfl⟩⟩; refine ⟨_, rfl, ?_⟩) | (go_at_call 73; (with_reducible refine (rubrickref04_in.calls a0 97 122 false _ A4.out).mono ?_); rintro e w' ⟨rfl, ⟨nd, rfl⟩⟩) | (go_at_call 73; (with_reducible refine (rubrickref04_in.calls a0 192 214 false _ A6.out).mono ?_); rintro e w' ⟨rfl, ⟨nd, rfl⟩⟩) | (go_at_call 73; (with_reducible refine (rubrickref04_in.calls a0 216 246 false _ A8.out).mono ?_); rintro e w' ⟨rfl, ⟨nd, rfl⟩⟩) | (go_at_call 73; (with_reducible refine (rubrickref04_in.calls a0 248 255 true _ A10.out).mono ?_); rintro e w' ⟨rfl, ⟨nd, rfl⟩⟩))
            go_ret
            exact ⟨by first | rfl | (simp; done) | (simp [*]; done), by repeat (first | exact Drawn0.refl _ | apply Drawn0.step)⟩
          · replace c11 := Bool.eq_false_iff.mpr c11
            subst c11
            have H1 : ((rubrickref04_in.f a0 913 929).bind fun t183 => (if t183 = true then (some true) else ((rubrickref04_in.f a0 931 937).bind fun t184 => (if t184 = true then (some true) else ((rubrickref04_in.f a0 945 969).bind fun t185 => (if t185 = true then (some true) else ((rubrickref04_in.f a0 1024 1119).bind fun t186 => (some t186)))))))) = some r := by rw [if_neg (show ¬ (false = true) by decide)] at H; exact H
            clear H
            have H := H1
            clear H1
            replace H := Option.bind_eq_some_iff.mp H
            obtain ⟨t183, A120, H⟩ := H
            replace H : (if t183 = true then (some true) else ((rubrickref04_in.f a0 931 937).bind fun t184 => (if t184 = true then (some true) else ((rubrickref04_in.f a0 945 969).bind fun t185 => (if t185 = true then (some true) else ((rubrickref04_in.f a0 1024 1119).bind fun t186 => (some t186))))))) = some r := H
            have A12 := Aside0.mk A120
            clear A120
            by_cases c13 : t183 = true
            · subst c13
              have H1 : (some true) = some r := by rw [if_pos rfl] at H; exact H
              clear H
              have H := H1
              clear H1
              obtain rfl := Option.some.inj H
              go_enter Tryd.func27, Tryd.ntmps27
              go_wp2_with (first | ((with_reducible refine gate_callee (f := 73) rfl ?_); refine goesL_ (some 4) rfl rfl Tryd.func73 (by kernel_rfl) rfl #[.int .i64 a0, .int .i64 65, .int .i64 90] rfl (by (try simp only [List.map_toArray, List.map_cons, List.map_nil]); first | done | rfl | (simp only [List.length_drop, List.length_take]; rfl)) ?_; (with_reducible refine (rubrickref04_in.calls a0 65 90 false _ A2.out).mono ?_); rintro e w' ⟨rfl, ⟨nd, rfl⟩⟩; refine ⟨_, rfl, ?_⟩) | (go_at_call 73; (with_reducible refine (rubrickref04_in.calls a0 97 122 false _ A4.out).mono ?_); rintro e w' ⟨rfl, ⟨nd, rfl⟩⟩) | (go_at_call 73; (with_reducible refine (rubrickref04_in.calls a0 192 214 false _ A6.out).mono ?_); rintro e w' ⟨rfl, ⟨nd, rfl⟩⟩) | (go_at_call 73; (with_reducible refine (rubrickref04_in.calls a0 216 246 false _ A8.out).mono ?_); rintro e w' ⟨rfl, ⟨nd, rfl⟩⟩) | (go_at_call 73; (with_reducible refine (rubrickref04_in.calls a0 248 255 false _ A10.out).mono ?_); rintro e w' ⟨rfl, ⟨nd, rfl⟩⟩) | (go_at_call 73; (with_reducible refine (rubrickref04_in.calls a0 913 929 true _ A12.out).mono ?_); rintro e w' ⟨rfl, ⟨nd, rfl⟩⟩))
              go_ret
              exact ⟨by first | rfl | (simp; done) | (simp [*]; done), by repeat (first | exact Drawn0.refl _ | apply Drawn0.step)⟩
            · replace c13 := Bool.eq_false_iff.mpr c13
              subst c13
              have H1 : ((rubrickref04_in.f a0 931 937).bind fun t184 => (if t184 = true then (some true) else ((rubrickref04_in.f a0 945 969).bind fun t185 => (if t185 = true then (some true) else ((rubrickref04_in.f a0 1024 1119).bind fun t186 => (some t186)))))) = some r := by rw [if_neg (show ¬ (false = true) by decide)] at H; exact H
              clear H
              have H := H1
              clear H1
              replace H := Option.bind_eq_some_iff.mp H
              obtain ⟨t184, A140, H⟩ := H
              replace H : (if t184 = true then (some true) else ((rubrickref04_in.f a0 945 969).bind fun t185 => (if t185 = true then (some true) else ((rubrickref04_in.f a0 1024 1119).bind fun t186 => (some t186))))) = some r := H
              have A14 := Aside0.mk A140
              clear A140
              by_cases c15 : t184 = true
              · subst c15
                have H1 : (some true) = some r := by rw [if_pos rfl] at H; exact H
                clear H
                have H := H1
                clear H1
                obtain rfl := Option.some.inj H
                go_enter Tryd.func27, Tryd.ntmps27
                go_wp2_with (first | ((with_reducible refine gate_callee (f := 73) rfl ?_); refine goesL_ (some 4) rfl rfl Tryd.func73 (by kernel_rfl) rfl #[.int .i64 a0, .int .i64 65, .int .i64 90] rfl (by (try simp only [List.map_toArray, List.map_cons, List.map_nil]); first | done | rfl | (simp only [List.length_drop, List.length_take]; rfl)) ?_; (with_reducible refine (rubrickref04_in.calls a0 65 90 false _ A2.out).mono ?_); rintro e w' ⟨rfl, ⟨nd, rfl⟩⟩; refine ⟨_, rfl, ?_⟩) | (go_at_call 73; (with_reducible refine (rubrickref04_in.calls a0 97 122 false _ A4.out).mono ?_); rintro e w' ⟨rfl, ⟨nd, rfl⟩⟩) | (go_at_call 73; (with_reducible refine (rubrickref04_in.calls a0 192 214 false _ A6.out).mono ?_); rintro e w' ⟨rfl, ⟨nd, rfl⟩⟩) | (go_at_call 73; (with_reducible refine (rubrickref04_in.calls a0 216 246 false _ A8.out).mono ?_); rintro e w' ⟨rfl, ⟨nd, rfl⟩⟩) | (go_at_call 73; (with_reducible refine (rubrickref04_in.calls a0 248 255 false _ A10.out).mono ?_); rintro e w' ⟨rfl, ⟨nd, rfl⟩⟩) | (go_at_call 73; (with_reducible refine (rubrickref04_in.calls a0 913 929 false _ A12.out).mono ?_); rintro e w' ⟨rfl, ⟨nd, rfl⟩⟩) | (go_at_call 73; (with_reducible refine (rubrickref04_in.calls a0 931 937 true _ A14.out).mono ?_); rintro e w' ⟨rfl, ⟨nd, rfl⟩⟩))
                go_ret
                exact ⟨by first | rfl | (simp; done) | (simp [*]; done), by repeat (first | exact Drawn0.refl _ | apply Drawn0.step)⟩
              · replace c15 := Bool.eq_false_iff.mpr c15
                subst c15
                have H1 : ((rubrickref04_in.f a0 945 969).bind fun t185 => (if t185 = true then (some true) else ((rubrickref04_in.f a0 1024 1119).bind fun t186 => (some t186)))) = some r := by rw [if_neg (show ¬ (false = true) by decide)] at H; exact H
                clear H
                have H := H1
                clear H1
                replace H := Option.bind_eq_some_iff.mp H
                obtain ⟨t185, A160, H⟩ := H
                replace H : (if t185 = true then (some true) else ((rubrickref04_in.f a0 1024 1119).bind fun t186 => (some t186))) = some r := H
                have A16 := Aside0.mk A160
                clear A160
                by_cases c17 : t185 = true
                · subst c17
                  have H1 : (some true) = some r := by rw [if_pos rfl] at H; exact H
                  clear H
                  have H := H1
                  clear H1
                  obtain rfl := Option.some.inj H
                  go_enter Tryd.func27, Tryd.ntmps27
                  go_wp2_with (first | ((with_reducible refine gate_callee (f := 73) rfl ?_); refine goesL_ (some 4) rfl rfl Tryd.func73 (by kernel_rfl) rfl #[.int .i64 a0, .int .i64 65, .int .i64 90] rfl (by (try simp only [List.map_toArray, List.map_cons, List.map_nil]); first | done | rfl | (simp only [List.length_drop, List.length_take]; rfl)) ?_; (with_reducible refine (rubrickref04_in.calls a0 65 90 false _ A2.out).mono ?_); rintro e w' ⟨rfl, ⟨nd, rfl⟩⟩; refine ⟨_, rfl, ?_⟩) | (go_at_call 73; (with_reducible refine (rubrickref04_in.calls a0 97 122 false _ A4.out).mono ?_); rintro e w' ⟨rfl, ⟨nd, rfl⟩⟩) | (go_at_call 73; (with_reducible refine (rubrickref04_in.calls a0 192 214 false _ A6.out).mono ?_); rintro e w' ⟨rfl, ⟨nd, rfl⟩⟩) | (go_at_call 73; (with_reducible refine (rubrickref04_in.calls a0 216 246 false _ A8.out).mono ?_); rintro e w' ⟨rfl, ⟨nd, rfl⟩⟩) | (go_at_call 73; (with_reducible refine (rubrickref04_in.calls a0 248 255 false _ A10.out).mono ?_); rintro e w' ⟨rfl, ⟨nd, rfl⟩⟩) | (go_at_call 73; (with_reducible refine (rubrickref04_in.calls a0 913 929 false _ A12.out).mono ?_); rintro e w' ⟨rfl, ⟨nd, rfl⟩⟩) | (go_at_call 73; (with_reducible refine (rubrickref04_in.calls a0 931 937 false _ A14.out).mono ?_); rintro e w' ⟨rfl, ⟨nd, rfl⟩⟩) | (go_at_call 73; (with_reducible refine (rubrickref04_in.calls a0 945 969 true _ A16.out).mono ?_); rintro e w' ⟨rfl, ⟨nd, rfl⟩⟩))
                  go_ret
                  exact ⟨by first | rfl | (simp; done) | (simp [*]; done), by repeat (first | exact Drawn0.refl _ | apply Drawn0.step)⟩
                · replace c17 := Bool.eq_false_iff.mpr c17
                  subst c17
                  have H1 : ((rubrickref04_in.f a0 1024 1119).bind fun t186 => (some t186)) = some r := by rw [if_neg (show ¬ (false = true) by decide)] at H; exact H
                  clear H
                  have H := H1
                  clear H1
                  replace H := Option.bind_eq_some_iff.mp H
                  obtain ⟨t186, A180, H⟩ := H
                  replace H : (some t186) = some r := H
                  have A18 := Aside0.mk A180
                  clear A180
                  obtain rfl := Option.some.inj H
                  go_enter Tryd.func27, Tryd.ntmps27
                  go_wp2_with (first | ((with_reducible refine gate_callee (f := 73) rfl ?_); refine goesL_ (some 4) rfl rfl Tryd.func73 (by kernel_rfl) rfl #[.int .i64 a0, .int .i64 65, .int .i64 90] rfl (by (try simp only [List.map_toArray, List.map_cons, List.map_nil]); first | done | rfl | (simp only [List.length_drop, List.length_take]; rfl)) ?_; (with_reducible refine (rubrickref04_in.calls a0 65 90 false _ A2.out).mono ?_); rintro e w' ⟨rfl, ⟨nd, rfl⟩⟩; refine ⟨_, rfl, ?_⟩) | (go_at_call 73; (with_reducible refine (rubrickref04_in.calls a0 97 122 false _ A4.out).mono ?_); rintro e w' ⟨rfl, ⟨nd, rfl⟩⟩) | (go_at_call 73; (with_reducible refine (rubrickref04_in.calls a0 192 214 false _ A6.out).mono ?_); rintro e w' ⟨rfl, ⟨nd, rfl⟩⟩) | (go_at_call 73; (with_reducible refine (rubrickref04_in.calls a0 216 246 false _ A8.out).mono ?_); rintro e w' ⟨rfl, ⟨nd, rfl⟩⟩) | (go_at_call 73; (with_reducible refine (rubrickref04_in.calls a0 248 255 false _ A10.out).mono ?_); rintro e w' ⟨rfl, ⟨nd, rfl⟩⟩) | (go_at_call 73; (with_reducible refine (rubrickref04_in.calls a0 913 929 false _ A12.out).mono ?_); rintro e w' ⟨rfl, ⟨nd, rfl⟩⟩) | (go_at_call 73; (with_reducible refine (rubrickref04_in.calls a0 931 937 false _ A14.out).mono ?_); rintro e w' ⟨rfl, ⟨nd, rfl⟩⟩) | (go_at_call 73; (with_reducible refine (rubrickref04_in.calls a0 945 969 false _ A16.out).mono ?_); rintro e w' ⟨rfl, ⟨nd, rfl⟩⟩) | (go_at_call 73; (with_reducible refine (rubrickref04_in.calls a0 1024 1119 t186 _ A18.out).mono ?_); rintro e w' ⟨rfl, ⟨nd, rfl⟩⟩))
                  go_ret
                  exact ⟨by first | rfl | (simp; done) | (simp [*]; done), by repeat (first | exact Drawn0.refl _ | apply Drawn0.step)⟩

end Go.Proofs.YtiihoodnejcjgaaDoor.P
