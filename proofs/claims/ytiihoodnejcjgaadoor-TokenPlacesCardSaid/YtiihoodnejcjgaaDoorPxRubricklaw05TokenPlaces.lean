-- Printed by this session's patched printer.
import Derived.Test.YtiihoodnejcjgaaDoorPx0
import Derived.Test.YtiihoodnejcjgaaDoorHBT
import Derived.Test.YtiihoodnejcjgaaDoorHBR
import Derived.Test.YtiihoodnejcjgaaDoorHPos
namespace Go.Proofs.YtiihoodnejcjgaaDoor.P
open Go.RowKit Go.Proofs.YtiihoodnejcjgaaDoorW.PrintWords Go.Proofs.YtiihoodnejcjgaaDoorW.PrintLast Go.Proofs.YtiihoodnejcjgaaDoorW.PrintMore
attribute [local go_sem] max2_int min2_int max_two min_two max_three min_three max_four min_four   -- for this text's walks alone
set_option linter.unusedVariables false
set_option linter.unusedSimpArgs false

/-! ### rubricklaw05_TokenPlaces: function 11 -/
mutual
def rubricklaw05_TokenPlaces.j0 : Nat → List Int → ByteArray → Bool → Option (Bool)
  | 0, _, _, _ => none
  | k + 1, x0, x1, x17 => if x17 = true then ((rubricklaw05_knows.f k).bind fun t465 => (some t465)) else ((token_Places.f k x0 x1).bind fun t466 => ((rubrickref05_Places.f k x0 x1).bind fun t469 => ((token_Positions.f x0).bind fun t472 => ((rubrickref05_Positions.f k x0).bind fun t475 => (if (t466.length : Int) = (t469.length : Int) then (rubricklaw05_TokenPlaces.j1 k t466 t469 t472 t475 ((t472.length : Int) != (t475.length : Int))) else (rubricklaw05_TokenPlaces.j1 k t466 t469 t472 t475 true))))))
def rubricklaw05_TokenPlaces.j1 : Nat → List Int → List Int → List (S44) → List (S45) → Bool → Option (Bool)
  | 0, _, _, _, _, _ => none
  | k + 1, x5, x6, x7, x8, x40 => if x40 = true then (some false) else (rubricklaw05_TokenPlaces.l0 k x5 x6 x7 x8 0)
def rubricklaw05_TokenPlaces.l0 : Nat → List Int → List Int → List (S44) → List (S45) → Int → Option (Bool)
  | 0, _, _, _, _, _ => none
  | k + 1, x5, x6, x7, x8, x9 => if x9 < (x5.length : Int) then (if 0 ≤ x9 then (if x9 < (x6.length : Int) then (if (rd x5 x9) = (rd x6 x9) then (rubricklaw05_TokenPlaces.l0 k x5 x6 x7 x8 (wrap64 (x9 + 1))) else (some false)) else (none)) else (none)) else (rubricklaw05_TokenPlaces.l1 k x7 x8 0)
def rubricklaw05_TokenPlaces.l1 : Nat → List (S44) → List (S45) → Int → Option (Bool)
  | 0, _, _, _ => none
  | k + 1, x7, x8, x10 => if x10 < (x7.length : Int) then (if 0 ≤ x10 then (if x10 < (x8.length : Int) then (if ((rd_T44 x7 x10).f0).toList = ((rd_T45 x8 x10).f0).toList then (if ((rd_T44 x7 x10).f1) = ((rd_T45 x8 x10).f1) then (rubricklaw05_TokenPlaces.l1 k x7 x8 (wrap64 (x10 + 1))) else (some false)) else (some false)) else (none)) else (none)) else ((rubricklaw05_knows.f k).bind fun t484 => (some t484))
end
def rubricklaw05_TokenPlaces.f (k : Nat) (l0 : List Int) (a1 : ByteArray) : Option (Bool) := (rubricklaw05_Great.f l0).bind fun t464 => (if t464 = true then (rubricklaw05_TokenPlaces.j0 k l0 a1 true) else (rubricklaw05_TokenPlaces.j0 k l0 a1 (decide ((a1.size : Int) > 1000))))
theorem rubricklaw05_TokenPlaces.mono_l : ∀ k, (∀ y0 y1 y2, LeO (rubricklaw05_TokenPlaces.j0 k y0 y1 y2) (rubricklaw05_TokenPlaces.j0 (k + 1) y0 y1 y2)) ∧ (∀ y0 y1 y2 y3 y4, LeO (rubricklaw05_TokenPlaces.j1 k y0 y1 y2 y3 y4) (rubricklaw05_TokenPlaces.j1 (k + 1) y0 y1 y2 y3 y4)) ∧ (∀ y0 y1 y2 y3 y4, LeO (rubricklaw05_TokenPlaces.l0 k y0 y1 y2 y3 y4) (rubricklaw05_TokenPlaces.l0 (k + 1) y0 y1 y2 y3 y4)) ∧ (∀ y0 y1 y2, LeO (rubricklaw05_TokenPlaces.l1 k y0 y1 y2) (rubricklaw05_TokenPlaces.l1 (k + 1) y0 y1 y2))
  | 0 => ⟨fun _ _ _ r h => by simp [rubricklaw05_TokenPlaces.j0] at h, fun _ _ _ _ _ r h => by simp [rubricklaw05_TokenPlaces.j1] at h, fun _ _ _ _ _ r h => by simp [rubricklaw05_TokenPlaces.l0] at h, fun _ _ _ r h => by simp [rubricklaw05_TokenPlaces.l1] at h⟩
  | k + 1 => by
    obtain ⟨ih0, ih1, ih2, ih3⟩ := rubricklaw05_TokenPlaces.mono_l k
    refine ⟨?_, ?_, ?_, ?_⟩
    · intro y0 y1 y2
      unfold rubricklaw05_TokenPlaces.j0
      repeat' first
      | (with_reducible exact ih0 _ _ _)
      | (with_reducible exact ih1 _ _ _ _ _)
      | (with_reducible exact ih2 _ _ _ _ _)
      | (with_reducible exact ih3 _ _ _)
      | (with_reducible exact rubricklaw05_knows.mono _)
      | (with_reducible exact rubrickref05_Places.mono _ _ _)
      | (with_reducible exact rubrickref05_Positions.mono _ _)
      | (with_reducible exact token_Places.mono _ _ _)
      | (with_reducible exact LeO.refl _)
      | (with_reducible exact LeO.none _)
      | (with_reducible refine LeO.ite ?_ ?_)
      | (with_reducible refine LeO.bind ?_ (fun _ => ?_))
      | exact ih0 _ _ _
      | exact ih1 _ _ _ _ _
      | exact ih2 _ _ _ _ _
      | exact ih3 _ _ _
      | exact rubricklaw05_knows.mono _
      | exact rubrickref05_Places.mono _ _ _
      | exact rubrickref05_Positions.mono _ _
      | exact token_Places.mono _ _ _
      | exact LeO.none _
      | refine LeO.ite ?_ ?_
      | refine LeO.bind ?_ (fun _ => ?_)
    · intro y0 y1 y2 y3 y4
      unfold rubricklaw05_TokenPlaces.j1
      repeat' first
      | (with_reducible exact ih0 _ _ _)
      | (with_reducible exact ih1 _ _ _ _ _)
      | (with_reducible exact ih2 _ _ _ _ _)
      | (with_reducible exact ih3 _ _ _)
      | (with_reducible exact rubricklaw05_knows.mono _)
      | (with_reducible exact rubrickref05_Places.mono _ _ _)
      | (with_reducible exact rubrickref05_Positions.mono _ _)
      | (with_reducible exact token_Places.mono _ _ _)
      | (with_reducible exact LeO.refl _)
      | (with_reducible exact LeO.none _)
      | (with_reducible refine LeO.ite ?_ ?_)
      | (with_reducible refine LeO.bind ?_ (fun _ => ?_))
      | exact ih0 _ _ _
      | exact ih1 _ _ _ _ _
      | exact ih2 _ _ _ _ _
      | exact ih3 _ _ _
      | exact rubricklaw05_knows.mono _
      | exact rubrickref05_Places.mono _ _ _
      | exact rubrickref05_Positions.mono _ _
      | exact token_Places.mono _ _ _
      | exact LeO.none _
      | refine LeO.ite ?_ ?_
      | refine LeO.bind ?_ (fun _ => ?_)
    · intro y0 y1 y2 y3 y4
      unfold rubricklaw05_TokenPlaces.l0
      repeat' first
      | (with_reducible exact ih0 _ _ _)
      | (with_reducible exact ih1 _ _ _ _ _)
      | (with_reducible exact ih2 _ _ _ _ _)
      | (with_reducible exact ih3 _ _ _)
      | (with_reducible exact rubricklaw05_knows.mono _)
      | (with_reducible exact rubrickref05_Places.mono _ _ _)
      | (with_reducible exact rubrickref05_Positions.mono _ _)
      | (with_reducible exact token_Places.mono _ _ _)
      | (with_reducible exact LeO.refl _)
      | (with_reducible exact LeO.none _)
      | (with_reducible refine LeO.ite ?_ ?_)
      | (with_reducible refine LeO.bind ?_ (fun _ => ?_))
      | exact ih0 _ _ _
      | exact ih1 _ _ _ _ _
      | exact ih2 _ _ _ _ _
      | exact ih3 _ _ _
      | exact rubricklaw05_knows.mono _
      | exact rubrickref05_Places.mono _ _ _
      | exact rubrickref05_Positions.mono _ _
      | exact token_Places.mono _ _ _
      | exact LeO.none _
      | refine LeO.ite ?_ ?_
      | refine LeO.bind ?_ (fun _ => ?_)
    · intro y0 y1 y2
      unfold rubricklaw05_TokenPlaces.l1
      repeat' first
      | (with_reducible exact ih0 _ _ _)
      | (with_reducible exact ih1 _ _ _ _ _)
      | (with_reducible exact ih2 _ _ _ _ _)
      | (with_reducible exact ih3 _ _ _)
      | (with_reducible exact rubricklaw05_knows.mono _)
      | (with_reducible exact rubrickref05_Places.mono _ _ _)
      | (with_reducible exact rubrickref05_Positions.mono _ _)
      | (with_reducible exact token_Places.mono _ _ _)
      | (with_reducible exact LeO.refl _)
      | (with_reducible exact LeO.none _)
      | (with_reducible refine LeO.ite ?_ ?_)
      | (with_reducible refine LeO.bind ?_ (fun _ => ?_))
      | exact ih0 _ _ _
      | exact ih1 _ _ _ _ _
      | exact ih2 _ _ _ _ _
      | exact ih3 _ _ _
      | exact rubricklaw05_knows.mono _
      | exact rubrickref05_Places.mono _ _ _
      | exact rubrickref05_Positions.mono _ _
      | exact token_Places.mono _ _ _
      | exact LeO.none _
      | refine LeO.ite ?_ ?_
      | refine LeO.bind ?_ (fun _ => ?_)
theorem rubricklaw05_TokenPlaces.mono : ∀ a0 a1 k, LeO (rubricklaw05_TokenPlaces.f k a0 a1) (rubricklaw05_TokenPlaces.f (k + 1) a0 a1) := by
  intro a0 a1 k
  obtain ⟨ih0, ih1, ih2, ih3⟩ := rubricklaw05_TokenPlaces.mono_l k
  unfold rubricklaw05_TokenPlaces.f
  repeat' first
      | (with_reducible exact ih0 _ _ _)
      | (with_reducible exact ih1 _ _ _ _ _)
      | (with_reducible exact ih2 _ _ _ _ _)
      | (with_reducible exact ih3 _ _ _)
      | (with_reducible exact rubricklaw05_knows.mono _)
      | (with_reducible exact rubrickref05_Places.mono _ _ _)
      | (with_reducible exact rubrickref05_Positions.mono _ _)
      | (with_reducible exact token_Places.mono _ _ _)
      | (with_reducible exact LeO.refl _)
      | (with_reducible exact LeO.none _)
      | (with_reducible refine LeO.ite ?_ ?_)
      | (with_reducible refine LeO.bind ?_ (fun _ => ?_))
      | exact ih0 _ _ _
      | exact ih1 _ _ _ _ _
      | exact ih2 _ _ _ _ _
      | exact ih3 _ _ _
      | exact rubricklaw05_knows.mono _
      | exact rubrickref05_Places.mono _ _ _
      | exact rubrickref05_Positions.mono _ _
      | exact token_Places.mono _ _ _
      | exact LeO.none _
      | refine LeO.ite ?_ ?_
      | refine LeO.bind ?_ (fun _ => ?_)
set_option maxHeartbeats 8000000 in
set_option maxRecDepth 100000 in
theorem rubricklaw05_TokenPlaces.calls (k : Nat) (A0 : Option Addr) (c0 : Nat) (l0 : List Int) (a1 : ByteArray) (r : Bool) (w : World) (hG : G w) (hr0 : Kd.C (Kd.int .u8) w A0 l0.length l0) (hc0 : l0.length ≤ c0) (h : rubricklaw05_TokenPlaces.f k l0 a1 = some r) :
    Calls Tryd.prog 11 #[.slice A0 l0.length c0, .string a1] w fun e w' => e = .returned (.bool r) ∧ Below w.heap.size w w' := by
  have HR0 := Aside0.mk hr0
  have HC0 := Aside0.mk hc0
  clear hr0 hc0
  have HG := Aside0.mk hG
  clear hG
  have HB := Aside0.mk (Below.refl w.heap.size w)
  have H : ((rubricklaw05_Great.f l0).bind fun t464 => (if t464 = true then (rubricklaw05_TokenPlaces.j0 k l0 a1 true) else (rubricklaw05_TokenPlaces.j0 k l0 a1 (decide ((a1.size : Int) > 1000))))) = some r := h
  clear h
  have HC3 := Aside0.mk H
  clear H
  go_enter Tryd.func11, Tryd.ntmps11
  go_upto_region 1 with (fail)
  repeat (go_quiet (fail); go_upto_region 1 with (fail))
  go_cut [17] (fun v17 wc => ∃ (kq : Nat) (x17_2 : Bool), v17 = .bool x17_2 ∧ Aside0 (rubricklaw05_TokenPlaces.j0 kq l0 a1 x17_2 = some r) ∧ Aside0 (kq ≤ k) ∧ Aside0 (Below w.heap.size w wc))
  case first =>
    have H := HC3.out
    clear HC3
    replace H := Option.bind_eq_some_iff.mp H
    obtain ⟨t464, A40, H⟩ := H
    replace H : (if t464 = true then (rubricklaw05_TokenPlaces.j0 k l0 a1 true) else (rubricklaw05_TokenPlaces.j0 k l0 a1 (decide ((a1.size : Int) > 1000)))) = some r := H
    have A4 := Aside0.mk A40
    clear A40
    by_cases c5 : t464 = true
    · subst c5
      have H1 : (rubricklaw05_TokenPlaces.j0 k l0 a1 true) = some r := by rw [if_pos rfl] at H; exact H
      clear H
      have H := H1
      clear H1
      have H' := Aside0.mk H
      clear H
      go_wp2_with (first | (go_at_call 35; (with_reducible refine (rubricklaw05_Great.calls _ _ l0 true _ ?side1 ?side2 A4.out).mono ?_); (case side1 => repeat (first | exact (Kd.C_below HR0.out HB.out) | (with_reducible refine Kd.C_alloc ?_ _) | (with_reducible refine Kd.C_drewN ?_ _) | (with_reducible refine Kd.C_drew ?_))); (case side2 => exact HC0.out); rintro e w' ⟨rfl, ⟨nd, rfl⟩⟩; (try first | exact ⟨rfl, _, World.drewN_drewN _ _ _⟩ | exact ⟨rfl, _, Eq.trans (World.drewN_drewN _ _ _) (congrArg (World.drewN _) (Nat.add_assoc _ _ _))⟩)))
      repeat (go_quiet (first | (go_at_call 35; (with_reducible refine (rubricklaw05_Great.calls _ _ l0 true _ ?side1 ?side2 A4.out).mono ?_); (case side1 => repeat (first | exact (Kd.C_below HR0.out HB.out) | (with_reducible refine Kd.C_alloc ?_ _) | (with_reducible refine Kd.C_drewN ?_ _) | (with_reducible refine Kd.C_drew ?_))); (case side2 => exact HC0.out); rintro e w' ⟨rfl, ⟨nd, rfl⟩⟩; (try first | exact ⟨rfl, _, World.drewN_drewN _ _ _⟩ | exact ⟨rfl, _, Eq.trans (World.drewN_drewN _ _ _) (congrArg (World.drewN _) (Nat.add_assoc _ _ _))⟩))); try go_wp2_with (first | (go_at_call 35; (with_reducible refine (rubricklaw05_Great.calls _ _ l0 true _ ?side1 ?side2 A4.out).mono ?_); (case side1 => repeat (first | exact (Kd.C_below HR0.out HB.out) | (with_reducible refine Kd.C_alloc ?_ _) | (with_reducible refine Kd.C_drewN ?_ _) | (with_reducible refine Kd.C_drew ?_))); (case side2 => exact HC0.out); rintro e w' ⟨rfl, ⟨nd, rfl⟩⟩; (try first | exact ⟨rfl, _, World.drewN_drewN _ _ _⟩ | exact ⟨rfl, _, Eq.trans (World.drewN_drewN _ _ _) (congrArg (World.drewN _) (Nat.add_assoc _ _ _))⟩))))
      go_meet
      case rel => exact ⟨_, (true), (by first | rfl | (simp; done) | (simp [*]; done)), H', ⟨by first | omega | exact Nat.le_refl _⟩, ⟨by repeat (first | (with_reducible first | exact HB.out | apply below_alloc | apply pw_below_drewN | apply below_drew1) | exact HB.out)⟩⟩
    · replace c5 := Bool.eq_false_iff.mpr c5
      subst c5
      have H1 : (rubricklaw05_TokenPlaces.j0 k l0 a1 (decide ((a1.size : Int) > 1000))) = some r := by rw [if_neg (show ¬ (false = true) by decide)] at H; exact H
      clear H
      have H := H1
      clear H1
      have H' := Aside0.mk H
      clear H
      go_wp2_with (first | (go_at_call 35; (with_reducible refine (rubricklaw05_Great.calls _ _ l0 false _ ?side1 ?side2 A4.out).mono ?_); (case side1 => repeat (first | exact (Kd.C_below HR0.out HB.out) | (with_reducible refine Kd.C_alloc ?_ _) | (with_reducible refine Kd.C_drewN ?_ _) | (with_reducible refine Kd.C_drew ?_))); (case side2 => exact HC0.out); rintro e w' ⟨rfl, ⟨nd, rfl⟩⟩; (try first | exact ⟨rfl, _, World.drewN_drewN _ _ _⟩ | exact ⟨rfl, _, Eq.trans (World.drewN_drewN _ _ _) (congrArg (World.drewN _) (Nat.add_assoc _ _ _))⟩)))
      repeat (go_quiet (first | (go_at_call 35; (with_reducible refine (rubricklaw05_Great.calls _ _ l0 false _ ?side1 ?side2 A4.out).mono ?_); (case side1 => repeat (first | exact (Kd.C_below HR0.out HB.out) | (with_reducible refine Kd.C_alloc ?_ _) | (with_reducible refine Kd.C_drewN ?_ _) | (with_reducible refine Kd.C_drew ?_))); (case side2 => exact HC0.out); rintro e w' ⟨rfl, ⟨nd, rfl⟩⟩; (try first | exact ⟨rfl, _, World.drewN_drewN _ _ _⟩ | exact ⟨rfl, _, Eq.trans (World.drewN_drewN _ _ _) (congrArg (World.drewN _) (Nat.add_assoc _ _ _))⟩))); try go_wp2_with (first | (go_at_call 35; (with_reducible refine (rubricklaw05_Great.calls _ _ l0 false _ ?side1 ?side2 A4.out).mono ?_); (case side1 => repeat (first | exact (Kd.C_below HR0.out HB.out) | (with_reducible refine Kd.C_alloc ?_ _) | (with_reducible refine Kd.C_drewN ?_ _) | (with_reducible refine Kd.C_drew ?_))); (case side2 => exact HC0.out); rintro e w' ⟨rfl, ⟨nd, rfl⟩⟩; (try first | exact ⟨rfl, _, World.drewN_drewN _ _ _⟩ | exact ⟨rfl, _, Eq.trans (World.drewN_drewN _ _ _) (congrArg (World.drewN _) (Nat.add_assoc _ _ _))⟩))))
      go_meet
      case rel => exact ⟨_, (decide ((a1.size : Int) > 1000)), (by first | rfl | (simp; done) | (simp [*]; done)), H', ⟨by first | omega | exact Nat.le_refl _⟩, ⟨by repeat (first | (with_reducible first | exact HB.out | apply below_alloc | apply pw_below_drewN | apply below_drew1) | exact HB.out)⟩⟩
  case rest =>
    clear HC3
    try clear c1
    try clear p2
    try clear c5
    obtain ⟨kq, x17_2, rfl, HA, HJ2, HB⟩ := hcut
    cases kq with
    | zero => exact absurd HA.out (by simp [rubricklaw05_TokenPlaces.j0])
    | succ kj2 =>
      have H := HA.out
      clear HA
      simp only [rubricklaw05_TokenPlaces.j0] at H
      by_cases c6 : x17_2 = true
      · subst c6
        have H1 : ((rubricklaw05_knows.f kj2).bind fun t465 => (some t465)) = some r := by rw [if_pos rfl] at H; exact H
        clear H
        have H := H1
        clear H1
        replace H := Option.bind_eq_some_iff.mp H
        obtain ⟨t465, A70, H⟩ := H
        replace H : (some t465) = some r := H
        have A7 := Aside0.mk A70
        clear A70
        obtain rfl := Option.some.inj H
        go_wp2_with (first | (go_at_call 36; (with_reducible refine (rubricklaw05_knows.calls kj2  t465 _ ?side1 A7.out).mono ?_); (case side1 => first | exact HG.out | exact G.below HG.out (by repeat (first | (with_reducible first | exact HB.out | apply below_alloc | apply pw_below_drewN | apply below_drew1) | exact HB.out)) | (repeat (first | exact HG.out | apply G.drewN | apply G.drew | apply G.alloc))); rintro e w8 ⟨rfl, hb⟩; have n0_ := Aside0.mk (below_step (by repeat (first | (with_reducible first | exact HB.out | apply below_alloc | apply pw_below_drewN | apply below_drew1) | exact HB.out)) hb); clear HB; have HB := n0_; clear n0_; (try clear hb); (try clear hb2); (try clear hk); (try clear hi)))
        repeat (go_quiet (first | (go_at_call 36; (with_reducible refine (rubricklaw05_knows.calls kj2  t465 _ ?side1 A7.out).mono ?_); (case side1 => first | exact HG.out | exact G.below HG.out (by repeat (first | (with_reducible first | exact HB.out | apply below_alloc | apply pw_below_drewN | apply below_drew1) | exact HB.out)) | (repeat (first | exact HG.out | apply G.drewN | apply G.drew | apply G.alloc))); rintro e w8 ⟨rfl, hb⟩; have n0_ := Aside0.mk (below_step (by repeat (first | (with_reducible first | exact HB.out | apply below_alloc | apply pw_below_drewN | apply below_drew1) | exact HB.out)) hb); clear HB; have HB := n0_; clear n0_; (try clear hb); (try clear hb2); (try clear hk); (try clear hi))); try go_wp2_with (first | (go_at_call 36; (with_reducible refine (rubricklaw05_knows.calls kj2  t465 _ ?side1 A7.out).mono ?_); (case side1 => first | exact HG.out | exact G.below HG.out (by repeat (first | (with_reducible first | exact HB.out | apply below_alloc | apply pw_below_drewN | apply below_drew1) | exact HB.out)) | (repeat (first | exact HG.out | apply G.drewN | apply G.drew | apply G.alloc))); rintro e w8 ⟨rfl, hb⟩; have n0_ := Aside0.mk (below_step (by repeat (first | (with_reducible first | exact HB.out | apply below_alloc | apply pw_below_drewN | apply below_drew1) | exact HB.out)) hb); clear HB; have HB := n0_; clear n0_; (try clear hb); (try clear hb2); (try clear hk); (try clear hi))))
        go_ret
        exact ⟨by first | rfl | (simp [errW_none, errW_some] <;> rfl) | (simp [*, errW_none, errW_some] <;> rfl), by repeat (first | (with_reducible first | exact HB.out | apply below_alloc | apply pw_below_drewN | apply below_drew1) | exact HB.out)⟩
      · replace c6 := Bool.eq_false_iff.mpr c6
        subst c6
        have H1 : ((token_Places.f kj2 l0 a1).bind fun t466 => ((rubrickref05_Places.f kj2 l0 a1).bind fun t469 => ((token_Positions.f l0).bind fun t472 => ((rubrickref05_Positions.f kj2 l0).bind fun t475 => (if (t466.length : Int) = (t469.length : Int) then (rubricklaw05_TokenPlaces.j1 kj2 t466 t469 t472 t475 ((t472.length : Int) != (t475.length : Int))) else (rubricklaw05_TokenPlaces.j1 kj2 t466 t469 t472 t475 true)))))) = some r := by rw [if_neg (show ¬ (false = true) by decide)] at H; exact H
        clear H
        have H := H1
        clear H1
        replace H := Option.bind_eq_some_iff.mp H
        obtain ⟨t466, A90, H⟩ := H
        replace H : ((rubrickref05_Places.f kj2 l0 a1).bind fun t469 => ((token_Positions.f l0).bind fun t472 => ((rubrickref05_Positions.f kj2 l0).bind fun t475 => (if (t466.length : Int) = (t469.length : Int) then (rubricklaw05_TokenPlaces.j1 kj2 t466 t469 t472 t475 ((t472.length : Int) != (t475.length : Int))) else (rubricklaw05_TokenPlaces.j1 kj2 t466 t469 t472 t475 true))))) = some r := H
        have A9 := Aside0.mk A90
        clear A90
        replace H := Option.bind_eq_some_iff.mp H
        obtain ⟨t469, A100, H⟩ := H
        replace H : ((token_Positions.f l0).bind fun t472 => ((rubrickref05_Positions.f kj2 l0).bind fun t475 => (if (t466.length : Int) = (t469.length : Int) then (rubricklaw05_TokenPlaces.j1 kj2 t466 t469 t472 t475 ((t472.length : Int) != (t475.length : Int))) else (rubricklaw05_TokenPlaces.j1 kj2 t466 t469 t472 t475 true)))) = some r := H
        have A10 := Aside0.mk A100
        clear A100
        replace H := Option.bind_eq_some_iff.mp H
        obtain ⟨t472, A110, H⟩ := H
        replace H : ((rubrickref05_Positions.f kj2 l0).bind fun t475 => (if (t466.length : Int) = (t469.length : Int) then (rubricklaw05_TokenPlaces.j1 kj2 t466 t469 t472 t475 ((t472.length : Int) != (t475.length : Int))) else (rubricklaw05_TokenPlaces.j1 kj2 t466 t469 t472 t475 true))) = some r := H
        have A11 := Aside0.mk A110
        clear A110
        replace H := Option.bind_eq_some_iff.mp H
        obtain ⟨t475, A120, H⟩ := H
        replace H : (if (t466.length : Int) = (t469.length : Int) then (rubricklaw05_TokenPlaces.j1 kj2 t466 t469 t472 t475 ((t472.length : Int) != (t475.length : Int))) else (rubricklaw05_TokenPlaces.j1 kj2 t466 t469 t472 t475 true)) = some r := H
        have A12 := Aside0.mk A120
        clear A120
        have HC13 := Aside0.mk H
        clear H
        go_upto_region 5 with (first | (go_at_call 42; (with_reducible refine (token_Places.calls kj2 _ _ l0 a1 t466 _ ?side1 ?side2 ?side3 A9.out).mono ?_); (case side1 => first | exact HG.out | exact G.below HG.out (by repeat (first | (with_reducible first | exact HB.out | apply below_alloc | apply pw_below_drewN | apply below_drew1) | exact HB.out)) | (repeat (first | exact HG.out | apply G.drewN | apply G.drew | apply G.alloc))); (case side2 => repeat (first | exact (Kd.C_below HR0.out HB.out) | (with_reducible refine Kd.C_alloc ?_ _) | (with_reducible refine Kd.C_drewN ?_ _) | (with_reducible refine Kd.C_drew ?_))); (case side3 => exact HC0.out); rintro e w14 ⟨v467, rfl, ho0, hb⟩; have n0_ := Aside0.mk (Kd.R_lower ho0 (below_size (by repeat (first | (with_reducible first | exact HB.out | apply below_alloc | apply pw_below_drewN | apply below_drew1) | exact HB.out)))); have n1_ := Aside0.mk (below_step (by repeat (first | (with_reducible first | exact HB.out | apply below_alloc | apply pw_below_drewN | apply below_drew1) | exact HB.out)) hb); clear HB; have HO468 := n0_; have HB := n1_; clear n0_ n1_; (try clear hb); (try clear hb2); (try clear hk); (try clear hi); (try clear ho0)) | (go_at_call 43; (with_reducible refine (rubrickref05_Places.calls kj2 _ _ l0 a1 t469 _ ?side1 ?side2 A10.out).mono ?_); (case side1 => repeat (first | exact (Kd.C_below HR0.out HB.out) | (with_reducible refine Kd.C_alloc ?_ _) | (with_reducible refine Kd.C_drewN ?_ _) | (with_reducible refine Kd.C_drew ?_))); (case side2 => exact HC0.out); rintro e w15 ⟨v470, rfl, ho0, hb⟩; have n0_ := Aside0.mk (Kd.R_elder' (by (with_reducible repeat (first | apply Kd.R_alloc | apply Kd.R_drewN | apply Kd.R_drew)); exact HO468.out) (Kd.R_base ho0) hb); have n1_ := Aside0.mk (Kd.R_lower (Kd.R_new' ho0 (Kd.R_lt (by (with_reducible repeat (first | apply Kd.R_alloc | apply Kd.R_drewN | apply Kd.R_drew)); exact HO468.out))) (below_size (by repeat (first | (with_reducible first | exact HB.out | apply below_alloc | apply pw_below_drewN | apply below_drew1) | exact HB.out)))); have n2_ := Aside0.mk (below_step (by repeat (first | (with_reducible first | exact HB.out | apply below_alloc | apply pw_below_drewN | apply below_drew1) | exact HB.out)) hb); clear HO468; clear HB; have HO468 := n0_; have HO471 := n1_; have HB := n2_; clear n0_ n1_ n2_; (try clear hb); (try clear hb2); (try clear hk); (try clear hi); (try clear ho0)) | (go_at_call 44; (with_reducible refine (token_Positions.calls _ _ l0 t472 _ ?side1 ?side2 ?side3 A11.out).mono ?_); (case side1 => first | exact HG.out | exact G.below HG.out (by repeat (first | (with_reducible first | exact HB.out | apply below_alloc | apply pw_below_drewN | apply below_drew1) | exact HB.out)) | (repeat (first | exact HG.out | apply G.drewN | apply G.drew | apply G.alloc))); (case side2 => repeat (first | exact (Kd.C_below HR0.out HB.out) | (with_reducible refine Kd.C_alloc ?_ _) | (with_reducible refine Kd.C_drewN ?_ _) | (with_reducible refine Kd.C_drew ?_))); (case side3 => exact HC0.out); rintro e w16 ⟨v473, rfl, ho0, hb⟩; have n0_ := Aside0.mk (Kd.R_below (by (with_reducible repeat (first | apply Kd.R_alloc | apply Kd.R_drewN | apply Kd.R_drew)); exact HO468.out) hb); have n1_ := Aside0.mk (Kd.R_below (by (with_reducible repeat (first | apply Kd.R_alloc | apply Kd.R_drewN | apply Kd.R_drew)); exact HO471.out) hb); have n2_ := Aside0.mk (Kd.R_lower ho0 (below_size (by repeat (first | (with_reducible first | exact HB.out | apply below_alloc | apply pw_below_drewN | apply below_drew1) | exact HB.out)))); have n3_ := Aside0.mk (below_step (by repeat (first | (with_reducible first | exact HB.out | apply below_alloc | apply pw_below_drewN | apply below_drew1) | exact HB.out)) hb); clear HO468; clear HO471; clear HB; have HO468 := n0_; have HO471 := n1_; have HO474 := n2_; have HB := n3_; clear n0_ n1_ n2_ n3_; (try clear hb); (try clear hb2); (try clear hk); (try clear hi); (try clear ho0)) | (go_at_call 45; (with_reducible refine (rubrickref05_Positions.calls kj2 _ _ l0 t475 _ ?side1 ?side2 A12.out).mono ?_); (case side1 => repeat (first | exact (Kd.C_below HR0.out HB.out) | (with_reducible refine Kd.C_alloc ?_ _) | (with_reducible refine Kd.C_drewN ?_ _) | (with_reducible refine Kd.C_drew ?_))); (case side2 => exact HC0.out); rintro e w17 ⟨v476, rfl, ho0, hb⟩; have n0_ := Aside0.mk (Kd.R_below (by (with_reducible repeat (first | apply Kd.R_alloc | apply Kd.R_drewN | apply Kd.R_drew)); exact HO468.out) hb); have n1_ := Aside0.mk (Kd.R_below (by (with_reducible repeat (first | apply Kd.R_alloc | apply Kd.R_drewN | apply Kd.R_drew)); exact HO471.out) hb); have n2_ := Aside0.mk (Kd.R_below (by (with_reducible repeat (first | apply Kd.R_alloc | apply Kd.R_drewN | apply Kd.R_drew)); exact HO474.out) hb); have n3_ := Aside0.mk (Kd.R_lower ho0 (below_size (by repeat (first | (with_reducible first | exact HB.out | apply below_alloc | apply pw_below_drewN | apply below_drew1) | exact HB.out)))); have n4_ := Aside0.mk (below_step (by repeat (first | (with_reducible first | exact HB.out | apply below_alloc | apply pw_below_drewN | apply below_drew1) | exact HB.out)) hb); clear HO468; clear HO471; clear HO474; clear HB; have HO468 := n0_; have HO471 := n1_; have HO474 := n2_; have HO477 := n3_; have HB := n4_; clear n0_ n1_ n2_ n3_ n4_; (try clear hb); (try clear hb2); (try clear hk); (try clear hi); (try clear ho0)))
        repeat (go_quiet (first | (go_at_call 42; (with_reducible refine (token_Places.calls kj2 _ _ l0 a1 t466 _ ?side1 ?side2 ?side3 A9.out).mono ?_); (case side1 => first | exact HG.out | exact G.below HG.out (by repeat (first | (with_reducible first | exact HB.out | apply below_alloc | apply pw_below_drewN | apply below_drew1) | exact HB.out)) | (repeat (first | exact HG.out | apply G.drewN | apply G.drew | apply G.alloc))); (case side2 => repeat (first | exact (Kd.C_below HR0.out HB.out) | (with_reducible refine Kd.C_alloc ?_ _) | (with_reducible refine Kd.C_drewN ?_ _) | (with_reducible refine Kd.C_drew ?_))); (case side3 => exact HC0.out); rintro e w14 ⟨v467, rfl, ho0, hb⟩; have n0_ := Aside0.mk (Kd.R_lower ho0 (below_size (by repeat (first | (with_reducible first | exact HB.out | apply below_alloc | apply pw_below_drewN | apply below_drew1) | exact HB.out)))); have n1_ := Aside0.mk (below_step (by repeat (first | (with_reducible first | exact HB.out | apply below_alloc | apply pw_below_drewN | apply below_drew1) | exact HB.out)) hb); clear HB; have HO468 := n0_; have HB := n1_; clear n0_ n1_; (try clear hb); (try clear hb2); (try clear hk); (try clear hi); (try clear ho0)) | (go_at_call 43; (with_reducible refine (rubrickref05_Places.calls kj2 _ _ l0 a1 t469 _ ?side1 ?side2 A10.out).mono ?_); (case side1 => repeat (first | exact (Kd.C_below HR0.out HB.out) | (with_reducible refine Kd.C_alloc ?_ _) | (with_reducible refine Kd.C_drewN ?_ _) | (with_reducible refine Kd.C_drew ?_))); (case side2 => exact HC0.out); rintro e w15 ⟨v470, rfl, ho0, hb⟩; have n0_ := Aside0.mk (Kd.R_elder' (by (with_reducible repeat (first | apply Kd.R_alloc | apply Kd.R_drewN | apply Kd.R_drew)); exact HO468.out) (Kd.R_base ho0) hb); have n1_ := Aside0.mk (Kd.R_lower (Kd.R_new' ho0 (Kd.R_lt (by (with_reducible repeat (first | apply Kd.R_alloc | apply Kd.R_drewN | apply Kd.R_drew)); exact HO468.out))) (below_size (by repeat (first | (with_reducible first | exact HB.out | apply below_alloc | apply pw_below_drewN | apply below_drew1) | exact HB.out)))); have n2_ := Aside0.mk (below_step (by repeat (first | (with_reducible first | exact HB.out | apply below_alloc | apply pw_below_drewN | apply below_drew1) | exact HB.out)) hb); clear HO468; clear HB; have HO468 := n0_; have HO471 := n1_; have HB := n2_; clear n0_ n1_ n2_; (try clear hb); (try clear hb2); (try clear hk); (try clear hi); (try clear ho0)) | (go_at_call 44; (with_reducible refine (token_Positions.calls _ _ l0 t472 _ ?side1 ?side2 ?side3 A11.out).mono ?_); (case side1 => first | exact HG.out | exact G.below HG.out (by repeat (first | (with_reducible first | exact HB.out | apply below_alloc | apply pw_below_drewN | apply below_drew1) | exact HB.out)) | (repeat (first | exact HG.out | apply G.drewN | apply G.drew | apply G.alloc))); (case side2 => repeat (first | exact (Kd.C_below HR0.out HB.out) | (with_reducible refine Kd.C_alloc ?_ _) | (with_reducible refine Kd.C_drewN ?_ _) | (with_reducible refine Kd.C_drew ?_))); (case side3 => exact HC0.out); rintro e w16 ⟨v473, rfl, ho0, hb⟩; have n0_ := Aside0.mk (Kd.R_below (by (with_reducible repeat (first | apply Kd.R_alloc | apply Kd.R_drewN | apply Kd.R_drew)); exact HO468.out) hb); have n1_ := Aside0.mk (Kd.R_below (by (with_reducible repeat (first | apply Kd.R_alloc | apply Kd.R_drewN | apply Kd.R_drew)); exact HO471.out) hb); have n2_ := Aside0.mk (Kd.R_lower ho0 (below_size (by repeat (first | (with_reducible first | exact HB.out | apply below_alloc | apply pw_below_drewN | apply below_drew1) | exact HB.out)))); have n3_ := Aside0.mk (below_step (by repeat (first | (with_reducible first | exact HB.out | apply below_alloc | apply pw_below_drewN | apply below_drew1) | exact HB.out)) hb); clear HO468; clear HO471; clear HB; have HO468 := n0_; have HO471 := n1_; have HO474 := n2_; have HB := n3_; clear n0_ n1_ n2_ n3_; (try clear hb); (try clear hb2); (try clear hk); (try clear hi); (try clear ho0)) | (go_at_call 45; (with_reducible refine (rubrickref05_Positions.calls kj2 _ _ l0 t475 _ ?side1 ?side2 A12.out).mono ?_); (case side1 => repeat (first | exact (Kd.C_below HR0.out HB.out) | (with_reducible refine Kd.C_alloc ?_ _) | (with_reducible refine Kd.C_drewN ?_ _) | (with_reducible refine Kd.C_drew ?_))); (case side2 => exact HC0.out); rintro e w17 ⟨v476, rfl, ho0, hb⟩; have n0_ := Aside0.mk (Kd.R_below (by (with_reducible repeat (first | apply Kd.R_alloc | apply Kd.R_drewN | apply Kd.R_drew)); exact HO468.out) hb); have n1_ := Aside0.mk (Kd.R_below (by (with_reducible repeat (first | apply Kd.R_alloc | apply Kd.R_drewN | apply Kd.R_drew)); exact HO471.out) hb); have n2_ := Aside0.mk (Kd.R_below (by (with_reducible repeat (first | apply Kd.R_alloc | apply Kd.R_drewN | apply Kd.R_drew)); exact HO474.out) hb); have n3_ := Aside0.mk (Kd.R_lower ho0 (below_size (by repeat (first | (with_reducible first | exact HB.out | apply below_alloc | apply pw_below_drewN | apply below_drew1) | exact HB.out)))); have n4_ := Aside0.mk (below_step (by repeat (first | (with_reducible first | exact HB.out | apply below_alloc | apply pw_below_drewN | apply below_drew1) | exact HB.out)) hb); clear HO468; clear HO471; clear HO474; clear HB; have HO468 := n0_; have HO471 := n1_; have HO474 := n2_; have HO477 := n3_; have HB := n4_; clear n0_ n1_ n2_ n3_ n4_; (try clear hb); (try clear hb2); (try clear hk); (try clear hi); (try clear ho0))); go_upto_region 5 with (first | (go_at_call 42; (with_reducible refine (token_Places.calls kj2 _ _ l0 a1 t466 _ ?side1 ?side2 ?side3 A9.out).mono ?_); (case side1 => first | exact HG.out | exact G.below HG.out (by repeat (first | (with_reducible first | exact HB.out | apply below_alloc | apply pw_below_drewN | apply below_drew1) | exact HB.out)) | (repeat (first | exact HG.out | apply G.drewN | apply G.drew | apply G.alloc))); (case side2 => repeat (first | exact (Kd.C_below HR0.out HB.out) | (with_reducible refine Kd.C_alloc ?_ _) | (with_reducible refine Kd.C_drewN ?_ _) | (with_reducible refine Kd.C_drew ?_))); (case side3 => exact HC0.out); rintro e w14 ⟨v467, rfl, ho0, hb⟩; have n0_ := Aside0.mk (Kd.R_lower ho0 (below_size (by repeat (first | (with_reducible first | exact HB.out | apply below_alloc | apply pw_below_drewN | apply below_drew1) | exact HB.out)))); have n1_ := Aside0.mk (below_step (by repeat (first | (with_reducible first | exact HB.out | apply below_alloc | apply pw_below_drewN | apply below_drew1) | exact HB.out)) hb); clear HB; have HO468 := n0_; have HB := n1_; clear n0_ n1_; (try clear hb); (try clear hb2); (try clear hk); (try clear hi); (try clear ho0)) | (go_at_call 43; (with_reducible refine (rubrickref05_Places.calls kj2 _ _ l0 a1 t469 _ ?side1 ?side2 A10.out).mono ?_); (case side1 => repeat (first | exact (Kd.C_below HR0.out HB.out) | (with_reducible refine Kd.C_alloc ?_ _) | (with_reducible refine Kd.C_drewN ?_ _) | (with_reducible refine Kd.C_drew ?_))); (case side2 => exact HC0.out); rintro e w15 ⟨v470, rfl, ho0, hb⟩; have n0_ := Aside0.mk (Kd.R_elder' (by (with_reducible repeat (first | apply Kd.R_alloc | apply Kd.R_drewN | apply Kd.R_drew)); exact HO468.out) (Kd.R_base ho0) hb); have n1_ := Aside0.mk (Kd.R_lower (Kd.R_new' ho0 (Kd.R_lt (by (with_reducible repeat (first | apply Kd.R_alloc | apply Kd.R_drewN | apply Kd.R_drew)); exact HO468.out))) (below_size (by repeat (first | (with_reducible first | exact HB.out | apply below_alloc | apply pw_below_drewN | apply below_drew1) | exact HB.out)))); have n2_ := Aside0.mk (below_step (by repeat (first | (with_reducible first | exact HB.out | apply below_alloc | apply pw_below_drewN | apply below_drew1) | exact HB.out)) hb); clear HO468; clear HB; have HO468 := n0_; have HO471 := n1_; have HB := n2_; clear n0_ n1_ n2_; (try clear hb); (try clear hb2); (try clear hk); (try clear hi); (try clear ho0)) | (go_at_call 44; (with_reducible refine (token_Positions.calls _ _ l0 t472 _ ?side1 ?side2 ?side3 A11.out).mono ?_); (case side1 => first | exact HG.out | exact G.below HG.out (by repeat (first | (with_reducible first | exact HB.out | apply below_alloc | apply pw_below_drewN | apply below_drew1) | exact HB.out)) | (repeat (first | exact HG.out | apply G.drewN | apply G.drew | apply G.alloc))); (case side2 => repeat (first | exact (Kd.C_below HR0.out HB.out) | (with_reducible refine Kd.C_alloc ?_ _) | (with_reducible refine Kd.C_drewN ?_ _) | (with_reducible refine Kd.C_drew ?_))); (case side3 => exact HC0.out); rintro e w16 ⟨v473, rfl, ho0, hb⟩; have n0_ := Aside0.mk (Kd.R_below (by (with_reducible repeat (first | apply Kd.R_alloc | apply Kd.R_drewN | apply Kd.R_drew)); exact HO468.out) hb); have n1_ := Aside0.mk (Kd.R_below (by (with_reducible repeat (first | apply Kd.R_alloc | apply Kd.R_drewN | apply Kd.R_drew)); exact HO471.out) hb); have n2_ := Aside0.mk (Kd.R_lower ho0 (below_size (by repeat (first | (with_reducible first | exact HB.out | apply below_alloc | apply pw_below_drewN | apply below_drew1) | exact HB.out)))); have n3_ := Aside0.mk (below_step (by repeat (first | (with_reducible first | exact HB.out | apply below_alloc | apply pw_below_drewN | apply below_drew1) | exact HB.out)) hb); clear HO468; clear HO471; clear HB; have HO468 := n0_; have HO471 := n1_; have HO474 := n2_; have HB := n3_; clear n0_ n1_ n2_ n3_; (try clear hb); (try clear hb2); (try clear hk); (try clear hi); (try clear ho0)) | (go_at_call 45; (with_reducible refine (rubrickref05_Positions.calls kj2 _ _ l0 t475 _ ?side1 ?side2 A12.out).mono ?_); (case side1 => repeat (first | exact (Kd.C_below HR0.out HB.out) | (with_reducible refine Kd.C_alloc ?_ _) | (with_reducible refine Kd.C_drewN ?_ _) | (with_reducible refine Kd.C_drew ?_))); (case side2 => exact HC0.out); rintro e w17 ⟨v476, rfl, ho0, hb⟩; have n0_ := Aside0.mk (Kd.R_below (by (with_reducible repeat (first | apply Kd.R_alloc | apply Kd.R_drewN | apply Kd.R_drew)); exact HO468.out) hb); have n1_ := Aside0.mk (Kd.R_below (by (with_reducible repeat (first | apply Kd.R_alloc | apply Kd.R_drewN | apply Kd.R_drew)); exact HO471.out) hb); have n2_ := Aside0.mk (Kd.R_below (by (with_reducible repeat (first | apply Kd.R_alloc | apply Kd.R_drewN | apply Kd.R_drew)); exact HO474.out) hb); have n3_ := Aside0.mk (Kd.R_lower ho0 (below_size (by repeat (first | (with_reducible first | exact HB.out | apply below_alloc | apply pw_below_drewN | apply below_drew1) | exact HB.out)))); have n4_ := Aside0.mk (below_step (by repeat (first | (with_reducible first | exact HB.out | apply below_alloc | apply pw_below_drewN | apply below_drew1) | exact HB.out)) hb); clear HO468; clear HO471; clear HO474; clear HB; have HO468 := n0_; have HO471 := n1_; have HO474 := n2_; have HO477 := n3_; have HB := n4_; clear n0_ n1_ n2_ n3_ n4_; (try clear hb); (try clear hb2); (try clear hk); (try clear hi); (try clear ho0))))
        (try simp only [Act.put, List.setIfInBounds_toArray, List.set_cons_zero, List.set_cons_succ])
        go_cut [40] (fun v40 wc => ∃ (kq : Nat) (x40_12 : Bool), v40 = .bool x40_12 ∧ Aside0 (rubricklaw05_TokenPlaces.j1 kq t466 t469 t472 t475 x40_12 = some r) ∧ Aside0 (kq ≤ kj2) ∧ Aside0 (Kd.R (Kd.int .i64) 3 wc w.heap.size (fun k_ => some k_ ≠ (v470 : Value).ownBlock) v467 t466) ∧ Aside0 (Kd.R (Kd.int .i64) 3 wc w.heap.size (fun k_ => some k_ ≠ (v467 : Value).ownBlock) v470 t469) ∧ Aside0 (Kd.R k44 44 wc w.heap.size (fun _ => True) v473 t472) ∧ Aside0 (Kd.R k45 45 wc w.heap.size (fun _ => True) v476 t475) ∧ Aside0 (Below w.heap.size w wc))
        case first =>
          have H := HC13.out
          clear HC13
          by_cases c18 : (t466.length : Int) = (t469.length : Int)
          · rw [if_pos c18] at H
            have c18b0 : ((t466.length : Int) == (t469.length : Int)) = true := beq_iff_eq.mpr c18
            have c18b1 : ((t466.length : Int) != (t469.length : Int)) = false := bne_eq_false_iff_eq.mpr c18
            have c18b2 : (t466.length == t469.length) = true := by first | simpa using c18 | (simp at c18 ⊢; omega)
            clear c18
            (first | rw [c18b0] | (simp only [i64_w, i32_w]; rw [c18b0]) | skip)
            have H' := Aside0.mk H
            clear H
            obtain ⟨Ao19, co19, eo19⟩ := Kd.R_slice HO468.out
            subst eo19
            obtain ⟨Ao20, co20, eo20⟩ := Kd.R_slice HO471.out
            subst eo20
            obtain ⟨Ao21, co21, eo21⟩ := Kd.R_slice HO474.out
            subst eo21
            obtain ⟨Ao22, co22, eo22⟩ := Kd.R_slice HO477.out
            subst eo22
            go_wp2
            repeat (go_quiet (fail); try go_wp2)
            go_meet
            case rel => exact ⟨_, (((t472.length : Int) != (t475.length : Int))), (by first | rfl | (simp; done) | (simp [*]; done)), H', ⟨by have := HJ2.out; first | omega | exact Nat.le_refl _⟩, ⟨by (with_reducible repeat (first | apply Kd.R_alloc | apply Kd.R_drewN | apply Kd.R_drew)); exact Kd.R_mono HO468.out (fun _ hk => hk.2)⟩, ⟨by (with_reducible repeat (first | apply Kd.R_alloc | apply Kd.R_drewN | apply Kd.R_drew)); exact Kd.R_mono HO471.out (fun _ hk => hk.2)⟩, ⟨by (with_reducible repeat (first | apply Kd.R_alloc | apply Kd.R_drewN | apply Kd.R_drew)); exact HO474.out⟩, ⟨by (with_reducible repeat (first | apply Kd.R_alloc | apply Kd.R_drewN | apply Kd.R_drew)); exact HO477.out⟩, ⟨by repeat (first | (with_reducible first | exact HB.out | apply below_alloc | apply pw_below_drewN | apply below_drew1) | exact HB.out)⟩⟩
          · rw [if_neg c18] at H
            have c18b0 : ((t466.length : Int) == (t469.length : Int)) = false := beq_eq_false_iff_ne.mpr c18
            have c18b1 : ((t466.length : Int) != (t469.length : Int)) = true := bne_iff_ne.mpr c18
            have c18b2 : (t466.length == t469.length) = false := by first | simpa using c18 | (simp at c18 ⊢; omega)
            (first | rw [c18b0] | (simp only [i64_w, i32_w]; rw [c18b0]) | skip)
            have H' := Aside0.mk H
            clear H
            obtain ⟨Ao23, co23, eo23⟩ := Kd.R_slice HO468.out
            subst eo23
            obtain ⟨Ao24, co24, eo24⟩ := Kd.R_slice HO471.out
            subst eo24
            go_wp2
            repeat (go_quiet (fail); try go_wp2)
            go_meet
            case rel => exact ⟨_, (true), (by first | rfl | (simp; done) | (simp [*]; done)), H', ⟨by have := HJ2.out; first | omega | exact Nat.le_refl _⟩, ⟨by (with_reducible repeat (first | apply Kd.R_alloc | apply Kd.R_drewN | apply Kd.R_drew)); exact Kd.R_mono HO468.out (fun _ hk => hk.2)⟩, ⟨by (with_reducible repeat (first | apply Kd.R_alloc | apply Kd.R_drewN | apply Kd.R_drew)); exact Kd.R_mono HO471.out (fun _ hk => hk.2)⟩, ⟨by (with_reducible repeat (first | apply Kd.R_alloc | apply Kd.R_drewN | apply Kd.R_drew)); exact HO474.out⟩, ⟨by (with_reducible repeat (first | apply Kd.R_alloc | apply Kd.R_drewN | apply Kd.R_drew)); exact HO477.out⟩, ⟨by repeat (first | (with_reducible first | exact HB.out | apply below_alloc | apply pw_below_drewN | apply below_drew1) | exact HB.out)⟩⟩
        case rest =>
          clear HC13
          try clear c1
          try clear p2
          try clear c5
          try clear c6
          try clear c11
          try clear c18
          try clear c18b0
          try clear c18b1
          try clear c18b2
          try clear p2
          obtain ⟨kq, x40_12, rfl, HA, HJ12, HO_5, HO_6, HO_7, HO_8, HB⟩ := hcut
          cases kq with
          | zero => exact absurd HA.out (by simp [rubricklaw05_TokenPlaces.j1])
          | succ kj12 =>
            have H := HA.out
            clear HA
            simp only [rubricklaw05_TokenPlaces.j1] at H
            by_cases c25 : x40_12 = true
            · subst c25
              have H1 : (some false) = some r := by rw [if_pos rfl] at H; exact H
              clear H
              have H := H1
              clear H1
              obtain rfl := Option.some.inj H
              go_wp2
              repeat (go_quiet (fail); try go_wp2)
              go_ret
              exact ⟨by first | rfl | (simp [errW_none, errW_some] <;> rfl) | (simp [*, errW_none, errW_some] <;> rfl), by repeat (first | (with_reducible first | exact HB.out | apply below_alloc | apply pw_below_drewN | apply below_drew1) | exact HB.out)⟩
            · replace c25 := Bool.eq_false_iff.mpr c25
              subst c25
              have H1 : (rubricklaw05_TokenPlaces.l0 kj12 t466 t469 t472 t475 0) = some r := by rw [if_neg (show ¬ (false = true) by decide)] at H; exact H
              clear H
              have H := H1
              clear H1
              have H' := Aside0.mk H
              clear H
              go_wp2
              repeat (go_quiet (fail); try go_wp2)
              go_loopg [9] kj12 (fun kq v9 w' => ∃ (x9_3 : Int), v9 = .int .i64 x9_3 ∧ Aside0 (rubricklaw05_TokenPlaces.l0 kq t466 t469 t472 t475 x9_3 = some r) ∧ Aside0 (kq ≤ kj12) ∧ Aside0 (Kd.R (Kd.int .i64) 3 w' w.heap.size (fun k_ => some k_ ≠ (v470 : Value).ownBlock) v467 t466) ∧ Aside0 (Kd.R (Kd.int .i64) 3 w' w.heap.size (fun k_ => some k_ ≠ (v467 : Value).ownBlock) v470 t469) ∧ Aside0 (Kd.R k44 44 w' w.heap.size (fun _ => True) v473 t472) ∧ Aside0 (Kd.R k45 45 w' w.heap.size (fun _ => True) v476 t475) ∧ Aside0 (Below w.heap.size w w'))
              case atStart => exact ⟨(0), (by first | rfl | (simp; done) | (simp [*]; done)), H', ⟨Nat.le_refl _⟩, ⟨by (with_reducible repeat (first | apply Kd.R_alloc | apply Kd.R_drewN | apply Kd.R_drew)); exact HO_5.out⟩, ⟨by (with_reducible repeat (first | apply Kd.R_alloc | apply Kd.R_drewN | apply Kd.R_drew)); exact HO_6.out⟩, ⟨by (with_reducible repeat (first | apply Kd.R_alloc | apply Kd.R_drewN | apply Kd.R_drew)); exact HO_7.out⟩, ⟨by (with_reducible repeat (first | apply Kd.R_alloc | apply Kd.R_drewN | apply Kd.R_drew)); exact HO_8.out⟩, ⟨by repeat (first | (with_reducible first | exact HB.out | apply below_alloc | apply pw_below_drewN | apply below_drew1) | exact HB.out)⟩⟩
              case round =>
                clear H'
                try clear c1
                try clear c2
                try clear p2
                try clear c5
                try clear c6
                try clear c11
                try clear c18
                try clear c18b0
                try clear c18b1
                try clear c18b2
                try clear c25
                try clear p2
                obtain ⟨x9_3, rfl, HA, HK3, HO_5, HO_6, HO_7, HO_8, HB⟩ := hrel
                cases gk with
                | zero => exact absurd HA.out (by simp [rubricklaw05_TokenPlaces.l0])
                | succ k3 =>
                  have H := HA.out
                  clear HA
                  simp only [rubricklaw05_TokenPlaces.l0] at H
                  by_cases c26 : x9_3 < (t466.length : Int)
                  · rw [if_pos c26] at H
                    have c26b0 : decide (x9_3 < (t466.length : Int)) = true := decide_eq_true c26
                    clear c26
                    by_cases c27 : 0 ≤ x9_3
                    · rw [if_pos c27] at H
                      have c27b0 : decide (0 ≤ x9_3) = true := decide_eq_true c27
                      clear c27
                      by_cases c28 : x9_3 < (t469.length : Int)
                      · rw [if_pos c28] at H
                        have c28b0 : decide (x9_3 < (t469.length : Int)) = true := decide_eq_true c28
                        clear c28
                        by_cases c29 : (rd t466 x9_3) = (rd t469 x9_3)
                        · rw [if_pos c29] at H
                          have c29b0 : ((rd t466 x9_3) == (rd t469 x9_3)) = true := beq_iff_eq.mpr c29
                          have c29b1 : ((rd t466 x9_3) != (rd t469 x9_3)) = false := bne_eq_false_iff_eq.mpr c29
                          clear c29
                          have H' := Aside0.mk H
                          clear H
                          obtain ⟨Ao30, co30, eo30⟩ := Kd.R_slice HO_5.out
                          subst eo30
                          have p478 : 0 ≤ (x9_3 : Int) := of_decide_eq_true (by first | (with_reducible assumption) | assumption)
                          have q478 : x9_3 < (t466.length : Int) := of_decide_eq_true (by first | (with_reducible assumption) | assumption)
                          obtain ⟨ad478, e478, hx478_0⟩ := Kd.at_int (Kd.R_reads' HO_5.out).2.2 x9_3 p478 q478
                          cases e478
                          replace p478 := eq_true p478
                          replace q478 := eq_true q478
                          obtain ⟨Ao31, co31, eo31⟩ := Kd.R_slice HO_6.out
                          subst eo31
                          have p479 : 0 ≤ (x9_3 : Int) := of_decide_eq_true (by first | (with_reducible assumption) | assumption)
                          have q479 : x9_3 < (t469.length : Int) := of_decide_eq_true (by first | (with_reducible assumption) | assumption)
                          obtain ⟨ad479, e479, hx479_0⟩ := Kd.at_int (Kd.R_reads' HO_6.out).2.2 x9_3 p479 q479
                          cases e479
                          replace p479 := eq_true p479
                          replace q479 := eq_true q479
                          go_wp2
                          repeat (go_quiet (fail); try go_wp2)
                          go_roundg k3
                          case measure => have := HJ2.out; have := HJ12.out; have := HK3.out; omega
                          case rel => exact ⟨(wrap64 (x9_3 + 1)), (by first | rfl | (simp; done) | (simp [*]; done)), H', ⟨by have := HJ2.out; have := HJ12.out; have := HK3.out; omega⟩, ⟨by (with_reducible repeat (first | apply Kd.R_alloc | apply Kd.R_drewN | apply Kd.R_drew)); exact HO_5.out⟩, ⟨by (with_reducible repeat (first | apply Kd.R_alloc | apply Kd.R_drewN | apply Kd.R_drew)); exact HO_6.out⟩, ⟨by (with_reducible repeat (first | apply Kd.R_alloc | apply Kd.R_drewN | apply Kd.R_drew)); exact HO_7.out⟩, ⟨by (with_reducible repeat (first | apply Kd.R_alloc | apply Kd.R_drewN | apply Kd.R_drew)); exact HO_8.out⟩, ⟨by repeat (first | (with_reducible first | exact HB.out | apply below_alloc | apply pw_below_drewN | apply below_drew1) | exact HB.out)⟩⟩
                        · rw [if_neg c29] at H
                          have c29b0 : ((rd t466 x9_3) == (rd t469 x9_3)) = false := beq_eq_false_iff_ne.mpr c29
                          have c29b1 : ((rd t466 x9_3) != (rd t469 x9_3)) = true := bne_iff_ne.mpr c29
                          obtain rfl := Option.some.inj H
                          obtain ⟨Ao32, co32, eo32⟩ := Kd.R_slice HO_5.out
                          subst eo32
                          have p478 : 0 ≤ (x9_3 : Int) := of_decide_eq_true (by first | (with_reducible assumption) | assumption)
                          have q478 : x9_3 < (t466.length : Int) := of_decide_eq_true (by first | (with_reducible assumption) | assumption)
                          obtain ⟨ad478, e478, hx478_0⟩ := Kd.at_int (Kd.R_reads' HO_5.out).2.2 x9_3 p478 q478
                          cases e478
                          replace p478 := eq_true p478
                          replace q478 := eq_true q478
                          obtain ⟨Ao33, co33, eo33⟩ := Kd.R_slice HO_6.out
                          subst eo33
                          have p479 : 0 ≤ (x9_3 : Int) := of_decide_eq_true (by first | (with_reducible assumption) | assumption)
                          have q479 : x9_3 < (t469.length : Int) := of_decide_eq_true (by first | (with_reducible assumption) | assumption)
                          obtain ⟨ad479, e479, hx479_0⟩ := Kd.at_int (Kd.R_reads' HO_6.out).2.2 x9_3 p479 q479
                          cases e479
                          replace p479 := eq_true p479
                          replace q479 := eq_true q479
                          go_wp2
                          repeat (go_quiet (fail); try go_wp2)
                          go_ret
                          exact ⟨by first | rfl | (simp [errW_none, errW_some] <;> rfl) | (simp [*, errW_none, errW_some] <;> rfl), by repeat (first | (with_reducible first | exact HB.out | apply below_alloc | apply pw_below_drewN | apply below_drew1) | exact HB.out)⟩
                      · rw [if_neg c28] at H
                        exact absurd H (by simp)
                    · rw [if_neg c27] at H
                      exact absurd H (by simp)
                  · rw [if_neg c26] at H
                    have c26b0 : decide (x9_3 < (t466.length : Int)) = false := decide_eq_false c26
                    clear c26
                    have H' := Aside0.mk H
                    clear H
                    obtain ⟨Ao34, co34, eo34⟩ := Kd.R_slice HO_5.out
                    subst eo34
                    go_wp2
                    repeat (go_quiet (fail); try go_wp2)
                    go_loopg [10] k3 (fun kq v10 w' => ∃ (x10_4 : Int), v10 = .int .i64 x10_4 ∧ Aside0 (rubricklaw05_TokenPlaces.l1 kq t472 t475 x10_4 = some r) ∧ Aside0 (kq ≤ k3) ∧ Aside0 (Kd.R k44 44 w' w.heap.size (fun _ => True) v473 t472) ∧ Aside0 (Kd.R k45 45 w' w.heap.size (fun _ => True) v476 t475) ∧ Aside0 (Below w.heap.size w w'))
                    case atStart => exact ⟨(0), (by first | rfl | (simp; done) | (simp [*]; done)), H', ⟨Nat.le_refl _⟩, ⟨by (with_reducible repeat (first | apply Kd.R_alloc | apply Kd.R_drewN | apply Kd.R_drew)); exact HO_7.out⟩, ⟨by (with_reducible repeat (first | apply Kd.R_alloc | apply Kd.R_drewN | apply Kd.R_drew)); exact HO_8.out⟩, ⟨by repeat (first | (with_reducible first | exact HB.out | apply below_alloc | apply pw_below_drewN | apply below_drew1) | exact HB.out)⟩⟩
                    case round =>
                      clear H'
                      try clear c1
                      try clear c2
                      try clear p2
                      try clear p4
                      try clear q4
                      try clear hx4
                      try clear c5
                      try clear c6
                      try clear p6
                      try clear c11
                      try clear c18
                      try clear c18b0
                      try clear c18b1
                      try clear c18b2
                      try clear c25
                      try clear c26
                      try clear c26b0
                      try clear c27
                      try clear c27b0
                      try clear c28
                      try clear c28b0
                      try clear c29
                      try clear c29b0
                      try clear c29b1
                      try clear hx478_0
                      try clear hx479_0
                      try clear p2
                      try clear p478
                      try clear p479
                      try clear q478
                      try clear q479
                      obtain ⟨x10_4, rfl, HA, HK4, HO_7, HO_8, HB⟩ := hrel
                      cases gk with
                      | zero => exact absurd HA.out (by simp [rubricklaw05_TokenPlaces.l1])
                      | succ k4 =>
                        have H := HA.out
                        clear HA
                        simp only [rubricklaw05_TokenPlaces.l1] at H
                        by_cases c35 : x10_4 < (t472.length : Int)
                        · rw [if_pos c35] at H
                          have c35b0 : decide (x10_4 < (t472.length : Int)) = true := decide_eq_true c35
                          clear c35
                          by_cases c36 : 0 ≤ x10_4
                          · rw [if_pos c36] at H
                            have c36b0 : decide (0 ≤ x10_4) = true := decide_eq_true c36
                            clear c36
                            by_cases c37 : x10_4 < (t475.length : Int)
                            · rw [if_pos c37] at H
                              have c37b0 : decide (x10_4 < (t475.length : Int)) = true := decide_eq_true c37
                              clear c37
                              by_cases c38 : ((rd_T44 t472 x10_4).f0).toList = ((rd_T45 t475 x10_4).f0).toList
                              · rw [if_pos c38] at H
                                have c38b0 : (((rd_T44 t472 x10_4).f0).toList == ((rd_T45 t475 x10_4).f0).toList) = true := beq_iff_eq.mpr c38
                                have c38b1 : (((rd_T44 t472 x10_4).f0).toList != ((rd_T45 t475 x10_4).f0).toList) = false := bne_eq_false_iff_eq.mpr c38
                                clear c38
                                by_cases c39 : ((rd_T44 t472 x10_4).f1) = ((rd_T45 t475 x10_4).f1)
                                · rw [if_pos c39] at H
                                  have c39b0 : (((rd_T44 t472 x10_4).f1) == ((rd_T45 t475 x10_4).f1)) = true := beq_iff_eq.mpr c39
                                  have c39b1 : (((rd_T44 t472 x10_4).f1) != ((rd_T45 t475 x10_4).f1)) = false := bne_eq_false_iff_eq.mpr c39
                                  clear c39
                                  have H' := Aside0.mk H
                                  clear H
                                  obtain ⟨Ao40, co40, eo40⟩ := Kd.R_slice HO_7.out
                                  subst eo40
                                  have p480 : 0 ≤ (x10_4 : Int) := of_decide_eq_true (by first | (with_reducible assumption) | assumption)
                                  have q480 : x10_4 < (t472.length : Int) := of_decide_eq_true (by first | (with_reducible assumption) | assumption)
                                  obtain ⟨ad480, e480, hx480_0, hx480_1⟩ := at_T44 (Kd.R_reads' HO_7.out).2.2 x10_4 p480 q480
                                  cases e480
                                  replace p480 := eq_true p480
                                  replace q480 := eq_true q480
                                  obtain ⟨Ao41, co41, eo41⟩ := Kd.R_slice HO_8.out
                                  subst eo41
                                  have p481 : 0 ≤ (x10_4 : Int) := of_decide_eq_true (by first | (with_reducible assumption) | assumption)
                                  have q481 : x10_4 < (t475.length : Int) := of_decide_eq_true (by first | (with_reducible assumption) | assumption)
                                  obtain ⟨ad481, e481, hx481_0, hx481_1⟩ := at_T45 (Kd.R_reads' HO_8.out).2.2 x10_4 p481 q481
                                  cases e481
                                  replace p481 := eq_true p481
                                  replace q481 := eq_true q481
                                  have p482 : 0 ≤ (x10_4 : Int) := of_decide_eq_true (by first | (with_reducible assumption) | assumption)
                                  have q482 : x10_4 < (t472.length : Int) := of_decide_eq_true (by first | (with_reducible assumption) | assumption)
                                  obtain ⟨ad482, e482, hx482_0, hx482_1⟩ := at_T44 (Kd.R_reads' HO_7.out).2.2 x10_4 p482 q482
                                  obtain rfl : ad480 = ad482 := (by injection e482)
                                  replace p482 := eq_true p482
                                  replace q482 := eq_true q482
                                  have p483 : 0 ≤ (x10_4 : Int) := of_decide_eq_true (by first | (with_reducible assumption) | assumption)
                                  have q483 : x10_4 < (t475.length : Int) := of_decide_eq_true (by first | (with_reducible assumption) | assumption)
                                  obtain ⟨ad483, e483, hx483_0, hx483_1⟩ := at_T45 (Kd.R_reads' HO_8.out).2.2 x10_4 p483 q483
                                  obtain rfl : ad481 = ad483 := (by injection e483)
                                  replace p483 := eq_true p483
                                  replace q483 := eq_true q483
                                  go_wp2
                                  repeat (go_quiet (fail); try go_wp2)
                                  go_roundg k4
                                  case measure => have := HJ2.out; have := HJ12.out; have := HK3.out; have := HK4.out; omega
                                  case rel => exact ⟨(wrap64 (x10_4 + 1)), (by first | rfl | (simp; done) | (simp [*]; done)), H', ⟨by have := HJ2.out; have := HJ12.out; have := HK3.out; have := HK4.out; omega⟩, ⟨by (with_reducible repeat (first | apply Kd.R_alloc | apply Kd.R_drewN | apply Kd.R_drew)); exact HO_7.out⟩, ⟨by (with_reducible repeat (first | apply Kd.R_alloc | apply Kd.R_drewN | apply Kd.R_drew)); exact HO_8.out⟩, ⟨by repeat (first | (with_reducible first | exact HB.out | apply below_alloc | apply pw_below_drewN | apply below_drew1) | exact HB.out)⟩⟩
                                · rw [if_neg c39] at H
                                  have c39b0 : (((rd_T44 t472 x10_4).f1) == ((rd_T45 t475 x10_4).f1)) = false := beq_eq_false_iff_ne.mpr c39
                                  have c39b1 : (((rd_T44 t472 x10_4).f1) != ((rd_T45 t475 x10_4).f1)) = true := bne_iff_ne.mpr c39
                                  obtain rfl := Option.some.inj H
                                  obtain ⟨Ao42, co42, eo42⟩ := Kd.R_slice HO_7.out
                                  subst eo42
                                  have p480 : 0 ≤ (x10_4 : Int) := of_decide_eq_true (by first | (with_reducible assumption) | assumption)
                                  have q480 : x10_4 < (t472.length : Int) := of_decide_eq_true (by first | (with_reducible assumption) | assumption)
                                  obtain ⟨ad480, e480, hx480_0, hx480_1⟩ := at_T44 (Kd.R_reads' HO_7.out).2.2 x10_4 p480 q480
                                  cases e480
                                  replace p480 := eq_true p480
                                  replace q480 := eq_true q480
                                  obtain ⟨Ao43, co43, eo43⟩ := Kd.R_slice HO_8.out
                                  subst eo43
                                  have p481 : 0 ≤ (x10_4 : Int) := of_decide_eq_true (by first | (with_reducible assumption) | assumption)
                                  have q481 : x10_4 < (t475.length : Int) := of_decide_eq_true (by first | (with_reducible assumption) | assumption)
                                  obtain ⟨ad481, e481, hx481_0, hx481_1⟩ := at_T45 (Kd.R_reads' HO_8.out).2.2 x10_4 p481 q481
                                  cases e481
                                  replace p481 := eq_true p481
                                  replace q481 := eq_true q481
                                  have p482 : 0 ≤ (x10_4 : Int) := of_decide_eq_true (by first | (with_reducible assumption) | assumption)
                                  have q482 : x10_4 < (t472.length : Int) := of_decide_eq_true (by first | (with_reducible assumption) | assumption)
                                  obtain ⟨ad482, e482, hx482_0, hx482_1⟩ := at_T44 (Kd.R_reads' HO_7.out).2.2 x10_4 p482 q482
                                  obtain rfl : ad480 = ad482 := (by injection e482)
                                  replace p482 := eq_true p482
                                  replace q482 := eq_true q482
                                  have p483 : 0 ≤ (x10_4 : Int) := of_decide_eq_true (by first | (with_reducible assumption) | assumption)
                                  have q483 : x10_4 < (t475.length : Int) := of_decide_eq_true (by first | (with_reducible assumption) | assumption)
                                  obtain ⟨ad483, e483, hx483_0, hx483_1⟩ := at_T45 (Kd.R_reads' HO_8.out).2.2 x10_4 p483 q483
                                  obtain rfl : ad481 = ad483 := (by injection e483)
                                  replace p483 := eq_true p483
                                  replace q483 := eq_true q483
                                  go_wp2
                                  repeat (go_quiet (fail); try go_wp2)
                                  go_ret
                                  exact ⟨by first | rfl | (simp [errW_none, errW_some] <;> rfl) | (simp [*, errW_none, errW_some] <;> rfl), by repeat (first | (with_reducible first | exact HB.out | apply below_alloc | apply pw_below_drewN | apply below_drew1) | exact HB.out)⟩
                              · rw [if_neg c38] at H
                                have c38b0 : (((rd_T44 t472 x10_4).f0).toList == ((rd_T45 t475 x10_4).f0).toList) = false := beq_eq_false_iff_ne.mpr c38
                                have c38b1 : (((rd_T44 t472 x10_4).f0).toList != ((rd_T45 t475 x10_4).f0).toList) = true := bne_iff_ne.mpr c38
                                obtain rfl := Option.some.inj H
                                obtain ⟨Ao44, co44, eo44⟩ := Kd.R_slice HO_7.out
                                subst eo44
                                have p480 : 0 ≤ (x10_4 : Int) := of_decide_eq_true (by first | (with_reducible assumption) | assumption)
                                have q480 : x10_4 < (t472.length : Int) := of_decide_eq_true (by first | (with_reducible assumption) | assumption)
                                obtain ⟨ad480, e480, hx480_0, hx480_1⟩ := at_T44 (Kd.R_reads' HO_7.out).2.2 x10_4 p480 q480
                                cases e480
                                replace p480 := eq_true p480
                                replace q480 := eq_true q480
                                obtain ⟨Ao45, co45, eo45⟩ := Kd.R_slice HO_8.out
                                subst eo45
                                have p481 : 0 ≤ (x10_4 : Int) := of_decide_eq_true (by first | (with_reducible assumption) | assumption)
                                have q481 : x10_4 < (t475.length : Int) := of_decide_eq_true (by first | (with_reducible assumption) | assumption)
                                obtain ⟨ad481, e481, hx481_0, hx481_1⟩ := at_T45 (Kd.R_reads' HO_8.out).2.2 x10_4 p481 q481
                                cases e481
                                replace p481 := eq_true p481
                                replace q481 := eq_true q481
                                go_wp2
                                repeat (go_quiet (fail); try go_wp2)
                                go_ret
                                exact ⟨by first | rfl | (simp [errW_none, errW_some] <;> rfl) | (simp [*, errW_none, errW_some] <;> rfl), by repeat (first | (with_reducible first | exact HB.out | apply below_alloc | apply pw_below_drewN | apply below_drew1) | exact HB.out)⟩
                            · rw [if_neg c37] at H
                              exact absurd H (by simp)
                          · rw [if_neg c36] at H
                            exact absurd H (by simp)
                        · rw [if_neg c35] at H
                          have c35b0 : decide (x10_4 < (t472.length : Int)) = false := decide_eq_false c35
                          clear c35
                          replace H := Option.bind_eq_some_iff.mp H
                          obtain ⟨t484, A460, H⟩ := H
                          replace H : (some t484) = some r := H
                          have A46 := Aside0.mk A460
                          clear A460
                          obtain rfl := Option.some.inj H
                          obtain ⟨Ao47, co47, eo47⟩ := Kd.R_slice HO_7.out
                          subst eo47
                          go_wp2_with (first | (go_at_call 36; (with_reducible refine (rubricklaw05_knows.calls k4  t484 _ ?side1 A46.out).mono ?_); (case side1 => first | exact HG.out | exact G.below HG.out (by repeat (first | (with_reducible first | exact HB.out | apply below_alloc | apply pw_below_drewN | apply below_drew1) | exact HB.out)) | (repeat (first | exact HG.out | apply G.drewN | apply G.drew | apply G.alloc))); rintro e w48 ⟨rfl, hb⟩; have n0_ := Aside0.mk (Kd.R_below (by (with_reducible repeat (first | apply Kd.R_alloc | apply Kd.R_drewN | apply Kd.R_drew)); exact HO_7.out) hb); have n1_ := Aside0.mk (Kd.R_below (by (with_reducible repeat (first | apply Kd.R_alloc | apply Kd.R_drewN | apply Kd.R_drew)); exact HO_8.out) hb); have n2_ := Aside0.mk (below_step (by repeat (first | (with_reducible first | exact HB.out | apply below_alloc | apply pw_below_drewN | apply below_drew1) | exact HB.out)) hb); clear HO_7; clear HO_8; clear HB; have HO_7 := n0_; have HO_8 := n1_; have HB := n2_; clear n0_ n1_ n2_; (try clear hb); (try clear hb2); (try clear hk); (try clear hi)))
                          repeat (go_quiet (first | (go_at_call 36; (with_reducible refine (rubricklaw05_knows.calls k4  t484 _ ?side1 A46.out).mono ?_); (case side1 => first | exact HG.out | exact G.below HG.out (by repeat (first | (with_reducible first | exact HB.out | apply below_alloc | apply pw_below_drewN | apply below_drew1) | exact HB.out)) | (repeat (first | exact HG.out | apply G.drewN | apply G.drew | apply G.alloc))); rintro e w48 ⟨rfl, hb⟩; have n0_ := Aside0.mk (Kd.R_below (by (with_reducible repeat (first | apply Kd.R_alloc | apply Kd.R_drewN | apply Kd.R_drew)); exact HO_7.out) hb); have n1_ := Aside0.mk (Kd.R_below (by (with_reducible repeat (first | apply Kd.R_alloc | apply Kd.R_drewN | apply Kd.R_drew)); exact HO_8.out) hb); have n2_ := Aside0.mk (below_step (by repeat (first | (with_reducible first | exact HB.out | apply below_alloc | apply pw_below_drewN | apply below_drew1) | exact HB.out)) hb); clear HO_7; clear HO_8; clear HB; have HO_7 := n0_; have HO_8 := n1_; have HB := n2_; clear n0_ n1_ n2_; (try clear hb); (try clear hb2); (try clear hk); (try clear hi))); try go_wp2_with (first | (go_at_call 36; (with_reducible refine (rubricklaw05_knows.calls k4  t484 _ ?side1 A46.out).mono ?_); (case side1 => first | exact HG.out | exact G.below HG.out (by repeat (first | (with_reducible first | exact HB.out | apply below_alloc | apply pw_below_drewN | apply below_drew1) | exact HB.out)) | (repeat (first | exact HG.out | apply G.drewN | apply G.drew | apply G.alloc))); rintro e w48 ⟨rfl, hb⟩; have n0_ := Aside0.mk (Kd.R_below (by (with_reducible repeat (first | apply Kd.R_alloc | apply Kd.R_drewN | apply Kd.R_drew)); exact HO_7.out) hb); have n1_ := Aside0.mk (Kd.R_below (by (with_reducible repeat (first | apply Kd.R_alloc | apply Kd.R_drewN | apply Kd.R_drew)); exact HO_8.out) hb); have n2_ := Aside0.mk (below_step (by repeat (first | (with_reducible first | exact HB.out | apply below_alloc | apply pw_below_drewN | apply below_drew1) | exact HB.out)) hb); clear HO_7; clear HO_8; clear HB; have HO_7 := n0_; have HO_8 := n1_; have HB := n2_; clear n0_ n1_ n2_; (try clear hb); (try clear hb2); (try clear hk); (try clear hi))))
                          go_ret
                          exact ⟨by first | rfl | (simp [errW_none, errW_some] <;> rfl) | (simp [*, errW_none, errW_some] <;> rfl), by repeat (first | (with_reducible first | exact HB.out | apply below_alloc | apply pw_below_drewN | apply below_drew1) | exact HB.out)⟩

end Go.Proofs.YtiihoodnejcjgaaDoor.P
