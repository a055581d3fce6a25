-- Printed by this session's patched printer.
import Derived.Test.YtiplneodkcjkmaaPx0
import Derived.Test.YtiplneodkcjkmaaPxBlockRight
namespace Go.Proofs.Ytiplneodkcjkmaa.P
open Go.RowKit Go.Proofs.YtiplneodkcjkmaaW.PrintWords Go.Proofs.YtiplneodkcjkmaaW.PrintLast Go.Proofs.YtiplneodkcjkmaaW.PrintMore
attribute [local go_sem] Go.Instr.field Go.part Go.asAgg max2_int min2_int max_two min_two max_three min_three max_four min_four   -- for this text's walks alone
set_option linter.unusedVariables false
set_option linter.unusedSimpArgs false

/-! ### block_Read: function 11 -/
mutual
def block_Read.j0 : Nat → Int → Bool → List (List Int) → List (S57) → Option (List Int × Int)
  | 0, _, _, _, _ => none
  | k + 1, x1, x20, x109000, x109001 => if x20 = true then (some (([] : List Int), 1)) else (block_Read.l0 k x1 (wrap64 ((x109001.length : Int) - 1)) x109000 x109001)
def block_Read.l0 : Nat → Int → Int → List (List Int) → List (S57) → Option (List Int × Int)
  | 0, _, _, _, _ => none
  | k + 1, x1, x6, x109000, x109001 => if x6 ≥ 0 then (if 0 ≤ x6 then (if x6 < (x109001.length : Int) then (if ((rd_T57 x109001 x6).f0) = x1 then ((some (([] : List Int) : List Int)).bind fun y111 => (if y111.length + ((rd_T57 x109001 x6).f1).length < 140737488355328 then (some ((y111 ++ ((rd_T57 x109001 x6).f1)), 0)) else (none))) else (block_Read.l0 k x1 (wrap64 (x6 - 1)) x109000 x109001)) else (none)) else (none)) else ((some (([] : List Int) : List Int)).bind fun y118 => (if 0 ≤ x1 then (if x1 < (x109000.length : Int) then (if y118.length + (rd_L1 x109000 x1).length < 140737488355328 then (some ((y118 ++ (rd_L1 x109000 x1)), 0)) else (none)) else (none)) else (none)))
end
def block_Read.f (k : Nat) (l0_0 : List (List Int)) (l0_1 : List (S57)) (a1 : Int) : Option (List Int × Int) := (block_Right.f k l0_0 l0_1).bind fun t109 => (if t109 = true then (if a1 < 0 then (block_Read.j0 k a1 true l0_0 l0_1) else (block_Read.j0 k a1 (decide (a1 ≥ (l0_0.length : Int))) l0_0 l0_1)) else (block_Read.j0 k a1 true l0_0 l0_1))
theorem block_Read.mono_l : ∀ k, (∀ y0 y1 y2 y3, LeO (block_Read.j0 k y0 y1 y2 y3) (block_Read.j0 (k + 1) y0 y1 y2 y3)) ∧ (∀ y0 y1 y2 y3, LeO (block_Read.l0 k y0 y1 y2 y3) (block_Read.l0 (k + 1) y0 y1 y2 y3))
  | 0 => ⟨fun _ _ _ _ r h => by simp [block_Read.j0] at h, fun _ _ _ _ r h => by simp [block_Read.l0] at h⟩
  | k + 1 => by
    obtain ⟨ih0, ih1⟩ := block_Read.mono_l k
    refine ⟨?_, ?_⟩
    · intro y0 y1 y2 y3
      unfold block_Read.j0
      repeat' first
      | (with_reducible exact ih0 _ _ _ _)
      | (with_reducible exact ih1 _ _ _ _)
      | (with_reducible exact block_Right.mono _ _ _)
      | (with_reducible exact LeO.refl _)
      | (with_reducible exact LeO.none _)
      | (with_reducible refine LeO.ite ?_ ?_)
      | (with_reducible refine LeO.bind ?_ (fun _ => ?_))
      | exact ih0 _ _ _ _
      | exact ih1 _ _ _ _
      | exact block_Right.mono _ _ _
      | exact LeO.none _
      | refine LeO.ite ?_ ?_
      | refine LeO.bind ?_ (fun _ => ?_)
    · intro y0 y1 y2 y3
      unfold block_Read.l0
      repeat' first
      | (with_reducible exact ih0 _ _ _ _)
      | (with_reducible exact ih1 _ _ _ _)
      | (with_reducible exact block_Right.mono _ _ _)
      | (with_reducible exact LeO.refl _)
      | (with_reducible exact LeO.none _)
      | (with_reducible refine LeO.ite ?_ ?_)
      | (with_reducible refine LeO.bind ?_ (fun _ => ?_))
      | exact ih0 _ _ _ _
      | exact ih1 _ _ _ _
      | exact block_Right.mono _ _ _
      | exact LeO.none _
      | refine LeO.ite ?_ ?_
      | refine LeO.bind ?_ (fun _ => ?_)
theorem block_Read.mono : ∀ a0 a1 a2 k, LeO (block_Read.f k a0 a1 a2) (block_Read.f (k + 1) a0 a1 a2) := by
  intro a0 a1 a2 k
  obtain ⟨ih0, ih1⟩ := block_Read.mono_l k
  unfold block_Read.f
  repeat' first
      | (with_reducible exact ih0 _ _ _ _)
      | (with_reducible exact ih1 _ _ _ _)
      | (with_reducible exact block_Right.mono _ _ _)
      | (with_reducible exact LeO.refl _)
      | (with_reducible exact LeO.none _)
      | (with_reducible refine LeO.ite ?_ ?_)
      | (with_reducible refine LeO.bind ?_ (fun _ => ?_))
      | exact ih0 _ _ _ _
      | exact ih1 _ _ _ _
      | exact block_Right.mono _ _ _
      | exact LeO.none _
      | refine LeO.ite ?_ ?_
      | refine LeO.bind ?_ (fun _ => ?_)
set_option maxHeartbeats 8000000 in
set_option maxRecDepth 100000 in
theorem block_Read.calls (k : Nat) (A0_0 : Option Addr) (c0_0 : Nat) (l0_0 : List (List Int)) (A0_1 : Option Addr) (c0_1 : Nat) (l0_1 : List (S57)) (a1 : Int) (r1 : List Int) (r2 : Int) (w : World) (hr0_0 : Kd.C (Kd.slice 5 (Kd.int .u8)) w A0_0 l0_0.length l0_0) (hc0_0 : l0_0.length ≤ c0_0) (hr0_1 : Kd.C k57 w A0_1 l0_1.length l0_1) (hc0_1 : l0_1.length ≤ c0_1) (h : block_Read.f k l0_0 l0_1 a1 = some (r1, r2)) :
    Calls Try.prog 11 #[.agg #[.slice A0_0 l0_0.length c0_0, .slice A0_1 l0_1.length c0_1], .int .i64 a1] w fun e w' => ∃ v0_ : Value, e = .returned (.tuple #[v0_, .int .i64 r2]) ∧ Kd.R (Kd.int .u8) 5 w' w.heap.size (fun _ => True) v0_ r1 ∧ Below w.heap.size w w' := by
  have hu25 := Try.underlying25
  have HR0_0 := Aside0.mk hr0_0
  have HC0_0 := Aside0.mk hc0_0
  clear hr0_0 hc0_0
  have HR0_1 := Aside0.mk hr0_1
  have HC0_1 := Aside0.mk hc0_1
  clear hr0_1 hc0_1
  have HB := Aside0.mk (Below.refl w.heap.size w)
  have H : ((block_Right.f k l0_0 l0_1).bind fun t109 => (if t109 = true then (if a1 < 0 then (block_Read.j0 k a1 true l0_0 l0_1) else (block_Read.j0 k a1 (decide (a1 ≥ (l0_0.length : Int))) l0_0 l0_1)) else (block_Read.j0 k a1 true l0_0 l0_1))) = some (r1, r2) := h
  clear h
  have HC3 := Aside0.mk H
  clear H
  go_enter Try.func11, Try.ntmps11
  go_upto_region 1 with (first | ((with_reducible refine gate_dst (N := 2) rfl ?_); (try (refine gate_guard (by rfl) ?_; dsimp only)); refine box_event ?hg (N := 2) ?hd (cs := #[.slice A0_0 l0_0.length c0_0, .slice A0_1 l0_1.length c0_1]) (t := 25) ?hr ?_; (case hd => rfl); (case hg => rfl); (case hr => first | (go_simp; done) | (go_simp; rfl)); intro gb108 hg w4 hbox hb; have n0_ := Aside0.mk (below_step (by repeat (first | (with_reducible first | exact HB.out | apply below_alloc | apply pw_below_drewN | apply below_drew1) | exact HB.out)) hb); have n1_ := Aside0.mk (hbox); have n2_ := Aside0.mk ((by rw [hg]; exact (below_size (by repeat (first | (with_reducible first | exact HB.out | apply below_alloc | apply pw_below_drewN | apply below_drew1) | exact HB.out))) : w.heap.size ≤ gb108)); have n3_ := Aside0.mk ((by rw [hg]; exact (below_size (by repeat (first | (with_reducible first | exact HB.out | apply below_alloc | apply pw_below_drewN | apply below_drew1) | exact HB.out))) : w.heap.size ≤ gb108)); clear HB; have HB := n0_; have BK108 := n1_; have GW108 := n2_; have GE108 := n3_; clear n0_ n1_ n2_ n3_; clear hb hbox hg))
  (try simp only [Act.put, List.setIfInBounds_toArray, List.set_cons_zero, List.set_cons_succ])
  go_cut [20] (fun v20 wc => ∃ (kq : Nat) (x20_2 : Bool), v20 = .bool x20_2 ∧ Aside0 (block_Read.j0 kq a1 x20_2 l0_0 l0_1 = some (r1, r2)) ∧ Aside0 (kq ≤ k) ∧ Aside0 (wc.heap[gb108]? = some (.cells #[(.slice A0_0 l0_0.length c0_0), (.slice A0_1 l0_1.length c0_1)] 25 (0, 0))) ∧ Aside0 (Below w.heap.size w wc))
  case first =>
    have H := HC3.out
    clear HC3
    replace H := Option.bind_eq_some_iff.mp H
    obtain ⟨t109, A50, H⟩ := H
    replace H : (if t109 = true then (if a1 < 0 then (block_Read.j0 k a1 true l0_0 l0_1) else (block_Read.j0 k a1 (decide (a1 ≥ (l0_0.length : Int))) l0_0 l0_1)) else (block_Read.j0 k a1 true l0_0 l0_1)) = some (r1, r2) := H
    have A5 := Aside0.mk A50
    clear A50
    by_cases c6 : t109 = true
    · subst c6
      have H1 : (if a1 < 0 then (block_Read.j0 k a1 true l0_0 l0_1) else (block_Read.j0 k a1 (decide (a1 ≥ (l0_0.length : Int))) l0_0 l0_1)) = some (r1, r2) := by rw [if_pos rfl] at H; exact H
      clear H
      have H := H1
      clear H1
      by_cases c7 : a1 < 0
      · rw [if_pos c7] at H
        have c7b0 : decide (a1 < 0) = true := decide_eq_true c7
        clear c7
        (first | rw [c7b0] | (simp only [i64_w, i32_w]; rw [c7b0]) | skip)
        have H' := Aside0.mk H
        clear H
        have hcz8_0 : w4.cell? ⟨gb108, 0, none⟩ = some (.slice A0_0 l0_0.length c0_0) := (blk_cell BK108.out 0).trans rfl
        have hcz8_1 : w4.cell? ⟨gb108, 1, none⟩ = some (.slice A0_1 l0_1.length c0_1) := (blk_cell BK108.out 1).trans rfl
        have hfz8_0 := blk_frozen BK108.out 0
        have hfz8_1 := blk_frozen BK108.out 1
        go_wp2_with (first | ((with_reducible refine gate_callee (f := 13) rfl ?_); refine goesL_ (some 8) rfl rfl Try.func13 (by kernel_rfl) rfl #[.agg #[.slice A0_0 l0_0.length c0_0, .slice A0_1 l0_1.length c0_1]] rfl (by (try simp only [List.map_toArray, List.map_cons, List.map_nil]); first | done | rfl | (simp only [List.length_drop, List.length_take]; rfl)) ?_; (with_reducible refine (block_Right.calls k _ _ l0_0 _ _ l0_1 true _ ?side1 ?side2 ?side3 ?side4 A5.out).mono ?_); (case side1 => repeat (first | exact (Kd.C_below HR0_0.out HB.out) | (with_reducible refine Kd.C_alloc ?_ _) | (with_reducible refine Kd.C_drewN ?_ _) | (with_reducible refine Kd.C_drew ?_))); (case side2 => exact HC0_0.out); (case side3 => repeat (first | exact (Kd.C_below HR0_1.out HB.out) | (with_reducible refine Kd.C_alloc ?_ _) | (with_reducible refine Kd.C_drewN ?_ _) | (with_reducible refine Kd.C_drew ?_))); (case side4 => exact HC0_1.out); rintro e w9 ⟨rfl, hb⟩; refine ⟨_, rfl, ?_⟩; have n0_ := Aside0.mk (blk_below (g := gb108) (o := .cells #[.slice A0_0 l0_0.length c0_0, .slice A0_1 l0_1.length c0_1] 25 (0, 0)) (by (with_reducible repeat (first | refine blk_drewN ?_ _ | refine blk_drew ?_ | refine blk_alloc ?_ _)); exact BK108.out) hb); have n1_ := Aside0.mk (below_step (by repeat (first | (with_reducible first | exact HB.out | apply below_alloc | apply pw_below_drewN | apply below_drew1 | refine below_set ?_ GE108.out) | exact HB.out)) hb); clear BK108; clear HB; have BK108 := n0_; have HB := n1_; clear n0_ n1_; (try clear hb); (try clear hb2); (try clear hk); (try clear hi)))
        go_meet
        case rel => exact ⟨_, (true), (by first | rfl | (simp; done) | (simp [*]; done)), H', ⟨by first | omega | exact Nat.le_refl _⟩, ⟨by (with_reducible repeat (first | refine blk_drewN ?_ _ | refine blk_drew ?_ | refine blk_alloc ?_ _)); exact BK108.out⟩, ⟨by repeat (first | (with_reducible first | exact HB.out | apply below_alloc | apply pw_below_drewN | apply below_drew1 | refine below_set ?_ GE108.out) | exact HB.out)⟩⟩
      · rw [if_neg c7] at H
        have c7b0 : decide (a1 < 0) = false := decide_eq_false c7
        clear c7
        (first | rw [c7b0] | (simp only [i64_w, i32_w]; rw [c7b0]) | skip)
        have H' := Aside0.mk H
        clear H
        have hcz10_0 : w4.cell? ⟨gb108, 0, none⟩ = some (.slice A0_0 l0_0.length c0_0) := (blk_cell BK108.out 0).trans rfl
        have hcz10_1 : w4.cell? ⟨gb108, 1, none⟩ = some (.slice A0_1 l0_1.length c0_1) := (blk_cell BK108.out 1).trans rfl
        have hfz10_0 := blk_frozen BK108.out 0
        have hfz10_1 := blk_frozen BK108.out 1
        go_wp2_with (first | ((with_reducible refine gate_callee (f := 13) rfl ?_); refine goesL_ (some 8) rfl rfl Try.func13 (by kernel_rfl) rfl #[.agg #[.slice A0_0 l0_0.length c0_0, .slice A0_1 l0_1.length c0_1]] rfl (by (try simp only [List.map_toArray, List.map_cons, List.map_nil]); first | done | rfl | (simp only [List.length_drop, List.length_take]; rfl)) ?_; (with_reducible refine (block_Right.calls k _ _ l0_0 _ _ l0_1 true _ ?side1 ?side2 ?side3 ?side4 A5.out).mono ?_); (case side1 => repeat (first | exact (Kd.C_below HR0_0.out HB.out) | (with_reducible refine Kd.C_alloc ?_ _) | (with_reducible refine Kd.C_drewN ?_ _) | (with_reducible refine Kd.C_drew ?_))); (case side2 => exact HC0_0.out); (case side3 => repeat (first | exact (Kd.C_below HR0_1.out HB.out) | (with_reducible refine Kd.C_alloc ?_ _) | (with_reducible refine Kd.C_drewN ?_ _) | (with_reducible refine Kd.C_drew ?_))); (case side4 => exact HC0_1.out); rintro e w11 ⟨rfl, hb⟩; refine ⟨_, rfl, ?_⟩; have n0_ := Aside0.mk (blk_below (g := gb108) (o := .cells #[.slice A0_0 l0_0.length c0_0, .slice A0_1 l0_1.length c0_1] 25 (0, 0)) (by (with_reducible repeat (first | refine blk_drewN ?_ _ | refine blk_drew ?_ | refine blk_alloc ?_ _)); exact BK108.out) hb); have n1_ := Aside0.mk (below_step (by repeat (first | (with_reducible first | exact HB.out | apply below_alloc | apply pw_below_drewN | apply below_drew1 | refine below_set ?_ GE108.out) | exact HB.out)) hb); clear BK108; clear HB; have BK108 := n0_; have HB := n1_; clear n0_ n1_; (try clear hb); (try clear hb2); (try clear hk); (try clear hi); have hcz12_0 : w11.cell? ⟨gb108, 0, none⟩ = some (.slice A0_0 l0_0.length c0_0) := (blk_cell BK108.out 0).trans rfl; have hcz12_1 : w11.cell? ⟨gb108, 1, none⟩ = some (.slice A0_1 l0_1.length c0_1) := (blk_cell BK108.out 1).trans rfl; have hfz12_0 := blk_frozen BK108.out 0; have hfz12_1 := blk_frozen BK108.out 1))
        go_meet
        case rel => exact ⟨_, (decide (a1 ≥ (l0_0.length : Int))), (by first | rfl | (simp; done) | (simp [*]; done)), H', ⟨by first | omega | exact Nat.le_refl _⟩, ⟨by (with_reducible repeat (first | refine blk_drewN ?_ _ | refine blk_drew ?_ | refine blk_alloc ?_ _)); exact BK108.out⟩, ⟨by repeat (first | (with_reducible first | exact HB.out | apply below_alloc | apply pw_below_drewN | apply below_drew1 | refine below_set ?_ GE108.out) | exact HB.out)⟩⟩
    · replace c6 := Bool.eq_false_iff.mpr c6
      subst c6
      have H1 : (block_Read.j0 k a1 true l0_0 l0_1) = some (r1, r2) := by rw [if_neg (show ¬ (false = true) by decide)] at H; exact H
      clear H
      have H := H1
      clear H1
      have H' := Aside0.mk H
      clear H
      have hcz13_0 : w4.cell? ⟨gb108, 0, none⟩ = some (.slice A0_0 l0_0.length c0_0) := (blk_cell BK108.out 0).trans rfl
      have hcz13_1 : w4.cell? ⟨gb108, 1, none⟩ = some (.slice A0_1 l0_1.length c0_1) := (blk_cell BK108.out 1).trans rfl
      have hfz13_0 := blk_frozen BK108.out 0
      have hfz13_1 := blk_frozen BK108.out 1
      go_wp2_with (first | ((with_reducible refine gate_callee (f := 13) rfl ?_); refine goesL_ (some 8) rfl rfl Try.func13 (by kernel_rfl) rfl #[.agg #[.slice A0_0 l0_0.length c0_0, .slice A0_1 l0_1.length c0_1]] rfl (by (try simp only [List.map_toArray, List.map_cons, List.map_nil]); first | done | rfl | (simp only [List.length_drop, List.length_take]; rfl)) ?_; (with_reducible refine (block_Right.calls k _ _ l0_0 _ _ l0_1 false _ ?side1 ?side2 ?side3 ?side4 A5.out).mono ?_); (case side1 => repeat (first | exact (Kd.C_below HR0_0.out HB.out) | (with_reducible refine Kd.C_alloc ?_ _) | (with_reducible refine Kd.C_drewN ?_ _) | (with_reducible refine Kd.C_drew ?_))); (case side2 => exact HC0_0.out); (case side3 => repeat (first | exact (Kd.C_below HR0_1.out HB.out) | (with_reducible refine Kd.C_alloc ?_ _) | (with_reducible refine Kd.C_drewN ?_ _) | (with_reducible refine Kd.C_drew ?_))); (case side4 => exact HC0_1.out); rintro e w14 ⟨rfl, hb⟩; refine ⟨_, rfl, ?_⟩; have n0_ := Aside0.mk (blk_below (g := gb108) (o := .cells #[.slice A0_0 l0_0.length c0_0, .slice A0_1 l0_1.length c0_1] 25 (0, 0)) (by (with_reducible repeat (first | refine blk_drewN ?_ _ | refine blk_drew ?_ | refine blk_alloc ?_ _)); exact BK108.out) hb); have n1_ := Aside0.mk (below_step (by repeat (first | (with_reducible first | exact HB.out | apply below_alloc | apply pw_below_drewN | apply below_drew1 | refine below_set ?_ GE108.out) | exact HB.out)) hb); clear BK108; clear HB; have BK108 := n0_; have HB := n1_; clear n0_ n1_; (try clear hb); (try clear hb2); (try clear hk); (try clear hi)))
      go_meet
      case rel => exact ⟨_, (true), (by first | rfl | (simp; done) | (simp [*]; done)), H', ⟨by first | omega | exact Nat.le_refl _⟩, ⟨by (with_reducible repeat (first | refine blk_drewN ?_ _ | refine blk_drew ?_ | refine blk_alloc ?_ _)); exact BK108.out⟩, ⟨by repeat (first | (with_reducible first | exact HB.out | apply below_alloc | apply pw_below_drewN | apply below_drew1 | refine below_set ?_ GE108.out) | exact HB.out)⟩⟩
  case rest =>
    clear HC3
    try clear c1
    try clear p2
    try clear c6
    try clear c7
    try clear c7b0
    try clear c11
    try clear c13
    try clear hcz10_0
    try clear hcz10_1
    try clear hcz12_0
    try clear hcz12_1
    try clear hcz13_0
    try clear hcz13_1
    try clear hcz8_0
    try clear hcz8_1
    try clear hfz10_0
    try clear hfz10_1
    try clear hfz12_0
    try clear hfz12_1
    try clear hfz13_0
    try clear hfz13_1
    try clear hfz8_0
    try clear hfz8_1
    obtain ⟨kq, x20_2, rfl, HA, HJ2, BK108, HB⟩ := hcut
    cases kq with
    | zero => exact absurd HA.out (by simp [block_Read.j0])
    | succ kj2 =>
      have H := HA.out
      clear HA
      simp only [block_Read.j0] at H
      by_cases c15 : x20_2 = true
      · subst c15
        have H1 : (some (([] : List Int), 1)) = some (r1, r2) := by rw [if_pos rfl] at H; exact H
        clear H
        have H := H1
        clear H1
        simp only [Option.some.injEq, Prod.mk.injEq] at H
        obtain ⟨rfl, rfl⟩ := H
        go_wp2
        go_ret2
        exact ⟨_, by first | rfl | (simp [errW_none, errW_some] <;> rfl) | (simp [*, errW_none, errW_some] <;> rfl), by first | exact Kd.R_nil _ _ _ _ _ | exact Kd.N_nil _ _ _ _ _ | exact Kd.V_nil _ _ _ _ _ | exact Kd.Q_nil _ _ _ _ _ | exact Kd.S_nil _ _ _ _ _, by repeat (first | (with_reducible first | exact HB.out | apply below_alloc | apply pw_below_drewN | apply below_drew1 | refine below_set ?_ GE108.out) | exact HB.out)⟩
      · replace c15 := Bool.eq_false_iff.mpr c15
        subst c15
        have H1 : (block_Read.l0 kj2 a1 (wrap64 ((l0_1.length : Int) - 1)) l0_0 l0_1) = some (r1, r2) := by rw [if_neg (show ¬ (false = true) by decide)] at H; exact H
        clear H
        have H := H1
        clear H1
        have H' := Aside0.mk H
        clear H
        have hcz16_0 : wc.cell? ⟨gb108, 0, none⟩ = some (.slice A0_0 l0_0.length c0_0) := (blk_cell BK108.out 0).trans rfl
        have hcz16_1 : wc.cell? ⟨gb108, 1, none⟩ = some (.slice A0_1 l0_1.length c0_1) := (blk_cell BK108.out 1).trans rfl
        have hfz16_0 := blk_frozen BK108.out 0
        have hfz16_1 := blk_frozen BK108.out 1
        go_wp2
        go_loopg [6] kj2 (fun kq v6 w' => ∃ (x6_2 : Int), v6 = .int .i64 x6_2 ∧ Aside0 (block_Read.l0 kq a1 x6_2 l0_0 l0_1 = some (r1, r2)) ∧ Aside0 (kq ≤ kj2) ∧ Aside0 (w'.heap[gb108]? = some (.cells #[(.slice A0_0 l0_0.length c0_0), (.slice A0_1 l0_1.length c0_1)] 25 (0, 0))) ∧ Aside0 (Below w.heap.size w w'))
        case atStart => exact ⟨(wrap64 ((l0_1.length : Int) - 1)), (by first | rfl | (simp; done) | (simp [*]; done)), H', ⟨Nat.le_refl _⟩, ⟨by (with_reducible repeat (first | refine blk_drewN ?_ _ | refine blk_drew ?_ | refine blk_alloc ?_ _)); exact BK108.out⟩, ⟨by repeat (first | (with_reducible first | exact HB.out | apply below_alloc | apply pw_below_drewN | apply below_drew1 | refine below_set ?_ GE108.out) | exact HB.out)⟩⟩
        case round =>
          clear H'
          try clear c1
          try clear p2
          try clear c6
          try clear p6
          try clear c7
          try clear c7b0
          try clear c11
          try clear c13
          try clear c15
          try clear hcz10_0
          try clear hcz10_1
          try clear hcz12_0
          try clear hcz12_1
          try clear hcz13_0
          try clear hcz13_1
          try clear hcz16_0
          try clear hcz16_1
          try clear hcz8_0
          try clear hcz8_1
          try clear hfz10_0
          try clear hfz10_1
          try clear hfz12_0
          try clear hfz12_1
          try clear hfz13_0
          try clear hfz13_1
          try clear hfz16_0
          try clear hfz16_1
          try clear hfz8_0
          try clear hfz8_1
          try clear p2
          obtain ⟨x6_2, rfl, HA, HK2, BK108, HB⟩ := hrel
          cases gk with
          | zero => exact absurd HA.out (by simp [block_Read.l0])
          | succ k2 =>
            have H := HA.out
            clear HA
            simp only [block_Read.l0] at H
            by_cases c17 : x6_2 ≥ 0
            · rw [if_pos c17] at H
              have c17b0 : decide (0 ≤ x6_2) = true := decide_eq_true c17
              clear c17
              by_cases c18 : 0 ≤ x6_2
              · rw [if_pos c18] at H
                have c18b0 : decide (0 ≤ x6_2) = true := decide_eq_true c18
                clear c18
                by_cases c19 : x6_2 < (l0_1.length : Int)
                · rw [if_pos c19] at H
                  have c19b0 : decide (x6_2 < (l0_1.length : Int)) = true := decide_eq_true c19
                  clear c19
                  by_cases c20 : ((rd_T57 l0_1 x6_2).f0) = a1
                  · rw [if_pos c20] at H
                    have c20b0 : (((rd_T57 l0_1 x6_2).f0) == a1) = true := beq_iff_eq.mpr c20
                    have c20b1 : (((rd_T57 l0_1 x6_2).f0) != a1) = false := bne_eq_false_iff_eq.mpr c20
                    clear c20
                    obtain ⟨y111, hy111⟩ : ∃ y_ : List Int, y_ = (([] : List Int)) := ⟨_, rfl⟩
                    replace H : (if y111.length + ((rd_T57 l0_1 x6_2).f1).length < 140737488355328 then (some ((y111 ++ ((rd_T57 l0_1 x6_2).f1)), 0)) else (none)) = some (r1, r2) := by first | (rw [hy111]; with_reducible exact H) | (have H2_ := (Option.bind_some _ _).symm.trans H; rw [hy111]; with_reducible exact H2_) | (have H2_ := (Option.bind_some _ _).symm.trans H; with_reducible exact H2_) | with_reducible exact H | (rw [hy111]; exact H) | exact H
                    have Ny111 := Aside0.mk hy111
                    clear hy111
                    by_cases c21 : y111.length + ((rd_T57 l0_1 x6_2).f1).length < 140737488355328
                    · rw [if_pos c21] at H
                      have LMc21 := Aside0.mk c21
                      clear c21
                      obtain ⟨y115, hy115⟩ : ∃ y_ : List Int, y_ = (y111 ++ ((rd_T57 l0_1 x6_2).f1)) := ⟨_, rfl⟩
                      replace H : (some (y115, 0)) = some (r1, r2) := by first | (rw [hy115]; with_reducible exact H) | (have H2_ := (Option.bind_some _ _).symm.trans H; rw [hy115]; with_reducible exact H2_) | (have H2_ := (Option.bind_some _ _).symm.trans H; with_reducible exact H2_) | with_reducible exact H | (rw [hy115]; exact H) | exact H
                      have Ny115 := Aside0.mk hy115
                      clear hy115
                      simp only [Option.some.injEq, Prod.mk.injEq] at H
                      obtain ⟨rfl, rfl⟩ := H
                      have hcz22_0 : wr.cell? ⟨gb108, 0, none⟩ = some (.slice A0_0 l0_0.length c0_0) := (blk_cell BK108.out 0).trans rfl
                      have hcz22_1 : wr.cell? ⟨gb108, 1, none⟩ = some (.slice A0_1 l0_1.length c0_1) := (blk_cell BK108.out 1).trans rfl
                      have hfz22_0 := blk_frozen BK108.out 0
                      have hfz22_1 := blk_frozen BK108.out 1
                      have p110 : 0 ≤ (x6_2 : Int) := of_decide_eq_true (by first | (with_reducible assumption) | assumption)
                      have q110 : x6_2 < (l0_1.length : Int) := of_decide_eq_true (by first | (with_reducible assumption) | assumption)
                      obtain ⟨ad110, A110_1, c110_1, e110, hx110_0, hx110_1, hl110_1, hi110_1⟩ := at_T57 HR0_1.out x6_2 p110 q110
                      cases e110
                      replace hx110_0 := (HB.out.cell (World.block_lt_of_cell? w _ hx110_0)).trans hx110_0
                      replace hx110_1 := (HB.out.cell (World.block_lt_of_cell? w _ hx110_1)).trans hx110_1
                      have HR110_1 := Aside0.mk hi110_1
                      have HC110_1 := Aside0.mk hl110_1
                      clear hi110_1 hl110_1
                      replace p110 := eq_true p110
                      replace q110 := eq_true q110
                      go_wp2_with (first | ((with_reducible refine gate_dst (N := 37) rfl ?_); (try (refine gate_guard (by rfl) ?_; dsimp only)); refine Kd.R_lit (Kd.int .u8) _ 5 ?hg (N := 37) ?hd (xs := ([] : List Int)) (inner := []) (ok := fun _ => True) (okp := fun _ => True) ?hr ?hp (fun _ hk => hk) trivial (Below.refl _ _) (Nat.le_refl _) (by simp) ?_; (case hd => rfl); (case hg => rfl); (case hr => first | (go_simp; done) | (go_simp; rfl)); (case hp => exact (Reps.none _ _)); intro v112 w23 ho24 hb hg_ hnew_; clear hg_ hnew_; (first | rw [← Ny111.out] at ho24 | (simp only [Int.reduceToNat] at ho24; rw [← Ny111.out] at ho24)); have n0_ := Aside0.mk (Kd.R_lower ho24 (below_size (by repeat (first | (with_reducible first | exact HB.out | apply below_alloc | apply pw_below_drewN | apply below_drew1 | refine below_set ?_ GE108.out) | exact HB.out)))); have n1_ := Aside0.mk (blk_below (g := gb108) (o := .cells #[.slice A0_0 l0_0.length c0_0, .slice (some ad110) l0_1.length c0_1] 25 (0, 0)) (by (with_reducible repeat (first | refine blk_drewN ?_ _ | refine blk_drew ?_ | refine blk_alloc ?_ _)); exact BK108.out) hb); have n2_ := Aside0.mk (below_step (by repeat (first | (with_reducible first | exact HB.out | apply below_alloc | apply pw_below_drewN | apply below_drew1 | refine below_set ?_ GE108.out) | exact HB.out)) hb); clear BK108; clear HB; have HO113 := n0_; have BK108 := n1_; have HB := n2_; clear n0_ n1_ n2_; clear hb ho24; have hcz25_0 : w23.cell? ⟨gb108, 0, none⟩ = some (.slice A0_0 l0_0.length c0_0) := (blk_cell BK108.out 0).trans rfl; have hcz25_1 : w23.cell? ⟨gb108, 1, none⟩ = some (.slice (some ad110) l0_1.length c0_1) := (blk_cell BK108.out 1).trans rfl; have hfz25_0 := blk_frozen BK108.out 0; have hfz25_1 := blk_frozen BK108.out 1; have p114 : 0 ≤ (x6_2 : Int) := of_decide_eq_true (by first | (with_reducible assumption) | assumption); have q114 : x6_2 < (l0_1.length : Int) := of_decide_eq_true (by first | (with_reducible assumption) | assumption); obtain ⟨ad114, A114_1, c114_1, e114, hx114_0, hx114_1, hl114_1, hi114_1⟩ := at_T57 HR0_1.out x6_2 p114 q114; obtain rfl : ad110 = ad114 := (by injection e114); replace hx114_0 := (HB.out.cell (World.block_lt_of_cell? w _ hx114_0)).trans hx114_0; replace hx114_1 := (HB.out.cell (World.block_lt_of_cell? w _ hx114_1)).trans hx114_1; have HR114_1 := Aside0.mk hi114_1; have HC114_1 := Aside0.mk hl114_1; clear hi114_1 hl114_1; replace p114 := eq_true p114; replace q114 := eq_true q114) | ((with_reducible refine gate_builtin (b := .append) (xs := #[.tmp 37, .tmp 43]) rfl ?_); (try (refine gate_guard (by rfl) ?_; dsimp only)); at_builtin; refine Kd.R_append_rows (Kd.int .u8) (w0 := w) w.heap.size rfl (.tmp 37) (.tmp 43) 28 5 (.int .u8 0) 1 rfl Try.underlying28 info5 rfl (by decide) (by omega) v112 y111 ((rd_T57 l0_1 x6_2).f1) _ _ _ (fun _ => True) (fun _ => False) rfl rfl ?aO ?aR (fun _ _ h => h) (fun _ h => h.elim) ?aF ?aB ?aS ?aL ?_; (case aR => repeat (first | exact (Kd.C_below HR114_1.out HB.out) | (with_reducible refine Kd.C_alloc ?_ _) | (with_reducible refine Kd.C_drewN ?_ _) | (with_reducible refine Kd.C_drew ?_))); (case aB => exact (by repeat (first | (with_reducible first | exact HB.out | apply below_alloc | apply pw_below_drewN | apply below_drew1 | refine below_set ?_ GE108.out) | exact HB.out))); (case aF => exact (fun _ _ => trivial)); (case aO => exact (by (with_reducible repeat (first | apply Kd.R_alloc | apply Kd.R_drewN | apply Kd.R_drew)); exact HO113.out)); (case aS => exact (below_size (by repeat (first | (with_reducible first | exact HB.out | apply below_alloc | apply pw_below_drewN | apply below_drew1 | refine below_set ?_ GE108.out) | exact HB.out)))); (case aL => have := LMc21.out; omega); intro v116 w26 ho hb hg hat; rw [← Ny115.out] at ho; have n0_ := Aside0.mk (blk_grown (g := gb108) (o := .cells #[.slice A0_0 l0_0.length c0_0, .slice (some ad110) l0_1.length c0_1] 25 (0, 0)) (by (with_reducible repeat (first | refine blk_drewN ?_ _ | refine blk_drew ?_ | refine blk_alloc ?_ _)); exact BK108.out) hg (Kd.R_ne HO113.out BK108.out (by decide))); have n1_ := Aside0.mk (hb); have n2_ := Aside0.mk (ho); clear BK108; clear HB; clear HO113; have BK108 := n0_; have HB := n1_; have HO117 := n2_; clear n0_ n1_ n2_; clear ho hb hg hat))
                      go_ret2
                      exact ⟨_, by first | rfl | (simp [errW_none, errW_some] <;> rfl) | (simp [*, errW_none, errW_some] <;> rfl), by (with_reducible repeat (first | apply Kd.R_alloc | apply Kd.R_drewN | apply Kd.R_drew)); exact HO117.out, by repeat (first | (with_reducible first | exact HB.out | apply below_alloc | apply pw_below_drewN | apply below_drew1 | refine below_set ?_ GE108.out) | exact HB.out)⟩
                    · rw [if_neg c21] at H
                      exact absurd H (by simp)
                  · rw [if_neg c20] at H
                    have c20b0 : (((rd_T57 l0_1 x6_2).f0) == a1) = false := beq_eq_false_iff_ne.mpr c20
                    have c20b1 : (((rd_T57 l0_1 x6_2).f0) != a1) = true := bne_iff_ne.mpr c20
                    have H' := Aside0.mk H
                    clear H
                    have hcz27_0 : wr.cell? ⟨gb108, 0, none⟩ = some (.slice A0_0 l0_0.length c0_0) := (blk_cell BK108.out 0).trans rfl
                    have hcz27_1 : wr.cell? ⟨gb108, 1, none⟩ = some (.slice A0_1 l0_1.length c0_1) := (blk_cell BK108.out 1).trans rfl
                    have hfz27_0 := blk_frozen BK108.out 0
                    have hfz27_1 := blk_frozen BK108.out 1
                    have p110 : 0 ≤ (x6_2 : Int) := of_decide_eq_true (by first | (with_reducible assumption) | assumption)
                    have q110 : x6_2 < (l0_1.length : Int) := of_decide_eq_true (by first | (with_reducible assumption) | assumption)
                    obtain ⟨ad110, A110_1, c110_1, e110, hx110_0, hx110_1, hl110_1, hi110_1⟩ := at_T57 HR0_1.out x6_2 p110 q110
                    cases e110
                    replace hx110_0 := (HB.out.cell (World.block_lt_of_cell? w _ hx110_0)).trans hx110_0
                    replace hx110_1 := (HB.out.cell (World.block_lt_of_cell? w _ hx110_1)).trans hx110_1
                    have HR110_1 := Aside0.mk hi110_1
                    have HC110_1 := Aside0.mk hl110_1
                    clear hi110_1 hl110_1
                    replace p110 := eq_true p110
                    replace q110 := eq_true q110
                    go_wp2
                    go_roundg k2
                    case measure => have := HJ2.out; have := HK2.out; omega
                    case rel => exact ⟨(wrap64 (x6_2 - 1)), (by first | rfl | (simp; done) | (simp [*]; done)), H', ⟨by have := HJ2.out; have := HK2.out; omega⟩, ⟨by (with_reducible repeat (first | refine blk_drewN ?_ _ | refine blk_drew ?_ | refine blk_alloc ?_ _)); exact BK108.out⟩, ⟨by repeat (first | (with_reducible first | exact HB.out | apply below_alloc | apply pw_below_drewN | apply below_drew1 | refine below_set ?_ GE108.out) | exact HB.out)⟩⟩
                · rw [if_neg c19] at H
                  exact absurd H (by simp)
              · rw [if_neg c18] at H
                exact absurd H (by simp)
            · rw [if_neg c17] at H
              have c17b0 : decide (0 ≤ x6_2) = false := decide_eq_false c17
              clear c17
              obtain ⟨y118, hy118⟩ : ∃ y_ : List Int, y_ = (([] : List Int)) := ⟨_, rfl⟩
              replace H : (if 0 ≤ a1 then (if a1 < (l0_0.length : Int) then (if y118.length + (rd_L1 l0_0 a1).length < 140737488355328 then (some ((y118 ++ (rd_L1 l0_0 a1)), 0)) else (none)) else (none)) else (none)) = some (r1, r2) := by first | (rw [hy118]; with_reducible exact H) | (have H2_ := (Option.bind_some _ _).symm.trans H; rw [hy118]; with_reducible exact H2_) | (have H2_ := (Option.bind_some _ _).symm.trans H; with_reducible exact H2_) | with_reducible exact H | (rw [hy118]; exact H) | exact H
              have Ny118 := Aside0.mk hy118
              clear hy118
              by_cases c28 : 0 ≤ a1
              · rw [if_pos c28] at H
                have c28b0 : decide (0 ≤ a1) = true := decide_eq_true c28
                clear c28
                by_cases c29 : a1 < (l0_0.length : Int)
                · rw [if_pos c29] at H
                  have c29b0 : decide (a1 < (l0_0.length : Int)) = true := decide_eq_true c29
                  clear c29
                  by_cases c30 : y118.length + (rd_L1 l0_0 a1).length < 140737488355328
                  · rw [if_pos c30] at H
                    have LMc30 := Aside0.mk c30
                    clear c30
                    obtain ⟨y122, hy122⟩ : ∃ y_ : List Int, y_ = (y118 ++ (rd_L1 l0_0 a1)) := ⟨_, rfl⟩
                    replace H : (some (y122, 0)) = some (r1, r2) := by first | (rw [hy122]; with_reducible exact H) | (have H2_ := (Option.bind_some _ _).symm.trans H; rw [hy122]; with_reducible exact H2_) | (have H2_ := (Option.bind_some _ _).symm.trans H; with_reducible exact H2_) | with_reducible exact H | (rw [hy122]; exact H) | exact H
                    have Ny122 := Aside0.mk hy122
                    clear hy122
                    simp only [Option.some.injEq, Prod.mk.injEq] at H
                    obtain ⟨rfl, rfl⟩ := H
                    go_wp2_with (first | ((with_reducible refine gate_dst (N := 45) rfl ?_); (try (refine gate_guard (by rfl) ?_; dsimp only)); refine Kd.R_lit (Kd.int .u8) _ 5 ?hg (N := 45) ?hd (xs := ([] : List Int)) (inner := []) (ok := fun _ => True) (okp := fun _ => True) ?hr ?hp (fun _ hk => hk) trivial (Below.refl _ _) (Nat.le_refl _) (by simp) ?_; (case hd => rfl); (case hg => rfl); (case hr => first | (go_simp; done) | (go_simp; rfl)); (case hp => exact (Reps.none _ _)); intro v119 w31 ho32 hb hg_ hnew_; clear hg_ hnew_; (first | rw [← Ny118.out] at ho32 | (simp only [Int.reduceToNat] at ho32; rw [← Ny118.out] at ho32)); have n0_ := Aside0.mk (Kd.R_lower ho32 (below_size (by repeat (first | (with_reducible first | exact HB.out | apply below_alloc | apply pw_below_drewN | apply below_drew1 | refine below_set ?_ GE108.out) | exact HB.out)))); have n1_ := Aside0.mk (blk_below (g := gb108) (o := .cells #[.slice A0_0 l0_0.length c0_0, .slice A0_1 l0_1.length c0_1] 25 (0, 0)) (by (with_reducible repeat (first | refine blk_drewN ?_ _ | refine blk_drew ?_ | refine blk_alloc ?_ _)); exact BK108.out) hb); have n2_ := Aside0.mk (below_step (by repeat (first | (with_reducible first | exact HB.out | apply below_alloc | apply pw_below_drewN | apply below_drew1 | refine below_set ?_ GE108.out) | exact HB.out)) hb); clear BK108; clear HB; have HO120 := n0_; have BK108 := n1_; have HB := n2_; clear n0_ n1_ n2_; clear hb ho32; have hcz33_0 : w31.cell? ⟨gb108, 0, none⟩ = some (.slice A0_0 l0_0.length c0_0) := (blk_cell BK108.out 0).trans rfl; have hcz33_1 : w31.cell? ⟨gb108, 1, none⟩ = some (.slice A0_1 l0_1.length c0_1) := (blk_cell BK108.out 1).trans rfl; have hfz33_0 := blk_frozen BK108.out 0; have hfz33_1 := blk_frozen BK108.out 1; have p121 : 0 ≤ (a1 : Int) := of_decide_eq_true (by first | (with_reducible assumption) | assumption); have q121 : a1 < (l0_0.length : Int) := of_decide_eq_true (by first | (with_reducible assumption) | assumption); obtain ⟨ad121, A121_0, c121_0, e121, hx121_0, hl121_0, hi121_0⟩ := at_L1 HR0_0.out a1 p121 q121; cases e121; replace hx121_0 := (HB.out.cell (World.block_lt_of_cell? w _ hx121_0)).trans hx121_0; have HR121_0 := Aside0.mk hi121_0; have HC121_0 := Aside0.mk hl121_0; clear hi121_0 hl121_0; replace p121 := eq_true p121; replace q121 := eq_true q121) | ((with_reducible refine gate_builtin (b := .append) (xs := #[.tmp 45, .tmp 50]) rfl ?_); (try (refine gate_guard (by rfl) ?_; dsimp only)); at_builtin; refine Kd.R_append_rows (Kd.int .u8) (w0 := w) w.heap.size rfl (.tmp 45) (.tmp 50) 28 5 (.int .u8 0) 1 rfl Try.underlying28 info5 rfl (by decide) (by omega) v119 y118 (rd_L1 l0_0 a1) _ _ _ (fun _ => True) (fun _ => False) rfl rfl ?aO ?aR (fun _ _ h => h) (fun _ h => h.elim) ?aF ?aB ?aS ?aL ?_; (case aR => repeat (first | exact (Kd.C_below HR121_0.out HB.out) | (with_reducible refine Kd.C_alloc ?_ _) | (with_reducible refine Kd.C_drewN ?_ _) | (with_reducible refine Kd.C_drew ?_))); (case aB => exact (by repeat (first | (with_reducible first | exact HB.out | apply below_alloc | apply pw_below_drewN | apply below_drew1 | refine below_set ?_ GE108.out) | exact HB.out))); (case aF => exact (fun _ _ => trivial)); (case aO => exact (by (with_reducible repeat (first | apply Kd.R_alloc | apply Kd.R_drewN | apply Kd.R_drew)); exact HO120.out)); (case aS => exact (below_size (by repeat (first | (with_reducible first | exact HB.out | apply below_alloc | apply pw_below_drewN | apply below_drew1 | refine below_set ?_ GE108.out) | exact HB.out)))); (case aL => have := LMc30.out; omega); intro v123 w34 ho hb hg hat; rw [← Ny122.out] at ho; have n0_ := Aside0.mk (blk_grown (g := gb108) (o := .cells #[.slice (some ad121) l0_0.length c0_0, .slice A0_1 l0_1.length c0_1] 25 (0, 0)) (by (with_reducible repeat (first | refine blk_drewN ?_ _ | refine blk_drew ?_ | refine blk_alloc ?_ _)); exact BK108.out) hg (Kd.R_ne HO120.out BK108.out (by decide))); have n1_ := Aside0.mk (hb); have n2_ := Aside0.mk (ho); clear BK108; clear HB; clear HO120; have BK108 := n0_; have HB := n1_; have HO124 := n2_; clear n0_ n1_ n2_; clear ho hb hg hat))
                    go_ret2
                    exact ⟨_, by first | rfl | (simp [errW_none, errW_some] <;> rfl) | (simp [*, errW_none, errW_some] <;> rfl), by (with_reducible repeat (first | apply Kd.R_alloc | apply Kd.R_drewN | apply Kd.R_drew)); exact HO124.out, by repeat (first | (with_reducible first | exact HB.out | apply below_alloc | apply pw_below_drewN | apply below_drew1 | refine below_set ?_ GE108.out) | exact HB.out)⟩
                  · rw [if_neg c30] at H
                    exact absurd H (by simp)
                · rw [if_neg c29] at H
                  exact absurd H (by simp)
              · rw [if_neg c28] at H
                exact absurd H (by simp)

end Go.Proofs.Ytiplneodkcjkmaa.P
