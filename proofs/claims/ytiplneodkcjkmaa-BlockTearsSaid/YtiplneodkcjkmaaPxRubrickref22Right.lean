-- Printed by this session's patched printer.
import Derived.Test.YtiplneodkcjkmaaPx0
namespace Go.Proofs.Ytiplneodkcjkmaa.P
open Go.RowKit Go.Proofs.YtiplneodkcjkmaaW.PrintWords Go.Proofs.YtiplneodkcjkmaaW.PrintLast Go.Proofs.YtiplneodkcjkmaaW.PrintMore
attribute [local go_sem] Go.Instr.field Go.part Go.asAgg max2_int min2_int max_two min_two max_three min_three max_four min_four   -- for this text's walks alone
set_option linter.unusedVariables false
set_option linter.unusedSimpArgs false

/-! ### rubrickref22_Right: function 14 -/
mutual
def rubrickref22_Right.l0 : Nat → Int → List (List Int) → List (S59) → Option (Bool)
  | 0, _, _, _ => none
  | k + 1, x3, x170000, x170001 => if x3 < (x170000.length : Int) then (if 0 ≤ x3 then (if ((rd_L1 x170000 x3).length : Int) = 64 then (rubrickref22_Right.l0 k (wrap64 (x3 + 1)) x170000 x170001) else (some false)) else (none)) else (rubrickref22_Right.l1 k 0 x170000 x170001)
def rubrickref22_Right.l1 : Nat → Int → List (List Int) → List (S59) → Option (Bool)
  | 0, _, _, _ => none
  | k + 1, x4, x170000, x170001 => if x4 < (x170001.length : Int) then (if 0 ≤ x4 then (if ((rd_T59 x170001 x4).f0) < 0 then (some false) else (if ((rd_T59 x170001 x4).f0) ≥ (x170000.length : Int) then (some false) else (if (((rd_T59 x170001 x4).f1).length : Int) = 64 then (rubrickref22_Right.l1 k (wrap64 (x4 + 1)) x170000 x170001) else (some false)))) else (none)) else (if (x170000.length : Int) ≤ 4096 then (some (decide ((x170001.length : Int) ≤ 1000))) else (some false))
end
def rubrickref22_Right.f (k : Nat) (l0_0 : List (List Int)) (l0_1 : List (S59)) : Option (Bool) := rubrickref22_Right.l0 k 0 l0_0 l0_1
theorem rubrickref22_Right.mono_l : ∀ k, (∀ y0 y1 y2, LeO (rubrickref22_Right.l0 k y0 y1 y2) (rubrickref22_Right.l0 (k + 1) y0 y1 y2)) ∧ (∀ y0 y1 y2, LeO (rubrickref22_Right.l1 k y0 y1 y2) (rubrickref22_Right.l1 (k + 1) y0 y1 y2))
  | 0 => ⟨fun _ _ _ r h => by simp [rubrickref22_Right.l0] at h, fun _ _ _ r h => by simp [rubrickref22_Right.l1] at h⟩
  | k + 1 => by
    obtain ⟨ih0, ih1⟩ := rubrickref22_Right.mono_l k
    refine ⟨?_, ?_⟩
    · intro y0 y1 y2
      unfold rubrickref22_Right.l0
      repeat' first
      | (with_reducible exact ih0 _ _ _)
      | (with_reducible exact ih1 _ _ _)
      | (with_reducible exact LeO.refl _)
      | (with_reducible exact LeO.none _)
      | (with_reducible refine LeO.ite ?_ ?_)
      | (with_reducible refine LeO.bind ?_ (fun _ => ?_))
      | exact ih0 _ _ _
      | exact ih1 _ _ _
      | exact LeO.none _
      | refine LeO.ite ?_ ?_
      | refine LeO.bind ?_ (fun _ => ?_)
    · intro y0 y1 y2
      unfold rubrickref22_Right.l1
      repeat' first
      | (with_reducible exact ih0 _ _ _)
      | (with_reducible exact ih1 _ _ _)
      | (with_reducible exact LeO.refl _)
      | (with_reducible exact LeO.none _)
      | (with_reducible refine LeO.ite ?_ ?_)
      | (with_reducible refine LeO.bind ?_ (fun _ => ?_))
      | exact ih0 _ _ _
      | exact ih1 _ _ _
      | exact LeO.none _
      | refine LeO.ite ?_ ?_
      | refine LeO.bind ?_ (fun _ => ?_)
theorem rubrickref22_Right.mono : ∀ a0 a1 k, LeO (rubrickref22_Right.f k a0 a1) (rubrickref22_Right.f (k + 1) a0 a1) := by
  intro a0 a1 k
  obtain ⟨ih0, ih1⟩ := rubrickref22_Right.mono_l k
  unfold rubrickref22_Right.f
  repeat' first
      | (with_reducible exact ih0 _ _ _)
      | (with_reducible exact ih1 _ _ _)
      | (with_reducible exact LeO.refl _)
      | (with_reducible exact LeO.none _)
      | (with_reducible refine LeO.ite ?_ ?_)
      | (with_reducible refine LeO.bind ?_ (fun _ => ?_))
      | exact ih0 _ _ _
      | exact ih1 _ _ _
      | exact LeO.none _
      | refine LeO.ite ?_ ?_
      | refine LeO.bind ?_ (fun _ => ?_)
set_option maxHeartbeats 8000000 in
set_option maxRecDepth 100000 in
theorem rubrickref22_Right.calls (k : Nat) (A0_0 : Option Addr) (c0_0 : Nat) (l0_0 : List (List Int)) (A0_1 : Option Addr) (c0_1 : Nat) (l0_1 : List (S59)) (r : Bool) (w : World) (hr0_0 : Kd.C (Kd.slice 5 (Kd.int .u8)) w A0_0 l0_0.length l0_0) (hc0_0 : l0_0.length ≤ c0_0) (hr0_1 : Kd.C k59 w A0_1 l0_1.length l0_1) (hc0_1 : l0_1.length ≤ c0_1) (h : rubrickref22_Right.f k l0_0 l0_1 = some r) :
    Calls Try.prog 14 #[.agg #[.slice A0_0 l0_0.length c0_0, .slice A0_1 l0_1.length c0_1]] w fun e w' => e = .returned (.bool r) ∧ Below w.heap.size w w' := by
  have hu34 := Try.underlying34
  have HR0_0 := Aside0.mk hr0_0
  have HC0_0 := Aside0.mk hc0_0
  clear hr0_0 hc0_0
  have HR0_1 := Aside0.mk hr0_1
  have HC0_1 := Aside0.mk hc0_1
  clear hr0_1 hc0_1
  have HB := Aside0.mk (Below.refl w.heap.size w)
  have H : (rubrickref22_Right.l0 k 0 l0_0 l0_1) = some r := h
  clear h
  have H' := Aside0.mk H
  clear H
  go_enter Try.func14, Try.ntmps14
  go_wp2_with (first | ((with_reducible refine gate_dst (N := 1) rfl ?_); (try (refine gate_guard (by rfl) ?_; dsimp only)); refine box_event ?hg (N := 1) ?hd (cs := #[.slice A0_0 l0_0.length c0_0, .slice A0_1 l0_1.length c0_1]) (t := 34) ?hr ?_; (case hd => rfl); (case hg => rfl); (case hr => first | (go_simp; done) | (go_simp; rfl)); intro gb169 hg w2 hbox hb; have n0_ := Aside0.mk (below_step (by repeat (first | (with_reducible first | exact HB.out | apply below_alloc | apply pw_below_drewN | apply below_drew1) | exact HB.out)) hb); have n1_ := Aside0.mk (hbox); have n2_ := Aside0.mk ((by rw [hg]; exact (below_size (by repeat (first | (with_reducible first | exact HB.out | apply below_alloc | apply pw_below_drewN | apply below_drew1) | exact HB.out))) : w.heap.size ≤ gb169)); have n3_ := Aside0.mk ((by rw [hg]; exact (below_size (by repeat (first | (with_reducible first | exact HB.out | apply below_alloc | apply pw_below_drewN | apply below_drew1) | exact HB.out))) : w.heap.size ≤ gb169)); clear HB; have HB := n0_; have BK169 := n1_; have GW169 := n2_; have GE169 := n3_; clear n0_ n1_ n2_ n3_; clear hb hbox hg))
  repeat (go_quiet (first | ((with_reducible refine gate_dst (N := 1) rfl ?_); (try (refine gate_guard (by rfl) ?_; dsimp only)); refine box_event ?hg (N := 1) ?hd (cs := #[.slice A0_0 l0_0.length c0_0, .slice A0_1 l0_1.length c0_1]) (t := 34) ?hr ?_; (case hd => rfl); (case hg => rfl); (case hr => first | (go_simp; done) | (go_simp; rfl)); intro gb169 hg w2 hbox hb; have n0_ := Aside0.mk (below_step (by repeat (first | (with_reducible first | exact HB.out | apply below_alloc | apply pw_below_drewN | apply below_drew1) | exact HB.out)) hb); have n1_ := Aside0.mk (hbox); have n2_ := Aside0.mk ((by rw [hg]; exact (below_size (by repeat (first | (with_reducible first | exact HB.out | apply below_alloc | apply pw_below_drewN | apply below_drew1) | exact HB.out))) : w.heap.size ≤ gb169)); have n3_ := Aside0.mk ((by rw [hg]; exact (below_size (by repeat (first | (with_reducible first | exact HB.out | apply below_alloc | apply pw_below_drewN | apply below_drew1) | exact HB.out))) : w.heap.size ≤ gb169)); clear HB; have HB := n0_; have BK169 := n1_; have GW169 := n2_; have GE169 := n3_; clear n0_ n1_ n2_ n3_; clear hb hbox hg)); try go_wp2_with (first | ((with_reducible refine gate_dst (N := 1) rfl ?_); (try (refine gate_guard (by rfl) ?_; dsimp only)); refine box_event ?hg (N := 1) ?hd (cs := #[.slice A0_0 l0_0.length c0_0, .slice A0_1 l0_1.length c0_1]) (t := 34) ?hr ?_; (case hd => rfl); (case hg => rfl); (case hr => first | (go_simp; done) | (go_simp; rfl)); intro gb169 hg w2 hbox hb; have n0_ := Aside0.mk (below_step (by repeat (first | (with_reducible first | exact HB.out | apply below_alloc | apply pw_below_drewN | apply below_drew1) | exact HB.out)) hb); have n1_ := Aside0.mk (hbox); have n2_ := Aside0.mk ((by rw [hg]; exact (below_size (by repeat (first | (with_reducible first | exact HB.out | apply below_alloc | apply pw_below_drewN | apply below_drew1) | exact HB.out))) : w.heap.size ≤ gb169)); have n3_ := Aside0.mk ((by rw [hg]; exact (below_size (by repeat (first | (with_reducible first | exact HB.out | apply below_alloc | apply pw_below_drewN | apply below_drew1) | exact HB.out))) : w.heap.size ≤ gb169)); clear HB; have HB := n0_; have BK169 := n1_; have GW169 := n2_; have GE169 := n3_; clear n0_ n1_ n2_ n3_; clear hb hbox hg)))
  go_loopg [3] k (fun kq v3 w' => ∃ (x3_1 : Int), v3 = .int .i64 x3_1 ∧ Aside0 (rubrickref22_Right.l0 kq x3_1 l0_0 l0_1 = some r) ∧ Aside0 (kq ≤ k) ∧ Aside0 (w'.heap[gb169]? = some (.cells #[(.slice A0_0 l0_0.length c0_0), (.slice A0_1 l0_1.length c0_1)] 34 (0, 0))) ∧ Aside0 (Below w.heap.size w w'))
  case atStart => exact ⟨(0), (by first | rfl | (simp; done) | (simp [*]; done)), H', ⟨Nat.le_refl _⟩, ⟨by (with_reducible repeat (first | refine blk_drewN ?_ _ | refine blk_drew ?_ | refine blk_alloc ?_ _)); exact BK169.out⟩, ⟨by repeat (first | (with_reducible first | exact HB.out | apply below_alloc | apply pw_below_drewN | apply below_drew1 | refine below_set ?_ GE169.out) | exact HB.out)⟩⟩
  case round =>
    clear H'
    try clear c1
    try clear p2
    obtain ⟨x3_1, rfl, HA, HK1, BK169, HB⟩ := hrel
    cases gk with
    | zero => exact absurd HA.out (by simp [rubrickref22_Right.l0])
    | succ k1 =>
      have H := HA.out
      clear HA
      simp only [rubrickref22_Right.l0] at H
      by_cases c3 : x3_1 < (l0_0.length : Int)
      · rw [if_pos c3] at H
        have c3b0 : decide (x3_1 < (l0_0.length : Int)) = true := decide_eq_true c3
        clear c3
        by_cases c4 : 0 ≤ x3_1
        · rw [if_pos c4] at H
          have c4b0 : decide (0 ≤ x3_1) = true := decide_eq_true c4
          clear c4
          by_cases c5 : ((rd_L1 l0_0 x3_1).length : Int) = 64
          · rw [if_pos c5] at H
            have c5b0 : (((rd_L1 l0_0 x3_1).length : Int) == 64) = true := beq_iff_eq.mpr c5
            have c5b1 : (((rd_L1 l0_0 x3_1).length : Int) != 64) = false := bne_eq_false_iff_eq.mpr c5
            clear c5
            have H' := Aside0.mk H
            clear H
            have hcz6_0 : wr.cell? ⟨gb169, 0, none⟩ = some (.slice A0_0 l0_0.length c0_0) := (blk_cell BK169.out 0).trans rfl
            have hcz6_1 : wr.cell? ⟨gb169, 1, none⟩ = some (.slice A0_1 l0_1.length c0_1) := (blk_cell BK169.out 1).trans rfl
            have hfz6_0 := blk_frozen BK169.out 0
            have hfz6_1 := blk_frozen BK169.out 1
            have p170 : 0 ≤ (x3_1 : Int) := of_decide_eq_true (by first | (with_reducible assumption) | assumption)
            have q170 : x3_1 < (l0_0.length : Int) := of_decide_eq_true (by first | (with_reducible assumption) | assumption)
            obtain ⟨ad170, A170_0, c170_0, e170, hx170_0, hl170_0, hi170_0⟩ := at_L1 HR0_0.out x3_1 p170 q170
            cases e170
            replace hx170_0 := (HB.out.cell (World.block_lt_of_cell? w _ hx170_0)).trans hx170_0
            have HR170_0 := Aside0.mk hi170_0
            have HC170_0 := Aside0.mk hl170_0
            clear hi170_0 hl170_0
            replace p170 := eq_true p170
            replace q170 := eq_true q170
            go_wp2
            repeat (go_quiet (fail); try go_wp2)
            go_roundg k1
            case measure => have := HK1.out; omega
            case rel => exact ⟨(wrap64 (x3_1 + 1)), (by first | rfl | (simp; done) | (simp [*]; done)), H', ⟨by have := HK1.out; omega⟩, ⟨by (with_reducible repeat (first | refine blk_drewN ?_ _ | refine blk_drew ?_ | refine blk_alloc ?_ _)); exact BK169.out⟩, ⟨by repeat (first | (with_reducible first | exact HB.out | apply below_alloc | apply pw_below_drewN | apply below_drew1 | refine below_set ?_ GE169.out) | exact HB.out)⟩⟩
          · rw [if_neg c5] at H
            have c5b0 : (((rd_L1 l0_0 x3_1).length : Int) == 64) = false := beq_eq_false_iff_ne.mpr c5
            have c5b1 : (((rd_L1 l0_0 x3_1).length : Int) != 64) = true := bne_iff_ne.mpr c5
            obtain rfl := Option.some.inj H
            have hcz7_0 : wr.cell? ⟨gb169, 0, none⟩ = some (.slice A0_0 l0_0.length c0_0) := (blk_cell BK169.out 0).trans rfl
            have hcz7_1 : wr.cell? ⟨gb169, 1, none⟩ = some (.slice A0_1 l0_1.length c0_1) := (blk_cell BK169.out 1).trans rfl
            have hfz7_0 := blk_frozen BK169.out 0
            have hfz7_1 := blk_frozen BK169.out 1
            have p170 : 0 ≤ (x3_1 : Int) := of_decide_eq_true (by first | (with_reducible assumption) | assumption)
            have q170 : x3_1 < (l0_0.length : Int) := of_decide_eq_true (by first | (with_reducible assumption) | assumption)
            obtain ⟨ad170, A170_0, c170_0, e170, hx170_0, hl170_0, hi170_0⟩ := at_L1 HR0_0.out x3_1 p170 q170
            cases e170
            replace hx170_0 := (HB.out.cell (World.block_lt_of_cell? w _ hx170_0)).trans hx170_0
            have HR170_0 := Aside0.mk hi170_0
            have HC170_0 := Aside0.mk hl170_0
            clear hi170_0 hl170_0
            replace p170 := eq_true p170
            replace q170 := eq_true q170
            go_wp2
            repeat (go_quiet (fail); try go_wp2)
            go_ret
            exact ⟨by first | rfl | (simp [errW_none, errW_some] <;> rfl) | (simp [*, errW_none, errW_some] <;> rfl), by repeat (first | (with_reducible first | exact HB.out | apply below_alloc | apply pw_below_drewN | apply below_drew1 | refine below_set ?_ GE169.out) | exact HB.out)⟩
        · rw [if_neg c4] at H
          exact absurd H (by simp)
      · rw [if_neg c3] at H
        have c3b0 : decide (x3_1 < (l0_0.length : Int)) = false := decide_eq_false c3
        clear c3
        have H' := Aside0.mk H
        clear H
        have hcz8_0 : wr.cell? ⟨gb169, 0, none⟩ = some (.slice A0_0 l0_0.length c0_0) := (blk_cell BK169.out 0).trans rfl
        have hcz8_1 : wr.cell? ⟨gb169, 1, none⟩ = some (.slice A0_1 l0_1.length c0_1) := (blk_cell BK169.out 1).trans rfl
        have hfz8_0 := blk_frozen BK169.out 0
        have hfz8_1 := blk_frozen BK169.out 1
        go_wp2
        repeat (go_quiet (fail); try go_wp2)
        go_loopg [4] k1 (fun kq v4 w' => ∃ (x4_2 : Int), v4 = .int .i64 x4_2 ∧ Aside0 (rubrickref22_Right.l1 kq x4_2 l0_0 l0_1 = some r) ∧ Aside0 (kq ≤ k1) ∧ Aside0 (w'.heap[gb169]? = some (.cells #[(.slice A0_0 l0_0.length c0_0), (.slice A0_1 l0_1.length c0_1)] 34 (0, 0))) ∧ Aside0 (Below w.heap.size w w'))
        case atStart => exact ⟨(0), (by first | rfl | (simp; done) | (simp [*]; done)), H', ⟨Nat.le_refl _⟩, ⟨by (with_reducible repeat (first | refine blk_drewN ?_ _ | refine blk_drew ?_ | refine blk_alloc ?_ _)); exact BK169.out⟩, ⟨by repeat (first | (with_reducible first | exact HB.out | apply below_alloc | apply pw_below_drewN | apply below_drew1 | refine below_set ?_ GE169.out) | exact HB.out)⟩⟩
        case round =>
          clear H'
          try clear c1
          try clear p1
          try clear q1
          try clear hx1
          try clear p2
          try clear c3
          try clear c3b0
          try clear c4
          try clear c4b0
          try clear c5
          try clear c5b0
          try clear c5b1
          try clear p6
          try clear hcz6_0
          try clear hcz6_1
          try clear hcz7_0
          try clear hcz7_1
          try clear hcz8_0
          try clear hcz8_1
          try clear hfz6_0
          try clear hfz6_1
          try clear hfz7_0
          try clear hfz7_1
          try clear hfz8_0
          try clear hfz8_1
          try clear hx170_0
          try clear p170
          try clear p2
          try clear q170
          obtain ⟨x4_2, rfl, HA, HK2, BK169, HB⟩ := hrel
          cases gk with
          | zero => exact absurd HA.out (by simp [rubrickref22_Right.l1])
          | succ k2 =>
            have H := HA.out
            clear HA
            simp only [rubrickref22_Right.l1] at H
            by_cases c9 : x4_2 < (l0_1.length : Int)
            · rw [if_pos c9] at H
              have c9b0 : decide (x4_2 < (l0_1.length : Int)) = true := decide_eq_true c9
              clear c9
              by_cases c10 : 0 ≤ x4_2
              · rw [if_pos c10] at H
                have c10b0 : decide (0 ≤ x4_2) = true := decide_eq_true c10
                clear c10
                by_cases c11 : ((rd_T59 l0_1 x4_2).f0) < 0
                · rw [if_pos c11] at H
                  have c11b0 : decide (((rd_T59 l0_1 x4_2).f0) < 0) = true := decide_eq_true c11
                  clear c11
                  obtain rfl := Option.some.inj H
                  have hcz12_0 : wr.cell? ⟨gb169, 0, none⟩ = some (.slice A0_0 l0_0.length c0_0) := (blk_cell BK169.out 0).trans rfl
                  have hcz12_1 : wr.cell? ⟨gb169, 1, none⟩ = some (.slice A0_1 l0_1.length c0_1) := (blk_cell BK169.out 1).trans rfl
                  have hfz12_0 := blk_frozen BK169.out 0
                  have hfz12_1 := blk_frozen BK169.out 1
                  have p171 : 0 ≤ (x4_2 : Int) := of_decide_eq_true (by first | (with_reducible assumption) | assumption)
                  have q171 : x4_2 < (l0_1.length : Int) := of_decide_eq_true (by first | (with_reducible assumption) | assumption)
                  obtain ⟨ad171, A171_1, c171_1, e171, hx171_0, hx171_1, hl171_1, hi171_1⟩ := at_T59 HR0_1.out x4_2 p171 q171
                  cases e171
                  replace hx171_0 := (HB.out.cell (World.block_lt_of_cell? w _ hx171_0)).trans hx171_0
                  replace hx171_1 := (HB.out.cell (World.block_lt_of_cell? w _ hx171_1)).trans hx171_1
                  have HR171_1 := Aside0.mk hi171_1
                  have HC171_1 := Aside0.mk hl171_1
                  clear hi171_1 hl171_1
                  replace p171 := eq_true p171
                  replace q171 := eq_true q171
                  go_wp2
                  repeat (go_quiet (fail); try go_wp2)
                  go_ret
                  exact ⟨by first | rfl | (simp [errW_none, errW_some] <;> rfl) | (simp [*, errW_none, errW_some] <;> rfl), by repeat (first | (with_reducible first | exact HB.out | apply below_alloc | apply pw_below_drewN | apply below_drew1 | refine below_set ?_ GE169.out) | exact HB.out)⟩
                · rw [if_neg c11] at H
                  have c11b0 : decide (((rd_T59 l0_1 x4_2).f0) < 0) = false := decide_eq_false c11
                  clear c11
                  by_cases c13 : ((rd_T59 l0_1 x4_2).f0) ≥ (l0_0.length : Int)
                  · rw [if_pos c13] at H
                    have c13b0 : decide ((l0_0.length : Int) ≤ ((rd_T59 l0_1 x4_2).f0)) = true := decide_eq_true c13
                    clear c13
                    obtain rfl := Option.some.inj H
                    have hcz14_0 : wr.cell? ⟨gb169, 0, none⟩ = some (.slice A0_0 l0_0.length c0_0) := (blk_cell BK169.out 0).trans rfl
                    have hcz14_1 : wr.cell? ⟨gb169, 1, none⟩ = some (.slice A0_1 l0_1.length c0_1) := (blk_cell BK169.out 1).trans rfl
                    have hfz14_0 := blk_frozen BK169.out 0
                    have hfz14_1 := blk_frozen BK169.out 1
                    have p171 : 0 ≤ (x4_2 : Int) := of_decide_eq_true (by first | (with_reducible assumption) | assumption)
                    have q171 : x4_2 < (l0_1.length : Int) := of_decide_eq_true (by first | (with_reducible assumption) | assumption)
                    obtain ⟨ad171, A171_1, c171_1, e171, hx171_0, hx171_1, hl171_1, hi171_1⟩ := at_T59 HR0_1.out x4_2 p171 q171
                    cases e171
                    replace hx171_0 := (HB.out.cell (World.block_lt_of_cell? w _ hx171_0)).trans hx171_0
                    replace hx171_1 := (HB.out.cell (World.block_lt_of_cell? w _ hx171_1)).trans hx171_1
                    have HR171_1 := Aside0.mk hi171_1
                    have HC171_1 := Aside0.mk hl171_1
                    clear hi171_1 hl171_1
                    replace p171 := eq_true p171
                    replace q171 := eq_true q171
                    have p172 : 0 ≤ (x4_2 : Int) := of_decide_eq_true (by first | (with_reducible assumption) | assumption)
                    have q172 : x4_2 < (l0_1.length : Int) := of_decide_eq_true (by first | (with_reducible assumption) | assumption)
                    obtain ⟨ad172, A172_1, c172_1, e172, hx172_0, hx172_1, hl172_1, hi172_1⟩ := at_T59 HR0_1.out x4_2 p172 q172
                    obtain rfl : ad171 = ad172 := (by injection e172)
                    replace hx172_0 := (HB.out.cell (World.block_lt_of_cell? w _ hx172_0)).trans hx172_0
                    replace hx172_1 := (HB.out.cell (World.block_lt_of_cell? w _ hx172_1)).trans hx172_1
                    have HR172_1 := Aside0.mk hi172_1
                    have HC172_1 := Aside0.mk hl172_1
                    clear hi172_1 hl172_1
                    replace p172 := eq_true p172
                    replace q172 := eq_true q172
                    have ea_ := Option.some.inj (hx171_1.symm.trans hx172_1)
                    injection ea_ with ea_ en_ ec_
                    subst ea_
                    subst ec_
                    clear en_
                    go_wp2
                    repeat (go_quiet (fail); try go_wp2)
                    go_ret
                    exact ⟨by first | rfl | (simp [errW_none, errW_some] <;> rfl) | (simp [*, errW_none, errW_some] <;> rfl), by repeat (first | (with_reducible first | exact HB.out | apply below_alloc | apply pw_below_drewN | apply below_drew1 | refine below_set ?_ GE169.out) | exact HB.out)⟩
                  · rw [if_neg c13] at H
                    have c13b0 : decide ((l0_0.length : Int) ≤ ((rd_T59 l0_1 x4_2).f0)) = false := decide_eq_false c13
                    clear c13
                    by_cases c15 : (((rd_T59 l0_1 x4_2).f1).length : Int) = 64
                    · rw [if_pos c15] at H
                      have c15b0 : ((((rd_T59 l0_1 x4_2).f1).length : Int) == 64) = true := beq_iff_eq.mpr c15
                      have c15b1 : ((((rd_T59 l0_1 x4_2).f1).length : Int) != 64) = false := bne_eq_false_iff_eq.mpr c15
                      clear c15
                      have H' := Aside0.mk H
                      clear H
                      have hcz16_0 : wr.cell? ⟨gb169, 0, none⟩ = some (.slice A0_0 l0_0.length c0_0) := (blk_cell BK169.out 0).trans rfl
                      have hcz16_1 : wr.cell? ⟨gb169, 1, none⟩ = some (.slice A0_1 l0_1.length c0_1) := (blk_cell BK169.out 1).trans rfl
                      have hfz16_0 := blk_frozen BK169.out 0
                      have hfz16_1 := blk_frozen BK169.out 1
                      have p171 : 0 ≤ (x4_2 : Int) := of_decide_eq_true (by first | (with_reducible assumption) | assumption)
                      have q171 : x4_2 < (l0_1.length : Int) := of_decide_eq_true (by first | (with_reducible assumption) | assumption)
                      obtain ⟨ad171, A171_1, c171_1, e171, hx171_0, hx171_1, hl171_1, hi171_1⟩ := at_T59 HR0_1.out x4_2 p171 q171
                      cases e171
                      replace hx171_0 := (HB.out.cell (World.block_lt_of_cell? w _ hx171_0)).trans hx171_0
                      replace hx171_1 := (HB.out.cell (World.block_lt_of_cell? w _ hx171_1)).trans hx171_1
                      have HR171_1 := Aside0.mk hi171_1
                      have HC171_1 := Aside0.mk hl171_1
                      clear hi171_1 hl171_1
                      replace p171 := eq_true p171
                      replace q171 := eq_true q171
                      have p172 : 0 ≤ (x4_2 : Int) := of_decide_eq_true (by first | (with_reducible assumption) | assumption)
                      have q172 : x4_2 < (l0_1.length : Int) := of_decide_eq_true (by first | (with_reducible assumption) | assumption)
                      obtain ⟨ad172, A172_1, c172_1, e172, hx172_0, hx172_1, hl172_1, hi172_1⟩ := at_T59 HR0_1.out x4_2 p172 q172
                      obtain rfl : ad171 = ad172 := (by injection e172)
                      replace hx172_0 := (HB.out.cell (World.block_lt_of_cell? w _ hx172_0)).trans hx172_0
                      replace hx172_1 := (HB.out.cell (World.block_lt_of_cell? w _ hx172_1)).trans hx172_1
                      have HR172_1 := Aside0.mk hi172_1
                      have HC172_1 := Aside0.mk hl172_1
                      clear hi172_1 hl172_1
                      replace p172 := eq_true p172
                      replace q172 := eq_true q172
                      have ea_ := Option.some.inj (hx171_1.symm.trans hx172_1)
                      injection ea_ with ea_ en_ ec_
                      subst ea_
                      subst ec_
                      clear en_
                      have p173 : 0 ≤ (x4_2 : Int) := of_decide_eq_true (by first | (with_reducible assumption) | assumption)
                      have q173 : x4_2 < (l0_1.length : Int) := of_decide_eq_true (by first | (with_reducible assumption) | assumption)
                      obtain ⟨ad173, A173_1, c173_1, e173, hx173_0, hx173_1, hl173_1, hi173_1⟩ := at_T59 HR0_1.out x4_2 p173 q173
                      obtain rfl : ad171 = ad173 := (by injection e173)
                      replace hx173_0 := (HB.out.cell (World.block_lt_of_cell? w _ hx173_0)).trans hx173_0
                      replace hx173_1 := (HB.out.cell (World.block_lt_of_cell? w _ hx173_1)).trans hx173_1
                      have HR173_1 := Aside0.mk hi173_1
                      have HC173_1 := Aside0.mk hl173_1
                      clear hi173_1 hl173_1
                      replace p173 := eq_true p173
                      replace q173 := eq_true q173
                      have ea_ := Option.some.inj (hx171_1.symm.trans hx173_1)
                      injection ea_ with ea_ en_ ec_
                      subst ea_
                      subst ec_
                      clear en_
                      go_wp2
                      repeat (go_quiet (fail); try go_wp2)
                      go_roundg k2
                      case measure => have := HK1.out; have := HK2.out; omega
                      case rel => exact ⟨(wrap64 (x4_2 + 1)), (by first | rfl | (simp; done) | (simp [*]; done)), H', ⟨by have := HK1.out; have := HK2.out; omega⟩, ⟨by (with_reducible repeat (first | refine blk_drewN ?_ _ | refine blk_drew ?_ | refine blk_alloc ?_ _)); exact BK169.out⟩, ⟨by repeat (first | (with_reducible first | exact HB.out | apply below_alloc | apply pw_below_drewN | apply below_drew1 | refine below_set ?_ GE169.out) | exact HB.out)⟩⟩
                    · rw [if_neg c15] at H
                      have c15b0 : ((((rd_T59 l0_1 x4_2).f1).length : Int) == 64) = false := beq_eq_false_iff_ne.mpr c15
                      have c15b1 : ((((rd_T59 l0_1 x4_2).f1).length : Int) != 64) = true := bne_iff_ne.mpr c15
                      obtain rfl := Option.some.inj H
                      have hcz17_0 : wr.cell? ⟨gb169, 0, none⟩ = some (.slice A0_0 l0_0.length c0_0) := (blk_cell BK169.out 0).trans rfl
                      have hcz17_1 : wr.cell? ⟨gb169, 1, none⟩ = some (.slice A0_1 l0_1.length c0_1) := (blk_cell BK169.out 1).trans rfl
                      have hfz17_0 := blk_frozen BK169.out 0
                      have hfz17_1 := blk_frozen BK169.out 1
                      have p171 : 0 ≤ (x4_2 : Int) := of_decide_eq_true (by first | (with_reducible assumption) | assumption)
                      have q171 : x4_2 < (l0_1.length : Int) := of_decide_eq_true (by first | (with_reducible assumption) | assumption)
                      obtain ⟨ad171, A171_1, c171_1, e171, hx171_0, hx171_1, hl171_1, hi171_1⟩ := at_T59 HR0_1.out x4_2 p171 q171
                      cases e171
                      replace hx171_0 := (HB.out.cell (World.block_lt_of_cell? w _ hx171_0)).trans hx171_0
                      replace hx171_1 := (HB.out.cell (World.block_lt_of_cell? w _ hx171_1)).trans hx171_1
                      have HR171_1 := Aside0.mk hi171_1
                      have HC171_1 := Aside0.mk hl171_1
                      clear hi171_1 hl171_1
                      replace p171 := eq_true p171
                      replace q171 := eq_true q171
                      have p172 : 0 ≤ (x4_2 : Int) := of_decide_eq_true (by first | (with_reducible assumption) | assumption)
                      have q172 : x4_2 < (l0_1.length : Int) := of_decide_eq_true (by first | (with_reducible assumption) | assumption)
                      obtain ⟨ad172, A172_1, c172_1, e172, hx172_0, hx172_1, hl172_1, hi172_1⟩ := at_T59 HR0_1.out x4_2 p172 q172
                      obtain rfl : ad171 = ad172 := (by injection e172)
                      replace hx172_0 := (HB.out.cell (World.block_lt_of_cell? w _ hx172_0)).trans hx172_0
                      replace hx172_1 := (HB.out.cell (World.block_lt_of_cell? w _ hx172_1)).trans hx172_1
                      have HR172_1 := Aside0.mk hi172_1
                      have HC172_1 := Aside0.mk hl172_1
                      clear hi172_1 hl172_1
                      replace p172 := eq_true p172
                      replace q172 := eq_true q172
                      have ea_ := Option.some.inj (hx171_1.symm.trans hx172_1)
                      injection ea_ with ea_ en_ ec_
                      subst ea_
                      subst ec_
                      clear en_
                      have p173 : 0 ≤ (x4_2 : Int) := of_decide_eq_true (by first | (with_reducible assumption) | assumption)
                      have q173 : x4_2 < (l0_1.length : Int) := of_decide_eq_true (by first | (with_reducible assumption) | assumption)
                      obtain ⟨ad173, A173_1, c173_1, e173, hx173_0, hx173_1, hl173_1, hi173_1⟩ := at_T59 HR0_1.out x4_2 p173 q173
                      obtain rfl : ad171 = ad173 := (by injection e173)
                      replace hx173_0 := (HB.out.cell (World.block_lt_of_cell? w _ hx173_0)).trans hx173_0
                      replace hx173_1 := (HB.out.cell (World.block_lt_of_cell? w _ hx173_1)).trans hx173_1
                      have HR173_1 := Aside0.mk hi173_1
                      have HC173_1 := Aside0.mk hl173_1
                      clear hi173_1 hl173_1
                      replace p173 := eq_true p173
                      replace q173 := eq_true q173
                      have ea_ := Option.some.inj (hx171_1.symm.trans hx173_1)
                      injection ea_ with ea_ en_ ec_
                      subst ea_
                      subst ec_
                      clear en_
                      go_wp2
                      repeat (go_quiet (fail); try go_wp2)
                      go_ret
                      exact ⟨by first | rfl | (simp [errW_none, errW_some] <;> rfl) | (simp [*, errW_none, errW_some] <;> rfl), by repeat (first | (with_reducible first | exact HB.out | apply below_alloc | apply pw_below_drewN | apply below_drew1 | refine below_set ?_ GE169.out) | exact HB.out)⟩
              · rw [if_neg c10] at H
                exact absurd H (by simp)
            · rw [if_neg c9] at H
              have c9b0 : decide (x4_2 < (l0_1.length : Int)) = false := decide_eq_false c9
              clear c9
              by_cases c18 : (l0_0.length : Int) ≤ 4096
              · rw [if_pos c18] at H
                have c18b0 : decide ((l0_0.length : Int) ≤ 4096) = true := decide_eq_true c18
                have c18b1 : decide (l0_0.length ≤ 4096) = true := decide_eq_true (by omega)
                clear c18
                obtain rfl := Option.some.inj H
                have hcz19_0 : wr.cell? ⟨gb169, 0, none⟩ = some (.slice A0_0 l0_0.length c0_0) := (blk_cell BK169.out 0).trans rfl
                have hcz19_1 : wr.cell? ⟨gb169, 1, none⟩ = some (.slice A0_1 l0_1.length c0_1) := (blk_cell BK169.out 1).trans rfl
                have hfz19_0 := blk_frozen BK169.out 0
                have hfz19_1 := blk_frozen BK169.out 1
                go_wp2
                repeat (go_quiet (fail); try go_wp2)
                go_ret
                exact ⟨by first | rfl | (simp [errW_none, errW_some] <;> rfl) | (simp [*, errW_none, errW_some] <;> rfl), by repeat (first | (with_reducible first | exact HB.out | apply below_alloc | apply pw_below_drewN | apply below_drew1 | refine below_set ?_ GE169.out) | exact HB.out)⟩
              · rw [if_neg c18] at H
                have c18b0 : decide ((l0_0.length : Int) ≤ 4096) = false := decide_eq_false c18
                have c18b1 : decide (l0_0.length ≤ 4096) = false := decide_eq_false (by omega)
                clear c18
                obtain rfl := Option.some.inj H
                have hcz20_0 : wr.cell? ⟨gb169, 0, none⟩ = some (.slice A0_0 l0_0.length c0_0) := (blk_cell BK169.out 0).trans rfl
                have hcz20_1 : wr.cell? ⟨gb169, 1, none⟩ = some (.slice A0_1 l0_1.length c0_1) := (blk_cell BK169.out 1).trans rfl
                have hfz20_0 := blk_frozen BK169.out 0
                have hfz20_1 := blk_frozen BK169.out 1
                go_wp2
                repeat (go_quiet (fail); try go_wp2)
                go_ret
                exact ⟨by first | rfl | (simp [errW_none, errW_some] <;> rfl) | (simp [*, errW_none, errW_some] <;> rfl), by repeat (first | (with_reducible first | exact HB.out | apply below_alloc | apply pw_below_drewN | apply below_drew1 | refine below_set ?_ GE169.out) | exact HB.out)⟩

end Go.Proofs.Ytiplneodkcjkmaa.P
