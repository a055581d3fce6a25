-- Printed by this session's patched printer.
import Derived.Test.YtiplneodkcjkmaaPx0
namespace Go.Proofs.Ytiplneodkcjkmaa.P
open Go.RowKit Go.Proofs.YtiplneodkcjkmaaW.PrintWords Go.Proofs.YtiplneodkcjkmaaW.PrintLast Go.Proofs.YtiplneodkcjkmaaW.PrintMore
attribute [local go_sem] Go.Instr.field Go.part Go.asAgg max2_int min2_int max_two min_two max_three min_three max_four min_four   -- for this text's walks alone
set_option linter.unusedVariables false
set_option linter.unusedSimpArgs false

/-! ### rubrickref22_Read: function 17 -/
def rubrickref22_Read.l0 : Nat → Int → List Int → Int → List (List Int) → List (S59) → Option (List Int)
  | 0, _, _, _, _, _ => none
  | k + 1, x1, x5, x6, x178000, x178001 => if x6 < (x178001.length : Int) then (if 0 ≤ x6 then (if ((rd_T59 x178001 x6).f0) = x1 then (rubrickref22_Read.l0 k x1 ((rd_T59 x178001 x6).f1) (wrap64 (x6 + 1)) x178000 x178001) else (rubrickref22_Read.l0 k x1 x5 (wrap64 (x6 + 1)) x178000 x178001)) else (none)) else (some x5)
def rubrickref22_Read.f (k : Nat) (l0_0 : List (List Int)) (l0_1 : List (S59)) (a1 : Int) : Option (List Int) := if 0 ≤ a1 then (if a1 < (l0_0.length : Int) then (rubrickref22_Read.l0 k a1 (rd_L1 l0_0 a1) 0 l0_0 l0_1) else (none)) else (none)
theorem rubrickref22_Read.mono_l : ∀ k, (∀ y0 y1 y2 y3 y4, LeO (rubrickref22_Read.l0 k y0 y1 y2 y3 y4) (rubrickref22_Read.l0 (k + 1) y0 y1 y2 y3 y4))
  | 0 => fun _ _ _ _ _ r h => by simp [rubrickref22_Read.l0] at h
  | k + 1 => by
    have ih0 := rubrickref22_Read.mono_l k
    · intro y0 y1 y2 y3 y4
      unfold rubrickref22_Read.l0
      repeat' first
      | (with_reducible exact ih0 _ _ _ _ _)
      | (with_reducible exact LeO.refl _)
      | (with_reducible exact LeO.none _)
      | (with_reducible refine LeO.ite ?_ ?_)
      | (with_reducible refine LeO.bind ?_ (fun _ => ?_))
      | exact ih0 _ _ _ _ _
      | exact LeO.none _
      | refine LeO.ite ?_ ?_
      | refine LeO.bind ?_ (fun _ => ?_)
theorem rubrickref22_Read.mono : ∀ a0 a1 a2 k, LeO (rubrickref22_Read.f k a0 a1 a2) (rubrickref22_Read.f (k + 1) a0 a1 a2) := by
  intro a0 a1 a2 k
  have ih0 := rubrickref22_Read.mono_l k
  unfold rubrickref22_Read.f
  repeat' first
      | (with_reducible exact ih0 _ _ _ _ _)
      | (with_reducible exact LeO.refl _)
      | (with_reducible exact LeO.none _)
      | (with_reducible refine LeO.ite ?_ ?_)
      | (with_reducible refine LeO.bind ?_ (fun _ => ?_))
      | exact ih0 _ _ _ _ _
      | exact LeO.none _
      | refine LeO.ite ?_ ?_
      | refine LeO.bind ?_ (fun _ => ?_)
set_option maxHeartbeats 8000000 in
set_option maxRecDepth 100000 in
theorem rubrickref22_Read.calls (k : Nat) (P0_0_ : Nat → Prop) (A0_0 : Option Addr) (c0_0 : Nat) (l0_0 : List (List Int)) (P0_1_ : Nat → Prop) (A0_1 : Option Addr) (c0_1 : Nat) (l0_1 : List (S59)) (a1 : Int) (r : List Int) (w : World) (hs0_0 : Kd.V (Kd.slice 5 (Kd.int .u8)) 28 w w.heap.size (fun k_ => P0_0_ k_) (.slice A0_0 l0_0.length c0_0) l0_0) (hs0_1 : Kd.V k59 59 w w.heap.size (fun k_ => P0_1_ k_) (.slice A0_1 l0_1.length c0_1) l0_1) (h : rubrickref22_Read.f k l0_0 l0_1 a1 = some r) :
    Calls Try.prog 17 #[.agg #[.slice A0_0 l0_0.length c0_0, .slice A0_1 l0_1.length c0_1], .int .i64 a1] w fun e w' => ∃ v0_ : Value, e = .returned (v0_) ∧ Kd.V (Kd.int .u8) 5 w' w.heap.size (fun k_ => ((P0_0_ k_ ∨ P0_1_ k_) ∨ w.heap.size ≤ k_)) v0_ r ∧ Below w.heap.size w w' := by
  have hu34 := Try.underlying34
  have HO0_0 := Aside0.mk (show Kd.V (Kd.slice 5 (Kd.int .u8)) 28 w w.heap.size (fun k_ => ((P0_0_ k_ ∨ P0_1_ k_) ∨ w.heap.size ≤ k_)) (.slice A0_0 l0_0.length c0_0) l0_0 from Kd.V_mono hs0_0 (fun k_ hk => .inl (.inl hk)))
  have HO0_1 := Aside0.mk (show Kd.V k59 59 w w.heap.size (fun k_ => ((P0_0_ k_ ∨ P0_1_ k_) ∨ w.heap.size ≤ k_)) (.slice A0_1 l0_1.length c0_1) l0_1 from Kd.V_mono hs0_1 (fun k_ hk => .inl (.inr hk)))
  have HB := Aside0.mk (Below.refl w.heap.size w)
  have H : (if 0 ≤ a1 then (if a1 < (l0_0.length : Int) then (rubrickref22_Read.l0 k a1 (rd_L1 l0_0 a1) 0 l0_0 l0_1) else (none)) else (none)) = some r := h
  clear h
  by_cases c3 : 0 ≤ a1
  · rw [if_pos c3] at H
    have c3b0 : decide (0 ≤ a1) = true := decide_eq_true c3
    clear c3
    by_cases c4 : a1 < (l0_0.length : Int)
    · rw [if_pos c4] at H
      have c4b0 : decide (a1 < (l0_0.length : Int)) = true := decide_eq_true c4
      clear c4
      have H' := Aside0.mk H
      clear H
      go_enter Try.func17, Try.ntmps17
      go_wp2_with (first | ((with_reducible refine gate_dst (N := 2) rfl ?_); refine box_event ?hg (N := 2) ?hd (cs := #[.slice A0_0 l0_0.length c0_0, .slice A0_1 l0_1.length c0_1]) (t := 34) ?hr ?_; (case hd => rfl); (case hg => rfl); (case hr => first | (go_simp; done) | (go_simp; rfl)); intro gb177 hg w5 hbox hb; have n0_ := Aside0.mk (Kd.V_below (Kd.V_elderB (by (with_reducible repeat (first | apply Kd.V_alloc | apply Kd.V_drewN | apply Kd.V_drew)); exact HO0_0.out) gb177 (Nat.le_of_eq hg.symm)) hb); have n1_ := Aside0.mk (Kd.V_below (Kd.V_elderB (by (with_reducible repeat (first | apply Kd.V_alloc | apply Kd.V_drewN | apply Kd.V_drew)); exact HO0_1.out) gb177 (Nat.le_of_eq hg.symm)) hb); have n2_ := Aside0.mk (below_step (by repeat (first | (with_reducible first | exact HB.out | apply below_alloc | apply pw_below_drewN | apply below_drew1) | exact HB.out)) hb); have n3_ := Aside0.mk (hbox); have n4_ := Aside0.mk ((by rw [hg]; exact (below_size (by repeat (first | (with_reducible first | exact HB.out | apply below_alloc | apply pw_below_drewN | apply below_drew1) | exact HB.out))) : w.heap.size ≤ gb177)); have n5_ := Aside0.mk ((by rw [hg]; exact (below_size (by repeat (first | (with_reducible first | exact HB.out | apply below_alloc | apply pw_below_drewN | apply below_drew1) | exact HB.out))) : w.heap.size ≤ gb177)); clear HO0_0; clear HO0_1; clear HB; have HO0_0 := n0_; have HO0_1 := n1_; have HB := n2_; have BK177 := n3_; have GW177 := n4_; have GE177 := n5_; clear n0_ n1_ n2_ n3_ n4_ n5_; clear hb hbox hg; have hcz6_0 : w5.cell? ⟨gb177, 0, none⟩ = some (.slice A0_0 l0_0.length c0_0) := (blk_cell BK177.out 0).trans rfl; have hcz6_1 : w5.cell? ⟨gb177, 1, none⟩ = some (.slice A0_1 l0_1.length c0_1) := (blk_cell BK177.out 1).trans rfl; have hfz6_0 := blk_frozen BK177.out 0; have hfz6_1 := blk_frozen BK177.out 1; have p178 : 0 ≤ (a1 : Int) := of_decide_eq_true (by first | (with_reducible assumption) | assumption); have q178 : a1 < (l0_0.length : Int) := of_decide_eq_true (by first | (with_reducible assumption) | assumption); obtain ⟨ad178, A178_0, c178_0, e178, hx178_0, hl178_0, hi178_0⟩ := at_L1 (Kd.V_reads' HO0_0.out).2.2 a1 p178 q178; cases e178; obtain ⟨ce178, hce178, hMe178, hcc178⟩ := Kd.V_get HO0_0.out [] a1 p178 (by first | exact q178 | exact of_decide_eq_true (by first | (with_reducible assumption) | assumption) | (have e_ := (Kd.V_reads' HO0_0.out).1; omega)); obtain ⟨ua178_0, uc178_0, rfl, ul178_0, ge178_0⟩ := Kd.FK_slice_open hMe178; have hv178_0 := hcc178 0 _ rfl; rw [Nat.add_zero, show ((Kd.slice 5 (Kd.int .u8))).sz = 1 from rfl, Nat.mul_one] at hv178_0; replace hv178_0 := Option.some.inj (hv178_0.symm.trans hx178_0); injection hv178_0 with hva_ hvn_ hvc_; rw [hva_] at ge178_0; rw [hvc_] at ul178_0; have HL178_0 := Aside0.mk (show Kd.V (Kd.int .u8) 5 _ w.heap.size _ _ (rd_L1 l0_0 a1) from Kd.V_mk ul178_0 ge178_0); clear hva_ hvn_ hvc_ ge178_0 ul178_0; clear hcc178 hce178; have HR178_0 := Aside0.mk hi178_0; have HC178_0 := Aside0.mk hl178_0; clear hi178_0 hl178_0; replace p178 := eq_true p178; replace q178 := eq_true q178))
      go_loopg [5, 6] k (fun kq v5 v6 w' => ∃ (x5_1 : List Int) (x6_1 : Int), v6 = .int .i64 x6_1 ∧ Aside0 (rubrickref22_Read.l0 kq a1 x5_1 x6_1 l0_0 l0_1 = some r) ∧ Aside0 (kq ≤ k) ∧ Aside0 (Kd.V (Kd.int .u8) 5 w' w.heap.size (fun k_ => ((P0_0_ k_ ∨ P0_1_ k_) ∨ w.heap.size ≤ k_) ∧ k_ ≠ gb177) v5 x5_1) ∧ Aside0 (Kd.V (Kd.slice 5 (Kd.int .u8)) 28 w' w.heap.size (fun k_ => ((P0_0_ k_ ∨ P0_1_ k_) ∨ w.heap.size ≤ k_) ∧ k_ ≠ gb177) (.slice (some ad178) l0_0.length c0_0) l0_0) ∧ Aside0 (Kd.V k59 59 w' w.heap.size (fun k_ => ((P0_0_ k_ ∨ P0_1_ k_) ∨ w.heap.size ≤ k_) ∧ k_ ≠ gb177) (.slice A0_1 l0_1.length c0_1) l0_1) ∧ Aside0 (w'.heap[gb177]? = some (.cells #[(.slice (some ad178) l0_0.length c0_0), (.slice A0_1 l0_1.length c0_1)] 34 (0, 0))) ∧ Aside0 (Kd.C (Kd.int .u8) w' A178_0 (rd_L1 l0_0 a1).length (rd_L1 l0_0 a1)) ∧ Aside0 (Below w.heap.size w w'))
      case atStart => exact ⟨(rd_L1 l0_0 a1), (0), (by first | rfl | (simp; done) | (simp [*]; done)), H', ⟨Nat.le_refl _⟩, ⟨by (with_reducible repeat (first | apply Kd.V_alloc | apply Kd.V_drewN | apply Kd.V_drew)); exact HL178_0.out⟩, ⟨by (with_reducible repeat (first | apply Kd.V_alloc | apply Kd.V_drewN | apply Kd.V_drew)); exact HO0_0.out⟩, ⟨by (with_reducible repeat (first | apply Kd.V_alloc | apply Kd.V_drewN | apply Kd.V_drew)); exact HO0_1.out⟩, ⟨by (with_reducible repeat (first | refine blk_drewN ?_ _ | refine blk_drew ?_ | refine blk_alloc ?_ _)); exact BK177.out⟩, ⟨by repeat (first | (with_reducible exact HR178_0.out) | (with_reducible refine Kd.C_alloc ?_ _) | (with_reducible refine Kd.C_drewN ?_ _) | (with_reducible refine Kd.C_drew ?_) | exact HR178_0.out)⟩, ⟨by repeat (first | (with_reducible first | exact HB.out | apply below_alloc | apply pw_below_drewN | apply below_drew1 | refine below_set ?_ GE177.out) | exact HB.out)⟩⟩
      case round =>
        clear H'
        try clear c1
        try clear p1
        try clear q1
        try clear hx1
        try clear p2
        try clear c3
        try clear c3b0
        try clear c4
        try clear c4b0
        try clear hcz6_0
        try clear hcz6_1
        try clear hfz6_0
        try clear hfz6_1
        try clear hx178_0
        try clear p178
        try clear q178
        obtain ⟨x5_1, x6_1, rfl, HA, HK1, HO_5, HO_178000, HO_178001, BK177, HR178_0, HB⟩ := hrel
        cases gk with
        | zero => exact absurd HA.out (by simp [rubrickref22_Read.l0])
        | succ k1 =>
          have H := HA.out
          clear HA
          simp only [rubrickref22_Read.l0] at H
          by_cases c7 : x6_1 < (l0_1.length : Int)
          · rw [if_pos c7] at H
            have c7b0 : decide (x6_1 < (l0_1.length : Int)) = true := decide_eq_true c7
            clear c7
            by_cases c8 : 0 ≤ x6_1
            · rw [if_pos c8] at H
              have c8b0 : decide (0 ≤ x6_1) = true := decide_eq_true c8
              clear c8
              by_cases c9 : ((rd_T59 l0_1 x6_1).f0) = a1
              · rw [if_pos c9] at H
                have c9b0 : (((rd_T59 l0_1 x6_1).f0) == a1) = true := beq_iff_eq.mpr c9
                have c9b1 : (((rd_T59 l0_1 x6_1).f0) != a1) = false := bne_eq_false_iff_eq.mpr c9
                clear c9
                have H' := Aside0.mk H
                clear H
                have hcz10_0 : wr.cell? ⟨gb177, 0, none⟩ = some (.slice (some ad178) l0_0.length c0_0) := (blk_cell BK177.out 0).trans rfl
                have hcz10_1 : wr.cell? ⟨gb177, 1, none⟩ = some (.slice A0_1 l0_1.length c0_1) := (blk_cell BK177.out 1).trans rfl
                have hfz10_0 := blk_frozen BK177.out 0
                have hfz10_1 := blk_frozen BK177.out 1
                have p179 : 0 ≤ (x6_1 : Int) := of_decide_eq_true (by first | (with_reducible assumption) | assumption)
                have q179 : x6_1 < (l0_1.length : Int) := of_decide_eq_true (by first | (with_reducible assumption) | assumption)
                obtain ⟨ad179, A179_1, c179_1, e179, hx179_0, hx179_1, hl179_1, hi179_1⟩ := at_T59 (Kd.V_reads' HO_178001.out).2.2 x6_1 p179 q179
                cases e179
                obtain ⟨ce179, hce179, hMe179, hcc179⟩ := Kd.V_get HO_178001.out z59 x6_1 p179 (by first | exact q179 | exact of_decide_eq_true (by first | (with_reducible assumption) | assumption) | (have e_ := (Kd.V_reads' HO_178001.out).1; omega))
                obtain ⟨ua179_1, uc179_1, rfl, ul179_1, ge179_1⟩ := k59_openF hMe179
                have hv179_1 := hcc179 1 _ rfl
                rw [add_field _ _ 1 (by omega)] at hv179_1
                replace hv179_1 := Option.some.inj (hv179_1.symm.trans hx179_1)
                injection hv179_1 with hva_ hvn_ hvc_
                rw [hva_] at ge179_1
                rw [hvc_] at ul179_1
                have HL179_1 := Aside0.mk (show Kd.V (Kd.int .u8) 5 _ w.heap.size _ _ ((rd_T59 l0_1 x6_1).f1) from Kd.V_mk ul179_1 ge179_1)
                clear hva_ hvn_ hvc_ ge179_1 ul179_1
                clear hcc179 hce179
                have HR179_1 := Aside0.mk hi179_1
                have HC179_1 := Aside0.mk hl179_1
                clear hi179_1 hl179_1
                replace p179 := eq_true p179
                replace q179 := eq_true q179
                have p180 : 0 ≤ (x6_1 : Int) := of_decide_eq_true (by first | (with_reducible assumption) | assumption)
                have q180 : x6_1 < (l0_1.length : Int) := of_decide_eq_true (by first | (with_reducible assumption) | assumption)
                obtain ⟨ad180, A180_1, c180_1, e180, hx180_0, hx180_1, hl180_1, hi180_1⟩ := at_T59 (Kd.V_reads' HO_178001.out).2.2 x6_1 p180 q180
                obtain rfl : ad179 = ad180 := (by injection e180)
                obtain ⟨ce180, hce180, hMe180, hcc180⟩ := Kd.V_get HO_178001.out z59 x6_1 p180 (by first | exact q180 | exact of_decide_eq_true (by first | (with_reducible assumption) | assumption) | (have e_ := (Kd.V_reads' HO_178001.out).1; omega))
                obtain ⟨ua180_1, uc180_1, rfl, ul180_1, ge180_1⟩ := k59_openF hMe180
                have hv180_1 := hcc180 1 _ rfl
                rw [add_field _ _ 1 (by omega)] at hv180_1
                replace hv180_1 := Option.some.inj (hv180_1.symm.trans hx180_1)
                injection hv180_1 with hva_ hvn_ hvc_
                rw [hva_] at ge180_1
                rw [hvc_] at ul180_1
                have HL180_1 := Aside0.mk (show Kd.V (Kd.int .u8) 5 _ w.heap.size _ _ ((rd_T59 l0_1 x6_1).f1) from Kd.V_mk ul180_1 ge180_1)
                clear hva_ hvn_ hvc_ ge180_1 ul180_1
                clear hcc180 hce180
                have HR180_1 := Aside0.mk hi180_1
                have HC180_1 := Aside0.mk hl180_1
                clear hi180_1 hl180_1
                replace p180 := eq_true p180
                replace q180 := eq_true q180
                have ea_ := Option.some.inj (hx179_1.symm.trans hx180_1)
                injection ea_ with ea_ en_ ec_
                subst ea_
                subst ec_
                clear en_
                go_wp2
                go_roundg k1
                case measure => have := HK1.out; omega
                case rel => exact ⟨((rd_T59 l0_1 x6_1).f1), (wrap64 (x6_1 + 1)), (by first | rfl | (simp; done) | (simp [*]; done)), H', ⟨by have := HK1.out; omega⟩, ⟨by (with_reducible repeat (first | apply Kd.V_alloc | apply Kd.V_drewN | apply Kd.V_drew)); exact HL180_1.out⟩, ⟨by (with_reducible repeat (first | apply Kd.V_alloc | apply Kd.V_drewN | apply Kd.V_drew)); exact HO_178000.out⟩, ⟨by (with_reducible repeat (first | apply Kd.V_alloc | apply Kd.V_drewN | apply Kd.V_drew)); exact HO_178001.out⟩, ⟨by (with_reducible repeat (first | refine blk_drewN ?_ _ | refine blk_drew ?_ | refine blk_alloc ?_ _)); exact BK177.out⟩, ⟨by repeat (first | (with_reducible exact HR178_0.out) | (with_reducible refine Kd.C_alloc ?_ _) | (with_reducible refine Kd.C_drewN ?_ _) | (with_reducible refine Kd.C_drew ?_) | exact HR178_0.out)⟩, ⟨by repeat (first | (with_reducible first | exact HB.out | apply below_alloc | apply pw_below_drewN | apply below_drew1 | refine below_set ?_ GE177.out) | exact HB.out)⟩⟩
              · rw [if_neg c9] at H
                have c9b0 : (((rd_T59 l0_1 x6_1).f0) == a1) = false := beq_eq_false_iff_ne.mpr c9
                have c9b1 : (((rd_T59 l0_1 x6_1).f0) != a1) = true := bne_iff_ne.mpr c9
                have H' := Aside0.mk H
                clear H
                have hcz11_0 : wr.cell? ⟨gb177, 0, none⟩ = some (.slice (some ad178) l0_0.length c0_0) := (blk_cell BK177.out 0).trans rfl
                have hcz11_1 : wr.cell? ⟨gb177, 1, none⟩ = some (.slice A0_1 l0_1.length c0_1) := (blk_cell BK177.out 1).trans rfl
                have hfz11_0 := blk_frozen BK177.out 0
                have hfz11_1 := blk_frozen BK177.out 1
                have p179 : 0 ≤ (x6_1 : Int) := of_decide_eq_true (by first | (with_reducible assumption) | assumption)
                have q179 : x6_1 < (l0_1.length : Int) := of_decide_eq_true (by first | (with_reducible assumption) | assumption)
                obtain ⟨ad179, A179_1, c179_1, e179, hx179_0, hx179_1, hl179_1, hi179_1⟩ := at_T59 (Kd.V_reads' HO_178001.out).2.2 x6_1 p179 q179
                cases e179
                obtain ⟨ce179, hce179, hMe179, hcc179⟩ := Kd.V_get HO_178001.out z59 x6_1 p179 (by first | exact q179 | exact of_decide_eq_true (by first | (with_reducible assumption) | assumption) | (have e_ := (Kd.V_reads' HO_178001.out).1; omega))
                obtain ⟨ua179_1, uc179_1, rfl, ul179_1, ge179_1⟩ := k59_openF hMe179
                have hv179_1 := hcc179 1 _ rfl
                rw [add_field _ _ 1 (by omega)] at hv179_1
                replace hv179_1 := Option.some.inj (hv179_1.symm.trans hx179_1)
                injection hv179_1 with hva_ hvn_ hvc_
                rw [hva_] at ge179_1
                rw [hvc_] at ul179_1
                have HL179_1 := Aside0.mk (show Kd.V (Kd.int .u8) 5 _ w.heap.size _ _ ((rd_T59 l0_1 x6_1).f1) from Kd.V_mk ul179_1 ge179_1)
                clear hva_ hvn_ hvc_ ge179_1 ul179_1
                clear hcc179 hce179
                have HR179_1 := Aside0.mk hi179_1
                have HC179_1 := Aside0.mk hl179_1
                clear hi179_1 hl179_1
                replace p179 := eq_true p179
                replace q179 := eq_true q179
                go_wp2
                go_roundg k1
                case measure => have := HK1.out; omega
                case rel => exact ⟨(x5_1), (wrap64 (x6_1 + 1)), (by first | rfl | (simp; done) | (simp [*]; done)), H', ⟨by have := HK1.out; omega⟩, ⟨by (with_reducible repeat (first | apply Kd.V_alloc | apply Kd.V_drewN | apply Kd.V_drew)); exact HO_5.out⟩, ⟨by (with_reducible repeat (first | apply Kd.V_alloc | apply Kd.V_drewN | apply Kd.V_drew)); exact HO_178000.out⟩, ⟨by (with_reducible repeat (first | apply Kd.V_alloc | apply Kd.V_drewN | apply Kd.V_drew)); exact HO_178001.out⟩, ⟨by (with_reducible repeat (first | refine blk_drewN ?_ _ | refine blk_drew ?_ | refine blk_alloc ?_ _)); exact BK177.out⟩, ⟨by repeat (first | (with_reducible exact HR178_0.out) | (with_reducible refine Kd.C_alloc ?_ _) | (with_reducible refine Kd.C_drewN ?_ _) | (with_reducible refine Kd.C_drew ?_) | exact HR178_0.out)⟩, ⟨by repeat (first | (with_reducible first | exact HB.out | apply below_alloc | apply pw_below_drewN | apply below_drew1 | refine below_set ?_ GE177.out) | exact HB.out)⟩⟩
            · rw [if_neg c8] at H
              exact absurd H (by simp)
          · rw [if_neg c7] at H
            have c7b0 : decide (x6_1 < (l0_1.length : Int)) = false := decide_eq_false c7
            clear c7
            obtain rfl := Option.some.inj H
            have hcz12_0 : wr.cell? ⟨gb177, 0, none⟩ = some (.slice (some ad178) l0_0.length c0_0) := (blk_cell BK177.out 0).trans rfl
            have hcz12_1 : wr.cell? ⟨gb177, 1, none⟩ = some (.slice A0_1 l0_1.length c0_1) := (blk_cell BK177.out 1).trans rfl
            have hfz12_0 := blk_frozen BK177.out 0
            have hfz12_1 := blk_frozen BK177.out 1
            go_wp2
            go_ret
            exact ⟨_, by first | rfl | (simp [errW_none, errW_some] <;> rfl) | (simp [*, errW_none, errW_some] <;> rfl), by (with_reducible repeat (first | apply Kd.V_alloc | apply Kd.V_drewN | apply Kd.V_drew)); exact Kd.V_mono HO_5.out (fun _ hk => hk.1), by repeat (first | (with_reducible first | exact HB.out | apply below_alloc | apply pw_below_drewN | apply below_drew1 | refine below_set ?_ GE177.out) | exact HB.out)⟩
    · rw [if_neg c4] at H
      exact absurd H (by simp)
  · rw [if_neg c3] at H
    exact absurd H (by simp)

end Go.Proofs.Ytiplneodkcjkmaa.P
