-- Printed by this session's patched printer.
import Derived.Test.YtiplneodkcjkmaaPx0
namespace Go.Proofs.Ytiplneodkcjkmaa.P
open Go.RowKit Go.Proofs.YtiplneodkcjkmaaW.PrintWords Go.Proofs.YtiplneodkcjkmaaW.PrintLast Go.Proofs.YtiplneodkcjkmaaW.PrintMore
attribute [local go_sem] Go.Instr.field Go.part Go.asAgg max2_int min2_int max_two min_two max_three min_three max_four min_four   -- for this text's walks alone
set_option linter.unusedVariables false
set_option linter.unusedSimpArgs false

/-! ### rubrickref22_Same: function 19 -/
mutual
def rubrickref22_Same.j0 : Nat → Bool → List (List Int) → List (S59) → List (List Int) → List (S59) → Option (Bool)
  | 0, _, _, _, _, _ => none
  | k + 1, x22, x216000, x216001, x217000, x217001 => if x22 = true then (some false) else (rubrickref22_Same.l0 k 0 x216000 x216001 x217000 x217001)
def rubrickref22_Same.l0 : Nat → Int → List (List Int) → List (S59) → List (List Int) → List (S59) → Option (Bool)
  | 0, _, _, _, _, _ => none
  | k + 1, x5, x216000, x216001, x217000, x217001 => if x5 < (x216000.length : Int) then (if 0 ≤ x5 then (if x5 < (x217000.length : Int) then (if (strOfNums (rd_L1 x216000 x5)).toList = (strOfNums (rd_L1 x217000 x5)).toList then (rubrickref22_Same.l0 k (wrap64 (x5 + 1)) x216000 x216001 x217000 x217001) else (some false)) else (none)) else (none)) else (rubrickref22_Same.l1 k 0 x216000 x216001 x217000 x217001)
def rubrickref22_Same.l1 : Nat → Int → List (List Int) → List (S59) → List (List Int) → List (S59) → Option (Bool)
  | 0, _, _, _, _, _ => none
  | k + 1, x6, x216000, x216001, x217000, x217001 => if x6 < (x216001.length : Int) then (if 0 ≤ x6 then (if x6 < (x217001.length : Int) then (if ((rd_T59 x216001 x6).f0) = ((rd_T59 x217001 x6).f0) then (if (strOfNums ((rd_T59 x216001 x6).f1)).toList = (strOfNums ((rd_T59 x217001 x6).f1)).toList then (rubrickref22_Same.l1 k (wrap64 (x6 + 1)) x216000 x216001 x217000 x217001) else (some false)) else (some false)) else (none)) else (none)) else (some true)
end
def rubrickref22_Same.f (k : Nat) (l0_0 : List (List Int)) (l0_1 : List (S59)) (l1_0 : List (List Int)) (l1_1 : List (S59)) : Option (Bool) := if (l0_0.length : Int) = (l1_0.length : Int) then (rubrickref22_Same.j0 k ((l0_1.length : Int) != (l1_1.length : Int)) l0_0 l0_1 l1_0 l1_1) else (rubrickref22_Same.j0 k true l0_0 l0_1 l1_0 l1_1)
theorem rubrickref22_Same.mono_l : ∀ k, (∀ y0 y1 y2 y3 y4, LeO (rubrickref22_Same.j0 k y0 y1 y2 y3 y4) (rubrickref22_Same.j0 (k + 1) y0 y1 y2 y3 y4)) ∧ (∀ y0 y1 y2 y3 y4, LeO (rubrickref22_Same.l0 k y0 y1 y2 y3 y4) (rubrickref22_Same.l0 (k + 1) y0 y1 y2 y3 y4)) ∧ (∀ y0 y1 y2 y3 y4, LeO (rubrickref22_Same.l1 k y0 y1 y2 y3 y4) (rubrickref22_Same.l1 (k + 1) y0 y1 y2 y3 y4))
  | 0 => ⟨fun _ _ _ _ _ r h => by simp [rubrickref22_Same.j0] at h, fun _ _ _ _ _ r h => by simp [rubrickref22_Same.l0] at h, fun _ _ _ _ _ r h => by simp [rubrickref22_Same.l1] at h⟩
  | k + 1 => by
    obtain ⟨ih0, ih1, ih2⟩ := rubrickref22_Same.mono_l k
    refine ⟨?_, ?_, ?_⟩
    · intro y0 y1 y2 y3 y4
      unfold rubrickref22_Same.j0
      repeat' first
      | (with_reducible exact ih0 _ _ _ _ _)
      | (with_reducible exact ih1 _ _ _ _ _)
      | (with_reducible exact ih2 _ _ _ _ _)
      | (with_reducible exact LeO.refl _)
      | (with_reducible exact LeO.none _)
      | (with_reducible refine LeO.ite ?_ ?_)
      | (with_reducible refine LeO.bind ?_ (fun _ => ?_))
      | exact ih0 _ _ _ _ _
      | exact ih1 _ _ _ _ _
      | exact ih2 _ _ _ _ _
      | exact LeO.none _
      | refine LeO.ite ?_ ?_
      | refine LeO.bind ?_ (fun _ => ?_)
    · intro y0 y1 y2 y3 y4
      unfold rubrickref22_Same.l0
      repeat' first
      | (with_reducible exact ih0 _ _ _ _ _)
      | (with_reducible exact ih1 _ _ _ _ _)
      | (with_reducible exact ih2 _ _ _ _ _)
      | (with_reducible exact LeO.refl _)
      | (with_reducible exact LeO.none _)
      | (with_reducible refine LeO.ite ?_ ?_)
      | (with_reducible refine LeO.bind ?_ (fun _ => ?_))
      | exact ih0 _ _ _ _ _
      | exact ih1 _ _ _ _ _
      | exact ih2 _ _ _ _ _
      | exact LeO.none _
      | refine LeO.ite ?_ ?_
      | refine LeO.bind ?_ (fun _ => ?_)
    · intro y0 y1 y2 y3 y4
      unfold rubrickref22_Same.l1
      repeat' first
      | (with_reducible exact ih0 _ _ _ _ _)
      | (with_reducible exact ih1 _ _ _ _ _)
      | (with_reducible exact ih2 _ _ _ _ _)
      | (with_reducible exact LeO.refl _)
      | (with_reducible exact LeO.none _)
      | (with_reducible refine LeO.ite ?_ ?_)
      | (with_reducible refine LeO.bind ?_ (fun _ => ?_))
      | exact ih0 _ _ _ _ _
      | exact ih1 _ _ _ _ _
      | exact ih2 _ _ _ _ _
      | exact LeO.none _
      | refine LeO.ite ?_ ?_
      | refine LeO.bind ?_ (fun _ => ?_)
theorem rubrickref22_Same.mono : ∀ a0 a1 a2 a3 k, LeO (rubrickref22_Same.f k a0 a1 a2 a3) (rubrickref22_Same.f (k + 1) a0 a1 a2 a3) := by
  intro a0 a1 a2 a3 k
  obtain ⟨ih0, ih1, ih2⟩ := rubrickref22_Same.mono_l k
  unfold rubrickref22_Same.f
  repeat' first
      | (with_reducible exact ih0 _ _ _ _ _)
      | (with_reducible exact ih1 _ _ _ _ _)
      | (with_reducible exact ih2 _ _ _ _ _)
      | (with_reducible exact LeO.refl _)
      | (with_reducible exact LeO.none _)
      | (with_reducible refine LeO.ite ?_ ?_)
      | (with_reducible refine LeO.bind ?_ (fun _ => ?_))
      | exact ih0 _ _ _ _ _
      | exact ih1 _ _ _ _ _
      | exact ih2 _ _ _ _ _
      | exact LeO.none _
      | refine LeO.ite ?_ ?_
      | refine LeO.bind ?_ (fun _ => ?_)
set_option maxHeartbeats 8000000 in
set_option maxRecDepth 100000 in
theorem rubrickref22_Same.calls (k : Nat) (A0_0 : Option Addr) (c0_0 : Nat) (l0_0 : List (List Int)) (A0_1 : Option Addr) (c0_1 : Nat) (l0_1 : List (S59)) (A1_0 : Option Addr) (c1_0 : Nat) (l1_0 : List (List Int)) (A1_1 : Option Addr) (c1_1 : Nat) (l1_1 : List (S59)) (r : Bool) (w : World) (hr0_0 : Kd.C (Kd.slice 5 (Kd.int .u8)) w A0_0 l0_0.length l0_0) (hc0_0 : l0_0.length ≤ c0_0) (hr0_1 : Kd.C k59 w A0_1 l0_1.length l0_1) (hc0_1 : l0_1.length ≤ c0_1) (hr1_0 : Kd.C (Kd.slice 5 (Kd.int .u8)) w A1_0 l1_0.length l1_0) (hc1_0 : l1_0.length ≤ c1_0) (hr1_1 : Kd.C k59 w A1_1 l1_1.length l1_1) (hc1_1 : l1_1.length ≤ c1_1) (h : rubrickref22_Same.f k l0_0 l0_1 l1_0 l1_1 = some r) :
    Calls Try.prog 19 #[.agg #[.slice A0_0 l0_0.length c0_0, .slice A0_1 l0_1.length c0_1], .agg #[.slice A1_0 l1_0.length c1_0, .slice A1_1 l1_1.length c1_1]] w fun e w' => e = .returned (.bool r) ∧ Below w.heap.size w w' := by
  have hu34 := Try.underlying34
  have HR0_0 := Aside0.mk hr0_0
  have HC0_0 := Aside0.mk hc0_0
  clear hr0_0 hc0_0
  have HR0_1 := Aside0.mk hr0_1
  have HC0_1 := Aside0.mk hc0_1
  clear hr0_1 hc0_1
  have HR1_0 := Aside0.mk hr1_0
  have HC1_0 := Aside0.mk hc1_0
  clear hr1_0 hc1_0
  have HR1_1 := Aside0.mk hr1_1
  have HC1_1 := Aside0.mk hc1_1
  clear hr1_1 hc1_1
  have HB := Aside0.mk (Below.refl w.heap.size w)
  have H : (if (l0_0.length : Int) = (l1_0.length : Int) then (rubrickref22_Same.j0 k ((l0_1.length : Int) != (l1_1.length : Int)) l0_0 l0_1 l1_0 l1_1) else (rubrickref22_Same.j0 k true l0_0 l0_1 l1_0 l1_1)) = some r := h
  clear h
  have HC3 := Aside0.mk H
  clear H
  go_enter Try.func19, Try.ntmps19
  go_upto_region 1 with (first | ((with_reducible refine gate_dst (N := 2) rfl ?_); (try (refine gate_guard (by rfl) ?_; dsimp only)); refine box_event ?hg (N := 2) ?hd (cs := #[.slice A0_0 l0_0.length c0_0, .slice A0_1 l0_1.length c0_1]) (t := 34) ?hr ?_; (case hd => rfl); (case hg => rfl); (case hr => first | (go_simp; done) | (go_simp; rfl)); intro gb215 hg w4 hbox hb; have n0_ := Aside0.mk (below_step (by repeat (first | (with_reducible first | exact HB.out | apply below_alloc | apply pw_below_drewN | apply below_drew1) | exact HB.out)) hb); have n1_ := Aside0.mk (hbox); have n2_ := Aside0.mk ((by rw [hg]; exact (below_size (by repeat (first | (with_reducible first | exact HB.out | apply below_alloc | apply pw_below_drewN | apply below_drew1) | exact HB.out))) : w.heap.size ≤ gb215)); have n3_ := Aside0.mk ((by rw [hg]; exact (below_size (by repeat (first | (with_reducible first | exact HB.out | apply below_alloc | apply pw_below_drewN | apply below_drew1) | exact HB.out))) : w.heap.size ≤ gb215)); clear HB; have HB := n0_; have BK215 := n1_; have GW215 := n2_; have GE215 := n3_; clear n0_ n1_ n2_ n3_; clear hb hbox hg) | ((with_reducible refine gate_dst (N := 3) rfl ?_); (try (refine gate_guard (by rfl) ?_; dsimp only)); refine box_event ?hg (N := 3) ?hd (cs := #[.slice A1_0 l1_0.length c1_0, .slice A1_1 l1_1.length c1_1]) (t := 34) ?hr ?_; (case hd => rfl); (case hg => rfl); (case hr => first | (go_simp; done) | (go_simp; rfl)); intro gb216 hg w5 hbox hb; have n0_ := Aside0.mk (blk_below (g := gb215) (o := .cells #[.slice A0_0 l0_0.length c0_0, .slice A0_1 l0_1.length c0_1] 34 (0, 0)) (by (with_reducible repeat (first | refine blk_drewN ?_ _ | refine blk_drew ?_ | refine blk_alloc ?_ _)); exact BK215.out) hb); have n1_ := Aside0.mk (below_step (by repeat (first | (with_reducible first | exact HB.out | apply below_alloc | apply pw_below_drewN | apply below_drew1 | refine below_set ?_ GE215.out) | exact HB.out)) hb); have n2_ := Aside0.mk (hbox); have n3_ := Aside0.mk ((by rw [hg]; exact (below_size (by repeat (first | (with_reducible first | exact HB.out | apply below_alloc | apply pw_below_drewN | apply below_drew1 | refine below_set ?_ GE215.out) | exact HB.out))) : w.heap.size ≤ gb216)); have n4_ := Aside0.mk ((by rw [hg]; exact (below_size (by repeat (first | (with_reducible first | exact HB.out | apply below_alloc | apply pw_below_drewN | apply below_drew1 | refine below_set ?_ GE215.out) | exact HB.out))) : w.heap.size ≤ gb216)); have n5_ := Aside0.mk ((by rw [hg]; exact Nat.ne_of_lt (blk_lt (g := gb215) (o := .cells #[.slice A0_0 l0_0.length c0_0, .slice A0_1 l0_1.length c0_1] 34 (0, 0)) (by (with_reducible repeat (first | refine blk_drewN ?_ _ | refine blk_drew ?_ | refine blk_alloc ?_ _)); exact BK215.out)) : gb215 ≠ gb216)); have n6_ := Aside0.mk ((by rw [hg]; exact Nat.ne_of_gt (blk_lt (g := gb215) (o := .cells #[.slice A0_0 l0_0.length c0_0, .slice A0_1 l0_1.length c0_1] 34 (0, 0)) (by (with_reducible repeat (first | refine blk_drewN ?_ _ | refine blk_drew ?_ | refine blk_alloc ?_ _)); exact BK215.out)) : gb216 ≠ gb215)); clear BK215; clear HB; have BK215 := n0_; have HB := n1_; have BK216 := n2_; have GW216 := n3_; have GE216 := n4_; have NB215_216 := n5_; have NB216_215 := n6_; clear n0_ n1_ n2_ n3_ n4_ n5_ n6_; clear hb hbox hg))
  repeat (go_quiet (first | ((with_reducible refine gate_dst (N := 2) rfl ?_); (try (refine gate_guard (by rfl) ?_; dsimp only)); refine box_event ?hg (N := 2) ?hd (cs := #[.slice A0_0 l0_0.length c0_0, .slice A0_1 l0_1.length c0_1]) (t := 34) ?hr ?_; (case hd => rfl); (case hg => rfl); (case hr => first | (go_simp; done) | (go_simp; rfl)); intro gb215 hg w4 hbox hb; have n0_ := Aside0.mk (below_step (by repeat (first | (with_reducible first | exact HB.out | apply below_alloc | apply pw_below_drewN | apply below_drew1) | exact HB.out)) hb); have n1_ := Aside0.mk (hbox); have n2_ := Aside0.mk ((by rw [hg]; exact (below_size (by repeat (first | (with_reducible first | exact HB.out | apply below_alloc | apply pw_below_drewN | apply below_drew1) | exact HB.out))) : w.heap.size ≤ gb215)); have n3_ := Aside0.mk ((by rw [hg]; exact (below_size (by repeat (first | (with_reducible first | exact HB.out | apply below_alloc | apply pw_below_drewN | apply below_drew1) | exact HB.out))) : w.heap.size ≤ gb215)); clear HB; have HB := n0_; have BK215 := n1_; have GW215 := n2_; have GE215 := n3_; clear n0_ n1_ n2_ n3_; clear hb hbox hg) | ((with_reducible refine gate_dst (N := 3) rfl ?_); (try (refine gate_guard (by rfl) ?_; dsimp only)); refine box_event ?hg (N := 3) ?hd (cs := #[.slice A1_0 l1_0.length c1_0, .slice A1_1 l1_1.length c1_1]) (t := 34) ?hr ?_; (case hd => rfl); (case hg => rfl); (case hr => first | (go_simp; done) | (go_simp; rfl)); intro gb216 hg w5 hbox hb; have n0_ := Aside0.mk (blk_below (g := gb215) (o := .cells #[.slice A0_0 l0_0.length c0_0, .slice A0_1 l0_1.length c0_1] 34 (0, 0)) (by (with_reducible repeat (first | refine blk_drewN ?_ _ | refine blk_drew ?_ | refine blk_alloc ?_ _)); exact BK215.out) hb); have n1_ := Aside0.mk (below_step (by repeat (first | (with_reducible first | exact HB.out | apply below_alloc | apply pw_below_drewN | apply below_drew1 | refine below_set ?_ GE215.out) | exact HB.out)) hb); have n2_ := Aside0.mk (hbox); have n3_ := Aside0.mk ((by rw [hg]; exact (below_size (by repeat (first | (with_reducible first | exact HB.out | apply below_alloc | apply pw_below_drewN | apply below_drew1 | refine below_set ?_ GE215.out) | exact HB.out))) : w.heap.size ≤ gb216)); have n4_ := Aside0.mk ((by rw [hg]; exact (below_size (by repeat (first | (with_reducible first | exact HB.out | apply below_alloc | apply pw_below_drewN | apply below_drew1 | refine below_set ?_ GE215.out) | exact HB.out))) : w.heap.size ≤ gb216)); have n5_ := Aside0.mk ((by rw [hg]; exact Nat.ne_of_lt (blk_lt (g := gb215) (o := .cells #[.slice A0_0 l0_0.length c0_0, .slice A0_1 l0_1.length c0_1] 34 (0, 0)) (by (with_reducible repeat (first | refine blk_drewN ?_ _ | refine blk_drew ?_ | refine blk_alloc ?_ _)); exact BK215.out)) : gb215 ≠ gb216)); have n6_ := Aside0.mk ((by rw [hg]; exact Nat.ne_of_gt (blk_lt (g := gb215) (o := .cells #[.slice A0_0 l0_0.length c0_0, .slice A0_1 l0_1.length c0_1] 34 (0, 0)) (by (with_reducible repeat (first | refine blk_drewN ?_ _ | refine blk_drew ?_ | refine blk_alloc ?_ _)); exact BK215.out)) : gb216 ≠ gb215)); clear BK215; clear HB; have BK215 := n0_; have HB := n1_; have BK216 := n2_; have GW216 := n3_; have GE216 := n4_; have NB215_216 := n5_; have NB216_215 := n6_; clear n0_ n1_ n2_ n3_ n4_ n5_ n6_; clear hb hbox hg)); go_upto_region 1 with (first | ((with_reducible refine gate_dst (N := 2) rfl ?_); (try (refine gate_guard (by rfl) ?_; dsimp only)); refine box_event ?hg (N := 2) ?hd (cs := #[.slice A0_0 l0_0.length c0_0, .slice A0_1 l0_1.length c0_1]) (t := 34) ?hr ?_; (case hd => rfl); (case hg => rfl); (case hr => first | (go_simp; done) | (go_simp; rfl)); intro gb215 hg w4 hbox hb; have n0_ := Aside0.mk (below_step (by repeat (first | (with_reducible first | exact HB.out | apply below_alloc | apply pw_below_drewN | apply below_drew1) | exact HB.out)) hb); have n1_ := Aside0.mk (hbox); have n2_ := Aside0.mk ((by rw [hg]; exact (below_size (by repeat (first | (with_reducible first | exact HB.out | apply below_alloc | apply pw_below_drewN | apply below_drew1) | exact HB.out))) : w.heap.size ≤ gb215)); have n3_ := Aside0.mk ((by rw [hg]; exact (below_size (by repeat (first | (with_reducible first | exact HB.out | apply below_alloc | apply pw_below_drewN | apply below_drew1) | exact HB.out))) : w.heap.size ≤ gb215)); clear HB; have HB := n0_; have BK215 := n1_; have GW215 := n2_; have GE215 := n3_; clear n0_ n1_ n2_ n3_; clear hb hbox hg) | ((with_reducible refine gate_dst (N := 3) rfl ?_); (try (refine gate_guard (by rfl) ?_; dsimp only)); refine box_event ?hg (N := 3) ?hd (cs := #[.slice A1_0 l1_0.length c1_0, .slice A1_1 l1_1.length c1_1]) (t := 34) ?hr ?_; (case hd => rfl); (case hg => rfl); (case hr => first | (go_simp; done) | (go_simp; rfl)); intro gb216 hg w5 hbox hb; have n0_ := Aside0.mk (blk_below (g := gb215) (o := .cells #[.slice A0_0 l0_0.length c0_0, .slice A0_1 l0_1.length c0_1] 34 (0, 0)) (by (with_reducible repeat (first | refine blk_drewN ?_ _ | refine blk_drew ?_ | refine blk_alloc ?_ _)); exact BK215.out) hb); have n1_ := Aside0.mk (below_step (by repeat (first | (with_reducible first | exact HB.out | apply below_alloc | apply pw_below_drewN | apply below_drew1 | refine below_set ?_ GE215.out) | exact HB.out)) hb); have n2_ := Aside0.mk (hbox); have n3_ := Aside0.mk ((by rw [hg]; exact (below_size (by repeat (first | (with_reducible first | exact HB.out | apply below_alloc | apply pw_below_drewN | apply below_drew1 | refine below_set ?_ GE215.out) | exact HB.out))) : w.heap.size ≤ gb216)); have n4_ := Aside0.mk ((by rw [hg]; exact (below_size (by repeat (first | (with_reducible first | exact HB.out | apply below_alloc | apply pw_below_drewN | apply below_drew1 | refine below_set ?_ GE215.out) | exact HB.out))) : w.heap.size ≤ gb216)); have n5_ := Aside0.mk ((by rw [hg]; exact Nat.ne_of_lt (blk_lt (g := gb215) (o := .cells #[.slice A0_0 l0_0.length c0_0, .slice A0_1 l0_1.length c0_1] 34 (0, 0)) (by (with_reducible repeat (first | refine blk_drewN ?_ _ | refine blk_drew ?_ | refine blk_alloc ?_ _)); exact BK215.out)) : gb215 ≠ gb216)); have n6_ := Aside0.mk ((by rw [hg]; exact Nat.ne_of_gt (blk_lt (g := gb215) (o := .cells #[.slice A0_0 l0_0.length c0_0, .slice A0_1 l0_1.length c0_1] 34 (0, 0)) (by (with_reducible repeat (first | refine blk_drewN ?_ _ | refine blk_drew ?_ | refine blk_alloc ?_ _)); exact BK215.out)) : gb216 ≠ gb215)); clear BK215; clear HB; have BK215 := n0_; have HB := n1_; have BK216 := n2_; have GW216 := n3_; have GE216 := n4_; have NB215_216 := n5_; have NB216_215 := n6_; clear n0_ n1_ n2_ n3_ n4_ n5_ n6_; clear hb hbox hg)))
  (try simp only [Act.put, List.setIfInBounds_toArray, List.set_cons_zero, List.set_cons_succ])
  go_cut [22] (fun v22 wc => ∃ (kq : Nat) (x22_2 : Bool), v22 = .bool x22_2 ∧ Aside0 (rubrickref22_Same.j0 kq x22_2 l0_0 l0_1 l1_0 l1_1 = some r) ∧ Aside0 (kq ≤ k) ∧ Aside0 (wc.heap[gb215]? = some (.cells #[(.slice A0_0 l0_0.length c0_0), (.slice A0_1 l0_1.length c0_1)] 34 (0, 0))) ∧ Aside0 (wc.heap[gb216]? = some (.cells #[(.slice A1_0 l1_0.length c1_0), (.slice A1_1 l1_1.length c1_1)] 34 (0, 0))) ∧ Aside0 (Below w.heap.size w wc))
  case first =>
    have H := HC3.out
    clear HC3
    by_cases c6 : (l0_0.length : Int) = (l1_0.length : Int)
    · rw [if_pos c6] at H
      have c6b0 : ((l0_0.length : Int) == (l1_0.length : Int)) = true := beq_iff_eq.mpr c6
      have c6b1 : ((l0_0.length : Int) != (l1_0.length : Int)) = false := bne_eq_false_iff_eq.mpr c6
      have c6b2 : (l0_0.length == l1_0.length) = true := by first | simpa using c6 | (simp at c6 ⊢; omega)
      clear c6
      (first | rw [c6b0] | (simp only [i64_w, i32_w]; rw [c6b0]) | skip)
      have H' := Aside0.mk H
      clear H
      have hnb7 := NB215_216.out
      have hnc7 := NB216_215.out
      have hcz8_0 : w5.cell? ⟨gb215, 0, none⟩ = some (.slice A0_0 l0_0.length c0_0) := (blk_cell BK215.out 0).trans rfl
      have hcz8_1 : w5.cell? ⟨gb215, 1, none⟩ = some (.slice A0_1 l0_1.length c0_1) := (blk_cell BK215.out 1).trans rfl
      have hfz8_0 := blk_frozen BK215.out 0
      have hfz8_1 := blk_frozen BK215.out 1
      have hcz9_0 : w5.cell? ⟨gb216, 0, none⟩ = some (.slice A1_0 l1_0.length c1_0) := (blk_cell BK216.out 0).trans rfl
      have hcz9_1 : w5.cell? ⟨gb216, 1, none⟩ = some (.slice A1_1 l1_1.length c1_1) := (blk_cell BK216.out 1).trans rfl
      have hfz9_0 := blk_frozen BK216.out 0
      have hfz9_1 := blk_frozen BK216.out 1
      go_wp2
      repeat (go_quiet (fail); try go_wp2)
      go_meet
      case rel => exact ⟨_, (((l0_1.length : Int) != (l1_1.length : Int))), (by first | rfl | (simp; done) | (simp [*]; done)), H', ⟨by first | omega | exact Nat.le_refl _⟩, ⟨by (with_reducible repeat (first | refine blk_drewN ?_ _ | refine blk_drew ?_ | refine blk_alloc ?_ _)); exact BK215.out⟩, ⟨by (with_reducible repeat (first | refine blk_drewN ?_ _ | refine blk_drew ?_ | refine blk_alloc ?_ _)); exact BK216.out⟩, ⟨by repeat (first | (with_reducible first | exact HB.out | apply below_alloc | apply pw_below_drewN | apply below_drew1 | refine below_set ?_ GE215.out | refine below_set ?_ GE216.out) | exact HB.out)⟩⟩
    · rw [if_neg c6] at H
      have c6b0 : ((l0_0.length : Int) == (l1_0.length : Int)) = false := beq_eq_false_iff_ne.mpr c6
      have c6b1 : ((l0_0.length : Int) != (l1_0.length : Int)) = true := bne_iff_ne.mpr c6
      have c6b2 : (l0_0.length == l1_0.length) = false := by first | simpa using c6 | (simp at c6 ⊢; omega)
      (first | rw [c6b0] | (simp only [i64_w, i32_w]; rw [c6b0]) | skip)
      have H' := Aside0.mk H
      clear H
      have hnb10 := NB215_216.out
      have hnc10 := NB216_215.out
      have hcz11_0 : w5.cell? ⟨gb215, 0, none⟩ = some (.slice A0_0 l0_0.length c0_0) := (blk_cell BK215.out 0).trans rfl
      have hcz11_1 : w5.cell? ⟨gb215, 1, none⟩ = some (.slice A0_1 l0_1.length c0_1) := (blk_cell BK215.out 1).trans rfl
      have hfz11_0 := blk_frozen BK215.out 0
      have hfz11_1 := blk_frozen BK215.out 1
      have hcz12_0 : w5.cell? ⟨gb216, 0, none⟩ = some (.slice A1_0 l1_0.length c1_0) := (blk_cell BK216.out 0).trans rfl
      have hcz12_1 : w5.cell? ⟨gb216, 1, none⟩ = some (.slice A1_1 l1_1.length c1_1) := (blk_cell BK216.out 1).trans rfl
      have hfz12_0 := blk_frozen BK216.out 0
      have hfz12_1 := blk_frozen BK216.out 1
      go_wp2
      repeat (go_quiet (fail); try go_wp2)
      go_meet
      case rel => exact ⟨_, (true), (by first | rfl | (simp; done) | (simp [*]; done)), H', ⟨by first | omega | exact Nat.le_refl _⟩, ⟨by (with_reducible repeat (first | refine blk_drewN ?_ _ | refine blk_drew ?_ | refine blk_alloc ?_ _)); exact BK215.out⟩, ⟨by (with_reducible repeat (first | refine blk_drewN ?_ _ | refine blk_drew ?_ | refine blk_alloc ?_ _)); exact BK216.out⟩, ⟨by repeat (first | (with_reducible first | exact HB.out | apply below_alloc | apply pw_below_drewN | apply below_drew1 | refine below_set ?_ GE215.out | refine below_set ?_ GE216.out) | exact HB.out)⟩⟩
  case rest =>
    clear HC3
    try clear c1
    try clear p2
    try clear c6
    try clear c6b0
    try clear c6b1
    try clear c6b2
    try clear c7
    try clear c10
    try clear hcz11_0
    try clear hcz11_1
    try clear hcz12_0
    try clear hcz12_1
    try clear hcz8_0
    try clear hcz8_1
    try clear hcz9_0
    try clear hcz9_1
    try clear hfz11_0
    try clear hfz11_1
    try clear hfz12_0
    try clear hfz12_1
    try clear hfz8_0
    try clear hfz8_1
    try clear hfz9_0
    try clear hfz9_1
    obtain ⟨kq, x22_2, rfl, HA, HJ2, BK215, BK216, HB⟩ := hcut
    cases kq with
    | zero => exact absurd HA.out (by simp [rubrickref22_Same.j0])
    | succ kj2 =>
      have H := HA.out
      clear HA
      simp only [rubrickref22_Same.j0] at H
      by_cases c13 : x22_2 = true
      · subst c13
        have H1 : (some false) = some r := by rw [if_pos rfl] at H; exact H
        clear H
        have H := H1
        clear H1
        obtain rfl := Option.some.inj H
        go_wp2
        repeat (go_quiet (fail); try go_wp2)
        go_ret
        exact ⟨by first | rfl | (simp [errW_none, errW_some] <;> rfl) | (simp [*, errW_none, errW_some] <;> rfl), by repeat (first | (with_reducible first | exact HB.out | apply below_alloc | apply pw_below_drewN | apply below_drew1 | refine below_set ?_ GE215.out | refine below_set ?_ GE216.out) | exact HB.out)⟩
      · replace c13 := Bool.eq_false_iff.mpr c13
        subst c13
        have H1 : (rubrickref22_Same.l0 kj2 0 l0_0 l0_1 l1_0 l1_1) = some r := by rw [if_neg (show ¬ (false = true) by decide)] at H; exact H
        clear H
        have H := H1
        clear H1
        have H' := Aside0.mk H
        clear H
        go_wp2
        repeat (go_quiet (fail); try go_wp2)
        go_loopg [5] kj2 (fun kq v5 w' => ∃ (x5_2 : Int), v5 = .int .i64 x5_2 ∧ Aside0 (rubrickref22_Same.l0 kq x5_2 l0_0 l0_1 l1_0 l1_1 = some r) ∧ Aside0 (kq ≤ kj2) ∧ Aside0 (w'.heap[gb215]? = some (.cells #[(.slice A0_0 l0_0.length c0_0), (.slice A0_1 l0_1.length c0_1)] 34 (0, 0))) ∧ Aside0 (w'.heap[gb216]? = some (.cells #[(.slice A1_0 l1_0.length c1_0), (.slice A1_1 l1_1.length c1_1)] 34 (0, 0))) ∧ Aside0 (Below w.heap.size w w'))
        case atStart => exact ⟨(0), (by first | rfl | (simp; done) | (simp [*]; done)), H', ⟨Nat.le_refl _⟩, ⟨by (with_reducible repeat (first | refine blk_drewN ?_ _ | refine blk_drew ?_ | refine blk_alloc ?_ _)); exact BK215.out⟩, ⟨by (with_reducible repeat (first | refine blk_drewN ?_ _ | refine blk_drew ?_ | refine blk_alloc ?_ _)); exact BK216.out⟩, ⟨by repeat (first | (with_reducible first | exact HB.out | apply below_alloc | apply pw_below_drewN | apply below_drew1 | refine below_set ?_ GE215.out | refine below_set ?_ GE216.out) | exact HB.out)⟩⟩
        case round =>
          clear H'
          try clear c1
          try clear p2
          try clear c6
          try clear c6b0
          try clear c6b1
          try clear c6b2
          try clear c7
          try clear c10
          try clear c13
          try clear hcz11_0
          try clear hcz11_1
          try clear hcz12_0
          try clear hcz12_1
          try clear hcz8_0
          try clear hcz8_1
          try clear hcz9_0
          try clear hcz9_1
          try clear hfz11_0
          try clear hfz11_1
          try clear hfz12_0
          try clear hfz12_1
          try clear hfz8_0
          try clear hfz8_1
          try clear hfz9_0
          try clear hfz9_1
          try clear p2
          obtain ⟨x5_2, rfl, HA, HK2, BK215, BK216, HB⟩ := hrel
          cases gk with
          | zero => exact absurd HA.out (by simp [rubrickref22_Same.l0])
          | succ k2 =>
            have H := HA.out
            clear HA
            simp only [rubrickref22_Same.l0] at H
            by_cases c14 : x5_2 < (l0_0.length : Int)
            · rw [if_pos c14] at H
              have c14b0 : decide (x5_2 < (l0_0.length : Int)) = true := decide_eq_true c14
              clear c14
              by_cases c15 : 0 ≤ x5_2
              · rw [if_pos c15] at H
                have c15b0 : decide (0 ≤ x5_2) = true := decide_eq_true c15
                clear c15
                by_cases c16 : x5_2 < (l1_0.length : Int)
                · rw [if_pos c16] at H
                  have c16b0 : decide (x5_2 < (l1_0.length : Int)) = true := decide_eq_true c16
                  clear c16
                  by_cases c17 : (strOfNums (rd_L1 l0_0 x5_2)).toList = (strOfNums (rd_L1 l1_0 x5_2)).toList
                  · rw [if_pos c17] at H
                    have c17b0 : ((strOfNums (rd_L1 l0_0 x5_2)).toList == (strOfNums (rd_L1 l1_0 x5_2)).toList) = true := beq_iff_eq.mpr c17
                    have c17b1 : ((strOfNums (rd_L1 l0_0 x5_2)).toList != (strOfNums (rd_L1 l1_0 x5_2)).toList) = false := bne_eq_false_iff_eq.mpr c17
                    clear c17
                    have H' := Aside0.mk H
                    clear H
                    have hnb18 := NB215_216.out
                    have hnc18 := NB216_215.out
                    have hcz19_0 : wr.cell? ⟨gb215, 0, none⟩ = some (.slice A0_0 l0_0.length c0_0) := (blk_cell BK215.out 0).trans rfl
                    have hcz19_1 : wr.cell? ⟨gb215, 1, none⟩ = some (.slice A0_1 l0_1.length c0_1) := (blk_cell BK215.out 1).trans rfl
                    have hfz19_0 := blk_frozen BK215.out 0
                    have hfz19_1 := blk_frozen BK215.out 1
                    have p217 : 0 ≤ (x5_2 : Int) := of_decide_eq_true (by first | (with_reducible assumption) | assumption)
                    have q217 : x5_2 < (l0_0.length : Int) := of_decide_eq_true (by first | (with_reducible assumption) | assumption)
                    obtain ⟨ad217, A217_0, c217_0, e217, hx217_0, hl217_0, hi217_0⟩ := at_L1 HR0_0.out x5_2 p217 q217
                    cases e217
                    replace hx217_0 := (HB.out.cell (World.block_lt_of_cell? w _ hx217_0)).trans hx217_0
                    have HR217_0 := Aside0.mk hi217_0
                    have HC217_0 := Aside0.mk hl217_0
                    clear hi217_0 hl217_0
                    replace p217 := eq_true p217
                    replace q217 := eq_true q217
                    have hcv20 := Kd.C_string (P := Try.prog) (A := A217_0) (c := c217_0) Try.underlying28 Try.underlying5 Try.underlying9 (Kd.C_below HR217_0.out HB.out)
                    have hcv20q := fun nq_ : Nat => Kd.C_string (P := Try.prog) (A := A217_0) (c := c217_0) Try.underlying28 Try.underlying5 Try.underlying9 (Kd.C_drewN (Kd.C_below HR217_0.out HB.out) nq_)
                    have hcz21_0 : wr.cell? ⟨gb216, 0, none⟩ = some (.slice A1_0 l1_0.length c1_0) := (blk_cell BK216.out 0).trans rfl
                    have hcz21_1 : wr.cell? ⟨gb216, 1, none⟩ = some (.slice A1_1 l1_1.length c1_1) := (blk_cell BK216.out 1).trans rfl
                    have hfz21_0 := blk_frozen BK216.out 0
                    have hfz21_1 := blk_frozen BK216.out 1
                    have p218 : 0 ≤ (x5_2 : Int) := of_decide_eq_true (by first | (with_reducible assumption) | assumption)
                    have q218 : x5_2 < (l1_0.length : Int) := of_decide_eq_true (by first | (with_reducible assumption) | assumption)
                    obtain ⟨ad218, A218_0, c218_0, e218, hx218_0, hl218_0, hi218_0⟩ := at_L1 HR1_0.out x5_2 p218 q218
                    cases e218
                    replace hx218_0 := (HB.out.cell (World.block_lt_of_cell? w _ hx218_0)).trans hx218_0
                    have HR218_0 := Aside0.mk hi218_0
                    have HC218_0 := Aside0.mk hl218_0
                    clear hi218_0 hl218_0
                    replace p218 := eq_true p218
                    replace q218 := eq_true q218
                    have hcv22 := Kd.C_string (P := Try.prog) (A := A218_0) (c := c218_0) Try.underlying28 Try.underlying5 Try.underlying9 (Kd.C_below HR218_0.out HB.out)
                    have hcv22q := fun nq_ : Nat => Kd.C_string (P := Try.prog) (A := A218_0) (c := c218_0) Try.underlying28 Try.underlying5 Try.underlying9 (Kd.C_drewN (Kd.C_below HR218_0.out HB.out) nq_)
                    go_wp2
                    repeat (go_quiet (fail); try go_wp2)
                    go_roundg k2
                    case measure => have := HJ2.out; have := HK2.out; omega
                    case rel => exact ⟨(wrap64 (x5_2 + 1)), (by first | rfl | (simp; done) | (simp [*]; done)), H', ⟨by have := HJ2.out; have := HK2.out; omega⟩, ⟨by (with_reducible repeat (first | refine blk_drewN ?_ _ | refine blk_drew ?_ | refine blk_alloc ?_ _)); exact BK215.out⟩, ⟨by (with_reducible repeat (first | refine blk_drewN ?_ _ | refine blk_drew ?_ | refine blk_alloc ?_ _)); exact BK216.out⟩, ⟨by repeat (first | (with_reducible first | exact HB.out | apply below_alloc | apply pw_below_drewN | apply below_drew1 | refine below_set ?_ GE215.out | refine below_set ?_ GE216.out) | exact HB.out)⟩⟩
                  · rw [if_neg c17] at H
                    have c17b0 : ((strOfNums (rd_L1 l0_0 x5_2)).toList == (strOfNums (rd_L1 l1_0 x5_2)).toList) = false := beq_eq_false_iff_ne.mpr c17
                    have c17b1 : ((strOfNums (rd_L1 l0_0 x5_2)).toList != (strOfNums (rd_L1 l1_0 x5_2)).toList) = true := bne_iff_ne.mpr c17
                    obtain rfl := Option.some.inj H
                    have hnb23 := NB215_216.out
                    have hnc23 := NB216_215.out
                    have hcz24_0 : wr.cell? ⟨gb215, 0, none⟩ = some (.slice A0_0 l0_0.length c0_0) := (blk_cell BK215.out 0).trans rfl
                    have hcz24_1 : wr.cell? ⟨gb215, 1, none⟩ = some (.slice A0_1 l0_1.length c0_1) := (blk_cell BK215.out 1).trans rfl
                    have hfz24_0 := blk_frozen BK215.out 0
                    have hfz24_1 := blk_frozen BK215.out 1
                    have p217 : 0 ≤ (x5_2 : Int) := of_decide_eq_true (by first | (with_reducible assumption) | assumption)
                    have q217 : x5_2 < (l0_0.length : Int) := of_decide_eq_true (by first | (with_reducible assumption) | assumption)
                    obtain ⟨ad217, A217_0, c217_0, e217, hx217_0, hl217_0, hi217_0⟩ := at_L1 HR0_0.out x5_2 p217 q217
                    cases e217
                    replace hx217_0 := (HB.out.cell (World.block_lt_of_cell? w _ hx217_0)).trans hx217_0
                    have HR217_0 := Aside0.mk hi217_0
                    have HC217_0 := Aside0.mk hl217_0
                    clear hi217_0 hl217_0
                    replace p217 := eq_true p217
                    replace q217 := eq_true q217
                    have hcv25 := Kd.C_string (P := Try.prog) (A := A217_0) (c := c217_0) Try.underlying28 Try.underlying5 Try.underlying9 (Kd.C_below HR217_0.out HB.out)
                    have hcv25q := fun nq_ : Nat => Kd.C_string (P := Try.prog) (A := A217_0) (c := c217_0) Try.underlying28 Try.underlying5 Try.underlying9 (Kd.C_drewN (Kd.C_below HR217_0.out HB.out) nq_)
                    have hcz26_0 : wr.cell? ⟨gb216, 0, none⟩ = some (.slice A1_0 l1_0.length c1_0) := (blk_cell BK216.out 0).trans rfl
                    have hcz26_1 : wr.cell? ⟨gb216, 1, none⟩ = some (.slice A1_1 l1_1.length c1_1) := (blk_cell BK216.out 1).trans rfl
                    have hfz26_0 := blk_frozen BK216.out 0
                    have hfz26_1 := blk_frozen BK216.out 1
                    have p218 : 0 ≤ (x5_2 : Int) := of_decide_eq_true (by first | (with_reducible assumption) | assumption)
                    have q218 : x5_2 < (l1_0.length : Int) := of_decide_eq_true (by first | (with_reducible assumption) | assumption)
                    obtain ⟨ad218, A218_0, c218_0, e218, hx218_0, hl218_0, hi218_0⟩ := at_L1 HR1_0.out x5_2 p218 q218
                    cases e218
                    replace hx218_0 := (HB.out.cell (World.block_lt_of_cell? w _ hx218_0)).trans hx218_0
                    have HR218_0 := Aside0.mk hi218_0
                    have HC218_0 := Aside0.mk hl218_0
                    clear hi218_0 hl218_0
                    replace p218 := eq_true p218
                    replace q218 := eq_true q218
                    have hcv27 := Kd.C_string (P := Try.prog) (A := A218_0) (c := c218_0) Try.underlying28 Try.underlying5 Try.underlying9 (Kd.C_below HR218_0.out HB.out)
                    have hcv27q := fun nq_ : Nat => Kd.C_string (P := Try.prog) (A := A218_0) (c := c218_0) Try.underlying28 Try.underlying5 Try.underlying9 (Kd.C_drewN (Kd.C_below HR218_0.out HB.out) nq_)
                    go_wp2
                    repeat (go_quiet (fail); try go_wp2)
                    go_ret
                    exact ⟨by first | rfl | (simp [errW_none, errW_some] <;> rfl) | (simp [*, errW_none, errW_some] <;> rfl), by repeat (first | (with_reducible first | exact HB.out | apply below_alloc | apply pw_below_drewN | apply below_drew1 | refine below_set ?_ GE215.out | refine below_set ?_ GE216.out) | exact HB.out)⟩
                · rw [if_neg c16] at H
                  exact absurd H (by simp)
              · rw [if_neg c15] at H
                exact absurd H (by simp)
            · rw [if_neg c14] at H
              have c14b0 : decide (x5_2 < (l0_0.length : Int)) = false := decide_eq_false c14
              clear c14
              have H' := Aside0.mk H
              clear H
              have hnb28 := NB215_216.out
              have hnc28 := NB216_215.out
              have hcz29_0 : wr.cell? ⟨gb215, 0, none⟩ = some (.slice A0_0 l0_0.length c0_0) := (blk_cell BK215.out 0).trans rfl
              have hcz29_1 : wr.cell? ⟨gb215, 1, none⟩ = some (.slice A0_1 l0_1.length c0_1) := (blk_cell BK215.out 1).trans rfl
              have hfz29_0 := blk_frozen BK215.out 0
              have hfz29_1 := blk_frozen BK215.out 1
              go_wp2
              repeat (go_quiet (fail); try go_wp2)
              go_loopg [6] k2 (fun kq v6 w' => ∃ (x6_3 : Int), v6 = .int .i64 x6_3 ∧ Aside0 (rubrickref22_Same.l1 kq x6_3 l0_0 l0_1 l1_0 l1_1 = some r) ∧ Aside0 (kq ≤ k2) ∧ Aside0 (w'.heap[gb215]? = some (.cells #[(.slice A0_0 l0_0.length c0_0), (.slice A0_1 l0_1.length c0_1)] 34 (0, 0))) ∧ Aside0 (w'.heap[gb216]? = some (.cells #[(.slice A1_0 l1_0.length c1_0), (.slice A1_1 l1_1.length c1_1)] 34 (0, 0))) ∧ Aside0 (Below w.heap.size w w'))
              case atStart => exact ⟨(0), (by first | rfl | (simp; done) | (simp [*]; done)), H', ⟨Nat.le_refl _⟩, ⟨by (with_reducible repeat (first | refine blk_drewN ?_ _ | refine blk_drew ?_ | refine blk_alloc ?_ _)); exact BK215.out⟩, ⟨by (with_reducible repeat (first | refine blk_drewN ?_ _ | refine blk_drew ?_ | refine blk_alloc ?_ _)); exact BK216.out⟩, ⟨by repeat (first | (with_reducible first | exact HB.out | apply below_alloc | apply pw_below_drewN | apply below_drew1 | refine below_set ?_ GE215.out | refine below_set ?_ GE216.out) | exact HB.out)⟩⟩
              case round =>
                clear H'
                try clear c1
                try clear c2
                try clear p2
                try clear q2
                try clear hx2
                try clear hcv2
                try clear c6
                try clear c6b0
                try clear c6b1
                try clear c6b2
                try clear p6
                try clear c7
                try clear c10
                try clear c13
                try clear c14
                try clear c14b0
                try clear c15
                try clear c15b0
                try clear c16
                try clear c16b0
                try clear c17
                try clear c17b0
                try clear c17b1
                try clear c18
                try clear c19
                try clear hcv20
                try clear c21
                try clear p21
                try clear q21
                try clear hx21
                try clear hcv22
                try clear c23
                try clear hcv25
                try clear hcv27
                try clear c28
                try clear hcz11_0
                try clear hcz11_1
                try clear hcz12_0
                try clear hcz12_1
                try clear hcz19_0
                try clear hcz19_1
                try clear hcz21_0
                try clear hcz21_1
                try clear hcz24_0
                try clear hcz24_1
                try clear hcz26_0
                try clear hcz26_1
                try clear hcz29_0
                try clear hcz29_1
                try clear hcz8_0
                try clear hcz8_1
                try clear hcz9_0
                try clear hcz9_1
                try clear hfz11_0
                try clear hfz11_1
                try clear hfz12_0
                try clear hfz12_1
                try clear hfz19_0
                try clear hfz19_1
                try clear hfz21_0
                try clear hfz21_1
                try clear hfz24_0
                try clear hfz24_1
                try clear hfz26_0
                try clear hfz26_1
                try clear hfz29_0
                try clear hfz29_1
                try clear hfz8_0
                try clear hfz8_1
                try clear hfz9_0
                try clear hfz9_1
                try clear hx217_0
                try clear hx218_0
                try clear p2
                try clear p217
                try clear p218
                try clear q217
                try clear q218
                obtain ⟨x6_3, rfl, HA, HK3, BK215, BK216, HB⟩ := hrel
                cases gk with
                | zero => exact absurd HA.out (by simp [rubrickref22_Same.l1])
                | succ k3 =>
                  have H := HA.out
                  clear HA
                  simp only [rubrickref22_Same.l1] at H
                  by_cases c30 : x6_3 < (l0_1.length : Int)
                  · rw [if_pos c30] at H
                    have c30b0 : decide (x6_3 < (l0_1.length : Int)) = true := decide_eq_true c30
                    clear c30
                    by_cases c31 : 0 ≤ x6_3
                    · rw [if_pos c31] at H
                      have c31b0 : decide (0 ≤ x6_3) = true := decide_eq_true c31
                      clear c31
                      by_cases c32 : x6_3 < (l1_1.length : Int)
                      · rw [if_pos c32] at H
                        have c32b0 : decide (x6_3 < (l1_1.length : Int)) = true := decide_eq_true c32
                        clear c32
                        by_cases c33 : ((rd_T59 l0_1 x6_3).f0) = ((rd_T59 l1_1 x6_3).f0)
                        · rw [if_pos c33] at H
                          have c33b0 : (((rd_T59 l0_1 x6_3).f0) == ((rd_T59 l1_1 x6_3).f0)) = true := beq_iff_eq.mpr c33
                          have c33b1 : (((rd_T59 l0_1 x6_3).f0) != ((rd_T59 l1_1 x6_3).f0)) = false := bne_eq_false_iff_eq.mpr c33
                          clear c33
                          by_cases c34 : (strOfNums ((rd_T59 l0_1 x6_3).f1)).toList = (strOfNums ((rd_T59 l1_1 x6_3).f1)).toList
                          · rw [if_pos c34] at H
                            have c34b0 : ((strOfNums ((rd_T59 l0_1 x6_3).f1)).toList == (strOfNums ((rd_T59 l1_1 x6_3).f1)).toList) = true := beq_iff_eq.mpr c34
                            have c34b1 : ((strOfNums ((rd_T59 l0_1 x6_3).f1)).toList != (strOfNums ((rd_T59 l1_1 x6_3).f1)).toList) = false := bne_eq_false_iff_eq.mpr c34
                            clear c34
                            have H' := Aside0.mk H
                            clear H
                            have hnb35 := NB215_216.out
                            have hnc35 := NB216_215.out
                            have hcz36_0 : wr.cell? ⟨gb215, 0, none⟩ = some (.slice A0_0 l0_0.length c0_0) := (blk_cell BK215.out 0).trans rfl
                            have hcz36_1 : wr.cell? ⟨gb215, 1, none⟩ = some (.slice A0_1 l0_1.length c0_1) := (blk_cell BK215.out 1).trans rfl
                            have hfz36_0 := blk_frozen BK215.out 0
                            have hfz36_1 := blk_frozen BK215.out 1
                            have p219 : 0 ≤ (x6_3 : Int) := of_decide_eq_true (by first | (with_reducible assumption) | assumption)
                            have q219 : x6_3 < (l0_1.length : Int) := of_decide_eq_true (by first | (with_reducible assumption) | assumption)
                            obtain ⟨ad219, A219_1, c219_1, e219, hx219_0, hx219_1, hl219_1, hi219_1⟩ := at_T59 HR0_1.out x6_3 p219 q219
                            cases e219
                            replace hx219_0 := (HB.out.cell (World.block_lt_of_cell? w _ hx219_0)).trans hx219_0
                            replace hx219_1 := (HB.out.cell (World.block_lt_of_cell? w _ hx219_1)).trans hx219_1
                            have HR219_1 := Aside0.mk hi219_1
                            have HC219_1 := Aside0.mk hl219_1
                            clear hi219_1 hl219_1
                            replace p219 := eq_true p219
                            replace q219 := eq_true q219
                            have hcz37_0 : wr.cell? ⟨gb216, 0, none⟩ = some (.slice A1_0 l1_0.length c1_0) := (blk_cell BK216.out 0).trans rfl
                            have hcz37_1 : wr.cell? ⟨gb216, 1, none⟩ = some (.slice A1_1 l1_1.length c1_1) := (blk_cell BK216.out 1).trans rfl
                            have hfz37_0 := blk_frozen BK216.out 0
                            have hfz37_1 := blk_frozen BK216.out 1
                            have p220 : 0 ≤ (x6_3 : Int) := of_decide_eq_true (by first | (with_reducible assumption) | assumption)
                            have q220 : x6_3 < (l1_1.length : Int) := of_decide_eq_true (by first | (with_reducible assumption) | assumption)
                            obtain ⟨ad220, A220_1, c220_1, e220, hx220_0, hx220_1, hl220_1, hi220_1⟩ := at_T59 HR1_1.out x6_3 p220 q220
                            cases e220
                            replace hx220_0 := (HB.out.cell (World.block_lt_of_cell? w _ hx220_0)).trans hx220_0
                            replace hx220_1 := (HB.out.cell (World.block_lt_of_cell? w _ hx220_1)).trans hx220_1
                            have HR220_1 := Aside0.mk hi220_1
                            have HC220_1 := Aside0.mk hl220_1
                            clear hi220_1 hl220_1
                            replace p220 := eq_true p220
                            replace q220 := eq_true q220
                            have p221 : 0 ≤ (x6_3 : Int) := of_decide_eq_true (by first | (with_reducible assumption) | assumption)
                            have q221 : x6_3 < (l0_1.length : Int) := of_decide_eq_true (by first | (with_reducible assumption) | assumption)
                            obtain ⟨ad221, A221_1, c221_1, e221, hx221_0, hx221_1, hl221_1, hi221_1⟩ := at_T59 HR0_1.out x6_3 p221 q221
                            obtain rfl : ad219 = ad221 := (by injection e221)
                            replace hx221_0 := (HB.out.cell (World.block_lt_of_cell? w _ hx221_0)).trans hx221_0
                            replace hx221_1 := (HB.out.cell (World.block_lt_of_cell? w _ hx221_1)).trans hx221_1
                            have HR221_1 := Aside0.mk hi221_1
                            have HC221_1 := Aside0.mk hl221_1
                            clear hi221_1 hl221_1
                            replace p221 := eq_true p221
                            replace q221 := eq_true q221
                            have ea_ := Option.some.inj (hx219_1.symm.trans hx221_1)
                            injection ea_ with ea_ en_ ec_
                            subst ea_
                            subst ec_
                            clear en_
                            have hcv38 := Kd.C_string (P := Try.prog) (A := A219_1) (c := c219_1) Try.underlying28 Try.underlying5 Try.underlying9 (Kd.C_below HR221_1.out HB.out)
                            have hcv38q := fun nq_ : Nat => Kd.C_string (P := Try.prog) (A := A219_1) (c := c219_1) Try.underlying28 Try.underlying5 Try.underlying9 (Kd.C_drewN (Kd.C_below HR221_1.out HB.out) nq_)
                            have p222 : 0 ≤ (x6_3 : Int) := of_decide_eq_true (by first | (with_reducible assumption) | assumption)
                            have q222 : x6_3 < (l1_1.length : Int) := of_decide_eq_true (by first | (with_reducible assumption) | assumption)
                            obtain ⟨ad222, A222_1, c222_1, e222, hx222_0, hx222_1, hl222_1, hi222_1⟩ := at_T59 HR1_1.out x6_3 p222 q222
                            obtain rfl : ad220 = ad222 := (by injection e222)
                            replace hx222_0 := (HB.out.cell (World.block_lt_of_cell? w _ hx222_0)).trans hx222_0
                            replace hx222_1 := (HB.out.cell (World.block_lt_of_cell? w _ hx222_1)).trans hx222_1
                            have HR222_1 := Aside0.mk hi222_1
                            have HC222_1 := Aside0.mk hl222_1
                            clear hi222_1 hl222_1
                            replace p222 := eq_true p222
                            replace q222 := eq_true q222
                            have ea_ := Option.some.inj (hx220_1.symm.trans hx222_1)
                            injection ea_ with ea_ en_ ec_
                            subst ea_
                            subst ec_
                            clear en_
                            have hcv39 := Kd.C_string (P := Try.prog) (A := A220_1) (c := c220_1) Try.underlying28 Try.underlying5 Try.underlying9 (Kd.C_below HR222_1.out HB.out)
                            have hcv39q := fun nq_ : Nat => Kd.C_string (P := Try.prog) (A := A220_1) (c := c220_1) Try.underlying28 Try.underlying5 Try.underlying9 (Kd.C_drewN (Kd.C_below HR222_1.out HB.out) nq_)
                            go_wp2
                            repeat (go_quiet (fail); try go_wp2)
                            go_roundg k3
                            case measure => have := HJ2.out; have := HK2.out; have := HK3.out; omega
                            case rel => exact ⟨(wrap64 (x6_3 + 1)), (by first | rfl | (simp; done) | (simp [*]; done)), H', ⟨by have := HJ2.out; have := HK2.out; have := HK3.out; omega⟩, ⟨by (with_reducible repeat (first | refine blk_drewN ?_ _ | refine blk_drew ?_ | refine blk_alloc ?_ _)); exact BK215.out⟩, ⟨by (with_reducible repeat (first | refine blk_drewN ?_ _ | refine blk_drew ?_ | refine blk_alloc ?_ _)); exact BK216.out⟩, ⟨by repeat (first | (with_reducible first | exact HB.out | apply below_alloc | apply pw_below_drewN | apply below_drew1 | refine below_set ?_ GE215.out | refine below_set ?_ GE216.out) | exact HB.out)⟩⟩
                          · rw [if_neg c34] at H
                            have c34b0 : ((strOfNums ((rd_T59 l0_1 x6_3).f1)).toList == (strOfNums ((rd_T59 l1_1 x6_3).f1)).toList) = false := beq_eq_false_iff_ne.mpr c34
                            have c34b1 : ((strOfNums ((rd_T59 l0_1 x6_3).f1)).toList != (strOfNums ((rd_T59 l1_1 x6_3).f1)).toList) = true := bne_iff_ne.mpr c34
                            obtain rfl := Option.some.inj H
                            have hnb40 := NB215_216.out
                            have hnc40 := NB216_215.out
                            have hcz41_0 : wr.cell? ⟨gb215, 0, none⟩ = some (.slice A0_0 l0_0.length c0_0) := (blk_cell BK215.out 0).trans rfl
                            have hcz41_1 : wr.cell? ⟨gb215, 1, none⟩ = some (.slice A0_1 l0_1.length c0_1) := (blk_cell BK215.out 1).trans rfl
                            have hfz41_0 := blk_frozen BK215.out 0
                            have hfz41_1 := blk_frozen BK215.out 1
                            have p219 : 0 ≤ (x6_3 : Int) := of_decide_eq_true (by first | (with_reducible assumption) | assumption)
                            have q219 : x6_3 < (l0_1.length : Int) := of_decide_eq_true (by first | (with_reducible assumption) | assumption)
                            obtain ⟨ad219, A219_1, c219_1, e219, hx219_0, hx219_1, hl219_1, hi219_1⟩ := at_T59 HR0_1.out x6_3 p219 q219
                            cases e219
                            replace hx219_0 := (HB.out.cell (World.block_lt_of_cell? w _ hx219_0)).trans hx219_0
                            replace hx219_1 := (HB.out.cell (World.block_lt_of_cell? w _ hx219_1)).trans hx219_1
                            have HR219_1 := Aside0.mk hi219_1
                            have HC219_1 := Aside0.mk hl219_1
                            clear hi219_1 hl219_1
                            replace p219 := eq_true p219
                            replace q219 := eq_true q219
                            have hcz42_0 : wr.cell? ⟨gb216, 0, none⟩ = some (.slice A1_0 l1_0.length c1_0) := (blk_cell BK216.out 0).trans rfl
                            have hcz42_1 : wr.cell? ⟨gb216, 1, none⟩ = some (.slice A1_1 l1_1.length c1_1) := (blk_cell BK216.out 1).trans rfl
                            have hfz42_0 := blk_frozen BK216.out 0
                            have hfz42_1 := blk_frozen BK216.out 1
                            have p220 : 0 ≤ (x6_3 : Int) := of_decide_eq_true (by first | (with_reducible assumption) | assumption)
                            have q220 : x6_3 < (l1_1.length : Int) := of_decide_eq_true (by first | (with_reducible assumption) | assumption)
                            obtain ⟨ad220, A220_1, c220_1, e220, hx220_0, hx220_1, hl220_1, hi220_1⟩ := at_T59 HR1_1.out x6_3 p220 q220
                            cases e220
                            replace hx220_0 := (HB.out.cell (World.block_lt_of_cell? w _ hx220_0)).trans hx220_0
                            replace hx220_1 := (HB.out.cell (World.block_lt_of_cell? w _ hx220_1)).trans hx220_1
                            have HR220_1 := Aside0.mk hi220_1
                            have HC220_1 := Aside0.mk hl220_1
                            clear hi220_1 hl220_1
                            replace p220 := eq_true p220
                            replace q220 := eq_true q220
                            have p221 : 0 ≤ (x6_3 : Int) := of_decide_eq_true (by first | (with_reducible assumption) | assumption)
                            have q221 : x6_3 < (l0_1.length : Int) := of_decide_eq_true (by first | (with_reducible assumption) | assumption)
                            obtain ⟨ad221, A221_1, c221_1, e221, hx221_0, hx221_1, hl221_1, hi221_1⟩ := at_T59 HR0_1.out x6_3 p221 q221
                            obtain rfl : ad219 = ad221 := (by injection e221)
                            replace hx221_0 := (HB.out.cell (World.block_lt_of_cell? w _ hx221_0)).trans hx221_0
                            replace hx221_1 := (HB.out.cell (World.block_lt_of_cell? w _ hx221_1)).trans hx221_1
                            have HR221_1 := Aside0.mk hi221_1
                            have HC221_1 := Aside0.mk hl221_1
                            clear hi221_1 hl221_1
                            replace p221 := eq_true p221
                            replace q221 := eq_true q221
                            have ea_ := Option.some.inj (hx219_1.symm.trans hx221_1)
                            injection ea_ with ea_ en_ ec_
                            subst ea_
                            subst ec_
                            clear en_
                            have hcv43 := Kd.C_string (P := Try.prog) (A := A219_1) (c := c219_1) Try.underlying28 Try.underlying5 Try.underlying9 (Kd.C_below HR221_1.out HB.out)
                            have hcv43q := fun nq_ : Nat => Kd.C_string (P := Try.prog) (A := A219_1) (c := c219_1) Try.underlying28 Try.underlying5 Try.underlying9 (Kd.C_drewN (Kd.C_below HR221_1.out HB.out) nq_)
                            have p222 : 0 ≤ (x6_3 : Int) := of_decide_eq_true (by first | (with_reducible assumption) | assumption)
                            have q222 : x6_3 < (l1_1.length : Int) := of_decide_eq_true (by first | (with_reducible assumption) | assumption)
                            obtain ⟨ad222, A222_1, c222_1, e222, hx222_0, hx222_1, hl222_1, hi222_1⟩ := at_T59 HR1_1.out x6_3 p222 q222
                            obtain rfl : ad220 = ad222 := (by injection e222)
                            replace hx222_0 := (HB.out.cell (World.block_lt_of_cell? w _ hx222_0)).trans hx222_0
                            replace hx222_1 := (HB.out.cell (World.block_lt_of_cell? w _ hx222_1)).trans hx222_1
                            have HR222_1 := Aside0.mk hi222_1
                            have HC222_1 := Aside0.mk hl222_1
                            clear hi222_1 hl222_1
                            replace p222 := eq_true p222
                            replace q222 := eq_true q222
                            have ea_ := Option.some.inj (hx220_1.symm.trans hx222_1)
                            injection ea_ with ea_ en_ ec_
                            subst ea_
                            subst ec_
                            clear en_
                            have hcv44 := Kd.C_string (P := Try.prog) (A := A220_1) (c := c220_1) Try.underlying28 Try.underlying5 Try.underlying9 (Kd.C_below HR222_1.out HB.out)
                            have hcv44q := fun nq_ : Nat => Kd.C_string (P := Try.prog) (A := A220_1) (c := c220_1) Try.underlying28 Try.underlying5 Try.underlying9 (Kd.C_drewN (Kd.C_below HR222_1.out HB.out) nq_)
                            go_wp2
                            repeat (go_quiet (fail); try go_wp2)
                            go_ret
                            exact ⟨by first | rfl | (simp [errW_none, errW_some] <;> rfl) | (simp [*, errW_none, errW_some] <;> rfl), by repeat (first | (with_reducible first | exact HB.out | apply below_alloc | apply pw_below_drewN | apply below_drew1 | refine below_set ?_ GE215.out | refine below_set ?_ GE216.out) | exact HB.out)⟩
                        · rw [if_neg c33] at H
                          have c33b0 : (((rd_T59 l0_1 x6_3).f0) == ((rd_T59 l1_1 x6_3).f0)) = false := beq_eq_false_iff_ne.mpr c33
                          have c33b1 : (((rd_T59 l0_1 x6_3).f0) != ((rd_T59 l1_1 x6_3).f0)) = true := bne_iff_ne.mpr c33
                          obtain rfl := Option.some.inj H
                          have hnb45 := NB215_216.out
                          have hnc45 := NB216_215.out
                          have hcz46_0 : wr.cell? ⟨gb215, 0, none⟩ = some (.slice A0_0 l0_0.length c0_0) := (blk_cell BK215.out 0).trans rfl
                          have hcz46_1 : wr.cell? ⟨gb215, 1, none⟩ = some (.slice A0_1 l0_1.length c0_1) := (blk_cell BK215.out 1).trans rfl
                          have hfz46_0 := blk_frozen BK215.out 0
                          have hfz46_1 := blk_frozen BK215.out 1
                          have p219 : 0 ≤ (x6_3 : Int) := of_decide_eq_true (by first | (with_reducible assumption) | assumption)
                          have q219 : x6_3 < (l0_1.length : Int) := of_decide_eq_true (by first | (with_reducible assumption) | assumption)
                          obtain ⟨ad219, A219_1, c219_1, e219, hx219_0, hx219_1, hl219_1, hi219_1⟩ := at_T59 HR0_1.out x6_3 p219 q219
                          cases e219
                          replace hx219_0 := (HB.out.cell (World.block_lt_of_cell? w _ hx219_0)).trans hx219_0
                          replace hx219_1 := (HB.out.cell (World.block_lt_of_cell? w _ hx219_1)).trans hx219_1
                          have HR219_1 := Aside0.mk hi219_1
                          have HC219_1 := Aside0.mk hl219_1
                          clear hi219_1 hl219_1
                          replace p219 := eq_true p219
                          replace q219 := eq_true q219
                          have hcz47_0 : wr.cell? ⟨gb216, 0, none⟩ = some (.slice A1_0 l1_0.length c1_0) := (blk_cell BK216.out 0).trans rfl
                          have hcz47_1 : wr.cell? ⟨gb216, 1, none⟩ = some (.slice A1_1 l1_1.length c1_1) := (blk_cell BK216.out 1).trans rfl
                          have hfz47_0 := blk_frozen BK216.out 0
                          have hfz47_1 := blk_frozen BK216.out 1
                          have p220 : 0 ≤ (x6_3 : Int) := of_decide_eq_true (by first | (with_reducible assumption) | assumption)
                          have q220 : x6_3 < (l1_1.length : Int) := of_decide_eq_true (by first | (with_reducible assumption) | assumption)
                          obtain ⟨ad220, A220_1, c220_1, e220, hx220_0, hx220_1, hl220_1, hi220_1⟩ := at_T59 HR1_1.out x6_3 p220 q220
                          cases e220
                          replace hx220_0 := (HB.out.cell (World.block_lt_of_cell? w _ hx220_0)).trans hx220_0
                          replace hx220_1 := (HB.out.cell (World.block_lt_of_cell? w _ hx220_1)).trans hx220_1
                          have HR220_1 := Aside0.mk hi220_1
                          have HC220_1 := Aside0.mk hl220_1
                          clear hi220_1 hl220_1
                          replace p220 := eq_true p220
                          replace q220 := eq_true q220
                          go_wp2
                          repeat (go_quiet (fail); try go_wp2)
                          go_ret
                          exact ⟨by first | rfl | (simp [errW_none, errW_some] <;> rfl) | (simp [*, errW_none, errW_some] <;> rfl), by repeat (first | (with_reducible first | exact HB.out | apply below_alloc | apply pw_below_drewN | apply below_drew1 | refine below_set ?_ GE215.out | refine below_set ?_ GE216.out) | exact HB.out)⟩
                      · rw [if_neg c32] at H
                        exact absurd H (by simp)
                    · rw [if_neg c31] at H
                      exact absurd H (by simp)
                  · rw [if_neg c30] at H
                    have c30b0 : decide (x6_3 < (l0_1.length : Int)) = false := decide_eq_false c30
                    clear c30
                    obtain rfl := Option.some.inj H
                    have hnb48 := NB215_216.out
                    have hnc48 := NB216_215.out
                    have hcz49_0 : wr.cell? ⟨gb215, 0, none⟩ = some (.slice A0_0 l0_0.length c0_0) := (blk_cell BK215.out 0).trans rfl
                    have hcz49_1 : wr.cell? ⟨gb215, 1, none⟩ = some (.slice A0_1 l0_1.length c0_1) := (blk_cell BK215.out 1).trans rfl
                    have hfz49_0 := blk_frozen BK215.out 0
                    have hfz49_1 := blk_frozen BK215.out 1
                    go_wp2
                    repeat (go_quiet (fail); try go_wp2)
                    go_ret
                    exact ⟨by first | rfl | (simp [errW_none, errW_some] <;> rfl) | (simp [*, errW_none, errW_some] <;> rfl), by repeat (first | (with_reducible first | exact HB.out | apply below_alloc | apply pw_below_drewN | apply below_drew1 | refine below_set ?_ GE215.out | refine below_set ?_ GE216.out) | exact HB.out)⟩

end Go.Proofs.Ytiplneodkcjkmaa.P
