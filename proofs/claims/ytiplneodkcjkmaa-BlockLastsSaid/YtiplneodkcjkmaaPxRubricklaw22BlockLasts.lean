-- Printed by this session's patched printer.
import Derived.Test.YtiplneodkcjkmaaPx0
import Derived.Test.YtiplneodkcjkmaaPxRubricklaw22Great
import Derived.Test.YtiplneodkcjkmaaPxBlockRead
import Derived.Test.YtiplneodkcjkmaaPxBlockWrite
import Derived.Test.YtiplneodkcjkmaaHDone
import Derived.Test.YtiplneodkcjkmaaHKnows
namespace Go.Proofs.Ytiplneodkcjkmaa.P
open Go.RowKit Go.Proofs.YtiplneodkcjkmaaW.PrintWords Go.Proofs.YtiplneodkcjkmaaW.PrintLast Go.Proofs.YtiplneodkcjkmaaW.PrintMore
attribute [local go_sem] Go.Instr.field Go.part Go.asAgg max2_int min2_int max_two min_two max_three min_three max_four min_four   -- for this text's walks alone
set_option linter.unusedVariables false
set_option linter.unusedSimpArgs false

/-! ### rubricklaw22_BlockLasts: function 5 -/
mutual
def rubricklaw22_BlockLasts.j0 : Nat → List (S50) → Int → List Int → Bool → List (List Int) → List (S57) → Option (Bool)
  | 0, _, _, _, _, _, _ => none
  | k + 1, x1, x2, x3, x20, x256000, x256001 => if x20 = true then ((rubricklaw22_knows.f).bind fun t257 => (some t257)) else ((block_Sync.f x256000 x256001).bind fun bt258 => ((block_Read.f k bt258.1 bt258.2 x2).bind fun bt264 => (rubricklaw22_BlockLasts.l0 k x1 x2 x3 bt264.1 bt264.2 0 bt258.1 bt258.2)))
def rubricklaw22_BlockLasts.l0 : Nat → List (S50) → Int → List Int → List Int → Int → Int → List (List Int) → List (S57) → Option (Bool)
  | 0, _, _, _, _, _, _, _, _ => none
  | k + 1, x1, x2, x3, x9, x10, x11, x256000, x256001 => if x11 < (x1.length : Int) then (rubricklaw22_BlockLasts.j2 k x1 x2 x3 x9 x10 x11 (decide (x11 < 60)) x256000 x256001) else (rubricklaw22_BlockLasts.j2 k x1 x2 x3 x9 x10 x11 false x256000 x256001)
def rubricklaw22_BlockLasts.j2 : Nat → List (S50) → Int → List Int → List Int → Int → Int → Bool → List (List Int) → List (S57) → Option (Bool)
  | 0, _, _, _, _, _, _, _, _, _ => none
  | k + 1, x1, x2, x3, x9, x10, x11, x37, x256000, x256001 => if x37 = true then (if 0 ≤ x11 then (if x11 < (x1.length : Int) then (if (((rd_T50 x1 x11).f2).length : Int) ≤ 200 then (if ((rd_T50 x1 x11).f1) = x2 then (rubricklaw22_BlockLasts.l0 k x1 x2 x3 x9 x10 (wrap64 (x11 + 1)) x256000 x256001) else ((block_Write.f k x256000 x256001 ((rd_T50 x1 x11).f1) ((rd_T50 x1 x11).f2)).bind fun bt272 => (rubricklaw22_BlockLasts.l0 k x1 x2 x3 x9 x10 (wrap64 (x11 + 1)) bt272.1 bt272.2.1))) else (rubricklaw22_BlockLasts.l0 k x1 x2 x3 x9 x10 (wrap64 (x11 + 1)) x256000 x256001)) else (none)) else (none)) else ((block_Crash.f x256000 x256001 x3).bind fun bt279 => ((block_Read.f k bt279.1 bt279.2 x2).bind fun bt285 => (if x10 = bt285.2 then (if (strOfNums x9).toList = (strOfNums bt285.1).toList then ((rubricklaw22_knows.f).bind fun t289 => (some t289)) else (some false)) else (some false))))
end
def rubricklaw22_BlockLasts.f (k : Nat) (l0_0 : List (List Int)) (l0_1 : List (S57)) (l1 : List (S50)) (a2 : Int) (l3 : List Int) : Option (Bool) := (rubricklaw22_Great.f k l0_0 l0_1).bind fun t256 => (if t256 = true then (rubricklaw22_BlockLasts.j0 k l1 a2 l3 true l0_0 l0_1) else (rubricklaw22_BlockLasts.j0 k l1 a2 l3 (decide ((l3.length : Int) > 300)) l0_0 l0_1))
theorem rubricklaw22_BlockLasts.mono_l : ∀ k, (∀ y0 y1 y2 y3 y4 y5, LeO (rubricklaw22_BlockLasts.j0 k y0 y1 y2 y3 y4 y5) (rubricklaw22_BlockLasts.j0 (k + 1) y0 y1 y2 y3 y4 y5)) ∧ (∀ y0 y1 y2 y3 y4 y5 y6 y7, LeO (rubricklaw22_BlockLasts.l0 k y0 y1 y2 y3 y4 y5 y6 y7) (rubricklaw22_BlockLasts.l0 (k + 1) y0 y1 y2 y3 y4 y5 y6 y7)) ∧ (∀ y0 y1 y2 y3 y4 y5 y6 y7 y8, LeO (rubricklaw22_BlockLasts.j2 k y0 y1 y2 y3 y4 y5 y6 y7 y8) (rubricklaw22_BlockLasts.j2 (k + 1) y0 y1 y2 y3 y4 y5 y6 y7 y8))
  | 0 => ⟨fun _ _ _ _ _ _ r h => by simp [rubricklaw22_BlockLasts.j0] at h, fun _ _ _ _ _ _ _ _ r h => by simp [rubricklaw22_BlockLasts.l0] at h, fun _ _ _ _ _ _ _ _ _ r h => by simp [rubricklaw22_BlockLasts.j2] at h⟩
  | k + 1 => by
    obtain ⟨ih0, ih1, ih2⟩ := rubricklaw22_BlockLasts.mono_l k
    refine ⟨?_, ?_, ?_⟩
    · intro y0 y1 y2 y3 y4 y5
      unfold rubricklaw22_BlockLasts.j0
      repeat' first
      | (with_reducible exact ih0 _ _ _ _ _ _)
      | (with_reducible exact ih1 _ _ _ _ _ _ _ _)
      | (with_reducible exact ih2 _ _ _ _ _ _ _ _ _)
      | (with_reducible exact block_Read.mono _ _ _ _)
      | (with_reducible exact block_Write.mono _ _ _ _ _)
      | (with_reducible exact rubricklaw22_Great.mono _ _ _)
      | (with_reducible exact LeO.refl _)
      | (with_reducible exact LeO.none _)
      | (with_reducible refine LeO.ite ?_ ?_)
      | (with_reducible refine LeO.bind ?_ (fun _ => ?_))
      | exact ih0 _ _ _ _ _ _
      | exact ih1 _ _ _ _ _ _ _ _
      | exact ih2 _ _ _ _ _ _ _ _ _
      | exact block_Read.mono _ _ _ _
      | exact block_Write.mono _ _ _ _ _
      | exact rubricklaw22_Great.mono _ _ _
      | exact LeO.none _
      | refine LeO.ite ?_ ?_
      | refine LeO.bind ?_ (fun _ => ?_)
    · intro y0 y1 y2 y3 y4 y5 y6 y7
      unfold rubricklaw22_BlockLasts.l0
      repeat' first
      | (with_reducible exact ih0 _ _ _ _ _ _)
      | (with_reducible exact ih1 _ _ _ _ _ _ _ _)
      | (with_reducible exact ih2 _ _ _ _ _ _ _ _ _)
      | (with_reducible exact block_Read.mono _ _ _ _)
      | (with_reducible exact block_Write.mono _ _ _ _ _)
      | (with_reducible exact rubricklaw22_Great.mono _ _ _)
      | (with_reducible exact LeO.refl _)
      | (with_reducible exact LeO.none _)
      | (with_reducible refine LeO.ite ?_ ?_)
      | (with_reducible refine LeO.bind ?_ (fun _ => ?_))
      | exact ih0 _ _ _ _ _ _
      | exact ih1 _ _ _ _ _ _ _ _
      | exact ih2 _ _ _ _ _ _ _ _ _
      | exact block_Read.mono _ _ _ _
      | exact block_Write.mono _ _ _ _ _
      | exact rubricklaw22_Great.mono _ _ _
      | exact LeO.none _
      | refine LeO.ite ?_ ?_
      | refine LeO.bind ?_ (fun _ => ?_)
    · intro y0 y1 y2 y3 y4 y5 y6 y7 y8
      unfold rubricklaw22_BlockLasts.j2
      repeat' first
      | (with_reducible exact ih0 _ _ _ _ _ _)
      | (with_reducible exact ih1 _ _ _ _ _ _ _ _)
      | (with_reducible exact ih2 _ _ _ _ _ _ _ _ _)
      | (with_reducible exact block_Read.mono _ _ _ _)
      | (with_reducible exact block_Write.mono _ _ _ _ _)
      | (with_reducible exact rubricklaw22_Great.mono _ _ _)
      | (with_reducible exact LeO.refl _)
      | (with_reducible exact LeO.none _)
      | (with_reducible refine LeO.ite ?_ ?_)
      | (with_reducible refine LeO.bind ?_ (fun _ => ?_))
      | exact ih0 _ _ _ _ _ _
      | exact ih1 _ _ _ _ _ _ _ _
      | exact ih2 _ _ _ _ _ _ _ _ _
      | exact block_Read.mono _ _ _ _
      | exact block_Write.mono _ _ _ _ _
      | exact rubricklaw22_Great.mono _ _ _
      | exact LeO.none _
      | refine LeO.ite ?_ ?_
      | refine LeO.bind ?_ (fun _ => ?_)
theorem rubricklaw22_BlockLasts.mono : ∀ a0 a1 a2 a3 a4 k, LeO (rubricklaw22_BlockLasts.f k a0 a1 a2 a3 a4) (rubricklaw22_BlockLasts.f (k + 1) a0 a1 a2 a3 a4) := by
  intro a0 a1 a2 a3 a4 k
  obtain ⟨ih0, ih1, ih2⟩ := rubricklaw22_BlockLasts.mono_l k
  unfold rubricklaw22_BlockLasts.f
  repeat' first
      | (with_reducible exact ih0 _ _ _ _ _ _)
      | (with_reducible exact ih1 _ _ _ _ _ _ _ _)
      | (with_reducible exact ih2 _ _ _ _ _ _ _ _ _)
      | (with_reducible exact block_Read.mono _ _ _ _)
      | (with_reducible exact block_Write.mono _ _ _ _ _)
      | (with_reducible exact rubricklaw22_Great.mono _ _ _)
      | (with_reducible exact LeO.refl _)
      | (with_reducible exact LeO.none _)
      | (with_reducible refine LeO.ite ?_ ?_)
      | (with_reducible refine LeO.bind ?_ (fun _ => ?_))
      | exact ih0 _ _ _ _ _ _
      | exact ih1 _ _ _ _ _ _ _ _
      | exact ih2 _ _ _ _ _ _ _ _ _
      | exact block_Read.mono _ _ _ _
      | exact block_Write.mono _ _ _ _ _
      | exact rubricklaw22_Great.mono _ _ _
      | exact LeO.none _
      | refine LeO.ite ?_ ?_
      | refine LeO.bind ?_ (fun _ => ?_)
def rubricklaw22_BlockLasts.T9 : Bool × List (List Nat × List Nat) := (true, [([], []), ([], []), ([], []), ([1, 2], [1, 2]), ([3], [3]), ([4], [4]), ([], []), ([], []), ([6, 7], [6, 7]), ([8], [8]), ([9], [9]), ([0, 5, 10], [0, 5, 10]), ([11], [11]), ([12], [12]), ([12], [12]), ([13, 11, 0, 1, 2, 3, 4, 5, 6, 7, 8, 9, 10, 11, 12, 13], [13])])
def rubricklaw22_BlockLasts.B9 : List Nat := [0, 0, 0, 6, 14, 30, 0, 0, 192, 448, 960, 2047, 4095, 8191, 8191, 16383]
theorem rubricklaw22_BlockLasts.tab9 : rtab .any (opsOf Try.f5 9) = rubricklaw22_BlockLasts.T9 := by kernel_rfl
theorem rubricklaw22_BlockLasts.bits9 : waitsOk rubricklaw22_BlockLasts.T9.2 rubricklaw22_BlockLasts.B9 = true := by kernel_rfl
set_option maxHeartbeats 8000000 in
set_option maxRecDepth 100000 in
theorem rubricklaw22_BlockLasts.calls (k : Nat) (A0_0 : Option Addr) (c0_0 : Nat) (l0_0 : List (List Int)) (A0_1 : Option Addr) (c0_1 : Nat) (l0_1 : List (S57)) (A1 : Option Addr) (c1 : Nat) (l1 : List (S50)) (a2 : Int) (A3 : Option Addr) (c3 : Nat) (l3 : List Int) (r : Bool) (w : World) (hr0_0 : Kd.C (Kd.slice 5 (Kd.int .u8)) w A0_0 l0_0.length l0_0) (hc0_0 : l0_0.length ≤ c0_0) (hr0_1 : Kd.C k57 w A0_1 l0_1.length l0_1) (hc0_1 : l0_1.length ≤ c0_1) (hr1 : Kd.C k50 w A1 l1.length l1) (hc1 : l1.length ≤ c1) (hr3 : Kd.C (Kd.int .i64) w A3 l3.length l3) (hc3 : l3.length ≤ c3) (h : rubricklaw22_BlockLasts.f k l0_0 l0_1 l1 a2 l3 = some r) :
    Calls Try.prog 5 #[.agg #[.slice A0_0 l0_0.length c0_0, .slice A0_1 l0_1.length c0_1], .slice A1 l1.length c1, .int .i64 a2, .slice A3 l3.length c3] w fun e w' => e = .returned (.bool r) ∧ Below w.heap.size w w' := by
  have hu25 := Try.underlying25
  have HR0_0 := Aside0.mk hr0_0
  have HC0_0 := Aside0.mk hc0_0
  clear hr0_0 hc0_0
  have HR0_1 := Aside0.mk hr0_1
  have HC0_1 := Aside0.mk hc0_1
  clear hr0_1 hc0_1
  have HR1 := Aside0.mk hr1
  have HC1 := Aside0.mk hc1
  clear hr1 hc1
  have HR3 := Aside0.mk hr3
  have HC3 := Aside0.mk hc3
  clear hr3 hc3
  have HB := Aside0.mk (Below.refl w.heap.size w)
  have H : ((rubricklaw22_Great.f k l0_0 l0_1).bind fun t256 => (if t256 = true then (rubricklaw22_BlockLasts.j0 k l1 a2 l3 true l0_0 l0_1) else (rubricklaw22_BlockLasts.j0 k l1 a2 l3 (decide ((l3.length : Int) > 300)) l0_0 l0_1))) = some r := h
  clear h
  have HC5 := Aside0.mk H
  clear H
  go_enter Try.func5, Try.ntmps5
  go_upto_region 1 with (first | ((with_reducible refine gate_dst (N := 4) rfl ?_); (try (refine gate_guard (by rfl) ?_; dsimp only)); refine box_event ?hg (N := 4) ?hd (cs := #[.slice A0_0 l0_0.length c0_0, .slice A0_1 l0_1.length c0_1]) (t := 25) ?hr ?_; (case hd => rfl); (case hg => rfl); (case hr => first | (go_simp; done) | (go_simp; rfl)); intro gb255 hg w6 hbox hb; have n0_ := Aside0.mk (below_step (by repeat (first | (with_reducible first | exact HB.out | apply below_alloc | apply pw_below_drewN | apply below_drew1) | exact HB.out)) hb); have n1_ := Aside0.mk (hbox); have n2_ := Aside0.mk ((by rw [hg]; exact (below_size (by repeat (first | (with_reducible first | exact HB.out | apply below_alloc | apply pw_below_drewN | apply below_drew1) | exact HB.out))) : w.heap.size ≤ gb255)); have n3_ := Aside0.mk ((by rw [hg]; exact (below_size (by repeat (first | (with_reducible first | exact HB.out | apply below_alloc | apply pw_below_drewN | apply below_drew1) | exact HB.out))) : w.heap.size ≤ gb255)); clear HB; have HB := n0_; have BK255 := n1_; have GW255 := n2_; have GE255 := n3_; clear n0_ n1_ n2_ n3_; clear hb hbox hg))
  (try simp only [Act.put, List.setIfInBounds_toArray, List.set_cons_zero, List.set_cons_succ])
  go_cut [20] (fun v20 wc => ∃ (kq : Nat) (x20_4 : Bool), v20 = .bool x20_4 ∧ Aside0 (rubricklaw22_BlockLasts.j0 kq l1 a2 l3 x20_4 l0_0 l0_1 = some r) ∧ Aside0 (kq ≤ k) ∧ Aside0 (wc.heap[gb255]? = some (.cells #[(.slice A0_0 l0_0.length c0_0), (.slice A0_1 l0_1.length c0_1)] 25 (0, 0))) ∧ Aside0 (Below w.heap.size w wc))
  case first =>
    have H := HC5.out
    clear HC5
    replace H := Option.bind_eq_some_iff.mp H
    obtain ⟨t256, A70, H⟩ := H
    replace H : (if t256 = true then (rubricklaw22_BlockLasts.j0 k l1 a2 l3 true l0_0 l0_1) else (rubricklaw22_BlockLasts.j0 k l1 a2 l3 (decide ((l3.length : Int) > 300)) l0_0 l0_1)) = some r := H
    have A7 := Aside0.mk A70
    clear A70
    by_cases c8 : t256 = true
    · subst c8
      have H1 : (rubricklaw22_BlockLasts.j0 k l1 a2 l3 true l0_0 l0_1) = some r := by rw [if_pos rfl] at H; exact H
      clear H
      have H := H1
      clear H1
      have H' := Aside0.mk H
      clear H
      have hcz9_0 : w6.cell? ⟨gb255, 0, none⟩ = some (.slice A0_0 l0_0.length c0_0) := (blk_cell BK255.out 0).trans rfl
      have hcz9_1 : w6.cell? ⟨gb255, 1, none⟩ = some (.slice A0_1 l0_1.length c0_1) := (blk_cell BK255.out 1).trans rfl
      have hfz9_0 := blk_frozen BK255.out 0
      have hfz9_1 := blk_frozen BK255.out 1
      go_wp2_with (first | ((with_reducible refine gate_callee (f := 9) rfl ?_); refine goesL_ (some 15) rfl rfl Try.func9 (by kernel_rfl) rfl #[.agg #[.slice A0_0 l0_0.length c0_0, .slice A0_1 l0_1.length c0_1]] rfl (by (try simp only [List.map_toArray, List.map_cons, List.map_nil]); first | done | rfl | (simp only [List.length_drop, List.length_take]; rfl)) ?_; (with_reducible refine (rubricklaw22_Great.calls k _ _ l0_0 _ _ l0_1 true _ ?side1 ?side2 ?side3 ?side4 A7.out).mono ?_); (case side1 => repeat (first | exact (Kd.C_below HR0_0.out HB.out) | (with_reducible refine Kd.C_alloc ?_ _) | (with_reducible refine Kd.C_drewN ?_ _) | (with_reducible refine Kd.C_drew ?_))); (case side2 => exact HC0_0.out); (case side3 => repeat (first | exact (Kd.C_below HR0_1.out HB.out) | (with_reducible refine Kd.C_alloc ?_ _) | (with_reducible refine Kd.C_drewN ?_ _) | (with_reducible refine Kd.C_drew ?_))); (case side4 => exact HC0_1.out); rintro e w10 ⟨rfl, hb⟩; refine ⟨_, rfl, ?_⟩; have n0_ := Aside0.mk (blk_below (g := gb255) (o := .cells #[.slice A0_0 l0_0.length c0_0, .slice A0_1 l0_1.length c0_1] 25 (0, 0)) (by (with_reducible repeat (first | refine blk_drewN ?_ _ | refine blk_drew ?_ | refine blk_alloc ?_ _)); exact BK255.out) hb); have n1_ := Aside0.mk (below_step (by repeat (first | (with_reducible first | exact HB.out | apply below_alloc | apply pw_below_drewN | apply below_drew1 | refine below_set ?_ GE255.out) | exact HB.out)) hb); clear BK255; clear HB; have BK255 := n0_; have HB := n1_; clear n0_ n1_; (try clear hb); (try clear hb2); (try clear hk); (try clear hi)))
      go_meet
      case rel => exact ⟨_, (true), (by first | rfl | (simp; done) | (simp [*]; done)), H', ⟨by first | omega | exact Nat.le_refl _⟩, ⟨by (with_reducible repeat (first | refine blk_drewN ?_ _ | refine blk_drew ?_ | refine blk_alloc ?_ _)); exact BK255.out⟩, ⟨by repeat (first | (with_reducible first | exact HB.out | apply below_alloc | apply pw_below_drewN | apply below_drew1 | refine below_set ?_ GE255.out) | exact HB.out)⟩⟩
    · replace c8 := Bool.eq_false_iff.mpr c8
      subst c8
      have H1 : (rubricklaw22_BlockLasts.j0 k l1 a2 l3 (decide ((l3.length : Int) > 300)) l0_0 l0_1) = some r := by rw [if_neg (show ¬ (false = true) by decide)] at H; exact H
      clear H
      have H := H1
      clear H1
      have H' := Aside0.mk H
      clear H
      have hcz11_0 : w6.cell? ⟨gb255, 0, none⟩ = some (.slice A0_0 l0_0.length c0_0) := (blk_cell BK255.out 0).trans rfl
      have hcz11_1 : w6.cell? ⟨gb255, 1, none⟩ = some (.slice A0_1 l0_1.length c0_1) := (blk_cell BK255.out 1).trans rfl
      have hfz11_0 := blk_frozen BK255.out 0
      have hfz11_1 := blk_frozen BK255.out 1
      go_wp2_with (first | ((with_reducible refine gate_callee (f := 9) rfl ?_); refine goesL_ (some 15) rfl rfl Try.func9 (by kernel_rfl) rfl #[.agg #[.slice A0_0 l0_0.length c0_0, .slice A0_1 l0_1.length c0_1]] rfl (by (try simp only [List.map_toArray, List.map_cons, List.map_nil]); first | done | rfl | (simp only [List.length_drop, List.length_take]; rfl)) ?_; (with_reducible refine (rubricklaw22_Great.calls k _ _ l0_0 _ _ l0_1 false _ ?side1 ?side2 ?side3 ?side4 A7.out).mono ?_); (case side1 => repeat (first | exact (Kd.C_below HR0_0.out HB.out) | (with_reducible refine Kd.C_alloc ?_ _) | (with_reducible refine Kd.C_drewN ?_ _) | (with_reducible refine Kd.C_drew ?_))); (case side2 => exact HC0_0.out); (case side3 => repeat (first | exact (Kd.C_below HR0_1.out HB.out) | (with_reducible refine Kd.C_alloc ?_ _) | (with_reducible refine Kd.C_drewN ?_ _) | (with_reducible refine Kd.C_drew ?_))); (case side4 => exact HC0_1.out); rintro e w12 ⟨rfl, hb⟩; refine ⟨_, rfl, ?_⟩; have n0_ := Aside0.mk (blk_below (g := gb255) (o := .cells #[.slice A0_0 l0_0.length c0_0, .slice A0_1 l0_1.length c0_1] 25 (0, 0)) (by (with_reducible repeat (first | refine blk_drewN ?_ _ | refine blk_drew ?_ | refine blk_alloc ?_ _)); exact BK255.out) hb); have n1_ := Aside0.mk (below_step (by repeat (first | (with_reducible first | exact HB.out | apply below_alloc | apply pw_below_drewN | apply below_drew1 | refine below_set ?_ GE255.out) | exact HB.out)) hb); clear BK255; clear HB; have BK255 := n0_; have HB := n1_; clear n0_ n1_; (try clear hb); (try clear hb2); (try clear hk); (try clear hi)))
      go_meet
      case rel => exact ⟨_, (decide ((l3.length : Int) > 300)), (by first | rfl | (simp; done) | (simp [*]; done)), H', ⟨by first | omega | exact Nat.le_refl _⟩, ⟨by (with_reducible repeat (first | refine blk_drewN ?_ _ | refine blk_drew ?_ | refine blk_alloc ?_ _)); exact BK255.out⟩, ⟨by repeat (first | (with_reducible first | exact HB.out | apply below_alloc | apply pw_below_drewN | apply below_drew1 | refine below_set ?_ GE255.out) | exact HB.out)⟩⟩
  case rest =>
    clear HC5
    try clear c1
    try clear p2
    try clear c3
    try clear c5
    try clear c8
    try clear c9
    try clear hcz11_0
    try clear hcz11_1
    try clear hcz9_0
    try clear hcz9_1
    try clear hfz11_0
    try clear hfz11_1
    try clear hfz9_0
    try clear hfz9_1
    obtain ⟨kq, x20_4, rfl, HA, HJ4, BK255, HB⟩ := hcut
    cases kq with
    | zero => exact absurd HA.out (by simp [rubricklaw22_BlockLasts.j0])
    | succ kj4 =>
      have H := HA.out
      clear HA
      simp only [rubricklaw22_BlockLasts.j0] at H
      by_cases c13 : x20_4 = true
      · subst c13
        have H1 : ((rubricklaw22_knows.f).bind fun t257 => (some t257)) = some r := by rw [if_pos rfl] at H; exact H
        clear H
        have H := H1
        clear H1
        replace H := Option.bind_eq_some_iff.mp H
        obtain ⟨t257, A140, H⟩ := H
        replace H : (some t257) = some r := H
        have A14 := Aside0.mk A140
        clear A140
        obtain rfl := Option.some.inj H
        go_wp2_with (first | ((with_reducible refine gate_callee (f := 10) rfl ?_); refine goesL_ (some 21) rfl rfl Try.func10 (by kernel_rfl) rfl #[] rfl (by (try simp only [List.map_toArray, List.map_cons, List.map_nil]); first | done | rfl | (simp only [List.length_drop, List.length_take]; rfl)) ?_; (with_reducible refine (rubricklaw22_knows.calls  t257 _ A14.out).mono ?_); rintro e w15 ⟨rfl, hb⟩; refine ⟨_, rfl, ?_⟩; have n0_ := Aside0.mk (blk_below (g := gb255) (o := .cells #[.slice A0_0 l0_0.length c0_0, .slice A0_1 l0_1.length c0_1] 25 (0, 0)) (by (with_reducible repeat (first | refine blk_drewN ?_ _ | refine blk_drew ?_ | refine blk_alloc ?_ _)); exact BK255.out) hb); have n1_ := Aside0.mk (below_step (by repeat (first | (with_reducible first | exact HB.out | apply below_alloc | apply pw_below_drewN | apply below_drew1 | refine below_set ?_ GE255.out) | exact HB.out)) hb); clear BK255; clear HB; have BK255 := n0_; have HB := n1_; clear n0_ n1_; (try clear hb); (try clear hb2); (try clear hk); (try clear hi)))
        go_ret
        exact ⟨by first | rfl | (simp [errW_none, errW_some] <;> rfl) | (simp [*, errW_none, errW_some] <;> rfl), by repeat (first | (with_reducible first | exact HB.out | apply below_alloc | apply pw_below_drewN | apply below_drew1 | refine below_set ?_ GE255.out) | exact HB.out)⟩
      · replace c13 := Bool.eq_false_iff.mpr c13
        subst c13
        have H1 : ((block_Sync.f l0_0 l0_1).bind fun bt258 => ((block_Read.f kj4 bt258.1 bt258.2 a2).bind fun bt264 => (rubricklaw22_BlockLasts.l0 kj4 l1 a2 l3 bt264.1 bt264.2 0 bt258.1 bt258.2))) = some r := by rw [if_neg (show ¬ (false = true) by decide)] at H; exact H
        clear H
        have H := H1
        clear H1
        replace H := Option.bind_eq_some_iff.mp H
        obtain ⟨⟨t258, t261⟩, A160, H⟩ := H
        replace H : ((block_Read.f kj4 t258 t261 a2).bind fun bt264 => (rubricklaw22_BlockLasts.l0 kj4 l1 a2 l3 bt264.1 bt264.2 0 t258 t261)) = some r := H
        have A16 := Aside0.mk A160
        clear A160
        replace H := Option.bind_eq_some_iff.mp H
        obtain ⟨⟨t264, t267⟩, A170, H⟩ := H
        replace H : (rubricklaw22_BlockLasts.l0 kj4 l1 a2 l3 t264 t267 0 t258 t261) = some r := H
        have A17 := Aside0.mk A170
        clear A170
        have H' := Aside0.mk H
        clear H
        have hcz18_0 : wc.cell? ⟨gb255, 0, none⟩ = some (.slice A0_0 l0_0.length c0_0) := (blk_cell BK255.out 0).trans rfl
        have hcz18_1 : wc.cell? ⟨gb255, 1, none⟩ = some (.slice A0_1 l0_1.length c0_1) := (blk_cell BK255.out 1).trans rfl
        have hfz18_0 := blk_frozen BK255.out 0
        have hfz18_1 := blk_frozen BK255.out 1
        go_wp2_with (first | ((with_reducible refine gate_callee (f := 21) rfl ?_); refine goesL_ (some 23) rfl rfl Try.func21 (by kernel_rfl) rfl #[.agg #[.slice A0_0 l0_0.length c0_0, .slice A0_1 l0_1.length c0_1]] rfl (by (try simp only [List.map_toArray, List.map_cons, List.map_nil]); first | done | rfl | (simp only [List.length_drop, List.length_take]; rfl)) ?_; (with_reducible refine (block_Sync.calls _ _ l0_0 _ _ l0_1 t258 t261 _ ?side1 ?side2 ?side3 ?side4 A16.out).mono ?_); (case side1 => repeat (first | exact (Kd.C_below HR0_0.out HB.out) | (with_reducible refine Kd.C_alloc ?_ _) | (with_reducible refine Kd.C_drewN ?_ _) | (with_reducible refine Kd.C_drew ?_))); (case side2 => exact HC0_0.out); (case side3 => repeat (first | exact (Kd.C_below HR0_1.out HB.out) | (with_reducible refine Kd.C_alloc ?_ _) | (with_reducible refine Kd.C_drewN ?_ _) | (with_reducible refine Kd.C_drew ?_))); (case side4 => exact HC0_1.out); rintro e w19 ⟨v259, v262, rfl, ho0, ho1, hb⟩; refine ⟨_, rfl, ?_⟩; have n0_ := Aside0.mk (Kd.V_lower (Kd.V_mono (ok' := fun k_ => k_ ≠ gb255) ho0 (fun k_ hk_ => (Kd.freshB (g := gb255) (o := .cells #[.slice A0_0 l0_0.length c0_0, .slice A0_1 l0_1.length c0_1] 25 (0, 0)) (by (with_reducible repeat (first | refine blk_drewN ?_ _ | refine blk_drew ?_ | refine blk_alloc ?_ _)); exact BK255.out) k_ hk_))) (below_size (by repeat (first | (with_reducible first | exact HB.out | apply below_alloc | apply pw_below_drewN | apply below_drew1 | refine below_set ?_ GE255.out) | exact HB.out)))); have n1_ := Aside0.mk (Kd.V_lower (Kd.V_mono (ok' := fun k_ => k_ ≠ gb255) ho1 (fun k_ hk_ => (Kd.freshB (g := gb255) (o := .cells #[.slice A0_0 l0_0.length c0_0, .slice A0_1 l0_1.length c0_1] 25 (0, 0)) (by (with_reducible repeat (first | refine blk_drewN ?_ _ | refine blk_drew ?_ | refine blk_alloc ?_ _)); exact BK255.out) k_ hk_))) (below_size (by repeat (first | (with_reducible first | exact HB.out | apply below_alloc | apply pw_below_drewN | apply below_drew1 | refine below_set ?_ GE255.out) | exact HB.out)))); have n2_ := Aside0.mk (blk_below (g := gb255) (o := .cells #[.slice A0_0 l0_0.length c0_0, .slice A0_1 l0_1.length c0_1] 25 (0, 0)) (by (with_reducible repeat (first | refine blk_drewN ?_ _ | refine blk_drew ?_ | refine blk_alloc ?_ _)); exact BK255.out) hb); have n3_ := Aside0.mk (below_step (by repeat (first | (with_reducible first | exact HB.out | apply below_alloc | apply pw_below_drewN | apply below_drew1 | refine below_set ?_ GE255.out) | exact HB.out)) hb); clear BK255; clear HB; have HO260 := n0_; have HO263 := n1_; have BK255 := n2_; have HB := n3_; clear n0_ n1_ n2_ n3_; (try clear hb); (try clear hb2); (try clear hk); (try clear hi); (try clear ho0); (try clear ho1); obtain ⟨Ao20, co20, eo20⟩ := Kd.V_slice HO260.out; subst eo20; have hcz21_0 : w19.cell? ⟨gb255, 0, none⟩ = some (.slice A0_0 l0_0.length c0_0) := (blk_cell BK255.out 0).trans rfl; have hcz21_1 : w19.cell? ⟨gb255, 1, none⟩ = some (.slice A0_1 l0_1.length c0_1) := (blk_cell BK255.out 1).trans rfl; have hfz21_0 := blk_frozen BK255.out 0; have hfz21_1 := blk_frozen BK255.out 1; obtain ⟨Ao22, co22, eo22⟩ := Kd.V_slice HO263.out; subst eo22) | ((with_reducible refine gate_callee (f := 11) rfl ?_); refine goesL_ (some 27) rfl rfl Try.func11 (by kernel_rfl) rfl #[.agg #[.slice Ao20 t258.length co20, .slice Ao22 t261.length co22], .int .i64 a2] rfl (by (try simp only [List.map_toArray, List.map_cons, List.map_nil]); first | done | rfl | (simp only [List.length_drop, List.length_take]; rfl)) ?_; (with_reducible refine (block_Read.calls kj4 _ _ t258 _ _ t261 a2 t264 t267 _ ?side1 ?side2 ?side3 ?side4 A17.out).mono ?_); (case side1 => refine (Kd.V_reads' (e := 28) (base := w.heap.size) (ok := fun k_ => k_ ≠ gb255) (n := t258.length) (c := co20) ?_).2.2; exact (by (with_reducible repeat (first | apply Kd.V_alloc | apply Kd.V_drewN | apply Kd.V_drew)); exact (Kd.V_mono (Kd.V_far (p := ⟨gb255, 1, none⟩) (Kd.V_far (p := ⟨gb255, 0, none⟩) (Kd.V_mono HO260.out (fun k_ hk => (⟨hk, hk⟩ : _ ∧ k_ ≠ gb255))) (fun _ hk => hk.2) (.slice Ao20 t258.length co20)) (fun _ hk => hk.2) (.slice Ao22 t261.length co22)) (fun _ h_ => h_.1)))); (case side2 => exact (Kd.V_reads' HO260.out).2.1); (case side3 => refine (Kd.V_reads' (e := 57) (base := w.heap.size) (ok := fun k_ => k_ ≠ gb255) (n := t261.length) (c := co22) ?_).2.2; exact (by (with_reducible repeat (first | apply Kd.V_alloc | apply Kd.V_drewN | apply Kd.V_drew)); exact (Kd.V_mono (Kd.V_far (p := ⟨gb255, 1, none⟩) (Kd.V_far (p := ⟨gb255, 0, none⟩) (Kd.V_mono HO263.out (fun k_ hk => (⟨hk, hk⟩ : _ ∧ k_ ≠ gb255))) (fun _ hk => hk.2) (.slice Ao20 t258.length co20)) (fun _ hk => hk.2) (.slice Ao22 t261.length co22)) (fun _ h_ => h_.1)))); (case side4 => exact (Kd.V_reads' HO263.out).2.1); rintro e w23 ⟨v265, rfl, ho0, hb⟩; refine ⟨_, rfl, ?_⟩; have n0_ := Aside0.mk (Kd.V_elder' (by (with_reducible repeat (first | apply Kd.V_alloc | apply Kd.V_drewN | apply Kd.V_drew)); exact (Kd.V_mono (Kd.V_far (p := ⟨gb255, 1, none⟩) (Kd.V_far (p := ⟨gb255, 0, none⟩) (Kd.V_mono HO260.out (fun k_ hk => (⟨hk, hk⟩ : _ ∧ k_ ≠ gb255))) (fun _ hk => hk.2) (.slice Ao20 t258.length co20)) (fun _ hk => hk.2) (.slice Ao22 t261.length co22)) (fun _ h_ => h_.1))) (Kd.R_base ho0) hb); have n1_ := Aside0.mk (Kd.V_elder' (by (with_reducible repeat (first | apply Kd.V_alloc | apply Kd.V_drewN | apply Kd.V_drew)); exact (Kd.V_mono (Kd.V_far (p := ⟨gb255, 1, none⟩) (Kd.V_far (p := ⟨gb255, 0, none⟩) (Kd.V_mono HO263.out (fun k_ hk => (⟨hk, hk⟩ : _ ∧ k_ ≠ gb255))) (fun _ hk => hk.2) (.slice Ao20 t258.length co20)) (fun _ hk => hk.2) (.slice Ao22 t261.length co22)) (fun _ h_ => h_.1))) (Kd.R_base ho0) hb); have n2_ := Aside0.mk (Kd.R_lower ho0 (below_size (by repeat (first | (with_reducible first | exact HB.out | apply below_alloc | apply pw_below_drewN | apply below_drew1 | refine below_set ?_ GE255.out) | exact HB.out)))); have n3_ := Aside0.mk (blk_below (g := gb255) (o := .cells #[.slice Ao20 t258.length co20, .slice Ao22 t261.length co22] 25 (0, 0)) (by (with_reducible repeat (first | refine blk_drewN ?_ _ | refine blk_drew ?_ | refine blk_alloc ?_ _)); refine blk_put (cs := #[.slice Ao20 t258.length co20, .slice A0_1 l0_1.length c0_1]) ?_ 1 _ rfl; (with_reducible repeat (first | refine blk_drewN ?_ _ | refine blk_drew ?_ | refine blk_alloc ?_ _)); refine blk_put (cs := #[.slice A0_0 l0_0.length c0_0, .slice A0_1 l0_1.length c0_1]) ?_ 0 _ rfl; (with_reducible repeat (first | refine blk_drewN ?_ _ | refine blk_drew ?_ | refine blk_alloc ?_ _)); exact BK255.out) hb); have n4_ := Aside0.mk (below_step (by repeat (first | (with_reducible first | exact HB.out | apply below_alloc | apply pw_below_drewN | apply below_drew1 | refine below_set ?_ GE255.out) | exact HB.out)) hb); clear HO260; clear HO263; clear BK255; clear HB; have HO260 := n0_; have HO263 := n1_; have HO266 := n2_; have BK255 := n3_; have HB := n4_; clear n0_ n1_ n2_ n3_ n4_; (try clear hb); (try clear hb2); (try clear hk); (try clear hi); (try clear ho0)))
        go_loopg [11] kj4 (fun kq v11 w' => ∃ (x11_2 : Int) (x256000_2 : List (List Int)) (x256001_2 : List (S57)) (u256000 : Value) (u256001 : Value), v11 = .int .i64 x11_2 ∧ Aside0 (rubricklaw22_BlockLasts.l0 kq l1 a2 l3 t264 t267 x11_2 x256000_2 x256001_2 = some r) ∧ Aside0 (kq ≤ kj4) ∧ Aside0 (Kd.R (Kd.int .u8) 5 w' w.heap.size (fun _ => True) v265 t264) ∧ Aside0 (Kd.V (Kd.slice 5 (Kd.int .u8)) 28 w' w.heap.size (fun k_ => some k_ ≠ (v265 : Value).ownBlock ∧ k_ ≠ gb255) u256000 x256000_2) ∧ Aside0 (Kd.V k57 57 w' w.heap.size (fun k_ => some k_ ≠ (v265 : Value).ownBlock ∧ k_ ≠ gb255) u256001 x256001_2) ∧ Aside0 (w'.heap[gb255]? = some (.cells #[u256000, u256001] 25 (0, 0))) ∧ Aside0 (Below w.heap.size w w'))
        case atStart => exact ⟨(0), (t258), (t261), (.slice Ao20 t258.length co20), (.slice Ao22 t261.length co22), (by first | rfl | (simp; done) | (simp [*]; done)), H', ⟨Nat.le_refl _⟩, ⟨by (with_reducible repeat (first | apply Kd.R_alloc | apply Kd.R_drewN | apply Kd.R_drew)); exact HO266.out⟩, ⟨by (with_reducible repeat (first | apply Kd.V_alloc | apply Kd.V_drewN | apply Kd.V_drew)); exact Kd.V_mono HO260.out (fun _ hk => ⟨hk.2, hk.1⟩)⟩, ⟨by (with_reducible repeat (first | apply Kd.V_alloc | apply Kd.V_drewN | apply Kd.V_drew)); exact Kd.V_mono HO263.out (fun _ hk => ⟨hk.2, hk.1⟩)⟩, ⟨by (with_reducible repeat (first | refine blk_drewN ?_ _ | refine blk_drew ?_ | refine blk_alloc ?_ _)); exact BK255.out⟩, ⟨by repeat (first | (with_reducible first | exact HB.out | apply below_alloc | apply pw_below_drewN | apply below_drew1 | refine below_set ?_ GE255.out) | exact HB.out)⟩⟩
        case round =>
          clear H'
          try clear c1
          try clear c2
          try clear p2
          try clear c3
          try clear c5
          try clear c8
          try clear c9
          try clear c10
          try clear c11
          try clear c13
          try clear c21
          try clear hcz11_0
          try clear hcz11_1
          try clear hcz18_0
          try clear hcz18_1
          try clear hcz21_0
          try clear hcz21_1
          try clear hcz9_0
          try clear hcz9_1
          try clear hfz11_0
          try clear hfz11_1
          try clear hfz18_0
          try clear hfz18_1
          try clear hfz21_0
          try clear hfz21_1
          try clear hfz9_0
          try clear hfz9_1
          try clear p2
          obtain ⟨x11_2, x256000_2, x256001_2, u256000, u256001, rfl, HA, HK2, HO_9, HO_256000, HO_256001, BK255, HB⟩ := hrel
          cases gk with
          | zero => exact absurd HA.out (by simp [rubricklaw22_BlockLasts.l0])
          | succ k2 =>
            have H := HA.out
            clear HA
            simp only [rubricklaw22_BlockLasts.l0] at H
            have HC24 := Aside0.mk H
            clear H
            go_upto_region 6 with (fail)
            go_cut [37] (fun v37 wc => ∃ (kq : Nat) (x37_23 : Bool), v37 = .bool x37_23 ∧ Aside0 (rubricklaw22_BlockLasts.j2 kq l1 a2 l3 t264 t267 x11_2 x37_23 x256000_2 x256001_2 = some r) ∧ Aside0 (kq ≤ k2) ∧ Aside0 (Kd.R (Kd.int .u8) 5 wc w.heap.size (fun _ => True) v265 t264) ∧ Aside0 (Kd.V (Kd.slice 5 (Kd.int .u8)) 28 wc w.heap.size (fun k_ => some k_ ≠ (v265 : Value).ownBlock ∧ k_ ≠ gb255) u256000 x256000_2) ∧ Aside0 (Kd.V k57 57 wc w.heap.size (fun k_ => some k_ ≠ (v265 : Value).ownBlock ∧ k_ ≠ gb255) u256001 x256001_2) ∧ Aside0 (wc.heap[gb255]? = some (.cells #[u256000, u256001] 25 (0, 0))) ∧ Aside0 (Below w.heap.size w wc))
            case first =>
              have H := HC24.out
              clear HC24
              by_cases c25 : x11_2 < (l1.length : Int)
              · rw [if_pos c25] at H
                have c25b0 : decide (x11_2 < (l1.length : Int)) = true := decide_eq_true c25
                clear c25
                (first | rw [c25b0] | (simp only [i64_w, i32_w]; rw [c25b0]) | skip)
                have H' := Aside0.mk H
                clear H
                go_wp2
                go_meet
                case rel => exact ⟨_, (decide (x11_2 < 60)), (by first | rfl | (simp; done) | (simp [*]; done)), H', ⟨by have := HJ4.out; have := HK2.out; first | omega | exact Nat.le_refl _⟩, ⟨by (with_reducible repeat (first | apply Kd.R_alloc | apply Kd.R_drewN | apply Kd.R_drew)); exact HO_9.out⟩, ⟨by (with_reducible repeat (first | apply Kd.V_alloc | apply Kd.V_drewN | apply Kd.V_drew)); exact HO_256000.out⟩, ⟨by (with_reducible repeat (first | apply Kd.V_alloc | apply Kd.V_drewN | apply Kd.V_drew)); exact HO_256001.out⟩, ⟨by (with_reducible repeat (first | refine blk_drewN ?_ _ | refine blk_drew ?_ | refine blk_alloc ?_ _)); exact BK255.out⟩, ⟨by repeat (first | (with_reducible first | exact HB.out | apply below_alloc | apply pw_below_drewN | apply below_drew1 | refine below_set ?_ GE255.out) | exact HB.out)⟩⟩
              · rw [if_neg c25] at H
                have c25b0 : decide (x11_2 < (l1.length : Int)) = false := decide_eq_false c25
                clear c25
                (first | rw [c25b0] | (simp only [i64_w, i32_w]; rw [c25b0]) | skip)
                have H' := Aside0.mk H
                clear H
                go_wp2
                go_meet
                case rel => exact ⟨_, (false), (by first | rfl | (simp; done) | (simp [*]; done)), H', ⟨by have := HJ4.out; have := HK2.out; first | omega | exact Nat.le_refl _⟩, ⟨by (with_reducible repeat (first | apply Kd.R_alloc | apply Kd.R_drewN | apply Kd.R_drew)); exact HO_9.out⟩, ⟨by (with_reducible repeat (first | apply Kd.V_alloc | apply Kd.V_drewN | apply Kd.V_drew)); exact HO_256000.out⟩, ⟨by (with_reducible repeat (first | apply Kd.V_alloc | apply Kd.V_drewN | apply Kd.V_drew)); exact HO_256001.out⟩, ⟨by (with_reducible repeat (first | refine blk_drewN ?_ _ | refine blk_drew ?_ | refine blk_alloc ?_ _)); exact BK255.out⟩, ⟨by repeat (first | (with_reducible first | exact HB.out | apply below_alloc | apply pw_below_drewN | apply below_drew1 | refine below_set ?_ GE255.out) | exact HB.out)⟩⟩
            case rest =>
              clear HC24
              try clear c1
              try clear c2
              try clear p2
              try clear c3
              try clear c5
              try clear c8
              try clear c9
              try clear c10
              try clear c11
              try clear c13
              try clear c21
              try clear c25
              try clear c25b0
              try clear hcz11_0
              try clear hcz11_1
              try clear hcz18_0
              try clear hcz18_1
              try clear hcz21_0
              try clear hcz21_1
              try clear hcz9_0
              try clear hcz9_1
              try clear hfz11_0
              try clear hfz11_1
              try clear hfz18_0
              try clear hfz18_1
              try clear hfz21_0
              try clear hfz21_1
              try clear hfz9_0
              try clear hfz9_1
              try clear p2
              obtain ⟨kq, x37_23, rfl, HA, HJ23, HO_9, HO_256000, HO_256001, BK255, HB⟩ := hcut
              cases kq with
              | zero => exact absurd HA.out (by simp [rubricklaw22_BlockLasts.j2])
              | succ kj23 =>
                have H := HA.out
                clear HA
                simp only [rubricklaw22_BlockLasts.j2] at H
                by_cases c26 : x37_23 = true
                · subst c26
                  have H1 : (if 0 ≤ x11_2 then (if x11_2 < (l1.length : Int) then (if (((rd_T50 l1 x11_2).f2).length : Int) ≤ 200 then (if ((rd_T50 l1 x11_2).f1) = a2 then (rubricklaw22_BlockLasts.l0 kj23 l1 a2 l3 t264 t267 (wrap64 (x11_2 + 1)) x256000_2 x256001_2) else ((block_Write.f kj23 x256000_2 x256001_2 ((rd_T50 l1 x11_2).f1) ((rd_T50 l1 x11_2).f2)).bind fun bt272 => (rubricklaw22_BlockLasts.l0 kj23 l1 a2 l3 t264 t267 (wrap64 (x11_2 + 1)) bt272.1 bt272.2.1))) else (rubricklaw22_BlockLasts.l0 kj23 l1 a2 l3 t264 t267 (wrap64 (x11_2 + 1)) x256000_2 x256001_2)) else (none)) else (none)) = some r := by rw [if_pos rfl] at H; exact H
                  clear H
                  have H := H1
                  clear H1
                  by_cases c27 : 0 ≤ x11_2
                  · rw [if_pos c27] at H
                    have c27b0 : decide (0 ≤ x11_2) = true := decide_eq_true c27
                    clear c27
                    by_cases c28 : x11_2 < (l1.length : Int)
                    · rw [if_pos c28] at H
                      have c28b0 : decide (x11_2 < (l1.length : Int)) = true := decide_eq_true c28
                      clear c28
                      by_cases c29 : (((rd_T50 l1 x11_2).f2).length : Int) ≤ 200
                      · rw [if_pos c29] at H
                        have c29b0 : decide ((((rd_T50 l1 x11_2).f2).length : Int) ≤ 200) = true := decide_eq_true c29
                        have c29b1 : decide (((rd_T50 l1 x11_2).f2).length ≤ 200) = true := decide_eq_true (by omega)
                        clear c29
                        by_cases c30 : ((rd_T50 l1 x11_2).f1) = a2
                        · rw [if_pos c30] at H
                          have c30b0 : (((rd_T50 l1 x11_2).f1) == a2) = true := beq_iff_eq.mpr c30
                          have c30b1 : (((rd_T50 l1 x11_2).f1) != a2) = false := bne_eq_false_iff_eq.mpr c30
                          clear c30
                          have H' := Aside0.mk H
                          clear H
                          have p268 : 0 ≤ (x11_2 : Int) := of_decide_eq_true (by first | (with_reducible assumption) | assumption)
                          have q268 : x11_2 < (l1.length : Int) := of_decide_eq_true (by first | (with_reducible assumption) | assumption)
                          obtain ⟨ad268, A268_2, c268_2, A268_3, c268_3, e268, hx268_0, hx268_1, hx268_2, hx268_3, hl268_2, hi268_2, hl268_3, hi268_3⟩ := at_T50 HR1.out x11_2 p268 q268
                          cases e268
                          replace hx268_0 := (HB.out.cell (World.block_lt_of_cell? w _ hx268_0)).trans hx268_0
                          replace hx268_1 := (HB.out.cell (World.block_lt_of_cell? w _ hx268_1)).trans hx268_1
                          replace hx268_2 := (HB.out.cell (World.block_lt_of_cell? w _ hx268_2)).trans hx268_2
                          replace hx268_3 := (HB.out.cell (World.block_lt_of_cell? w _ hx268_3)).trans hx268_3
                          have HR268_2 := Aside0.mk hi268_2
                          have HC268_2 := Aside0.mk hl268_2
                          clear hi268_2 hl268_2
                          have HR268_3 := Aside0.mk hi268_3
                          have HC268_3 := Aside0.mk hl268_3
                          clear hi268_3 hl268_3
                          replace p268 := eq_true p268
                          replace q268 := eq_true q268
                          have p269 : 0 ≤ (x11_2 : Int) := of_decide_eq_true (by first | (with_reducible assumption) | assumption)
                          have q269 : x11_2 < (l1.length : Int) := of_decide_eq_true (by first | (with_reducible assumption) | assumption)
                          obtain ⟨ad269, A269_2, c269_2, A269_3, c269_3, e269, hx269_0, hx269_1, hx269_2, hx269_3, hl269_2, hi269_2, hl269_3, hi269_3⟩ := at_T50 HR1.out x11_2 p269 q269
                          obtain rfl : ad268 = ad269 := (by injection e269)
                          replace hx269_0 := (HB.out.cell (World.block_lt_of_cell? w _ hx269_0)).trans hx269_0
                          replace hx269_1 := (HB.out.cell (World.block_lt_of_cell? w _ hx269_1)).trans hx269_1
                          replace hx269_2 := (HB.out.cell (World.block_lt_of_cell? w _ hx269_2)).trans hx269_2
                          replace hx269_3 := (HB.out.cell (World.block_lt_of_cell? w _ hx269_3)).trans hx269_3
                          have HR269_2 := Aside0.mk hi269_2
                          have HC269_2 := Aside0.mk hl269_2
                          clear hi269_2 hl269_2
                          have HR269_3 := Aside0.mk hi269_3
                          have HC269_3 := Aside0.mk hl269_3
                          clear hi269_3 hl269_3
                          replace p269 := eq_true p269
                          replace q269 := eq_true q269
                          have ea_ := Option.some.inj (hx268_2.symm.trans hx269_2)
                          injection ea_ with ea_ en_ ec_
                          subst ea_
                          subst ec_
                          clear en_
                          have ea_ := Option.some.inj (hx268_3.symm.trans hx269_3)
                          injection ea_ with ea_ en_ ec_
                          subst ea_
                          subst ec_
                          clear en_
                          go_wp2
                          go_roundg kj23
                          case measure => have := HJ4.out; have := HK2.out; have := HJ23.out; omega
                          case rel => exact ⟨(wrap64 (x11_2 + 1)), (x256000_2), (x256001_2), (u256000), (u256001), (by first | rfl | (simp; done) | (simp [*]; done)), H', ⟨by have := HJ4.out; have := HK2.out; have := HJ23.out; omega⟩, ⟨by (with_reducible repeat (first | apply Kd.R_alloc | apply Kd.R_drewN | apply Kd.R_drew)); exact HO_9.out⟩, ⟨by (with_reducible repeat (first | apply Kd.V_alloc | apply Kd.V_drewN | apply Kd.V_drew)); exact HO_256000.out⟩, ⟨by (with_reducible repeat (first | apply Kd.V_alloc | apply Kd.V_drewN | apply Kd.V_drew)); exact HO_256001.out⟩, ⟨by (with_reducible repeat (first | refine blk_drewN ?_ _ | refine blk_drew ?_ | refine blk_alloc ?_ _)); exact BK255.out⟩, ⟨by repeat (first | (with_reducible first | exact HB.out | apply below_alloc | apply pw_below_drewN | apply below_drew1 | refine below_set ?_ GE255.out) | exact HB.out)⟩⟩
                        · rw [if_neg c30] at H
                          have c30b0 : (((rd_T50 l1 x11_2).f1) == a2) = false := beq_eq_false_iff_ne.mpr c30
                          have c30b1 : (((rd_T50 l1 x11_2).f1) != a2) = true := bne_iff_ne.mpr c30
                          replace H := Option.bind_eq_some_iff.mp H
                          obtain ⟨⟨t272, t275, t278⟩, A310, H⟩ := H
                          replace H : (rubricklaw22_BlockLasts.l0 kj23 l1 a2 l3 t264 t267 (wrap64 (x11_2 + 1)) t272 t275) = some r := H
                          have A31 := Aside0.mk A310
                          clear A310
                          have H' := Aside0.mk H
                          clear H
                          have p268 : 0 ≤ (x11_2 : Int) := of_decide_eq_true (by first | (with_reducible assumption) | assumption)
                          have q268 : x11_2 < (l1.length : Int) := of_decide_eq_true (by first | (with_reducible assumption) | assumption)
                          obtain ⟨ad268, A268_2, c268_2, A268_3, c268_3, e268, hx268_0, hx268_1, hx268_2, hx268_3, hl268_2, hi268_2, hl268_3, hi268_3⟩ := at_T50 HR1.out x11_2 p268 q268
                          cases e268
                          replace hx268_0 := (HB.out.cell (World.block_lt_of_cell? w _ hx268_0)).trans hx268_0
                          replace hx268_1 := (HB.out.cell (World.block_lt_of_cell? w _ hx268_1)).trans hx268_1
                          replace hx268_2 := (HB.out.cell (World.block_lt_of_cell? w _ hx268_2)).trans hx268_2
                          replace hx268_3 := (HB.out.cell (World.block_lt_of_cell? w _ hx268_3)).trans hx268_3
                          have HR268_2 := Aside0.mk hi268_2
                          have HC268_2 := Aside0.mk hl268_2
                          clear hi268_2 hl268_2
                          have HR268_3 := Aside0.mk hi268_3
                          have HC268_3 := Aside0.mk hl268_3
                          clear hi268_3 hl268_3
                          replace p268 := eq_true p268
                          replace q268 := eq_true q268
                          have p269 : 0 ≤ (x11_2 : Int) := of_decide_eq_true (by first | (with_reducible assumption) | assumption)
                          have q269 : x11_2 < (l1.length : Int) := of_decide_eq_true (by first | (with_reducible assumption) | assumption)
                          obtain ⟨ad269, A269_2, c269_2, A269_3, c269_3, e269, hx269_0, hx269_1, hx269_2, hx269_3, hl269_2, hi269_2, hl269_3, hi269_3⟩ := at_T50 HR1.out x11_2 p269 q269
                          obtain rfl : ad268 = ad269 := (by injection e269)
                          replace hx269_0 := (HB.out.cell (World.block_lt_of_cell? w _ hx269_0)).trans hx269_0
                          replace hx269_1 := (HB.out.cell (World.block_lt_of_cell? w _ hx269_1)).trans hx269_1
                          replace hx269_2 := (HB.out.cell (World.block_lt_of_cell? w _ hx269_2)).trans hx269_2
                          replace hx269_3 := (HB.out.cell (World.block_lt_of_cell? w _ hx269_3)).trans hx269_3
                          have HR269_2 := Aside0.mk hi269_2
                          have HC269_2 := Aside0.mk hl269_2
                          clear hi269_2 hl269_2
                          have HR269_3 := Aside0.mk hi269_3
                          have HC269_3 := Aside0.mk hl269_3
                          clear hi269_3 hl269_3
                          replace p269 := eq_true p269
                          replace q269 := eq_true q269
                          have ea_ := Option.some.inj (hx268_2.symm.trans hx269_2)
                          injection ea_ with ea_ en_ ec_
                          subst ea_
                          subst ec_
                          clear en_
                          have ea_ := Option.some.inj (hx268_3.symm.trans hx269_3)
                          injection ea_ with ea_ en_ ec_
                          subst ea_
                          subst ec_
                          clear en_
                          try go_wp2
                          have n0_ := Aside0.mk (Kd.R_drew HO_9.out)
                          have n1_ := Aside0.mk (Kd.V_drew HO_256000.out)
                          have n2_ := Aside0.mk (Kd.V_drew HO_256001.out)
                          have n3_ := Aside0.mk (blk_drew BK255.out)
                          have n4_ := Aside0.mk (below_drew1 HB.out)
                          clear HO_9
                          clear HO_256000
                          clear HO_256001
                          clear BK255
                          clear HB
                          have HO_9 := n0_
                          have HO_256000 := n1_
                          have HO_256001 := n2_
                          have BK255 := n3_
                          have HB := n4_
                          clear n0_ n1_ n2_ n3_ n4_
                          have p270 : 0 ≤ (x11_2 : Int) := of_decide_eq_true (by first | (with_reducible assumption) | assumption)
                          have q270 : x11_2 < (l1.length : Int) := of_decide_eq_true (by first | (with_reducible assumption) | assumption)
                          obtain ⟨ad270, A270_2, c270_2, A270_3, c270_3, e270, hx270_0, hx270_1, hx270_2, hx270_3, hl270_2, hi270_2, hl270_3, hi270_3⟩ := at_T50 HR1.out x11_2 p270 q270
                          have hw270_3 := hx270_3
                          have hw270_2 := hx270_2
                          have hw270_1 := hx270_1
                          have hw270_0 := hx270_0
                          obtain rfl : ad268 = ad270 := (by injection e270)
                          replace hx270_0 := (HB.out.cell (World.block_lt_of_cell? w _ hx270_0)).trans hx270_0
                          replace hx270_1 := (HB.out.cell (World.block_lt_of_cell? w _ hx270_1)).trans hx270_1
                          replace hx270_2 := (HB.out.cell (World.block_lt_of_cell? w _ hx270_2)).trans hx270_2
                          replace hx270_3 := (HB.out.cell (World.block_lt_of_cell? w _ hx270_3)).trans hx270_3
                          have HR270_2 := Aside0.mk hi270_2
                          have HC270_2 := Aside0.mk hl270_2
                          clear hi270_2 hl270_2
                          have HR270_3 := Aside0.mk hi270_3
                          have HC270_3 := Aside0.mk hl270_3
                          clear hi270_3 hl270_3
                          replace p270 := eq_true p270
                          replace q270 := eq_true q270
                          have p271 : 0 ≤ (x11_2 : Int) := of_decide_eq_true (by first | (with_reducible assumption) | assumption)
                          have q271 : x11_2 < (l1.length : Int) := of_decide_eq_true (by first | (with_reducible assumption) | assumption)
                          obtain ⟨ad271, A271_2, c271_2, A271_3, c271_3, e271, hx271_0, hx271_1, hx271_2, hx271_3, hl271_2, hi271_2, hl271_3, hi271_3⟩ := at_T50 HR1.out x11_2 p271 q271
                          have hw271_3 := hx271_3
                          have hw271_2 := hx271_2
                          have hw271_1 := hx271_1
                          have hw271_0 := hx271_0
                          obtain rfl : ad268 = ad271 := (by injection e271)
                          replace hx271_0 := (HB.out.cell (World.block_lt_of_cell? w _ hx271_0)).trans hx271_0
                          replace hx271_1 := (HB.out.cell (World.block_lt_of_cell? w _ hx271_1)).trans hx271_1
                          replace hx271_2 := (HB.out.cell (World.block_lt_of_cell? w _ hx271_2)).trans hx271_2
                          replace hx271_3 := (HB.out.cell (World.block_lt_of_cell? w _ hx271_3)).trans hx271_3
                          have HR271_2 := Aside0.mk hi271_2
                          have HC271_2 := Aside0.mk hl271_2
                          clear hi271_2 hl271_2
                          have HR271_3 := Aside0.mk hi271_3
                          have HC271_3 := Aside0.mk hl271_3
                          clear hi271_3 hl271_3
                          replace p271 := eq_true p271
                          replace q271 := eq_true q271
                          have ea_ := Option.some.inj (hx270_2.symm.trans hx271_2)
                          injection ea_ with ea_ en_ ec_
                          subst ea_
                          subst ec_
                          clear en_
                          have ea_ := Option.some.inj (hx270_3.symm.trans hx271_3)
                          injection ea_ with ea_ en_ ec_
                          subst ea_
                          subst ec_
                          clear en_
                          obtain ⟨Ao33, co33, eo33⟩ := Kd.V_slice HO_256000.out
                          (first | subst eo33 | (injection eo33 with f1_ f2_ f3_; have f4_ := f1_.symm; have f5_ := f3_.symm; clear f1_ f2_ f3_; subst f4_; subst f5_))
                          obtain ⟨Ao34, co34, eo34⟩ := Kd.V_slice HO_256001.out
                          (first | subst eo34 | (injection eo34 with f1_ f2_ f3_; have f4_ := f1_.symm; have f5_ := f3_.symm; clear f1_ f2_ f3_; subst f4_; subst f5_))
                          refine start_ (n := 16) (S := fun w' => w'.cell? ⟨gb255, 0, none⟩ = some (.slice Ao33 x256000_2.length co33) ∧ w'.cell? ⟨gb255, 1, none⟩ = some (.slice Ao34 x256001_2.length co34) ∧ w'.cell? (ad268.add ((x11_2).toNat * 4)) = some (.int .i64 ((rd_T50 l1 x11_2).f0)) ∧ w'.cell? ⟨(ad268.add ((x11_2).toNat * 4)).block, (ad268.add ((x11_2).toNat * 4)).off + 1, none⟩ = some (.int .i64 ((rd_T50 l1 x11_2).f1)) ∧ w'.cell? ⟨(ad268.add ((x11_2).toNat * 4)).block, (ad268.add ((x11_2).toNat * 4)).off + 2, none⟩ = some (.slice A270_2 ((rd_T50 l1 x11_2).f2).length c270_2) ∧ w'.cell? ⟨(ad268.add ((x11_2).toNat * 4)).block, (ad268.add ((x11_2).toNat * 4)).off + 3, none⟩ = some (.slice A270_3 ((rd_T50 l1 x11_2).f3).length c270_3) ∧ w'.cell? (ad268.add ((x11_2).toNat * 4)) = some (.int .i64 ((rd_T50 l1 x11_2).f0)) ∧ w'.cell? ⟨(ad268.add ((x11_2).toNat * 4)).block, (ad268.add ((x11_2).toNat * 4)).off + 1, none⟩ = some (.int .i64 ((rd_T50 l1 x11_2).f1)) ∧ w'.cell? ⟨(ad268.add ((x11_2).toNat * 4)).block, (ad268.add ((x11_2).toNat * 4)).off + 2, none⟩ = some (.slice A270_2 ((rd_T50 l1 x11_2).f2).length c270_2) ∧ w'.cell? ⟨(ad268.add ((x11_2).toNat * 4)).block, (ad268.add ((x11_2).toNat * 4)).off + 3, none⟩ = some (.slice A270_3 ((rd_T50 l1 x11_2).f3).length c270_3)) (ds := [15]) #[false, false, false, false, false, false, false, false, false, false, false, false, false, false, false, false] (by kernel_rfl) rfl rfl ⟨(blk_cell BK255.out 0).trans rfl, (blk_cell BK255.out 1).trans rfl, ((HB.out.cell (World.block_lt_of_cell? w _ hw270_0)).trans hw270_0), ((HB.out.cell (World.block_lt_of_cell? w _ hw270_1)).trans hw270_1), ((HB.out.cell (World.block_lt_of_cell? w _ hw270_2)).trans hw270_2), ((HB.out.cell (World.block_lt_of_cell? w _ hw270_3)).trans hw270_3), ((HB.out.cell (World.block_lt_of_cell? w _ hw271_0)).trans hw271_0), ((HB.out.cell (World.block_lt_of_cell? w _ hw271_1)).trans hw271_1), ((HB.out.cell (World.block_lt_of_cell? w _ hw271_2)).trans hw271_2), ((HB.out.cell (World.block_lt_of_cell? w _ hw271_3)).trans hw271_3)⟩ (fun hHeld => ?_); refine with_tabW rubricklaw22_BlockLasts.tab9 rubricklaw22_BlockLasts.bits9 (fun HT_ HW_ => ?_)
                          generalize wc.drew = w32 at HO_9 HO_256000 HO_256001 BK255 HB HR270_2 HR270_3 HR271_2 HR271_3 hx270_0 hx270_1 hx270_2 hx270_3 hx271_0 hx271_1 hx271_2 hx271_3 hHeld ⊢
                          refine pure_ (i := 1) (N := some 58) (v := ?_) (a' := ?_) #[false, true, false, false, false, false, false, false, false, false, false, false, false, false, false, false] rfl rfl (any_of HT_.out (by kernel_rfl)) (fun _ _ _ h => h) (Or.inl ⟨by rfl, ?_⟩) ?_ ?_
                          rotate_left
                          · intro w'
                            go_simp
                            with_reducible rfl
                          rotate_left
                          · simp only [Act.put, List.setIfInBounds_toArray, List.set_cons_zero, List.set_cons_succ, i64_w, i32_w]
                            rfl
                          refine pure_ (i := 2) (N := some 59) (v := ?_) (a' := ?_) #[false, true, true, false, false, false, false, false, false, false, false, false, false, false, false, false] rfl rfl (any_of HT_.out (by kernel_rfl)) (fun _ _ _ h => h) (Or.inl ⟨by rfl, ?_⟩) ?_ ?_
                          rotate_left
                          · intro w'
                            go_simp
                            with_reducible rfl
                          rotate_left
                          · simp only [Act.put, List.setIfInBounds_toArray, List.set_cons_zero, List.set_cons_succ, i64_w, i32_w]
                            rfl
                          refine pure_ (i := 3) (N := some 60) (v := ?_) (a' := ?_) #[false, true, true, true, false, false, false, false, false, false, false, false, false, false, false, false] rfl rfl (any_of HT_.out (by kernel_rfl)) (fun _ _ _ h => h) (Or.inl ⟨by rfl, ?_⟩) ?_ ?_
                          rotate_left
                          · intro w'
                            go_simp
                            with_reducible rfl
                          rotate_left
                          · simp only [Act.put, List.setIfInBounds_toArray, List.set_cons_zero, List.set_cons_succ, i64_w, i32_w]
                            rfl
                          refine pure_ (i := 4) (N := some 61) (v := ?_) (a' := ?_) #[false, true, true, true, true, false, false, false, false, false, false, false, false, false, false, false] rfl rfl (any_of HT_.out (by kernel_rfl)) (fun _ _ _ h => h) (Or.inl ⟨by rfl, ?_⟩) ?_ ?_
                          rotate_left
                          · intro w'
                            go_simp
                            with_reducible rfl
                          rotate_left
                          · simp only [Act.put, List.setIfInBounds_toArray, List.set_cons_zero, List.set_cons_succ, i64_w, i32_w]
                            rfl
                          refine pure_ (i := 6) (N := some 63) (v := ?_) (a' := ?_) #[false, true, true, true, true, false, true, false, false, false, false, false, false, false, false, false] rfl rfl (any_of HT_.out (by kernel_rfl)) (fun _ _ _ h => h) (Or.inl ⟨by rfl, ?_⟩) ?_ ?_
                          rotate_left
                          · intro w'
                            go_simp
                            with_reducible rfl
                          rotate_left
                          · simp only [Act.put, List.setIfInBounds_toArray, List.set_cons_zero, List.set_cons_succ, i64_w, i32_w]
                            rfl
                          refine pure_ (i := 7) (N := some 64) (v := ?_) (a' := ?_) #[false, true, true, true, true, false, true, true, false, false, false, false, false, false, false, false] rfl rfl (any_of HT_.out (by kernel_rfl)) (fun _ _ _ h => h) (Or.inl ⟨by rfl, ?_⟩) ?_ ?_
                          rotate_left
                          · intro w'
                            go_simp
                            with_reducible rfl
                          rotate_left
                          · simp only [Act.put, List.setIfInBounds_toArray, List.set_cons_zero, List.set_cons_succ, i64_w, i32_w]
                            rfl
                          refine pure_ (i := 8) (N := some 65) (v := ?_) (a' := ?_) #[false, true, true, true, true, false, true, true, true, false, false, false, false, false, false, false] rfl rfl (any_of HT_.out (by kernel_rfl)) (fun _ _ _ h => h) (Or.inl ⟨by rfl, ?_⟩) ?_ ?_
                          rotate_left
                          · intro w'
                            go_simp
                            with_reducible rfl
                          rotate_left
                          · simp only [Act.put, List.setIfInBounds_toArray, List.set_cons_zero, List.set_cons_succ, i64_w, i32_w]
                            rfl
                          refine pure_ (i := 9) (N := some 66) (v := ?_) (a' := ?_) #[false, true, true, true, true, false, true, true, true, true, false, false, false, false, false, false] rfl rfl (any_of HT_.out (by kernel_rfl)) (fun _ _ _ h => h) (Or.inl ⟨by rfl, ?_⟩) ?_ ?_
                          rotate_left
                          · intro w'
                            go_simp
                            with_reducible rfl
                          rotate_left
                          · simp only [Act.put, List.setIfInBounds_toArray, List.set_cons_zero, List.set_cons_succ, i64_w, i32_w]
                            rfl
                          refine take_ (i := 0) (N := some 57) (v := ?_) (a' := ?_) #[true, true, true, true, true, false, true, true, true, true, false, false, false, false, false, false] rfl rfl (take_ofW HT_.out HW_.out (by kernel_rfl)) (fun _ _ _ h => h) (Or.inl ⟨by rfl, ?_⟩) hHeld ?_ ?_
                          rotate_left
                          · rintro w' ⟨s0, s1, s2, s3, s4, s5, s6, s7, s8, s9⟩
                            go_simp
                            with_reducible rfl
                          rotate_left
                          · simp only [Act.put, List.setIfInBounds_toArray, List.set_cons_zero, List.set_cons_succ, i64_w, i32_w]
                            rfl
                          refine take_ (i := 5) (N := some 62) (v := ?_) (a' := ?_) #[true, true, true, true, true, true, true, true, true, true, false, false, false, false, false, false] rfl rfl (take_ofW HT_.out HW_.out (by kernel_rfl)) (fun _ _ _ h => h) (Or.inl ⟨by rfl, ?_⟩) hHeld ?_ ?_
                          rotate_left
                          · rintro w' ⟨s0, s1, s2, s3, s4, s5, s6, s7, s8, s9⟩
                            go_simp
                            with_reducible rfl
                          rotate_left
                          · simp only [Act.put, List.setIfInBounds_toArray, List.set_cons_zero, List.set_cons_succ, i64_w, i32_w]
                            rfl
                          refine take_ (i := 10) (N := some 67) (v := ?_) (a' := ?_) #[true, true, true, true, true, true, true, true, true, true, true, false, false, false, false, false] rfl rfl (take_ofW HT_.out HW_.out (by kernel_rfl)) (fun _ _ _ h => h) (Or.inl ⟨by rfl, ?_⟩) hHeld ?_ ?_
                          rotate_left
                          · rintro w' ⟨s0, s1, s2, s3, s4, s5, s6, s7, s8, s9⟩
                            go_simp
                            with_reducible rfl
                          rotate_left
                          · simp only [Act.put, List.setIfInBounds_toArray, List.set_cons_zero, List.set_cons_succ, i64_w, i32_w]
                            rfl
                          refine one_ (i := 11) (N := some 68) #[true, true, true, true, true, true, true, true, true, true, true, true, false, false, false, false] rfl rfl (one_of HT_.out (by kernel_rfl)) (by decide) (fun K hK => ?_)
                          refine goes_ Try.func22 (by kernel_rfl) rfl #[.agg #[.slice Ao33 x256000_2.length co33, .slice Ao34 x256001_2.length co34], .int .i64 ((rd_T50 l1 x11_2).f1), .slice A270_2 ((rd_T50 l1 x11_2).f2).length c270_2] (by rfl) rfl rfl (by (try simp only [List.map_toArray, List.map_cons, List.map_nil]); first | done | rfl | (simp only [List.length_drop, List.length_take]; rfl)) ?_
                          with_reducible refine (block_Write.calls kj23 _ _ x256000_2 _ _ x256001_2 ((rd_T50 l1 x11_2).f1) _ _ ((rd_T50 l1 x11_2).f2) t272 t275 t278 _ ?side1 ?side2 ?side3 ?side4 ?side5 ?side6 A31.out).mono ?_
                          (case side1 => repeat (first | exact (Kd.V_reads' HO_256000.out).2.2 | (with_reducible refine Kd.C_alloc ?_ _) | (with_reducible refine Kd.C_drewN ?_ _) | (with_reducible refine Kd.C_drew ?_)))
                          (case side2 => exact (Kd.V_reads' HO_256000.out).2.1)
                          (case side3 => repeat (first | exact (Kd.V_reads' HO_256001.out).2.2 | (with_reducible refine Kd.C_alloc ?_ _) | (with_reducible refine Kd.C_drewN ?_ _) | (with_reducible refine Kd.C_drew ?_)))
                          (case side4 => exact (Kd.V_reads' HO_256001.out).2.1)
                          (case side5 => repeat (first | exact (Kd.C_below HR271_2.out HB.out) | (with_reducible refine Kd.C_alloc ?_ _) | (with_reducible refine Kd.C_drewN ?_ _) | (with_reducible refine Kd.C_drew ?_)))
                          (case side6 => exact HC271_2.out)
                          rintro e w35 ⟨v273, v276, rfl, ho0, ho1, hb⟩
                          refine ⟨_, rfl, ?_⟩
                          have n0_ := Aside0.mk (Kd.R_below (by (with_reducible repeat (first | apply Kd.R_alloc | apply Kd.R_drewN | apply Kd.R_drew)); exact HO_9.out) hb)
                          have n1_ := Aside0.mk (Kd.V_elder' (by (with_reducible repeat (first | apply Kd.V_alloc | apply Kd.V_drewN | apply Kd.V_drew)); exact HO_256000.out) (Kd.S_base ho1) hb)
                          have n2_ := Aside0.mk (Kd.V_elder' (by (with_reducible repeat (first | apply Kd.V_alloc | apply Kd.V_drewN | apply Kd.V_drew)); exact HO_256001.out) (Kd.S_base ho1) hb)
                          have n3_ := Aside0.mk (Kd.V_lower (Kd.V_mono (ok' := fun k_ => some k_ ≠ (v276 : Value).ownBlock ∧ some k_ ≠ (v265 : Value).ownBlock ∧ k_ ≠ gb255) ho0 (fun k_ hk_ => ⟨hk_.2, (Kd.fresh' (Kd.R_lt (by (with_reducible repeat (first | apply Kd.R_alloc | apply Kd.R_drewN | apply Kd.R_drew)); exact HO_9.out)) k_ hk_.1), (Kd.freshB (g := gb255) (o := .cells #[.slice Ao33 x256000_2.length co33, .slice Ao34 x256001_2.length co34] 25 (0, 0)) (by (with_reducible repeat (first | refine blk_drewN ?_ _ | refine blk_drew ?_ | refine blk_alloc ?_ _)); exact BK255.out) k_ hk_.1)⟩)) (below_size (by repeat (first | (with_reducible first | exact HB.out | apply below_alloc | apply pw_below_drewN | apply below_drew1 | refine below_set ?_ GE255.out) | exact HB.out))))
                          have n4_ := Aside0.mk (Kd.S_lower (Kd.S_new' (Kd.S_mono (ok' := fun k_ => True) ho1 (fun _ hk_ => trivial)) (Kd.R_lt (by (with_reducible repeat (first | apply Kd.R_alloc | apply Kd.R_drewN | apply Kd.R_drew)); exact HO_9.out))) (below_size (by repeat (first | (with_reducible first | exact HB.out | apply below_alloc | apply pw_below_drewN | apply below_drew1 | refine below_set ?_ GE255.out) | exact HB.out))))
                          have n5_ := Aside0.mk (blk_below (g := gb255) (o := .cells #[.slice Ao33 x256000_2.length co33, .slice Ao34 x256001_2.length co34] 25 (0, 0)) (by (with_reducible repeat (first | refine blk_drewN ?_ _ | refine blk_drew ?_ | refine blk_alloc ?_ _)); exact BK255.out) hb)
                          have n6_ := Aside0.mk (below_step (by repeat (first | (with_reducible first | exact HB.out | apply below_alloc | apply pw_below_drewN | apply below_drew1 | refine below_set ?_ GE255.out) | exact HB.out)) hb)
                          clear HO_9
                          clear HO_256000
                          clear HO_256001
                          clear BK255
                          clear HB
                          have HO_9 := n0_
                          have HO_256000 := n1_
                          have HO_256001 := n2_
                          have HO274 := n3_
                          have HO277 := n4_
                          have BK255 := n5_
                          have HB := n6_
                          clear n0_ n1_ n2_ n3_ n4_ n5_ n6_
                          (try clear hb)
                          (try clear hb2)
                          (try clear hk)
                          (try clear hi)
                          (try clear ho0)
                          (try clear ho1)
                          obtain ⟨Ao36, co36, eo36⟩ := Kd.V_slice HO274.out
                          (first | subst eo36 | (injection eo36 with f1_ f2_ f3_; have f4_ := f1_.symm; have f5_ := f3_.symm; clear f1_ f2_ f3_; subst f4_; subst f5_))
                          obtain ⟨Ao38, co38, eo38⟩ := Kd.S_slice HO277.out
                          (first | subst eo38 | (injection eo38 with f1_ f2_ f3_; have f4_ := f1_.symm; have f5_ := f3_.symm; clear f1_ f2_ f3_; subst f4_; subst f5_))
                          refine hK.out _ _ ⟨(blk_cell BK255.out 0).trans rfl, (blk_cell BK255.out 1).trans rfl, ((HB.out.cell (World.block_lt_of_cell? w _ hw270_0)).trans hw270_0), ((HB.out.cell (World.block_lt_of_cell? w _ hw270_1)).trans hw270_1), ((HB.out.cell (World.block_lt_of_cell? w _ hw270_2)).trans hw270_2), ((HB.out.cell (World.block_lt_of_cell? w _ hw270_3)).trans hw270_3), ((HB.out.cell (World.block_lt_of_cell? w _ hw271_0)).trans hw271_0), ((HB.out.cell (World.block_lt_of_cell? w _ hw271_1)).trans hw271_1), ((HB.out.cell (World.block_lt_of_cell? w _ hw271_2)).trans hw271_2), ((HB.out.cell (World.block_lt_of_cell? w _ hw271_3)).trans hw271_3)⟩ (fun hHeld => ?_)
                          clear hK K
                          refine norm_ (a' := ?_) ?_ ?_
                          rotate_left
                          · show Act.put _ (some 68) _ = _
                            simp only [Act.put, List.setIfInBounds_toArray, List.set_cons_zero, List.set_cons_succ, i64_w, i32_w]
                            rfl
                          refine pure_ (i := 12) (N := some 56) (v := ?_) (a' := ?_) #[true, true, true, true, true, true, true, true, true, true, true, true, true, false, false, false] rfl rfl (any_of HT_.out (by kernel_rfl)) (fun _ _ _ h => h) (Or.inl ⟨by rfl, ?_⟩) ?_ ?_
                          rotate_left
                          · intro w'
                            go_simp
                            with_reducible rfl
                          rotate_left
                          · simp only [Act.put, List.setIfInBounds_toArray, List.set_cons_zero, List.set_cons_succ, i64_w, i32_w]
                            rfl
                          refine pure_ (i := 13) (N := some 69) (v := ?_) (a' := ?_) #[true, true, true, true, true, true, true, true, true, true, true, true, true, true, false, false] rfl rfl (any_of HT_.out (by kernel_rfl)) (fun _ _ _ h => h) (Or.inl ⟨by rfl, ?_⟩) ?_ ?_
                          rotate_left
                          · intro w'
                            go_simp
                            with_reducible rfl
                          rotate_left
                          · simp only [Act.put, List.setIfInBounds_toArray, List.set_cons_zero, List.set_cons_succ, i64_w, i32_w]
                            rfl
                          refine pure_ (i := 14) (N := some 70) (v := ?_) (a' := ?_) #[true, true, true, true, true, true, true, true, true, true, true, true, true, true, true, false] rfl rfl (any_of HT_.out (by kernel_rfl)) (fun _ _ _ h => h) (Or.inl ⟨by rfl, ?_⟩) ?_ ?_
                          rotate_left
                          · intro w'
                            go_simp
                            with_reducible rfl
                          rotate_left
                          · simp only [Act.put, List.setIfInBounds_toArray, List.set_cons_zero, List.set_cons_succ, i64_w, i32_w]
                            rfl
                          refine last_ (i := 15) (N := none) #[true, true, true, true, true, true, true, true, true, true, true, true, true, true, true, true] rfl rfl (one_of HT_.out (by kernel_rfl)) (by decide) (fun K hK => ?_)
                          have hs37 : w35.cell? ⟨gb255, 0, none⟩ = some (.slice Ao33 x256000_2.length co33) := (blk_cell BK255.out 0).trans rfl
                          have hfs37 := blk_frozen BK255.out 0
                          have hs39 : w35.cell? ⟨gb255, 1, none⟩ = some (.slice Ao34 x256001_2.length co34) := (blk_cell BK255.out 1).trans rfl
                          have hfs39 := blk_frozen BK255.out 1
                          refine skip_ (w1 := ?_) (by rfl) rfl ?_ ?_
                          rotate_left
                          · go_simp
                            rfl
                          refine hK.out _ _ ?_
                          clear hK K
                          refine done_ (done_of HT_.out (by kernel_rfl)) ?_
                          try go_wp2
                          go_roundg kj23
                          case measure => have := HJ4.out; have := HK2.out; have := HJ23.out; omega
                          case rel => exact ⟨(wrap64 (x11_2 + 1)), (t272), (t275), (.slice Ao36 t272.length co36), (.slice Ao38 t275.length co38), (by first | rfl | (simp; done) | (simp [*]; done)), H', ⟨by have := HJ4.out; have := HK2.out; have := HJ23.out; omega⟩, ⟨by (with_reducible repeat (first | apply Kd.R_alloc | apply Kd.R_drewN | apply Kd.R_drew)); exact Kd.R_mono (Kd.R_far (p := ⟨gb255, 1, none⟩) (Kd.R_far (p := ⟨gb255, 0, none⟩) (Kd.R_types HO_9.out BK255.out (by decide)) (fun _ hk => hk.2) (.slice Ao36 t272.length co36)) (fun _ hk => hk.2) (.slice Ao38 t275.length co38)) (fun _ hk => trivial)⟩, ⟨by (with_reducible repeat (first | apply Kd.V_alloc | apply Kd.V_drewN | apply Kd.V_drew)); exact Kd.V_mono (Kd.V_far (p := ⟨gb255, 1, none⟩) (Kd.V_far (p := ⟨gb255, 0, none⟩) (Kd.V_mono HO274.out (fun k_ hk => (⟨hk, hk.2.2⟩ : _ ∧ k_ ≠ gb255))) (fun _ hk => hk.2) (.slice Ao36 t272.length co36)) (fun _ hk => hk.2) (.slice Ao38 t275.length co38)) (fun _ hk => ⟨hk.1.2.1, hk.1.2.2⟩)⟩, ⟨Kd.S_V (by (with_reducible repeat (first | apply Kd.S_alloc | apply Kd.S_drewN | apply Kd.S_drew)); exact Kd.S_mono (Kd.S_far (p := ⟨gb255, 1, none⟩) (Kd.S_far (p := ⟨gb255, 0, none⟩) (Kd.S_types (Kd.S_types HO277.out BK255.out (by decide)) BK255.out (by decide)) (fun _ hk => hk.2) (.slice Ao36 t272.length co36)) (fun _ hk => hk.2) (.slice Ao38 t275.length co38)) (fun _ hk => ⟨hk.1.1.2, hk.1.2⟩))⟩, ⟨by (with_reducible repeat (first | refine blk_drewN ?_ _ | refine blk_drew ?_ | refine blk_alloc ?_ _)); refine blk_put (cs := #[.slice Ao36 t272.length co36, .slice Ao34 x256001_2.length co34]) ?_ 1 _ rfl; (with_reducible repeat (first | refine blk_drewN ?_ _ | refine blk_drew ?_ | refine blk_alloc ?_ _)); refine blk_put (cs := #[.slice Ao33 x256000_2.length co33, .slice Ao34 x256001_2.length co34]) ?_ 0 _ rfl; (with_reducible repeat (first | refine blk_drewN ?_ _ | refine blk_drew ?_ | refine blk_alloc ?_ _)); exact BK255.out⟩, ⟨by repeat (first | (with_reducible first | exact HB.out | apply below_alloc | apply pw_below_drewN | apply below_drew1 | refine below_set ?_ GE255.out) | exact HB.out)⟩⟩
                      · rw [if_neg c29] at H
                        have c29b0 : decide ((((rd_T50 l1 x11_2).f2).length : Int) ≤ 200) = false := decide_eq_false c29
                        have c29b1 : decide (((rd_T50 l1 x11_2).f2).length ≤ 200) = false := decide_eq_false (by omega)
                        clear c29
                        have H' := Aside0.mk H
                        clear H
                        have p268 : 0 ≤ (x11_2 : Int) := of_decide_eq_true (by first | (with_reducible assumption) | assumption)
                        have q268 : x11_2 < (l1.length : Int) := of_decide_eq_true (by first | (with_reducible assumption) | assumption)
                        obtain ⟨ad268, A268_2, c268_2, A268_3, c268_3, e268, hx268_0, hx268_1, hx268_2, hx268_3, hl268_2, hi268_2, hl268_3, hi268_3⟩ := at_T50 HR1.out x11_2 p268 q268
                        cases e268
                        replace hx268_0 := (HB.out.cell (World.block_lt_of_cell? w _ hx268_0)).trans hx268_0
                        replace hx268_1 := (HB.out.cell (World.block_lt_of_cell? w _ hx268_1)).trans hx268_1
                        replace hx268_2 := (HB.out.cell (World.block_lt_of_cell? w _ hx268_2)).trans hx268_2
                        replace hx268_3 := (HB.out.cell (World.block_lt_of_cell? w _ hx268_3)).trans hx268_3
                        have HR268_2 := Aside0.mk hi268_2
                        have HC268_2 := Aside0.mk hl268_2
                        clear hi268_2 hl268_2
                        have HR268_3 := Aside0.mk hi268_3
                        have HC268_3 := Aside0.mk hl268_3
                        clear hi268_3 hl268_3
                        replace p268 := eq_true p268
                        replace q268 := eq_true q268
                        go_wp2
                        go_roundg kj23
                        case measure => have := HJ4.out; have := HK2.out; have := HJ23.out; omega
                        case rel => exact ⟨(wrap64 (x11_2 + 1)), (x256000_2), (x256001_2), (u256000), (u256001), (by first | rfl | (simp; done) | (simp [*]; done)), H', ⟨by have := HJ4.out; have := HK2.out; have := HJ23.out; omega⟩, ⟨by (with_reducible repeat (first | apply Kd.R_alloc | apply Kd.R_drewN | apply Kd.R_drew)); exact HO_9.out⟩, ⟨by (with_reducible repeat (first | apply Kd.V_alloc | apply Kd.V_drewN | apply Kd.V_drew)); exact HO_256000.out⟩, ⟨by (with_reducible repeat (first | apply Kd.V_alloc | apply Kd.V_drewN | apply Kd.V_drew)); exact HO_256001.out⟩, ⟨by (with_reducible repeat (first | refine blk_drewN ?_ _ | refine blk_drew ?_ | refine blk_alloc ?_ _)); exact BK255.out⟩, ⟨by repeat (first | (with_reducible first | exact HB.out | apply below_alloc | apply pw_below_drewN | apply below_drew1 | refine below_set ?_ GE255.out) | exact HB.out)⟩⟩
                    · rw [if_neg c28] at H
                      exact absurd H (by simp)
                  · rw [if_neg c27] at H
                    exact absurd H (by simp)
                · replace c26 := Bool.eq_false_iff.mpr c26
                  subst c26
                  have H1 : ((block_Crash.f x256000_2 x256001_2 l3).bind fun bt279 => ((block_Read.f kj23 bt279.1 bt279.2 a2).bind fun bt285 => (if t267 = bt285.2 then (if (strOfNums t264).toList = (strOfNums bt285.1).toList then ((rubricklaw22_knows.f).bind fun t289 => (some t289)) else (some false)) else (some false)))) = some r := by rw [if_neg (show ¬ (false = true) by decide)] at H; exact H
                  clear H
                  have H := H1
                  clear H1
                  replace H := Option.bind_eq_some_iff.mp H
                  obtain ⟨⟨t279, t282⟩, A400, H⟩ := H
                  replace H : ((block_Read.f kj23 t279 t282 a2).bind fun bt285 => (if t267 = bt285.2 then (if (strOfNums t264).toList = (strOfNums bt285.1).toList then ((rubricklaw22_knows.f).bind fun t289 => (some t289)) else (some false)) else (some false))) = some r := H
                  have A40 := Aside0.mk A400
                  clear A400
                  replace H := Option.bind_eq_some_iff.mp H
                  obtain ⟨⟨t285, t288⟩, A410, H⟩ := H
                  replace H : (if t267 = t288 then (if (strOfNums t264).toList = (strOfNums t285).toList then ((rubricklaw22_knows.f).bind fun t289 => (some t289)) else (some false)) else (some false)) = some r := H
                  have A41 := Aside0.mk A410
                  clear A410
                  by_cases c42 : t267 = t288
                  · rw [if_pos c42] at H
                    have c42b0 : (t267 == t288) = true := beq_iff_eq.mpr c42
                    have c42b1 : (t267 != t288) = false := bne_eq_false_iff_eq.mpr c42
                    clear c42
                    by_cases c43 : (strOfNums t264).toList = (strOfNums t285).toList
                    · rw [if_pos c43] at H
                      have c43b0 : ((strOfNums t264).toList == (strOfNums t285).toList) = true := beq_iff_eq.mpr c43
                      have c43b1 : ((strOfNums t264).toList != (strOfNums t285).toList) = false := bne_eq_false_iff_eq.mpr c43
                      clear c43
                      replace H := Option.bind_eq_some_iff.mp H
                      obtain ⟨t289, A440, H⟩ := H
                      replace H : (some t289) = some r := H
                      have A44 := Aside0.mk A440
                      clear A440
                      obtain rfl := Option.some.inj H
                      have hcz45_0 : wc.cell? ⟨gb255, 0, none⟩ = some (u256000) := (blk_cell BK255.out 0).trans rfl
                      have hcz45_1 : wc.cell? ⟨gb255, 1, none⟩ = some (u256001) := (blk_cell BK255.out 1).trans rfl
                      have hfz45_0 := blk_frozen BK255.out 0
                      have hfz45_1 := blk_frozen BK255.out 1
                      obtain ⟨Ao46, co46, eo46⟩ := Kd.V_slice HO_256000.out
                      subst eo46
                      obtain ⟨Ao47, co47, eo47⟩ := Kd.V_slice HO_256001.out
                      subst eo47
                      go_wp2_with (first | ((with_reducible refine gate_callee (f := 23) rfl ?_); refine goesL_ (some 74) rfl rfl Try.func23 (by kernel_rfl) rfl #[.agg #[.slice Ao46 x256000_2.length co46, .slice Ao47 x256001_2.length co47], .slice A3 l3.length c3] rfl (by (try simp only [List.map_toArray, List.map_cons, List.map_nil]); first | done | rfl | (simp only [List.length_drop, List.length_take]; rfl)) ?_; (with_reducible refine (block_Crash.calls _ _ x256000_2 _ _ x256001_2 _ _ l3 t279 t282 _ ?side1 ?side2 ?side3 ?side4 ?side5 ?side6 A40.out).mono ?_); (case side1 => repeat (first | exact (Kd.V_reads' HO_256000.out).2.2 | (with_reducible refine Kd.C_alloc ?_ _) | (with_reducible refine Kd.C_drewN ?_ _) | (with_reducible refine Kd.C_drew ?_))); (case side2 => exact (Kd.V_reads' HO_256000.out).2.1); (case side3 => repeat (first | exact (Kd.V_reads' HO_256001.out).2.2 | (with_reducible refine Kd.C_alloc ?_ _) | (with_reducible refine Kd.C_drewN ?_ _) | (with_reducible refine Kd.C_drew ?_))); (case side4 => exact (Kd.V_reads' HO_256001.out).2.1); (case side5 => repeat (first | exact (Kd.C_below HR3.out HB.out) | (with_reducible refine Kd.C_alloc ?_ _) | (with_reducible refine Kd.C_drewN ?_ _) | (with_reducible refine Kd.C_drew ?_))); (case side6 => exact HC3.out); rintro e w48 ⟨v280, v283, rfl, ho0, ho1, hb⟩; refine ⟨_, rfl, ?_⟩; have n0_ := Aside0.mk (Kd.R_below (by (with_reducible repeat (first | apply Kd.R_alloc | apply Kd.R_drewN | apply Kd.R_drew)); exact HO_9.out) hb); have n1_ := Aside0.mk (Kd.V_below (by (with_reducible repeat (first | apply Kd.V_alloc | apply Kd.V_drewN | apply Kd.V_drew)); exact HO_256000.out) hb); have n2_ := Aside0.mk (Kd.V_below (by (with_reducible repeat (first | apply Kd.V_alloc | apply Kd.V_drewN | apply Kd.V_drew)); exact HO_256001.out) hb); have n3_ := Aside0.mk (Kd.V_lower (Kd.V_mono (ok' := fun k_ => some k_ ≠ (v265 : Value).ownBlock ∧ k_ ≠ gb255) ho0 (fun k_ hk_ => ⟨(Kd.fresh' (Kd.R_lt (by (with_reducible repeat (first | apply Kd.R_alloc | apply Kd.R_drewN | apply Kd.R_drew)); exact HO_9.out)) k_ hk_), (Kd.freshB (g := gb255) (o := .cells #[.slice Ao46 x256000_2.length co46, .slice Ao47 x256001_2.length co47] 25 (0, 0)) (by (with_reducible repeat (first | refine blk_drewN ?_ _ | refine blk_drew ?_ | refine blk_alloc ?_ _)); exact BK255.out) k_ hk_)⟩)) (below_size (by repeat (first | (with_reducible first | exact HB.out | apply below_alloc | apply pw_below_drewN | apply below_drew1 | refine below_set ?_ GE255.out) | exact HB.out)))); have n4_ := Aside0.mk (Kd.V_lower (Kd.V_mono (ok' := fun k_ => some k_ ≠ (v265 : Value).ownBlock ∧ k_ ≠ gb255) ho1 (fun k_ hk_ => ⟨(Kd.fresh' (Kd.R_lt (by (with_reducible repeat (first | apply Kd.R_alloc | apply Kd.R_drewN | apply Kd.R_drew)); exact HO_9.out)) k_ hk_), (Kd.freshB (g := gb255) (o := .cells #[.slice Ao46 x256000_2.length co46, .slice Ao47 x256001_2.length co47] 25 (0, 0)) (by (with_reducible repeat (first | refine blk_drewN ?_ _ | refine blk_drew ?_ | refine blk_alloc ?_ _)); exact BK255.out) k_ hk_)⟩)) (below_size (by repeat (first | (with_reducible first | exact HB.out | apply below_alloc | apply pw_below_drewN | apply below_drew1 | refine below_set ?_ GE255.out) | exact HB.out)))); have n5_ := Aside0.mk (blk_below (g := gb255) (o := .cells #[.slice Ao46 x256000_2.length co46, .slice Ao47 x256001_2.length co47] 25 (0, 0)) (by (with_reducible repeat (first | refine blk_drewN ?_ _ | refine blk_drew ?_ | refine blk_alloc ?_ _)); exact BK255.out) hb); have n6_ := Aside0.mk (below_step (by repeat (first | (with_reducible first | exact HB.out | apply below_alloc | apply pw_below_drewN | apply below_drew1 | refine below_set ?_ GE255.out) | exact HB.out)) hb); clear HO_9; clear HO_256000; clear HO_256001; clear BK255; clear HB; have HO_9 := n0_; have HO_256000 := n1_; have HO_256001 := n2_; have HO281 := n3_; have HO284 := n4_; have BK255 := n5_; have HB := n6_; clear n0_ n1_ n2_ n3_ n4_ n5_ n6_; (try clear hb); (try clear hb2); (try clear hk); (try clear hi); (try clear ho0); (try clear ho1); obtain ⟨Ao49, co49, eo49⟩ := Kd.V_slice HO281.out; subst eo49; obtain ⟨Ao50, co50, eo50⟩ := Kd.V_slice HO284.out; subst eo50) | ((with_reducible refine gate_callee (f := 11) rfl ?_); refine goesL_ (some 76) rfl rfl Try.func11 (by kernel_rfl) rfl #[.agg #[.slice Ao49 t279.length co49, .slice Ao50 t282.length co50], .int .i64 a2] rfl (by (try simp only [List.map_toArray, List.map_cons, List.map_nil]); first | done | rfl | (simp only [List.length_drop, List.length_take]; rfl)) ?_; (with_reducible refine (block_Read.calls kj23 _ _ t279 _ _ t282 a2 t285 t288 _ ?side1 ?side2 ?side3 ?side4 A41.out).mono ?_); (case side1 => repeat (first | exact (Kd.V_reads' HO281.out).2.2 | (with_reducible refine Kd.C_alloc ?_ _) | (with_reducible refine Kd.C_drewN ?_ _) | (with_reducible refine Kd.C_drew ?_))); (case side2 => exact (Kd.V_reads' HO281.out).2.1); (case side3 => repeat (first | exact (Kd.V_reads' HO284.out).2.2 | (with_reducible refine Kd.C_alloc ?_ _) | (with_reducible refine Kd.C_drewN ?_ _) | (with_reducible refine Kd.C_drew ?_))); (case side4 => exact (Kd.V_reads' HO284.out).2.1); rintro e w51 ⟨v286, rfl, ho0, hb⟩; refine ⟨_, rfl, ?_⟩; have n0_ := Aside0.mk (Kd.R_elder' (by (with_reducible repeat (first | apply Kd.R_alloc | apply Kd.R_drewN | apply Kd.R_drew)); exact HO_9.out) (Kd.R_base ho0) hb); have n1_ := Aside0.mk (Kd.V_elder' (by (with_reducible repeat (first | apply Kd.V_alloc | apply Kd.V_drewN | apply Kd.V_drew)); exact HO_256000.out) (Kd.R_base ho0) hb); have n2_ := Aside0.mk (Kd.V_elder' (by (with_reducible repeat (first | apply Kd.V_alloc | apply Kd.V_drewN | apply Kd.V_drew)); exact HO_256001.out) (Kd.R_base ho0) hb); have n3_ := Aside0.mk (Kd.V_elder' (by (with_reducible repeat (first | apply Kd.V_alloc | apply Kd.V_drewN | apply Kd.V_drew)); exact HO281.out) (Kd.R_base ho0) hb); have n4_ := Aside0.mk (Kd.V_elder' (by (with_reducible repeat (first | apply Kd.V_alloc | apply Kd.V_drewN | apply Kd.V_drew)); exact HO284.out) (Kd.R_base ho0) hb); have n5_ := Aside0.mk (Kd.R_lower (Kd.R_new' ho0 (Kd.R_lt (by (with_reducible repeat (first | apply Kd.R_alloc | apply Kd.R_drewN | apply Kd.R_drew)); exact HO_9.out))) (below_size (by repeat (first | (with_reducible first | exact HB.out | apply below_alloc | apply pw_below_drewN | apply below_drew1 | refine below_set ?_ GE255.out) | exact HB.out)))); have n6_ := Aside0.mk (blk_below (g := gb255) (o := .cells #[.slice Ao46 x256000_2.length co46, .slice Ao47 x256001_2.length co47] 25 (0, 0)) (by (with_reducible repeat (first | refine blk_drewN ?_ _ | refine blk_drew ?_ | refine blk_alloc ?_ _)); exact BK255.out) hb); have n7_ := Aside0.mk (below_step (by repeat (first | (with_reducible first | exact HB.out | apply below_alloc | apply pw_below_drewN | apply below_drew1 | refine below_set ?_ GE255.out) | exact HB.out)) hb); clear HO_9; clear HO_256000; clear HO_256001; clear HO281; clear HO284; clear BK255; clear HB; have HO_9 := n0_; have HO_256000 := n1_; have HO_256001 := n2_; have HO281 := n3_; have HO284 := n4_; have HO287 := n5_; have BK255 := n6_; have HB := n7_; clear n0_ n1_ n2_ n3_ n4_ n5_ n6_ n7_; (try clear hb); (try clear hb2); (try clear hk); (try clear hi); (try clear ho0); have hcv52 := own_string (P := Try.prog) Try.underlying28 Try.underlying5 Try.underlying9 (Kd.own_of_R HO_9.out); have hcv53 := own_string (P := Try.prog) Try.underlying28 Try.underlying5 Try.underlying9 (Kd.own_of_R HO287.out)) | (go_at_call 10; (with_reducible refine (rubricklaw22_knows.calls  t289 _ A44.out).mono ?_); rintro e w54 ⟨rfl, hb⟩; have n0_ := Aside0.mk (Kd.R_below (by (with_reducible repeat (first | apply Kd.R_alloc | apply Kd.R_drewN | apply Kd.R_drew)); exact HO_9.out) hb); have n1_ := Aside0.mk (Kd.V_below (by (with_reducible repeat (first | apply Kd.V_alloc | apply Kd.V_drewN | apply Kd.V_drew)); exact HO_256000.out) hb); have n2_ := Aside0.mk (Kd.V_below (by (with_reducible repeat (first | apply Kd.V_alloc | apply Kd.V_drewN | apply Kd.V_drew)); exact HO_256001.out) hb); have n3_ := Aside0.mk (Kd.V_below (by (with_reducible repeat (first | apply Kd.V_alloc | apply Kd.V_drewN | apply Kd.V_drew)); exact HO281.out) hb); have n4_ := Aside0.mk (Kd.V_below (by (with_reducible repeat (first | apply Kd.V_alloc | apply Kd.V_drewN | apply Kd.V_drew)); exact HO284.out) hb); have n5_ := Aside0.mk (Kd.R_below (by (with_reducible repeat (first | apply Kd.R_alloc | apply Kd.R_drewN | apply Kd.R_drew)); exact HO287.out) hb); have n6_ := Aside0.mk (blk_below (g := gb255) (o := .cells #[.slice Ao46 x256000_2.length co46, .slice Ao47 x256001_2.length co47] 25 (0, 0)) (by (with_reducible repeat (first | refine blk_drewN ?_ _ | refine blk_drew ?_ | refine blk_alloc ?_ _)); exact BK255.out) hb); have n7_ := Aside0.mk (below_step (by repeat (first | (with_reducible first | exact HB.out | apply below_alloc | apply pw_below_drewN | apply below_drew1 | refine below_set ?_ GE255.out) | exact HB.out)) hb); clear HO_9; clear HO_256000; clear HO_256001; clear HO281; clear HO284; clear HO287; clear BK255; clear HB; have HO_9 := n0_; have HO_256000 := n1_; have HO_256001 := n2_; have HO281 := n3_; have HO284 := n4_; have HO287 := n5_; have BK255 := n6_; have HB := n7_; clear n0_ n1_ n2_ n3_ n4_ n5_ n6_ n7_; (try clear hb); (try clear hb2); (try clear hk); (try clear hi)))
                      go_ret
                      exact ⟨by first | rfl | (simp [errW_none, errW_some] <;> rfl) | (simp [*, errW_none, errW_some] <;> rfl), by repeat (first | (with_reducible first | exact HB.out | apply below_alloc | apply pw_below_drewN | apply below_drew1 | refine below_set ?_ GE255.out) | exact HB.out)⟩
                    · rw [if_neg c43] at H
                      have c43b0 : ((strOfNums t264).toList == (strOfNums t285).toList) = false := beq_eq_false_iff_ne.mpr c43
                      have c43b1 : ((strOfNums t264).toList != (strOfNums t285).toList) = true := bne_iff_ne.mpr c43
                      obtain rfl := Option.some.inj H
                      have hcz55_0 : wc.cell? ⟨gb255, 0, none⟩ = some (u256000) := (blk_cell BK255.out 0).trans rfl
                      have hcz55_1 : wc.cell? ⟨gb255, 1, none⟩ = some (u256001) := (blk_cell BK255.out 1).trans rfl
                      have hfz55_0 := blk_frozen BK255.out 0
                      have hfz55_1 := blk_frozen BK255.out 1
                      obtain ⟨Ao56, co56, eo56⟩ := Kd.V_slice HO_256000.out
                      subst eo56
                      obtain ⟨Ao57, co57, eo57⟩ := Kd.V_slice HO_256001.out
                      subst eo57
                      go_wp2_with (first | ((with_reducible refine gate_callee (f := 23) rfl ?_); refine goesL_ (some 74) rfl rfl Try.func23 (by kernel_rfl) rfl #[.agg #[.slice Ao56 x256000_2.length co56, .slice Ao57 x256001_2.length co57], .slice A3 l3.length c3] rfl (by (try simp only [List.map_toArray, List.map_cons, List.map_nil]); first | done | rfl | (simp only [List.length_drop, List.length_take]; rfl)) ?_; (with_reducible refine (block_Crash.calls _ _ x256000_2 _ _ x256001_2 _ _ l3 t279 t282 _ ?side1 ?side2 ?side3 ?side4 ?side5 ?side6 A40.out).mono ?_); (case side1 => repeat (first | exact (Kd.V_reads' HO_256000.out).2.2 | (with_reducible refine Kd.C_alloc ?_ _) | (with_reducible refine Kd.C_drewN ?_ _) | (with_reducible refine Kd.C_drew ?_))); (case side2 => exact (Kd.V_reads' HO_256000.out).2.1); (case side3 => repeat (first | exact (Kd.V_reads' HO_256001.out).2.2 | (with_reducible refine Kd.C_alloc ?_ _) | (with_reducible refine Kd.C_drewN ?_ _) | (with_reducible refine Kd.C_drew ?_))); (case side4 => exact (Kd.V_reads' HO_256001.out).2.1); (case side5 => repeat (first | exact (Kd.C_below HR3.out HB.out) | (with_reducible refine Kd.C_alloc ?_ _) | (with_reducible refine Kd.C_drewN ?_ _) | (with_reducible refine Kd.C_drew ?_))); (case side6 => exact HC3.out); rintro e w58 ⟨v280, v283, rfl, ho0, ho1, hb⟩; refine ⟨_, rfl, ?_⟩; have n0_ := Aside0.mk (Kd.R_below (by (with_reducible repeat (first | apply Kd.R_alloc | apply Kd.R_drewN | apply Kd.R_drew)); exact HO_9.out) hb); have n1_ := Aside0.mk (Kd.V_below (by (with_reducible repeat (first | apply Kd.V_alloc | apply Kd.V_drewN | apply Kd.V_drew)); exact HO_256000.out) hb); have n2_ := Aside0.mk (Kd.V_below (by (with_reducible repeat (first | apply Kd.V_alloc | apply Kd.V_drewN | apply Kd.V_drew)); exact HO_256001.out) hb); have n3_ := Aside0.mk (Kd.V_lower (Kd.V_mono (ok' := fun k_ => some k_ ≠ (v265 : Value).ownBlock ∧ k_ ≠ gb255) ho0 (fun k_ hk_ => ⟨(Kd.fresh' (Kd.R_lt (by (with_reducible repeat (first | apply Kd.R_alloc | apply Kd.R_drewN | apply Kd.R_drew)); exact HO_9.out)) k_ hk_), (Kd.freshB (g := gb255) (o := .cells #[.slice Ao56 x256000_2.length co56, .slice Ao57 x256001_2.length co57] 25 (0, 0)) (by (with_reducible repeat (first | refine blk_drewN ?_ _ | refine blk_drew ?_ | refine blk_alloc ?_ _)); exact BK255.out) k_ hk_)⟩)) (below_size (by repeat (first | (with_reducible first | exact HB.out | apply below_alloc | apply pw_below_drewN | apply below_drew1 | refine below_set ?_ GE255.out) | exact HB.out)))); have n4_ := Aside0.mk (Kd.V_lower (Kd.V_mono (ok' := fun k_ => some k_ ≠ (v265 : Value).ownBlock ∧ k_ ≠ gb255) ho1 (fun k_ hk_ => ⟨(Kd.fresh' (Kd.R_lt (by (with_reducible repeat (first | apply Kd.R_alloc | apply Kd.R_drewN | apply Kd.R_drew)); exact HO_9.out)) k_ hk_), (Kd.freshB (g := gb255) (o := .cells #[.slice Ao56 x256000_2.length co56, .slice Ao57 x256001_2.length co57] 25 (0, 0)) (by (with_reducible repeat (first | refine blk_drewN ?_ _ | refine blk_drew ?_ | refine blk_alloc ?_ _)); exact BK255.out) k_ hk_)⟩)) (below_size (by repeat (first | (with_reducible first | exact HB.out | apply below_alloc | apply pw_below_drewN | apply below_drew1 | refine below_set ?_ GE255.out) | exact HB.out)))); have n5_ := Aside0.mk (blk_below (g := gb255) (o := .cells #[.slice Ao56 x256000_2.length co56, .slice Ao57 x256001_2.length co57] 25 (0, 0)) (by (with_reducible repeat (first | refine blk_drewN ?_ _ | refine blk_drew ?_ | refine blk_alloc ?_ _)); exact BK255.out) hb); have n6_ := Aside0.mk (below_step (by repeat (first | (with_reducible first | exact HB.out | apply below_alloc | apply pw_below_drewN | apply below_drew1 | refine below_set ?_ GE255.out) | exact HB.out)) hb); clear HO_9; clear HO_256000; clear HO_256001; clear BK255; clear HB; have HO_9 := n0_; have HO_256000 := n1_; have HO_256001 := n2_; have HO281 := n3_; have HO284 := n4_; have BK255 := n5_; have HB := n6_; clear n0_ n1_ n2_ n3_ n4_ n5_ n6_; (try clear hb); (try clear hb2); (try clear hk); (try clear hi); (try clear ho0); (try clear ho1); obtain ⟨Ao59, co59, eo59⟩ := Kd.V_slice HO281.out; subst eo59; obtain ⟨Ao60, co60, eo60⟩ := Kd.V_slice HO284.out; subst eo60) | ((with_reducible refine gate_callee (f := 11) rfl ?_); refine goesL_ (some 76) rfl rfl Try.func11 (by kernel_rfl) rfl #[.agg #[.slice Ao59 t279.length co59, .slice Ao60 t282.length co60], .int .i64 a2] rfl (by (try simp only [List.map_toArray, List.map_cons, List.map_nil]); first | done | rfl | (simp only [List.length_drop, List.length_take]; rfl)) ?_; (with_reducible refine (block_Read.calls kj23 _ _ t279 _ _ t282 a2 t285 t288 _ ?side1 ?side2 ?side3 ?side4 A41.out).mono ?_); (case side1 => repeat (first | exact (Kd.V_reads' HO281.out).2.2 | (with_reducible refine Kd.C_alloc ?_ _) | (with_reducible refine Kd.C_drewN ?_ _) | (with_reducible refine Kd.C_drew ?_))); (case side2 => exact (Kd.V_reads' HO281.out).2.1); (case side3 => repeat (first | exact (Kd.V_reads' HO284.out).2.2 | (with_reducible refine Kd.C_alloc ?_ _) | (with_reducible refine Kd.C_drewN ?_ _) | (with_reducible refine Kd.C_drew ?_))); (case side4 => exact (Kd.V_reads' HO284.out).2.1); rintro e w61 ⟨v286, rfl, ho0, hb⟩; refine ⟨_, rfl, ?_⟩; have n0_ := Aside0.mk (Kd.R_elder' (by (with_reducible repeat (first | apply Kd.R_alloc | apply Kd.R_drewN | apply Kd.R_drew)); exact HO_9.out) (Kd.R_base ho0) hb); have n1_ := Aside0.mk (Kd.V_elder' (by (with_reducible repeat (first | apply Kd.V_alloc | apply Kd.V_drewN | apply Kd.V_drew)); exact HO_256000.out) (Kd.R_base ho0) hb); have n2_ := Aside0.mk (Kd.V_elder' (by (with_reducible repeat (first | apply Kd.V_alloc | apply Kd.V_drewN | apply Kd.V_drew)); exact HO_256001.out) (Kd.R_base ho0) hb); have n3_ := Aside0.mk (Kd.V_elder' (by (with_reducible repeat (first | apply Kd.V_alloc | apply Kd.V_drewN | apply Kd.V_drew)); exact HO281.out) (Kd.R_base ho0) hb); have n4_ := Aside0.mk (Kd.V_elder' (by (with_reducible repeat (first | apply Kd.V_alloc | apply Kd.V_drewN | apply Kd.V_drew)); exact HO284.out) (Kd.R_base ho0) hb); have n5_ := Aside0.mk (Kd.R_lower (Kd.R_new' ho0 (Kd.R_lt (by (with_reducible repeat (first | apply Kd.R_alloc | apply Kd.R_drewN | apply Kd.R_drew)); exact HO_9.out))) (below_size (by repeat (first | (with_reducible first | exact HB.out | apply below_alloc | apply pw_below_drewN | apply below_drew1 | refine below_set ?_ GE255.out) | exact HB.out)))); have n6_ := Aside0.mk (blk_below (g := gb255) (o := .cells #[.slice Ao56 x256000_2.length co56, .slice Ao57 x256001_2.length co57] 25 (0, 0)) (by (with_reducible repeat (first | refine blk_drewN ?_ _ | refine blk_drew ?_ | refine blk_alloc ?_ _)); exact BK255.out) hb); have n7_ := Aside0.mk (below_step (by repeat (first | (with_reducible first | exact HB.out | apply below_alloc | apply pw_below_drewN | apply below_drew1 | refine below_set ?_ GE255.out) | exact HB.out)) hb); clear HO_9; clear HO_256000; clear HO_256001; clear HO281; clear HO284; clear BK255; clear HB; have HO_9 := n0_; have HO_256000 := n1_; have HO_256001 := n2_; have HO281 := n3_; have HO284 := n4_; have HO287 := n5_; have BK255 := n6_; have HB := n7_; clear n0_ n1_ n2_ n3_ n4_ n5_ n6_ n7_; (try clear hb); (try clear hb2); (try clear hk); (try clear hi); (try clear ho0); have hcv62 := own_string (P := Try.prog) Try.underlying28 Try.underlying5 Try.underlying9 (Kd.own_of_R HO_9.out); have hcv63 := own_string (P := Try.prog) Try.underlying28 Try.underlying5 Try.underlying9 (Kd.own_of_R HO287.out)))
                      go_ret
                      exact ⟨by first | rfl | (simp [errW_none, errW_some] <;> rfl) | (simp [*, errW_none, errW_some] <;> rfl), by repeat (first | (with_reducible first | exact HB.out | apply below_alloc | apply pw_below_drewN | apply below_drew1 | refine below_set ?_ GE255.out) | exact HB.out)⟩
                  · rw [if_neg c42] at H
                    have c42b0 : (t267 == t288) = false := beq_eq_false_iff_ne.mpr c42
                    have c42b1 : (t267 != t288) = true := bne_iff_ne.mpr c42
                    obtain rfl := Option.some.inj H
                    have hcz64_0 : wc.cell? ⟨gb255, 0, none⟩ = some (u256000) := (blk_cell BK255.out 0).trans rfl
                    have hcz64_1 : wc.cell? ⟨gb255, 1, none⟩ = some (u256001) := (blk_cell BK255.out 1).trans rfl
                    have hfz64_0 := blk_frozen BK255.out 0
                    have hfz64_1 := blk_frozen BK255.out 1
                    obtain ⟨Ao65, co65, eo65⟩ := Kd.V_slice HO_256000.out
                    subst eo65
                    obtain ⟨Ao66, co66, eo66⟩ := Kd.V_slice HO_256001.out
                    subst eo66
                    go_wp2_with (first | ((with_reducible refine gate_callee (f := 23) rfl ?_); refine goesL_ (some 74) rfl rfl Try.func23 (by kernel_rfl) rfl #[.agg #[.slice Ao65 x256000_2.length co65, .slice Ao66 x256001_2.length co66], .slice A3 l3.length c3] rfl (by (try simp only [List.map_toArray, List.map_cons, List.map_nil]); first | done | rfl | (simp only [List.length_drop, List.length_take]; rfl)) ?_; (with_reducible refine (block_Crash.calls _ _ x256000_2 _ _ x256001_2 _ _ l3 t279 t282 _ ?side1 ?side2 ?side3 ?side4 ?side5 ?side6 A40.out).mono ?_); (case side1 => repeat (first | exact (Kd.V_reads' HO_256000.out).2.2 | (with_reducible refine Kd.C_alloc ?_ _) | (with_reducible refine Kd.C_drewN ?_ _) | (with_reducible refine Kd.C_drew ?_))); (case side2 => exact (Kd.V_reads' HO_256000.out).2.1); (case side3 => repeat (first | exact (Kd.V_reads' HO_256001.out).2.2 | (with_reducible refine Kd.C_alloc ?_ _) | (with_reducible refine Kd.C_drewN ?_ _) | (with_reducible refine Kd.C_drew ?_))); (case side4 => exact (Kd.V_reads' HO_256001.out).2.1); (case side5 => repeat (first | exact (Kd.C_below HR3.out HB.out) | (with_reducible refine Kd.C_alloc ?_ _) | (with_reducible refine Kd.C_drewN ?_ _) | (with_reducible refine Kd.C_drew ?_))); (case side6 => exact HC3.out); rintro e w67 ⟨v280, v283, rfl, ho0, ho1, hb⟩; refine ⟨_, rfl, ?_⟩; have n0_ := Aside0.mk (Kd.R_below (by (with_reducible repeat (first | apply Kd.R_alloc | apply Kd.R_drewN | apply Kd.R_drew)); exact HO_9.out) hb); have n1_ := Aside0.mk (Kd.V_below (by (with_reducible repeat (first | apply Kd.V_alloc | apply Kd.V_drewN | apply Kd.V_drew)); exact HO_256000.out) hb); have n2_ := Aside0.mk (Kd.V_below (by (with_reducible repeat (first | apply Kd.V_alloc | apply Kd.V_drewN | apply Kd.V_drew)); exact HO_256001.out) hb); have n3_ := Aside0.mk (Kd.V_lower (Kd.V_mono (ok' := fun k_ => some k_ ≠ (v265 : Value).ownBlock ∧ k_ ≠ gb255) ho0 (fun k_ hk_ => ⟨(Kd.fresh' (Kd.R_lt (by (with_reducible repeat (first | apply Kd.R_alloc | apply Kd.R_drewN | apply Kd.R_drew)); exact HO_9.out)) k_ hk_), (Kd.freshB (g := gb255) (o := .cells #[.slice Ao65 x256000_2.length co65, .slice Ao66 x256001_2.length co66] 25 (0, 0)) (by (with_reducible repeat (first | refine blk_drewN ?_ _ | refine blk_drew ?_ | refine blk_alloc ?_ _)); exact BK255.out) k_ hk_)⟩)) (below_size (by repeat (first | (with_reducible first | exact HB.out | apply below_alloc | apply pw_below_drewN | apply below_drew1 | refine below_set ?_ GE255.out) | exact HB.out)))); have n4_ := Aside0.mk (Kd.V_lower (Kd.V_mono (ok' := fun k_ => some k_ ≠ (v265 : Value).ownBlock ∧ k_ ≠ gb255) ho1 (fun k_ hk_ => ⟨(Kd.fresh' (Kd.R_lt (by (with_reducible repeat (first | apply Kd.R_alloc | apply Kd.R_drewN | apply Kd.R_drew)); exact HO_9.out)) k_ hk_), (Kd.freshB (g := gb255) (o := .cells #[.slice Ao65 x256000_2.length co65, .slice Ao66 x256001_2.length co66] 25 (0, 0)) (by (with_reducible repeat (first | refine blk_drewN ?_ _ | refine blk_drew ?_ | refine blk_alloc ?_ _)); exact BK255.out) k_ hk_)⟩)) (below_size (by repeat (first | (with_reducible first | exact HB.out | apply below_alloc | apply pw_below_drewN | apply below_drew1 | refine below_set ?_ GE255.out) | exact HB.out)))); have n5_ := Aside0.mk (blk_below (g := gb255) (o := .cells #[.slice Ao65 x256000_2.length co65, .slice Ao66 x256001_2.length co66] 25 (0, 0)) (by (with_reducible repeat (first | refine blk_drewN ?_ _ | refine blk_drew ?_ | refine blk_alloc ?_ _)); exact BK255.out) hb); have n6_ := Aside0.mk (below_step (by repeat (first | (with_reducible first | exact HB.out | apply below_alloc | apply pw_below_drewN | apply below_drew1 | refine below_set ?_ GE255.out) | exact HB.out)) hb); clear HO_9; clear HO_256000; clear HO_256001; clear BK255; clear HB; have HO_9 := n0_; have HO_256000 := n1_; have HO_256001 := n2_; have HO281 := n3_; have HO284 := n4_; have BK255 := n5_; have HB := n6_; clear n0_ n1_ n2_ n3_ n4_ n5_ n6_; (try clear hb); (try clear hb2); (try clear hk); (try clear hi); (try clear ho0); (try clear ho1); obtain ⟨Ao68, co68, eo68⟩ := Kd.V_slice HO281.out; subst eo68; obtain ⟨Ao69, co69, eo69⟩ := Kd.V_slice HO284.out; subst eo69) | ((with_reducible refine gate_callee (f := 11) rfl ?_); refine goesL_ (some 76) rfl rfl Try.func11 (by kernel_rfl) rfl #[.agg #[.slice Ao68 t279.length co68, .slice Ao69 t282.length co69], .int .i64 a2] rfl (by (try simp only [List.map_toArray, List.map_cons, List.map_nil]); first | done | rfl | (simp only [List.length_drop, List.length_take]; rfl)) ?_; (with_reducible refine (block_Read.calls kj23 _ _ t279 _ _ t282 a2 t285 t288 _ ?side1 ?side2 ?side3 ?side4 A41.out).mono ?_); (case side1 => repeat (first | exact (Kd.V_reads' HO281.out).2.2 | (with_reducible refine Kd.C_alloc ?_ _) | (with_reducible refine Kd.C_drewN ?_ _) | (with_reducible refine Kd.C_drew ?_))); (case side2 => exact (Kd.V_reads' HO281.out).2.1); (case side3 => repeat (first | exact (Kd.V_reads' HO284.out).2.2 | (with_reducible refine Kd.C_alloc ?_ _) | (with_reducible refine Kd.C_drewN ?_ _) | (with_reducible refine Kd.C_drew ?_))); (case side4 => exact (Kd.V_reads' HO284.out).2.1); rintro e w70 ⟨v286, rfl, ho0, hb⟩; refine ⟨_, rfl, ?_⟩; have n0_ := Aside0.mk (Kd.R_elder' (by (with_reducible repeat (first | apply Kd.R_alloc | apply Kd.R_drewN | apply Kd.R_drew)); exact HO_9.out) (Kd.R_base ho0) hb); have n1_ := Aside0.mk (Kd.V_elder' (by (with_reducible repeat (first | apply Kd.V_alloc | apply Kd.V_drewN | apply Kd.V_drew)); exact HO_256000.out) (Kd.R_base ho0) hb); have n2_ := Aside0.mk (Kd.V_elder' (by (with_reducible repeat (first | apply Kd.V_alloc | apply Kd.V_drewN | apply Kd.V_drew)); exact HO_256001.out) (Kd.R_base ho0) hb); have n3_ := Aside0.mk (Kd.V_elder' (by (with_reducible repeat (first | apply Kd.V_alloc | apply Kd.V_drewN | apply Kd.V_drew)); exact HO281.out) (Kd.R_base ho0) hb); have n4_ := Aside0.mk (Kd.V_elder' (by (with_reducible repeat (first | apply Kd.V_alloc | apply Kd.V_drewN | apply Kd.V_drew)); exact HO284.out) (Kd.R_base ho0) hb); have n5_ := Aside0.mk (Kd.R_lower (Kd.R_new' ho0 (Kd.R_lt (by (with_reducible repeat (first | apply Kd.R_alloc | apply Kd.R_drewN | apply Kd.R_drew)); exact HO_9.out))) (below_size (by repeat (first | (with_reducible first | exact HB.out | apply below_alloc | apply pw_below_drewN | apply below_drew1 | refine below_set ?_ GE255.out) | exact HB.out)))); have n6_ := Aside0.mk (blk_below (g := gb255) (o := .cells #[.slice Ao65 x256000_2.length co65, .slice Ao66 x256001_2.length co66] 25 (0, 0)) (by (with_reducible repeat (first | refine blk_drewN ?_ _ | refine blk_drew ?_ | refine blk_alloc ?_ _)); exact BK255.out) hb); have n7_ := Aside0.mk (below_step (by repeat (first | (with_reducible first | exact HB.out | apply below_alloc | apply pw_below_drewN | apply below_drew1 | refine below_set ?_ GE255.out) | exact HB.out)) hb); clear HO_9; clear HO_256000; clear HO_256001; clear HO281; clear HO284; clear BK255; clear HB; have HO_9 := n0_; have HO_256000 := n1_; have HO_256001 := n2_; have HO281 := n3_; have HO284 := n4_; have HO287 := n5_; have BK255 := n6_; have HB := n7_; clear n0_ n1_ n2_ n3_ n4_ n5_ n6_ n7_; (try clear hb); (try clear hb2); (try clear hk); (try clear hi); (try clear ho0)))
                    go_ret
                    exact ⟨by first | rfl | (simp [errW_none, errW_some] <;> rfl) | (simp [*, errW_none, errW_some] <;> rfl), by repeat (first | (with_reducible first | exact HB.out | apply below_alloc | apply pw_below_drewN | apply below_drew1 | refine below_set ?_ GE255.out) | exact HB.out)⟩

end Go.Proofs.Ytiplneodkcjkmaa.P
