-- Printed by this session's patched printer.
import Derived.Test.YtiplneodkcjkmaaPx0
import Derived.Test.YtiplneodkcjkmaaHOwn
namespace Go.Proofs.Ytiplneodkcjkmaa.P
open Go.RowKit Go.Proofs.YtiplneodkcjkmaaW.PrintWords Go.Proofs.YtiplneodkcjkmaaW.PrintLast Go.Proofs.YtiplneodkcjkmaaW.PrintMore
attribute [local go_sem] Go.Instr.field Go.part Go.asAgg max2_int min2_int max_two min_two max_three min_three max_four min_four   -- for this text's walks alone
set_option linter.unusedVariables false
set_option linter.unusedSimpArgs false

/-! ### block_Write: function 22 -/
def block_Write.j0 : Nat → Int → List Int → Bool → List (List Int) → List (S57) → Option ((List (List Int)) × (List (S57)) × Int)
  | 0, _, _, _, _, _ => none
  | k + 1, x1, x2, x23, x141000, x141001 => if x23 = true then (some (x141000, x141001, 1)) else (if (x141001.length : Int) = 1000 then (some (x141000, x141001, 3)) else ((some (([] : List Int) : List Int)).bind fun y148 => (if y148.length + x2.length < 140737488355328 then (if x141001.length < 4398046511104 then (some (x141000, (x141001 ++ [(⟨x1, (y148 ++ x2)⟩ : S57)]), 0)) else (none)) else (none))))
def block_Write.f (k : Nat) (l0_0 : List (List Int)) (l0_1 : List (S57)) (a1 : Int) (l2 : List Int) : Option ((List (List Int)) × (List (S57)) × Int) := (block_own.f l0_0 l0_1).bind fun bt142 => (if a1 < 0 then (block_Write.j0 k a1 l2 true bt142.1 bt142.2) else (if a1 ≥ (bt142.1.length : Int) then (block_Write.j0 k a1 l2 true bt142.1 bt142.2) else (block_Write.j0 k a1 l2 ((l2.length : Int) != 64) bt142.1 bt142.2)))
theorem block_Write.mono_l : ∀ k, (∀ y0 y1 y2 y3 y4, LeO (block_Write.j0 k y0 y1 y2 y3 y4) (block_Write.j0 (k + 1) y0 y1 y2 y3 y4))
  | 0 => fun _ _ _ _ _ r h => by simp [block_Write.j0] at h
  | k + 1 => by
    have ih0 := block_Write.mono_l k
    · intro y0 y1 y2 y3 y4
      unfold block_Write.j0
      repeat' first
      | (with_reducible exact ih0 _ _ _ _ _)
      | (with_reducible exact LeO.refl _)
      | (with_reducible exact LeO.none _)
      | (with_reducible refine LeO.ite ?_ ?_)
      | (with_reducible refine LeO.bind ?_ (fun _ => ?_))
      | exact ih0 _ _ _ _ _
      | exact LeO.none _
      | refine LeO.ite ?_ ?_
      | refine LeO.bind ?_ (fun _ => ?_)
theorem block_Write.mono : ∀ a0 a1 a2 a3 k, LeO (block_Write.f k a0 a1 a2 a3) (block_Write.f (k + 1) a0 a1 a2 a3) := by
  intro a0 a1 a2 a3 k
  have ih0 := block_Write.mono_l k
  unfold block_Write.f
  repeat' first
      | (with_reducible exact ih0 _ _ _ _ _)
      | (with_reducible exact LeO.refl _)
      | (with_reducible exact LeO.none _)
      | (with_reducible refine LeO.ite ?_ ?_)
      | (with_reducible refine LeO.bind ?_ (fun _ => ?_))
      | exact ih0 _ _ _ _ _
      | exact LeO.none _
      | refine LeO.ite ?_ ?_
      | refine LeO.bind ?_ (fun _ => ?_)
def block_Write.T6 : Bool × List (List Nat × List Nat) := (true, [([], []), ([0], [0]), ([], []), ([], []), ([], []), ([3, 4], [3, 4]), ([2, 5], [2, 5]), ([6], [6]), ([1, 7, 5], [1, 7]), ([0, 1, 2, 3, 4, 5, 6, 7, 8], []), ([9, 8, 8, 0, 1, 2, 3, 4, 5, 6, 7, 8], [8, 9])])
def block_Write.B6 : List Nat := [0, 1, 0, 0, 0, 24, 60, 124, 255, 511, 1023]
theorem block_Write.tab6 : rtab .any (opsOf Try.f22 6) = block_Write.T6 := by kernel_rfl
theorem block_Write.bits6 : waitsOk block_Write.T6.2 block_Write.B6 = true := by kernel_rfl
set_option maxHeartbeats 8000000 in
set_option maxRecDepth 100000 in
theorem block_Write.calls (k : Nat) (A0_0 : Option Addr) (c0_0 : Nat) (l0_0 : List (List Int)) (A0_1 : Option Addr) (c0_1 : Nat) (l0_1 : List (S57)) (a1 : Int) (A2 : Option Addr) (c2 : Nat) (l2 : List Int) (r1 : List (List Int)) (r2 : List (S57)) (r3 : Int) (w : World) (hr0_0 : Kd.C (Kd.slice 5 (Kd.int .u8)) w A0_0 l0_0.length l0_0) (hc0_0 : l0_0.length ≤ c0_0) (hr0_1 : Kd.C k57 w A0_1 l0_1.length l0_1) (hc0_1 : l0_1.length ≤ c0_1) (hr2 : Kd.C (Kd.int .u8) w A2 l2.length l2) (hc2 : l2.length ≤ c2) (h : block_Write.f k l0_0 l0_1 a1 l2 = some (r1, r2, r3)) :
    Calls Try.prog 22 #[.agg #[.slice A0_0 l0_0.length c0_0, .slice A0_1 l0_1.length c0_1], .int .i64 a1, .slice A2 l2.length c2] w fun e w' => ∃ v0_ v1_ : Value, e = .returned (.tuple #[.agg #[v0_, v1_], .int .i64 r3]) ∧ Kd.V (Kd.slice 5 (Kd.int .u8)) 28 w' w.heap.size (fun k_ => (w.heap.size ≤ k_) ∧ some k_ ≠ (v1_ : Value).ownBlock) v0_ r1 ∧ Kd.S k57 57 w' w.heap.size (fun k_ => (w.heap.size ≤ k_)) v1_ r2 ∧ Below w.heap.size w w' := by
  have hu25 := Try.underlying25
  have hu57 := Try.underlying57
  have HR0_0 := Aside0.mk hr0_0
  have HC0_0 := Aside0.mk hc0_0
  clear hr0_0 hc0_0
  have HR0_1 := Aside0.mk hr0_1
  have HC0_1 := Aside0.mk hc0_1
  clear hr0_1 hc0_1
  have HR2 := Aside0.mk hr2
  have HC2 := Aside0.mk hc2
  clear hr2 hc2
  have HB := Aside0.mk (Below.refl w.heap.size w)
  have H : ((block_own.f l0_0 l0_1).bind fun bt142 => (if a1 < 0 then (block_Write.j0 k a1 l2 true bt142.1 bt142.2) else (if a1 ≥ (bt142.1.length : Int) then (block_Write.j0 k a1 l2 true bt142.1 bt142.2) else (block_Write.j0 k a1 l2 ((l2.length : Int) != 64) bt142.1 bt142.2)))) = some (r1, r2, r3) := h
  clear h
  replace H := Option.bind_eq_some_iff.mp H
  obtain ⟨⟨t142, t145⟩, A40, H⟩ := H
  replace H : (if a1 < 0 then (block_Write.j0 k a1 l2 true t142 t145) else (if a1 ≥ (t142.length : Int) then (block_Write.j0 k a1 l2 true t142 t145) else (block_Write.j0 k a1 l2 ((l2.length : Int) != 64) t142 t145))) = some (r1, r2, r3) := H
  have A4 := Aside0.mk A40
  clear A40
  have HC5 := Aside0.mk H
  clear H
  go_enter Try.func22, Try.ntmps22
  go_upto_region 2 with (first | ((with_reducible refine gate_dst (N := 3) rfl ?_); (try (refine gate_guard (by rfl) ?_; dsimp only)); refine box_event ?hg (N := 3) ?hd (cs := #[.slice A0_0 l0_0.length c0_0, .slice A0_1 l0_1.length c0_1]) (t := 25) ?hr ?_; (case hd => rfl); (case hg => rfl); (case hr => first | (go_simp; done) | (go_simp; rfl)); intro gb140 hg w6 hbox hb; have n0_ := Aside0.mk (below_step (by repeat (first | (with_reducible first | exact HB.out | apply below_alloc | apply pw_below_drewN | apply below_drew1) | exact HB.out)) hb); have n1_ := Aside0.mk (hbox); have n2_ := Aside0.mk ((by rw [hg]; exact (below_size (by repeat (first | (with_reducible first | exact HB.out | apply below_alloc | apply pw_below_drewN | apply below_drew1) | exact HB.out))) : w.heap.size ≤ gb140)); have n3_ := Aside0.mk ((by rw [hg]; exact (below_size (by repeat (first | (with_reducible first | exact HB.out | apply below_alloc | apply pw_below_drewN | apply below_drew1) | exact HB.out))) : w.heap.size ≤ gb140)); clear HB; have HB := n0_; have BK140 := n1_; have GW140 := n2_; have GE140 := n3_; clear n0_ n1_ n2_ n3_; clear hb hbox hg) | ((with_reducible refine gate_dst (N := 6) rfl ?_); (try (refine gate_guard (by rfl) ?_; dsimp only)); refine box_event ?hg (N := 6) ?hd (cs := #[.slice none 0 0, .slice none 0 0]) (t := 25) ?hr ?_; (case hd => rfl); (case hg => rfl); (case hr => first | (go_simp; done) | (go_simp; rfl)); intro gb141 hg w7 hbox hb; have n0_ := Aside0.mk (blk_below (g := gb140) (o := .cells #[.slice A0_0 l0_0.length c0_0, .slice A0_1 l0_1.length c0_1] 25 (0, 0)) (by (with_reducible repeat (first | refine blk_drewN ?_ _ | refine blk_drew ?_ | refine blk_alloc ?_ _)); exact BK140.out) hb); have n1_ := Aside0.mk (below_step (by repeat (first | (with_reducible first | exact HB.out | apply below_alloc | apply pw_below_drewN | apply below_drew1 | refine below_set ?_ GE140.out) | exact HB.out)) hb); have n2_ := Aside0.mk (hbox); have n3_ := Aside0.mk ((by rw [hg]; exact (below_size (by repeat (first | (with_reducible first | exact HB.out | apply below_alloc | apply pw_below_drewN | apply below_drew1 | refine below_set ?_ GE140.out) | exact HB.out))) : w.heap.size ≤ gb141)); have n4_ := Aside0.mk ((by rw [hg]; exact (below_size (by repeat (first | (with_reducible first | exact HB.out | apply below_alloc | apply pw_below_drewN | apply below_drew1 | refine below_set ?_ GE140.out) | exact HB.out))) : w.heap.size ≤ gb141)); have n5_ := Aside0.mk ((by rw [hg]; exact Nat.ne_of_lt (blk_lt (g := gb140) (o := .cells #[.slice A0_0 l0_0.length c0_0, .slice A0_1 l0_1.length c0_1] 25 (0, 0)) (by (with_reducible repeat (first | refine blk_drewN ?_ _ | refine blk_drew ?_ | refine blk_alloc ?_ _)); exact BK140.out)) : gb140 ≠ gb141)); have n6_ := Aside0.mk ((by rw [hg]; exact Nat.ne_of_gt (blk_lt (g := gb140) (o := .cells #[.slice A0_0 l0_0.length c0_0, .slice A0_1 l0_1.length c0_1] 25 (0, 0)) (by (with_reducible repeat (first | refine blk_drewN ?_ _ | refine blk_drew ?_ | refine blk_alloc ?_ _)); exact BK140.out)) : gb141 ≠ gb140)); clear BK140; clear HB; have BK140 := n0_; have HB := n1_; have BK141 := n2_; have GW141 := n3_; have GE141 := n4_; have NB140_141 := n5_; have NB141_140 := n6_; clear n0_ n1_ n2_ n3_ n4_ n5_ n6_; clear hb hbox hg; have hnb8 := NB140_141.out; have hnc8 := NB141_140.out; have hcz9_0 : w7.cell? ⟨gb140, 0, none⟩ = some (.slice A0_0 l0_0.length c0_0) := (blk_cell BK140.out 0).trans rfl; have hcz9_1 : w7.cell? ⟨gb140, 1, none⟩ = some (.slice A0_1 l0_1.length c0_1) := (blk_cell BK140.out 1).trans rfl; have hfz9_0 := blk_frozen BK140.out 0; have hfz9_1 := blk_frozen BK140.out 1) | ((with_reducible refine gate_callee (f := 25) rfl ?_); refine goesL_ (some 9) rfl rfl Try.func25 (by kernel_rfl) rfl #[.agg #[.slice A0_0 l0_0.length c0_0, .slice A0_1 l0_1.length c0_1]] rfl (by (try simp only [List.map_toArray, List.map_cons, List.map_nil]); first | done | rfl | (simp only [List.length_drop, List.length_take]; rfl)) ?_; (with_reducible refine (block_own.calls _ _ l0_0 _ _ l0_1 t142 t145 _ ?side1 ?side2 ?side3 ?side4 A4.out).mono ?_); (case side1 => repeat (first | exact (Kd.C_below HR0_0.out HB.out) | (with_reducible refine Kd.C_alloc ?_ _) | (with_reducible refine Kd.C_drewN ?_ _) | (with_reducible refine Kd.C_drew ?_))); (case side2 => exact HC0_0.out); (case side3 => repeat (first | exact (Kd.C_below HR0_1.out HB.out) | (with_reducible refine Kd.C_alloc ?_ _) | (with_reducible refine Kd.C_drewN ?_ _) | (with_reducible refine Kd.C_drew ?_))); (case side4 => exact HC0_1.out); rintro e w10 ⟨v143, v146, rfl, ho0, ho1, hb⟩; refine ⟨_, rfl, ?_⟩; have n0_ := Aside0.mk (Kd.V_lower (Kd.V_mono (ok' := fun k_ => (w.heap.size ≤ k_) ∧ some k_ ≠ (v146 : Value).ownBlock ∧ k_ ≠ gb140 ∧ k_ ≠ gb141) ho0 (fun k_ hk_ => ⟨(Nat.le_trans (below_size (by repeat (first | (with_reducible first | exact HB.out | apply below_alloc | apply pw_below_drewN | apply below_drew1 | refine below_set ?_ GE140.out | refine below_set ?_ GE141.out) | exact HB.out))) hk_.1), hk_.2, (Kd.freshB (g := gb140) (o := .cells #[.slice A0_0 l0_0.length c0_0, .slice A0_1 l0_1.length c0_1] 25 (0, 0)) (by (with_reducible repeat (first | refine blk_drewN ?_ _ | refine blk_drew ?_ | refine blk_alloc ?_ _)); exact BK140.out) k_ hk_.1), (Kd.freshB (g := gb141) (o := .cells #[.slice none 0 0, .slice none 0 0] 25 (0, 0)) (by (with_reducible repeat (first | refine blk_drewN ?_ _ | refine blk_drew ?_ | refine blk_alloc ?_ _)); exact BK141.out) k_ hk_.1)⟩)) (below_size (by repeat (first | (with_reducible first | exact HB.out | apply below_alloc | apply pw_below_drewN | apply below_drew1 | refine below_set ?_ GE140.out | refine below_set ?_ GE141.out) | exact HB.out)))); have n1_ := Aside0.mk (Kd.S_lower (Kd.S_newM (M := fun k_ => (w.heap.size ≤ k_)) (Kd.S_mono (ok' := fun k_ => True) ho1 (fun _ hk_ => trivial)) (below_size (by repeat (first | (with_reducible first | exact HB.out | apply below_alloc | apply pw_below_drewN | apply below_drew1 | refine below_set ?_ GE140.out | refine below_set ?_ GE141.out) | exact HB.out))) (fun k_ h_ => h_)) (below_size (by repeat (first | (with_reducible first | exact HB.out | apply below_alloc | apply pw_below_drewN | apply below_drew1 | refine below_set ?_ GE140.out | refine below_set ?_ GE141.out) | exact HB.out)))); have n2_ := Aside0.mk (blk_below (g := gb140) (o := .cells #[.slice A0_0 l0_0.length c0_0, .slice A0_1 l0_1.length c0_1] 25 (0, 0)) (by (with_reducible repeat (first | refine blk_drewN ?_ _ | refine blk_drew ?_ | refine blk_alloc ?_ _)); exact BK140.out) hb); have n3_ := Aside0.mk (blk_below (g := gb141) (o := .cells #[.slice none 0 0, .slice none 0 0] 25 (0, 0)) (by (with_reducible repeat (first | refine blk_drewN ?_ _ | refine blk_drew ?_ | refine blk_alloc ?_ _)); exact BK141.out) hb); have n4_ := Aside0.mk (below_step (by repeat (first | (with_reducible first | exact HB.out | apply below_alloc | apply pw_below_drewN | apply below_drew1 | refine below_set ?_ GE140.out | refine below_set ?_ GE141.out) | exact HB.out)) hb); clear BK140; clear BK141; clear HB; have HO144 := n0_; have HO147 := n1_; have BK140 := n2_; have BK141 := n3_; have HB := n4_; clear n0_ n1_ n2_ n3_ n4_; (try clear hb); (try clear hb2); (try clear hk); (try clear hi); (try clear ho0); (try clear ho1); obtain ⟨Ao11, co11, eo11⟩ := Kd.V_slice HO144.out; subst eo11; have hcz12_0 : w10.cell? ⟨gb140, 0, none⟩ = some (.slice A0_0 l0_0.length c0_0) := (blk_cell BK140.out 0).trans rfl; have hcz12_1 : w10.cell? ⟨gb140, 1, none⟩ = some (.slice A0_1 l0_1.length c0_1) := (blk_cell BK140.out 1).trans rfl; have hfz12_0 := blk_frozen BK140.out 0; have hfz12_1 := blk_frozen BK140.out 1; obtain ⟨Ao13, co13, eo13⟩ := Kd.S_slice HO147.out; subst eo13))
  (try simp only [Act.put, List.setIfInBounds_toArray, List.set_cons_zero, List.set_cons_succ])
  go_cut [23] (fun v23 wc => ∃ (kq : Nat) (x23_4 : Bool), v23 = .bool x23_4 ∧ Aside0 (block_Write.j0 kq a1 l2 x23_4 t142 t145 = some (r1, r2, r3)) ∧ Aside0 (kq ≤ k) ∧ Aside0 (Kd.V (Kd.slice 5 (Kd.int .u8)) 28 wc w.heap.size (fun k_ => (w.heap.size ≤ k_) ∧ some k_ ≠ ((.slice Ao13 t145.length co13) : Value).ownBlock ∧ k_ ≠ gb140 ∧ k_ ≠ gb141) (.slice Ao11 t142.length co11) t142) ∧ Aside0 (Kd.S k57 57 wc w.heap.size (fun k_ => (w.heap.size ≤ k_)) (.slice Ao13 t145.length co13) t145) ∧ Aside0 (wc.heap[gb140]? = some (.cells #[(.slice Ao11 t142.length co11), (.slice Ao13 t145.length co13)] 25 (0, 0))) ∧ Aside0 (wc.heap[gb141]? = some (.cells #[(.slice none 0 0), (.slice none 0 0)] 25 (0, 0))) ∧ Aside0 (Below w.heap.size w wc))
  case first =>
    have H := HC5.out
    clear HC5
    by_cases c14 : a1 < 0
    · rw [if_pos c14] at H
      have c14b0 : decide (a1 < 0) = true := decide_eq_true c14
      clear c14
      (first | rw [c14b0] | (simp only [i64_w, i32_w]; rw [c14b0]) | skip)
      have H' := Aside0.mk H
      clear H
      go_wp2
      go_meet
      case rel => exact ⟨_, (true), (by first | rfl | (simp; done) | (simp [*]; done)), H', ⟨by first | omega | exact Nat.le_refl _⟩, ⟨by (with_reducible repeat (first | apply Kd.V_alloc | apply Kd.V_drewN | apply Kd.V_drew)); exact Kd.V_mono (Kd.V_far (p := ⟨gb140, 1, none⟩) (Kd.V_far (p := ⟨gb140, 0, none⟩) (Kd.V_mono HO144.out (fun k_ hk => (⟨hk, hk.2.2.1⟩ : _ ∧ k_ ≠ gb140))) (fun _ hk => hk.2) (.slice Ao11 t142.length co11)) (fun _ hk => hk.2) (.slice Ao13 t145.length co13)) (fun _ hk => ⟨hk.1.1, ⟨hk.1.2.1, ⟨hk.1.2.2.1, hk.1.2.2.2⟩⟩⟩)⟩, ⟨by (with_reducible repeat (first | apply Kd.S_alloc | apply Kd.S_drewN | apply Kd.S_drew)); exact Kd.S_mono (Kd.S_far (p := ⟨gb140, 1, none⟩) (Kd.S_far (p := ⟨gb140, 0, none⟩) (Kd.S_types HO147.out BK140.out (by decide)) (fun _ hk => hk.2) (.slice Ao11 t142.length co11)) (fun _ hk => hk.2) (.slice Ao13 t145.length co13)) (fun _ hk => hk.1.1)⟩, ⟨by (with_reducible repeat (first | refine blk_drewN ?_ _ | refine blk_drew ?_ | refine blk_alloc ?_ _)); refine blk_put (cs := #[.slice Ao11 t142.length co11, .slice A0_1 l0_1.length c0_1]) ?_ 1 _ rfl; (with_reducible repeat (first | refine blk_drewN ?_ _ | refine blk_drew ?_ | refine blk_alloc ?_ _)); refine blk_put (cs := #[.slice A0_0 l0_0.length c0_0, .slice A0_1 l0_1.length c0_1]) ?_ 0 _ rfl; (with_reducible repeat (first | refine blk_drewN ?_ _ | refine blk_drew ?_ | refine blk_alloc ?_ _)); exact BK140.out⟩, ⟨by (with_reducible repeat (first | refine blk_drewN ?_ _ | refine blk_drew ?_ | refine blk_alloc ?_ _)); refine blk_far ?_ NB141_140.out _; (with_reducible repeat (first | refine blk_drewN ?_ _ | refine blk_drew ?_ | refine blk_alloc ?_ _)); refine blk_far ?_ NB141_140.out _; (with_reducible repeat (first | refine blk_drewN ?_ _ | refine blk_drew ?_ | refine blk_alloc ?_ _)); exact BK141.out⟩, ⟨by repeat (first | (with_reducible first | exact HB.out | apply below_alloc | apply pw_below_drewN | apply below_drew1 | refine below_set ?_ GE140.out | refine below_set ?_ GE141.out) | exact HB.out)⟩⟩
    · rw [if_neg c14] at H
      have c14b0 : decide (a1 < 0) = false := decide_eq_false c14
      clear c14
      (first | rw [c14b0] | (simp only [i64_w, i32_w]; rw [c14b0]) | skip)
      by_cases c15 : a1 ≥ (t142.length : Int)
      · rw [if_pos c15] at H
        have c15b0 : decide ((t142.length : Int) ≤ a1) = true := decide_eq_true c15
        clear c15
        have H' := Aside0.mk H
        clear H
        have hnb16 := NB140_141.out
        have hnc16 := NB141_140.out
        have hcz17_0 : w10.cell? ⟨gb140, 0, none⟩ = some (.slice A0_0 l0_0.length c0_0) := (blk_cell BK140.out 0).trans rfl
        have hcz17_1 : w10.cell? ⟨gb140, 1, none⟩ = some (.slice A0_1 l0_1.length c0_1) := (blk_cell BK140.out 1).trans rfl
        have hfz17_0 := blk_frozen BK140.out 0
        have hfz17_1 := blk_frozen BK140.out 1
        go_wp2
        go_meet
        case rel => exact ⟨_, (true), (by first | rfl | (simp; done) | (simp [*]; done)), H', ⟨by first | omega | exact Nat.le_refl _⟩, ⟨by (with_reducible repeat (first | apply Kd.V_alloc | apply Kd.V_drewN | apply Kd.V_drew)); exact Kd.V_mono (Kd.V_far (p := ⟨gb140, 1, none⟩) (Kd.V_far (p := ⟨gb140, 0, none⟩) (Kd.V_mono HO144.out (fun k_ hk => (⟨hk, hk.2.2.1⟩ : _ ∧ k_ ≠ gb140))) (fun _ hk => hk.2) (.slice Ao11 t142.length co11)) (fun _ hk => hk.2) (.slice Ao13 t145.length co13)) (fun _ hk => ⟨hk.1.1, ⟨hk.1.2.1, ⟨hk.1.2.2.1, hk.1.2.2.2⟩⟩⟩)⟩, ⟨by (with_reducible repeat (first | apply Kd.S_alloc | apply Kd.S_drewN | apply Kd.S_drew)); exact Kd.S_mono (Kd.S_far (p := ⟨gb140, 1, none⟩) (Kd.S_far (p := ⟨gb140, 0, none⟩) (Kd.S_types HO147.out BK140.out (by decide)) (fun _ hk => hk.2) (.slice Ao11 t142.length co11)) (fun _ hk => hk.2) (.slice Ao13 t145.length co13)) (fun _ hk => hk.1.1)⟩, ⟨by (with_reducible repeat (first | refine blk_drewN ?_ _ | refine blk_drew ?_ | refine blk_alloc ?_ _)); refine blk_put (cs := #[.slice Ao11 t142.length co11, .slice A0_1 l0_1.length c0_1]) ?_ 1 _ rfl; (with_reducible repeat (first | refine blk_drewN ?_ _ | refine blk_drew ?_ | refine blk_alloc ?_ _)); refine blk_put (cs := #[.slice A0_0 l0_0.length c0_0, .slice A0_1 l0_1.length c0_1]) ?_ 0 _ rfl; (with_reducible repeat (first | refine blk_drewN ?_ _ | refine blk_drew ?_ | refine blk_alloc ?_ _)); exact BK140.out⟩, ⟨by (with_reducible repeat (first | refine blk_drewN ?_ _ | refine blk_drew ?_ | refine blk_alloc ?_ _)); refine blk_far ?_ NB141_140.out _; (with_reducible repeat (first | refine blk_drewN ?_ _ | refine blk_drew ?_ | refine blk_alloc ?_ _)); refine blk_far ?_ NB141_140.out _; (with_reducible repeat (first | refine blk_drewN ?_ _ | refine blk_drew ?_ | refine blk_alloc ?_ _)); exact BK141.out⟩, ⟨by repeat (first | (with_reducible first | exact HB.out | apply below_alloc | apply pw_below_drewN | apply below_drew1 | refine below_set ?_ GE140.out | refine below_set ?_ GE141.out) | exact HB.out)⟩⟩
      · rw [if_neg c15] at H
        have c15b0 : decide ((t142.length : Int) ≤ a1) = false := decide_eq_false c15
        clear c15
        have H' := Aside0.mk H
        clear H
        have hnb18 := NB140_141.out
        have hnc18 := NB141_140.out
        have hcz19_0 : w10.cell? ⟨gb140, 0, none⟩ = some (.slice A0_0 l0_0.length c0_0) := (blk_cell BK140.out 0).trans rfl
        have hcz19_1 : w10.cell? ⟨gb140, 1, none⟩ = some (.slice A0_1 l0_1.length c0_1) := (blk_cell BK140.out 1).trans rfl
        have hfz19_0 := blk_frozen BK140.out 0
        have hfz19_1 := blk_frozen BK140.out 1
        go_wp2
        go_meet
        case rel => exact ⟨_, (((l2.length : Int) != 64)), (by first | rfl | (simp; done) | (simp [*]; done)), H', ⟨by first | omega | exact Nat.le_refl _⟩, ⟨by (with_reducible repeat (first | apply Kd.V_alloc | apply Kd.V_drewN | apply Kd.V_drew)); exact Kd.V_mono (Kd.V_far (p := ⟨gb140, 1, none⟩) (Kd.V_far (p := ⟨gb140, 0, none⟩) (Kd.V_mono HO144.out (fun k_ hk => (⟨hk, hk.2.2.1⟩ : _ ∧ k_ ≠ gb140))) (fun _ hk => hk.2) (.slice Ao11 t142.length co11)) (fun _ hk => hk.2) (.slice Ao13 t145.length co13)) (fun _ hk => ⟨hk.1.1, ⟨hk.1.2.1, ⟨hk.1.2.2.1, hk.1.2.2.2⟩⟩⟩)⟩, ⟨by (with_reducible repeat (first | apply Kd.S_alloc | apply Kd.S_drewN | apply Kd.S_drew)); exact Kd.S_mono (Kd.S_far (p := ⟨gb140, 1, none⟩) (Kd.S_far (p := ⟨gb140, 0, none⟩) (Kd.S_types HO147.out BK140.out (by decide)) (fun _ hk => hk.2) (.slice Ao11 t142.length co11)) (fun _ hk => hk.2) (.slice Ao13 t145.length co13)) (fun _ hk => hk.1.1)⟩, ⟨by (with_reducible repeat (first | refine blk_drewN ?_ _ | refine blk_drew ?_ | refine blk_alloc ?_ _)); refine blk_put (cs := #[.slice Ao11 t142.length co11, .slice A0_1 l0_1.length c0_1]) ?_ 1 _ rfl; (with_reducible repeat (first | refine blk_drewN ?_ _ | refine blk_drew ?_ | refine blk_alloc ?_ _)); refine blk_put (cs := #[.slice A0_0 l0_0.length c0_0, .slice A0_1 l0_1.length c0_1]) ?_ 0 _ rfl; (with_reducible repeat (first | refine blk_drewN ?_ _ | refine blk_drew ?_ | refine blk_alloc ?_ _)); exact BK140.out⟩, ⟨by (with_reducible repeat (first | refine blk_drewN ?_ _ | refine blk_drew ?_ | refine blk_alloc ?_ _)); refine blk_far ?_ NB141_140.out _; (with_reducible repeat (first | refine blk_drewN ?_ _ | refine blk_drew ?_ | refine blk_alloc ?_ _)); refine blk_far ?_ NB141_140.out _; (with_reducible repeat (first | refine blk_drewN ?_ _ | refine blk_drew ?_ | refine blk_alloc ?_ _)); exact BK141.out⟩, ⟨by repeat (first | (with_reducible first | exact HB.out | apply below_alloc | apply pw_below_drewN | apply below_drew1 | refine below_set ?_ GE140.out | refine below_set ?_ GE141.out) | exact HB.out)⟩⟩
  case rest =>
    clear HC5
    try clear c1
    try clear c2
    try clear p2
    try clear c8
    try clear c14
    try clear c14b0
    try clear c15
    try clear c15b0
    try clear c16
    try clear c18
    try clear hcz12_0
    try clear hcz12_1
    try clear hcz17_0
    try clear hcz17_1
    try clear hcz19_0
    try clear hcz19_1
    try clear hcz9_0
    try clear hcz9_1
    try clear hfz12_0
    try clear hfz12_1
    try clear hfz17_0
    try clear hfz17_1
    try clear hfz19_0
    try clear hfz19_1
    try clear hfz9_0
    try clear hfz9_1
    obtain ⟨kq, x23_4, rfl, HA, HJ4, HO_141000, HO_141001, BK140, BK141, HB⟩ := hcut
    cases kq with
    | zero => exact absurd HA.out (by simp [block_Write.j0])
    | succ kj4 =>
      have H := HA.out
      clear HA
      simp only [block_Write.j0] at H
      by_cases c20 : x23_4 = true
      · subst c20
        have H1 : (some (t142, t145, 1)) = some (r1, r2, r3) := by rw [if_pos rfl] at H; exact H
        clear H
        have H := H1
        clear H1
        simp only [Option.some.injEq, Prod.mk.injEq] at H
        obtain ⟨rfl, rfl, rfl⟩ := H
        have hnb21 := NB140_141.out
        have hnc21 := NB141_140.out
        have hcz22_0 : wc.cell? ⟨gb140, 0, none⟩ = some (.slice Ao11 t142.length co11) := (blk_cell BK140.out 0).trans rfl
        have hcz22_1 : wc.cell? ⟨gb140, 1, none⟩ = some (.slice Ao13 t145.length co13) := (blk_cell BK140.out 1).trans rfl
        have hfz22_0 := blk_frozen BK140.out 0
        have hfz22_1 := blk_frozen BK140.out 1
        have hcz23_0 : wc.cell? ⟨gb141, 0, none⟩ = some (.slice none 0 0) := (blk_cell BK141.out 0).trans rfl
        have hcz23_1 : wc.cell? ⟨gb141, 1, none⟩ = some (.slice none 0 0) := (blk_cell BK141.out 1).trans rfl
        have hfz23_0 := blk_frozen BK141.out 0
        have hfz23_1 := blk_frozen BK141.out 1
        go_wp2
        refine bodyPost_ret (results_ct rfl _ _ gb141 25 #[.slice Ao11 t142.length co11, .slice Ao13 t145.length co13] (0, 0) _ rfl (by (with_reducible repeat (first | refine blk_drewN ?_ _ | refine blk_drew ?_ | refine blk_alloc ?_ _)); refine blk_put (cs := #[.slice Ao11 t142.length co11, .slice none 0 0]) ?_ 1 _ rfl; (with_reducible repeat (first | refine blk_drewN ?_ _ | refine blk_drew ?_ | refine blk_alloc ?_ _)); refine blk_put (cs := #[.slice none 0 0, .slice none 0 0]) ?_ 0 _ rfl; (with_reducible repeat (first | refine blk_drewN ?_ _ | refine blk_drew ?_ | refine blk_alloc ?_ _)); exact BK141.out) Try.underlying25 rfl (by kernel_rfl)) rfl ?_
        exact ⟨_, _, by first | rfl | (simp [errW_none, errW_some] <;> rfl) | (simp [*, errW_none, errW_some] <;> rfl), by (with_reducible repeat (first | apply Kd.V_alloc | apply Kd.V_drewN | apply Kd.V_drew)); exact Kd.V_mono (Kd.V_far (p := ⟨gb141, 1, none⟩) (Kd.V_far (p := ⟨gb141, 0, none⟩) (Kd.V_mono HO_141000.out (fun k_ hk => (⟨hk, hk.2.2.2⟩ : _ ∧ k_ ≠ gb141))) (fun _ hk => hk.2) (.slice Ao11 t142.length co11)) (fun _ hk => hk.2) (.slice Ao13 t145.length co13)) (fun _ hk => ⟨hk.1.1, hk.1.2.1⟩), by (with_reducible repeat (first | apply Kd.S_alloc | apply Kd.S_drewN | apply Kd.S_drew)); exact Kd.S_mono (Kd.S_far (p := ⟨gb141, 1, none⟩) (Kd.S_far (p := ⟨gb141, 0, none⟩) (Kd.S_types HO_141001.out BK141.out (by decide)) (fun _ hk => hk.2) (.slice Ao11 t142.length co11)) (fun _ hk => hk.2) (.slice Ao13 t145.length co13)) (fun _ hk => hk.1), by repeat (first | (with_reducible first | exact HB.out | apply below_alloc | apply pw_below_drewN | apply below_drew1 | refine below_set ?_ GE140.out | refine below_set ?_ GE141.out) | exact HB.out)⟩
      · replace c20 := Bool.eq_false_iff.mpr c20
        subst c20
        have H1 : (if (t145.length : Int) = 1000 then (some (t142, t145, 3)) else ((some (([] : List Int) : List Int)).bind fun y148 => (if y148.length + l2.length < 140737488355328 then (if t145.length < 4398046511104 then (some (t142, (t145 ++ [(⟨a1, (y148 ++ l2)⟩ : S57)]), 0)) else (none)) else (none)))) = some (r1, r2, r3) := by rw [if_neg (show ¬ (false = true) by decide)] at H; exact H
        clear H
        have H := H1
        clear H1
        by_cases c24 : (t145.length : Int) = 1000
        · rw [if_pos c24] at H
          have c24b0 : ((t145.length : Int) == 1000) = true := beq_iff_eq.mpr c24
          have c24b1 : ((t145.length : Int) != 1000) = false := bne_eq_false_iff_eq.mpr c24
          clear c24
          simp only [Option.some.injEq, Prod.mk.injEq] at H
          obtain ⟨rfl, rfl, rfl⟩ := H
          have hnb25 := NB140_141.out
          have hnc25 := NB141_140.out
          have hcz26_0 : wc.cell? ⟨gb140, 0, none⟩ = some (.slice Ao11 t142.length co11) := (blk_cell BK140.out 0).trans rfl
          have hcz26_1 : wc.cell? ⟨gb140, 1, none⟩ = some (.slice Ao13 t145.length co13) := (blk_cell BK140.out 1).trans rfl
          have hfz26_0 := blk_frozen BK140.out 0
          have hfz26_1 := blk_frozen BK140.out 1
          have hcz27_0 : wc.cell? ⟨gb141, 0, none⟩ = some (.slice none 0 0) := (blk_cell BK141.out 0).trans rfl
          have hcz27_1 : wc.cell? ⟨gb141, 1, none⟩ = some (.slice none 0 0) := (blk_cell BK141.out 1).trans rfl
          have hfz27_0 := blk_frozen BK141.out 0
          have hfz27_1 := blk_frozen BK141.out 1
          go_wp2
          refine bodyPost_ret (results_ct rfl _ _ gb141 25 #[.slice Ao11 t142.length co11, .slice Ao13 t145.length co13] (0, 0) _ rfl (by (with_reducible repeat (first | refine blk_drewN ?_ _ | refine blk_drew ?_ | refine blk_alloc ?_ _)); refine blk_put (cs := #[.slice Ao11 t142.length co11, .slice none 0 0]) ?_ 1 _ rfl; (with_reducible repeat (first | refine blk_drewN ?_ _ | refine blk_drew ?_ | refine blk_alloc ?_ _)); refine blk_put (cs := #[.slice none 0 0, .slice none 0 0]) ?_ 0 _ rfl; (with_reducible repeat (first | refine blk_drewN ?_ _ | refine blk_drew ?_ | refine blk_alloc ?_ _)); exact BK141.out) Try.underlying25 rfl (by kernel_rfl)) rfl ?_
          exact ⟨_, _, by first | rfl | (simp [errW_none, errW_some] <;> rfl) | (simp [*, errW_none, errW_some] <;> rfl), by (with_reducible repeat (first | apply Kd.V_alloc | apply Kd.V_drewN | apply Kd.V_drew)); exact Kd.V_mono (Kd.V_far (p := ⟨gb141, 1, none⟩) (Kd.V_far (p := ⟨gb141, 0, none⟩) (Kd.V_mono HO_141000.out (fun k_ hk => (⟨hk, hk.2.2.2⟩ : _ ∧ k_ ≠ gb141))) (fun _ hk => hk.2) (.slice Ao11 t142.length co11)) (fun _ hk => hk.2) (.slice Ao13 t145.length co13)) (fun _ hk => ⟨hk.1.1, hk.1.2.1⟩), by (with_reducible repeat (first | apply Kd.S_alloc | apply Kd.S_drewN | apply Kd.S_drew)); exact Kd.S_mono (Kd.S_far (p := ⟨gb141, 1, none⟩) (Kd.S_far (p := ⟨gb141, 0, none⟩) (Kd.S_types HO_141001.out BK141.out (by decide)) (fun _ hk => hk.2) (.slice Ao11 t142.length co11)) (fun _ hk => hk.2) (.slice Ao13 t145.length co13)) (fun _ hk => hk.1), by repeat (first | (with_reducible first | exact HB.out | apply below_alloc | apply pw_below_drewN | apply below_drew1 | refine below_set ?_ GE140.out | refine below_set ?_ GE141.out) | exact HB.out)⟩
        · rw [if_neg c24] at H
          have c24b0 : ((t145.length : Int) == 1000) = false := beq_eq_false_iff_ne.mpr c24
          have c24b1 : ((t145.length : Int) != 1000) = true := bne_iff_ne.mpr c24
          obtain ⟨y148, hy148⟩ : ∃ y_ : List Int, y_ = (([] : List Int)) := ⟨_, rfl⟩
          replace H : (if y148.length + l2.length < 140737488355328 then (if t145.length < 4398046511104 then (some (t142, (t145 ++ [(⟨a1, (y148 ++ l2)⟩ : S57)]), 0)) else (none)) else (none)) = some (r1, r2, r3) := by first | (rw [hy148]; with_reducible exact H) | (have H2_ := (Option.bind_some _ _).symm.trans H; rw [hy148]; with_reducible exact H2_) | (have H2_ := (Option.bind_some _ _).symm.trans H; with_reducible exact H2_) | with_reducible exact H | (rw [hy148]; exact H) | exact H
          have Ny148 := Aside0.mk hy148
          clear hy148
          by_cases c28 : y148.length + l2.length < 140737488355328
          · rw [if_pos c28] at H
            have LMc28 := Aside0.mk c28
            clear c28
            obtain ⟨y151, hy151⟩ : ∃ y_ : List Int, y_ = (y148 ++ l2) := ⟨_, rfl⟩
            replace H : (if t145.length < 4398046511104 then (some (t142, (t145 ++ [(⟨a1, y151⟩ : S57)]), 0)) else (none)) = some (r1, r2, r3) := by first | (rw [hy151]; with_reducible exact H) | (have H2_ := (Option.bind_some _ _).symm.trans H; rw [hy151]; with_reducible exact H2_) | (have H2_ := (Option.bind_some _ _).symm.trans H; with_reducible exact H2_) | with_reducible exact H | (rw [hy151]; exact H) | exact H
            have Ny151 := Aside0.mk hy151
            clear hy151
            by_cases c29 : t145.length < 4398046511104
            · rw [if_pos c29] at H
              have LMc29 := Aside0.mk c29
              clear c29
              obtain ⟨y154, hy154⟩ : ∃ y_ : List (S57), y_ = (t145 ++ [(⟨a1, y151⟩ : S57)]) := ⟨_, rfl⟩
              replace H : (some (t142, y154, 0)) = some (r1, r2, r3) := by first | (rw [hy154]; with_reducible exact H) | (have H2_ := (Option.bind_some _ _).symm.trans H; rw [hy154]; with_reducible exact H2_) | (have H2_ := (Option.bind_some _ _).symm.trans H; with_reducible exact H2_) | with_reducible exact H | (rw [hy154]; exact H) | exact H
              have Ny154 := Aside0.mk hy154
              clear hy154
              simp only [Option.some.injEq, Prod.mk.injEq] at H
              obtain ⟨rfl, rfl, rfl⟩ := H
              have hnb30 := NB140_141.out
              have hnc30 := NB141_140.out
              have hcz31_0 : wc.cell? ⟨gb140, 0, none⟩ = some (.slice Ao11 t142.length co11) := (blk_cell BK140.out 0).trans rfl
              have hcz31_1 : wc.cell? ⟨gb140, 1, none⟩ = some (.slice Ao13 t145.length co13) := (blk_cell BK140.out 1).trans rfl
              have hfz31_0 := blk_frozen BK140.out 0
              have hfz31_1 := blk_frozen BK140.out 1
              try go_wp2
              have n0_ := Aside0.mk (Kd.V_drew HO_141000.out)
              have n1_ := Aside0.mk (Kd.S_drew HO_141001.out)
              have n2_ := Aside0.mk (blk_drew BK140.out)
              have n3_ := Aside0.mk (blk_drew BK141.out)
              have n4_ := Aside0.mk (below_drew1 HB.out)
              clear HO_141000
              clear HO_141001
              clear BK140
              clear BK141
              clear HB
              have HO_141000 := n0_
              have HO_141001 := n1_
              have BK140 := n2_
              have BK141 := n3_
              have HB := n4_
              clear n0_ n1_ n2_ n3_ n4_
              refine start_ (n := 11) (S := fun w' => w'.cell? ⟨gb140, 0, none⟩ = some (.slice Ao11 t142.length co11) ∧ w'.cell? ⟨gb140, 1, none⟩ = some (.slice Ao13 t145.length co13)) (ds := [10]) #[false, false, false, false, false, false, false, false, false, false, false] (by kernel_rfl) rfl rfl ⟨(blk_cell BK140.out 0).trans rfl, (blk_cell BK140.out 1).trans rfl⟩ (fun hHeld => ?_); refine with_tabW block_Write.tab6 block_Write.bits6 (fun HT_ HW_ => ?_)
              generalize wc.drew = w32 at HO_141000 HO_141001 BK140 BK141 HB hHeld ⊢
              refine pure_ (i := 0) (N := some 30) (v := ?_) (a' := ?_) #[true, false, false, false, false, false, false, false, false, false, false] rfl rfl (any_of HT_.out (by kernel_rfl)) (fun _ _ _ h => h) (Or.inl ⟨by rfl, ?_⟩) ?_ ?_
              rotate_left
              · intro w'
                go_simp
                with_reducible rfl
              rotate_left
              · simp only [Act.put, List.setIfInBounds_toArray, List.set_cons_zero, List.set_cons_succ, i64_w, i32_w]
                rfl
              refine pure_ (i := 2) (N := some 32) (v := ?_) (a' := ?_) #[true, false, true, false, false, false, false, false, false, false, false] rfl rfl (any_of HT_.out (by kernel_rfl)) (fun _ _ _ h => h) (Or.inl ⟨by rfl, ?_⟩) ?_ ?_
              rotate_left
              · intro w'
                go_simp
                with_reducible rfl
              rotate_left
              · simp only [Act.put, List.setIfInBounds_toArray, List.set_cons_zero, List.set_cons_succ, i64_w, i32_w]
                rfl
              refine pure_ (i := 4) (N := some 34) (v := ?_) (a' := ?_) #[true, false, true, false, true, false, false, false, false, false, false] rfl rfl (any_of HT_.out (by kernel_rfl)) (fun _ _ _ h => h) (Or.inl ⟨by rfl, ?_⟩) ?_ ?_
              rotate_left
              · intro w'
                go_simp
                with_reducible rfl
              rotate_left
              · simp only [Act.put, List.setIfInBounds_toArray, List.set_cons_zero, List.set_cons_succ, i64_w, i32_w]
                rfl
              refine take_ (i := 1) (N := some 31) (v := ?_) (a' := ?_) #[true, true, true, false, true, false, false, false, false, false, false] rfl rfl (take_ofW HT_.out HW_.out (by kernel_rfl)) (fun _ _ _ h => h) (Or.inl ⟨by rfl, ?_⟩) hHeld ?_ ?_
              rotate_left
              · rintro w' ⟨s0, s1⟩
                go_simp
                with_reducible rfl
              rotate_left
              · simp only [Act.put, List.setIfInBounds_toArray, List.set_cons_zero, List.set_cons_succ, i64_w, i32_w]
                rfl
              refine one_ (i := 3) (N := some 33) #[true, true, true, true, true, false, false, false, false, false, false] rfl rfl (one_of HT_.out (by kernel_rfl)) (by decide) (fun K hK => ?_)
              refine Kd.R_lit_step (Kd.int .u8) _ 5 ?hg (N := 33) ?hd (xs := ([] : List Int)) (inner := []) (ok := fun _ => True) (okp := fun _ => True) ?hr ?hp (fun _ hk => hk) trivial (Below.refl _ _) (Nat.le_refl _) (by simp) ?_; (case hd => rfl); (case hg => rfl); (case hr => first | (go_simp; done) | (go_simp; rfl)); (case hp => exact (Reps.none _ _))
              intro v149 w33 ho34 hb hg_ hnew_
              clear hg_ hnew_
              (first | rw [← Ny148.out] at ho34 | (simp only [Int.reduceToNat] at ho34; rw [← Ny148.out] at ho34))
              have n0_ := Aside0.mk (Kd.V_elder' (by (with_reducible repeat (first | apply Kd.V_alloc | apply Kd.V_drewN | apply Kd.V_drew)); exact HO_141000.out) (Kd.R_base ho34) hb)
              have n1_ := Aside0.mk (Kd.S_elder' (by (with_reducible repeat (first | apply Kd.S_alloc | apply Kd.S_drewN | apply Kd.S_drew)); exact HO_141001.out) (Kd.R_base ho34) hb)
              have n2_ := Aside0.mk (Kd.R_lower (Kd.R_newM (M := fun k_ => (w.heap.size ≤ k_)) ho34 (below_size (by repeat (first | (with_reducible first | exact HB.out | apply below_alloc | apply pw_below_drewN | apply below_drew1 | refine below_set ?_ GE140.out | refine below_set ?_ GE141.out) | exact HB.out))) (fun k_ h_ => h_)) (below_size (by repeat (first | (with_reducible first | exact HB.out | apply below_alloc | apply pw_below_drewN | apply below_drew1 | refine below_set ?_ GE140.out | refine below_set ?_ GE141.out) | exact HB.out))))
              have n3_ := Aside0.mk (blk_below (g := gb140) (o := .cells #[.slice Ao11 t142.length co11, .slice Ao13 t145.length co13] 25 (0, 0)) (by (with_reducible repeat (first | refine blk_drewN ?_ _ | refine blk_drew ?_ | refine blk_alloc ?_ _)); exact BK140.out) hb)
              have n4_ := Aside0.mk (blk_below (g := gb141) (o := .cells #[.slice none 0 0, .slice none 0 0] 25 (0, 0)) (by (with_reducible repeat (first | refine blk_drewN ?_ _ | refine blk_drew ?_ | refine blk_alloc ?_ _)); exact BK141.out) hb)
              have n5_ := Aside0.mk (below_step (by repeat (first | (with_reducible first | exact HB.out | apply below_alloc | apply pw_below_drewN | apply below_drew1 | refine below_set ?_ GE140.out | refine below_set ?_ GE141.out) | exact HB.out)) hb)
              clear HO_141000
              clear HO_141001
              clear BK140
              clear BK141
              clear HB
              have HO_141000 := n0_
              have HO_141001 := n1_
              have HO150 := n2_
              have BK140 := n3_
              have BK141 := n4_
              have HB := n5_
              clear n0_ n1_ n2_ n3_ n4_ n5_
              clear hb ho34
              refine hK.out _ _ ⟨(blk_cell BK140.out 0).trans rfl, (blk_cell BK140.out 1).trans rfl⟩ (fun hHeld => ?_)
              clear hK K
              refine norm_ (a' := ?_) ?_ ?_
              rotate_left
              · show Act.put _ (some 33) _ = _
                simp only [Act.put, List.setIfInBounds_toArray, List.set_cons_zero, List.set_cons_succ, i64_w, i32_w]
                rfl
              refine one_ (i := 5) (N := some 35) #[true, true, true, true, true, true, false, false, false, false, false] rfl rfl (one_of HT_.out (by kernel_rfl)) (by decide) (fun K hK => ?_)
              refine Kd.R_append_rows_step (Kd.int .u8) (w0 := w) w.heap.size (by rfl) (.tmp 33) (.tmp 34) 28 5 (.int .u8 0) 1 rfl Try.underlying28 info5 rfl (by decide) (by omega) v149 y148 l2 _ _ _ (fun k_ => (w.heap.size ≤ k_)) (fun _ => False) rfl rfl ?aO ?aR (fun _ _ h => h) (fun _ h => h.elim) ?aF ?aB ?aS ?aL ?_
              (case aR => repeat (first | exact (Kd.C_below HR2.out HB.out) | (with_reducible refine Kd.C_alloc ?_ _) | (with_reducible refine Kd.C_drewN ?_ _) | (with_reducible refine Kd.C_drew ?_)))
              (case aB => exact (by repeat (first | (with_reducible first | exact HB.out | apply below_alloc | apply pw_below_drewN | apply below_drew1 | refine below_set ?_ GE140.out | refine below_set ?_ GE141.out) | exact HB.out)))
              (case aF => exact (fun k_ hk => (Nat.le_trans (below_size (by repeat (first | (with_reducible first | exact HB.out | apply below_alloc | apply pw_below_drewN | apply below_drew1 | refine below_set ?_ GE140.out | refine below_set ?_ GE141.out) | exact HB.out))) hk)))
              (case aO => exact (by (with_reducible repeat (first | apply Kd.R_alloc | apply Kd.R_drewN | apply Kd.R_drew)); exact Kd.R_mono HO150.out (fun _ hk => hk.1)))
              (case aS => exact (below_size (by repeat (first | (with_reducible first | exact HB.out | apply below_alloc | apply pw_below_drewN | apply below_drew1 | refine below_set ?_ GE140.out | refine below_set ?_ GE141.out) | exact HB.out))))
              (case aL => have := LMc28.out; omega)
              intro v152 w35 ho hb hg hat
              rw [← Ny151.out] at ho
              have n0_ := Aside0.mk (Kd.V_afterv (ok := (fun k_ => (w.heap.size ≤ k_) ∧ some k_ ≠ (.slice Ao13 t145.length co13 : Value).ownBlock ∧ k_ ≠ gb140 ∧ k_ ≠ gb141)) (by (with_reducible repeat (first | apply Kd.V_alloc | apply Kd.V_drewN | apply Kd.V_drew)); exact HO_141000.out) hg hat)
              have n1_ := Aside0.mk (Kd.S_after (ok := (fun k_ => (w.heap.size ≤ k_))) (by (with_reducible repeat (first | apply Kd.S_alloc | apply Kd.S_drewN | apply Kd.S_drew)); exact HO_141001.out) hg hat)
              have n2_ := Aside0.mk (blk_grown (g := gb140) (o := .cells #[.slice Ao11 t142.length co11, .slice Ao13 t145.length co13] 25 (0, 0)) (by (with_reducible repeat (first | refine blk_drewN ?_ _ | refine blk_drew ?_ | refine blk_alloc ?_ _)); exact BK140.out) hg (Kd.R_ne HO150.out BK140.out (by decide)))
              have n3_ := Aside0.mk (blk_grown (g := gb141) (o := .cells #[.slice none 0 0, .slice none 0 0] 25 (0, 0)) (by (with_reducible repeat (first | refine blk_drewN ?_ _ | refine blk_drew ?_ | refine blk_alloc ?_ _)); exact BK141.out) hg (Kd.R_ne HO150.out BK141.out (by decide)))
              have n4_ := Aside0.mk (hb)
              have n5_ := Aside0.mk (ho)
              clear HO_141000
              clear HO_141001
              clear BK140
              clear BK141
              clear HB
              clear HO150
              have HO_141000 := n0_
              have HO_141001 := n1_
              have BK140 := n2_
              have BK141 := n3_
              have HB := n4_
              have HO153 := n5_
              clear n0_ n1_ n2_ n3_ n4_ n5_
              clear ho hb hg hat
              obtain ⟨Ao36, co36, eo36⟩ := Kd.R_slice HO153.out
              (first | subst eo36 | (injection eo36 with f1_ f2_ f3_; have f4_ := f1_.symm; have f5_ := f3_.symm; clear f1_ f2_ f3_; subst f4_; subst f5_))
              refine hK.out _ _ ⟨(blk_cell BK140.out 0).trans rfl, (blk_cell BK140.out 1).trans rfl⟩ (fun hHeld => ?_)
              clear hK K
              refine norm_ (a' := ?_) ?_ ?_
              rotate_left
              · show Act.put _ (some 35) _ = _
                simp only [Act.put, List.setIfInBounds_toArray, List.set_cons_zero, List.set_cons_succ, i64_w, i32_w]
                rfl
              refine pure_ (i := 6) (N := some 36) (v := ?_) (a' := ?_) #[true, true, true, true, true, true, true, false, false, false, false] rfl rfl (any_of HT_.out (by kernel_rfl)) (fun _ _ _ h => h) (Or.inl ⟨by rfl, ?_⟩) ?_ ?_
              rotate_left
              · intro w'
                go_simp
                with_reducible rfl
              rotate_left
              · simp only [Act.put, List.setIfInBounds_toArray, List.set_cons_zero, List.set_cons_succ, i64_w, i32_w]
                rfl
              refine one_ (i := 7) (N := some 37) #[true, true, true, true, true, true, true, true, false, false, false] rfl rfl (one_of HT_.out (by kernel_rfl)) (by decide) (fun K hK => ?_)
              refine value_ (w1 := ?_) (v := ?_) (by rfl) rfl ?_ ?_
              rotate_left 2
              · go_simp
                constructor
                · rfl
                · rfl
              refine hK.out _ _ ⟨(blk_cell (blk_alloc BK140.out _) 0).trans rfl, (blk_cell (blk_alloc BK140.out _) 1).trans rfl⟩ (fun hHeld => ?_)
              clear hK K
              refine norm_ (a' := ?_) ?_ ?_
              rotate_left
              · show Act.put _ (some 37) _ = _
                simp only [Act.put, List.setIfInBounds_toArray, List.set_cons_zero, List.set_cons_succ, i64_w, i32_w]
                rfl
              refine one_ (i := 8) (N := some 38) #[true, true, true, true, true, true, true, true, true, false, false] rfl rfl (one_of HT_.out (by kernel_rfl)) (by decide) (fun K hK => ?_)
              refine Kd.S_append_step k57 (w0 := w) w.heap.size (by rfl) (.tmp 31) (.tmp 37) 23 57 (.agg #[(.int .i64 0), (.slice none 0 0)]) 32 rfl Try.underlying23 info57 rfl (by decide) (by omega) (.slice Ao13 t145.length co13) t145 (⟨a1, y151⟩ : S57) [.int .i64 a1, .slice Ao36 y151.length co36] (fun k_ => (w.heap.size ≤ k_)) (fun k_ => some k_ = (.slice Ao36 y151.length co36 : Value).ownBlock) rfl rfl ?aP (fun k_ hk_ => ((Kd.R_mono (ok' := fun k_ => ((fun k_ => (w.heap.size ≤ k_))) k_ ∧ some k_ ≠ (.slice Ao13 t145.length co13 : Value).ownBlock) (Kd.R_apart' (HO153.out) (Kd.S_typed HO_141001.out) (by decide)) (fun k_ hk => ⟨hk.1, hk.2⟩))).1 k_ hk_.symm) ?aF ?aO ?aB ?aS ?aL ?_
              (case aP => exact k57_mkM _ _ _ (⟨a1, y151⟩ : S57) (Kd.R_mono (Kd.R_tight rfl (Kd.R_mono (ok' := fun k_ => ((fun k_ => (w.heap.size ≤ k_))) k_ ∧ some k_ ≠ (.slice Ao13 t145.length co13 : Value).ownBlock) (Kd.R_apart' (HO153.out) (Kd.S_typed HO_141001.out) (by decide)) (fun k_ hk => ⟨hk.1, hk.2⟩))) (fun _ h_ => h_)))
              (case aB => exact (by repeat (first | (with_reducible first | exact HB.out | apply below_alloc | apply pw_below_drewN | apply below_drew1 | refine below_set ?_ GE140.out | refine below_set ?_ GE141.out) | exact HB.out)))
              (case aF => exact (fun k_ hk => (Nat.le_trans (below_size (by repeat (first | (with_reducible first | exact HB.out | apply below_alloc | apply pw_below_drewN | apply below_drew1 | refine below_set ?_ GE140.out | refine below_set ?_ GE141.out) | exact HB.out))) hk)))
              (case aO => exact (by (with_reducible repeat (first | apply Kd.S_alloc | apply Kd.S_drewN | apply Kd.S_drew)); exact Kd.S_mono HO_141001.out (fun k_ hk => ⟨hk.1, fun e_ => hk.2 e_⟩)))
              (case aS => exact (below_size (by repeat (first | (with_reducible first | exact HB.out | apply below_alloc | apply pw_below_drewN | apply below_drew1 | refine below_set ?_ GE140.out | refine below_set ?_ GE141.out) | exact HB.out))))
              (case aL => have := LMc29.out; omega)
              intro v155 w37 ho hb hg hat
              rw [← Ny154.out] at ho
              have n0_ := Aside0.mk (Kd.V_afterv (ok := (fun k_ => (w.heap.size ≤ k_) ∧ some k_ ≠ (.slice Ao36 y151.length co36 : Value).ownBlock ∧ k_ ≠ gb140 ∧ k_ ≠ gb141)) (by (with_reducible repeat (first | apply Kd.V_alloc | apply Kd.V_drewN | apply Kd.V_drew)); exact Kd.V_mono HO_141000.out (fun _ hk => ⟨⟨hk.1.1, ⟨hk.2, ⟨hk.1.2.2.1, hk.1.2.2.2⟩⟩⟩, hk.1.2.1⟩)) hg hat)
              have n1_ := Aside0.mk (blk_grown (g := gb140) (o := .cells #[.slice Ao11 t142.length co11, .slice Ao13 t145.length co13] 25 (0, 0)) (by (with_reducible repeat (first | refine blk_drewN ?_ _ | refine blk_drew ?_ | refine blk_alloc ?_ _)); exact BK140.out) hg (Kd.S_ne HO_141001.out BK140.out (by decide)))
              have n2_ := Aside0.mk (blk_grown (g := gb141) (o := .cells #[.slice none 0 0, .slice none 0 0] 25 (0, 0)) (by (with_reducible repeat (first | refine blk_drewN ?_ _ | refine blk_drew ?_ | refine blk_alloc ?_ _)); exact BK141.out) hg (Kd.S_ne HO_141001.out BK141.out (by decide)))
              have n3_ := Aside0.mk (hb)
              have n4_ := Aside0.mk (ho)
              clear HO_141000
              clear BK140
              clear BK141
              clear HB
              clear HO_141001
              clear HO153
              have HO_141000 := n0_
              have BK140 := n1_
              have BK141 := n2_
              have HB := n3_
              have HO156 := n4_
              clear n0_ n1_ n2_ n3_ n4_
              clear ho hb hg hat
              obtain ⟨Ao38, co38, eo38⟩ := Kd.S_slice HO156.out
              (first | subst eo38 | (injection eo38 with f1_ f2_ f3_; have f4_ := f1_.symm; have f5_ := f3_.symm; clear f1_ f2_ f3_; subst f4_; subst f5_))
              refine hK.out _ _ ⟨(blk_cell BK140.out 0).trans rfl, (blk_cell BK140.out 1).trans rfl⟩ (fun hHeld => ?_)
              clear hK K
              refine norm_ (a' := ?_) ?_ ?_
              rotate_left
              · show Act.put _ (some 38) _ = _
                simp only [Act.put, List.setIfInBounds_toArray, List.set_cons_zero, List.set_cons_succ, i64_w, i32_w]
                rfl
              refine pure_ (i := 9) (N := some 39) (v := ?_) (a' := ?_) #[true, true, true, true, true, true, true, true, true, true, false] rfl rfl (any_of HT_.out (by kernel_rfl)) (fun _ _ _ h => h) (Or.inl ⟨by rfl, ?_⟩) ?_ ?_
              rotate_left
              · intro w'
                go_simp
                with_reducible rfl
              rotate_left
              · simp only [Act.put, List.setIfInBounds_toArray, List.set_cons_zero, List.set_cons_succ, i64_w, i32_w]
                rfl
              refine last_ (i := 10) (N := none) #[true, true, true, true, true, true, true, true, true, true, true] rfl rfl (one_of HT_.out (by kernel_rfl)) (by decide) (fun K hK => ?_)
              have hs39 : w37.cell? ⟨gb140, 1, none⟩ = some (.slice Ao13 t145.length co13) := (blk_cell BK140.out 1).trans rfl
              have hfs39 := blk_frozen BK140.out 1
              have hns39_1 := NB141_140.out
              have hms39_1 := NB140_141.out
              refine skip_ (w1 := ?_) (by rfl) rfl ?_ ?_
              rotate_left
              · go_simp
                rfl
              refine hK.out _ _ ?_
              clear hK K
              refine done_ (done_of HT_.out (by kernel_rfl)) ?_
              have hcz40_0 : w37.cell? ⟨gb140, 0, none⟩ = some (.slice Ao11 t142.length co11) := (blk_cell BK140.out 0).trans rfl
              have hcz40_1 : w37.cell? ⟨gb140, 1, none⟩ = some (.slice Ao13 t145.length co13) := (blk_cell BK140.out 1).trans rfl
              have hfz40_0 := blk_frozen BK140.out 0
              have hfz40_1 := blk_frozen BK140.out 1
              have hcz41_0 : w37.cell? ⟨gb141, 0, none⟩ = some (.slice none 0 0) := (blk_cell BK141.out 0).trans rfl
              have hcz41_1 : w37.cell? ⟨gb141, 1, none⟩ = some (.slice none 0 0) := (blk_cell BK141.out 1).trans rfl
              have hfz41_0 := blk_frozen BK141.out 0
              have hfz41_1 := blk_frozen BK141.out 1
              try go_wp2
              refine bodyPost_ret (results_ct rfl _ _ gb141 25 #[.slice Ao11 t142.length co11, .slice Ao38 y154.length co38] (0, 0) _ rfl (by (with_reducible repeat (first | refine blk_drewN ?_ _ | refine blk_drew ?_ | refine blk_alloc ?_ _)); refine blk_put (cs := #[.slice Ao11 t142.length co11, .slice none 0 0]) ?_ 1 _ rfl; (with_reducible repeat (first | refine blk_drewN ?_ _ | refine blk_drew ?_ | refine blk_alloc ?_ _)); refine blk_put (cs := #[.slice none 0 0, .slice none 0 0]) ?_ 0 _ rfl; (with_reducible repeat (first | refine blk_drewN ?_ _ | refine blk_drew ?_ | refine blk_alloc ?_ _)); refine blk_far ?_ NB141_140.out _; (with_reducible repeat (first | refine blk_drewN ?_ _ | refine blk_drew ?_ | refine blk_alloc ?_ _)); exact BK141.out) Try.underlying25 rfl (by kernel_rfl)) rfl ?_
              exact ⟨_, _, by first | rfl | (simp [errW_none, errW_some] <;> rfl) | (simp [*, errW_none, errW_some] <;> rfl), by (with_reducible repeat (first | apply Kd.V_alloc | apply Kd.V_drewN | apply Kd.V_drew)); exact Kd.V_mono (Kd.V_far (p := ⟨gb141, 1, none⟩) (Kd.V_far (p := ⟨gb141, 0, none⟩) (Kd.V_far (p := ⟨gb140, 1, none⟩) (Kd.V_mono (Kd.V_mono HO_141000.out (fun k_ hk => (⟨hk, hk.1.2.2.1⟩ : _ ∧ k_ ≠ gb140))) (fun k_ hk => (⟨hk, hk.1.1.2.2.2⟩ : _ ∧ k_ ≠ gb141))) (fun _ hk => hk.1.2) (.slice Ao38 y154.length co38)) (fun _ hk => hk.2) (.slice Ao11 t142.length co11)) (fun _ hk => hk.2) (.slice Ao38 y154.length co38)) (fun _ hk => ⟨hk.1.1.1.1, hk.1.1.2⟩), by (with_reducible repeat (first | apply Kd.S_alloc | apply Kd.S_drewN | apply Kd.S_drew)); exact Kd.S_mono (Kd.S_far (p := ⟨gb141, 1, none⟩) (Kd.S_far (p := ⟨gb141, 0, none⟩) (Kd.S_far (p := ⟨gb140, 1, none⟩) (Kd.S_types (Kd.S_types HO156.out BK140.out (by decide)) BK141.out (by decide)) (fun _ hk => hk.1.2) (.slice Ao38 y154.length co38)) (fun _ hk => hk.2) (.slice Ao11 t142.length co11)) (fun _ hk => hk.2) (.slice Ao38 y154.length co38)) (fun _ hk => hk.1.1), by repeat (first | (with_reducible first | exact HB.out | apply below_alloc | apply pw_below_drewN | apply below_drew1 | refine below_set ?_ GE140.out | refine below_set ?_ GE141.out) | exact HB.out)⟩
            · rw [if_neg c29] at H
              exact absurd H (by simp)
          · rw [if_neg c28] at H
            exact absurd H (by simp)

end Go.Proofs.Ytiplneodkcjkmaa.P
