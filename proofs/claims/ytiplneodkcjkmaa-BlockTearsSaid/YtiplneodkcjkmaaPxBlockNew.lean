-- Printed by this session's patched printer.
import Derived.Test.YtiplneodkcjkmaaPx0
namespace Go.Proofs.Ytiplneodkcjkmaa.P
open Go.RowKit Go.Proofs.YtiplneodkcjkmaaW.PrintWords Go.Proofs.YtiplneodkcjkmaaW.PrintLast Go.Proofs.YtiplneodkcjkmaaW.PrintMore
attribute [local go_sem] Go.Instr.field Go.part Go.asAgg max2_int min2_int max_two min_two max_three min_three max_four min_four   -- for this text's walks alone
set_option linter.unusedVariables false
set_option linter.unusedSimpArgs false

/-! ### block_New: function 18 -/
mutual
def block_New.j0 : Nat → Int → Bool → Option ((List (List Int)) × (List (S57)) × Int)
  | 0, _, _ => none
  | k + 1, x0, x10 => if x10 = true then (some (([] : List (List Int)), ([] : List (S57)), 1)) else (block_New.l0 k x0 0 ([] : List (List Int)))
def block_New.l0 : Nat → Int → Int → List (List Int) → Option ((List (List Int)) × (List (S57)) × Int)
  | 0, _, _, _ => none
  | k + 1, x12, x13, x134000 => if x13 < x12 then (if 64 ≤ 281474976710656 then (if x134000.length < 5864062014805 then (block_New.l0 k x12 (wrap64 (x13 + 1)) (x134000 ++ [(List.replicate 64 0)])) else (none)) else (none)) else (some (x134000, ([] : List (S57)), 0))
end
def block_New.f (k : Nat) (a0 : Int) : Option ((List (List Int)) × (List (S57)) × Int) := if a0 < 0 then (block_New.j0 k a0 true) else (block_New.j0 k a0 (decide (a0 > 4096)))
theorem block_New.mono_l : ∀ k, (∀ y0 y1, LeO (block_New.j0 k y0 y1) (block_New.j0 (k + 1) y0 y1)) ∧ (∀ y0 y1 y2, LeO (block_New.l0 k y0 y1 y2) (block_New.l0 (k + 1) y0 y1 y2))
  | 0 => ⟨fun _ _ r h => by simp [block_New.j0] at h, fun _ _ _ r h => by simp [block_New.l0] at h⟩
  | k + 1 => by
    obtain ⟨ih0, ih1⟩ := block_New.mono_l k
    refine ⟨?_, ?_⟩
    · intro y0 y1
      unfold block_New.j0
      repeat' first
      | (with_reducible exact ih0 _ _)
      | (with_reducible exact ih1 _ _ _)
      | (with_reducible exact LeO.refl _)
      | (with_reducible exact LeO.none _)
      | (with_reducible refine LeO.ite ?_ ?_)
      | (with_reducible refine LeO.bind ?_ (fun _ => ?_))
      | exact ih0 _ _
      | exact ih1 _ _ _
      | exact LeO.none _
      | refine LeO.ite ?_ ?_
      | refine LeO.bind ?_ (fun _ => ?_)
    · intro y0 y1 y2
      unfold block_New.l0
      repeat' first
      | (with_reducible exact ih0 _ _)
      | (with_reducible exact ih1 _ _ _)
      | (with_reducible exact LeO.refl _)
      | (with_reducible exact LeO.none _)
      | (with_reducible refine LeO.ite ?_ ?_)
      | (with_reducible refine LeO.bind ?_ (fun _ => ?_))
      | exact ih0 _ _
      | exact ih1 _ _ _
      | exact LeO.none _
      | refine LeO.ite ?_ ?_
      | refine LeO.bind ?_ (fun _ => ?_)
theorem block_New.mono : ∀ a0 k, LeO (block_New.f k a0) (block_New.f (k + 1) a0) := by
  intro a0 k
  obtain ⟨ih0, ih1⟩ := block_New.mono_l k
  unfold block_New.f
  repeat' first
      | (with_reducible exact ih0 _ _)
      | (with_reducible exact ih1 _ _ _)
      | (with_reducible exact LeO.refl _)
      | (with_reducible exact LeO.none _)
      | (with_reducible refine LeO.ite ?_ ?_)
      | (with_reducible refine LeO.bind ?_ (fun _ => ?_))
      | exact ih0 _ _
      | exact ih1 _ _ _
      | exact LeO.none _
      | refine LeO.ite ?_ ?_
      | refine LeO.bind ?_ (fun _ => ?_)
set_option maxHeartbeats 8000000 in
set_option maxRecDepth 100000 in
theorem block_New.calls (k : Nat) (a0 : Int) (r1 : List (List Int)) (r2 : List (S57)) (r3 : Int) (w : World) (h : block_New.f k a0 = some (r1, r2, r3)) :
    Calls Try.prog 18 #[.int .i64 a0] w fun e w' => ∃ v0_ v1_ : Value, e = .returned (.tuple #[.agg #[v0_, v1_], .int .i64 r3]) ∧ Kd.S (Kd.slice 5 (Kd.int .u8)) 28 w' w.heap.size (fun _ => True) v0_ r1 ∧ Kd.S k57 57 w' w.heap.size (fun _ => True) v1_ r2 ∧ Below w.heap.size w w' := by
  have hu25 := Try.underlying25
  have HB := Aside0.mk (Below.refl w.heap.size w)
  have H : (if a0 < 0 then (block_New.j0 k a0 true) else (block_New.j0 k a0 (decide (a0 > 4096)))) = some (r1, r2, r3) := h
  clear h
  have HC2 := Aside0.mk H
  clear H
  go_enter Try.func18, Try.ntmps18
  go_upto_region 1 with (first | ((with_reducible refine gate_dst (N := 2) rfl ?_); refine box_event ?hg (N := 2) ?hd (cs := #[.slice none 0 0, .slice none 0 0]) (t := 25) ?hr ?_; (case hd => rfl); (case hg => rfl); (case hr => first | (go_simp; done) | (go_simp; rfl)); intro gb132 hg w3 hbox hb; have n0_ := Aside0.mk (below_step (by repeat (first | (with_reducible first | exact HB.out | apply below_alloc | apply pw_below_drewN | apply below_drew1) | exact HB.out)) hb); have n1_ := Aside0.mk (hbox); have n2_ := Aside0.mk ((by rw [hg]; exact (below_size (by repeat (first | (with_reducible first | exact HB.out | apply below_alloc | apply pw_below_drewN | apply below_drew1) | exact HB.out))) : w.heap.size ≤ gb132)); have n3_ := Aside0.mk ((by rw [hg]; exact (below_size (by repeat (first | (with_reducible first | exact HB.out | apply below_alloc | apply pw_below_drewN | apply below_drew1) | exact HB.out))) : w.heap.size ≤ gb132)); clear HB; have HB := n0_; have BK132 := n1_; have GW132 := n2_; have GE132 := n3_; clear n0_ n1_ n2_ n3_; clear hb hbox hg))
  (try simp only [Act.put, List.setIfInBounds_toArray, List.set_cons_zero, List.set_cons_succ])
  go_cut [10] (fun v10 wc => ∃ (kq : Nat) (x10_1 : Bool), v10 = .bool x10_1 ∧ Aside0 (block_New.j0 kq a0 x10_1 = some (r1, r2, r3)) ∧ Aside0 (kq ≤ k) ∧ Aside0 (wc.heap[gb132]? = some (.cells #[(.slice none 0 0), (.slice none 0 0)] 25 (0, 0))) ∧ Aside0 (Below w.heap.size w wc))
  case first =>
    have H := HC2.out
    clear HC2
    by_cases c4 : a0 < 0
    · rw [if_pos c4] at H
      have c4b0 : decide (a0 < 0) = true := decide_eq_true c4
      clear c4
      (first | rw [c4b0] | (simp only [i64_w, i32_w]; rw [c4b0]) | skip)
      have H' := Aside0.mk H
      clear H
      go_wp2
      go_meet
      case rel => exact ⟨_, (true), (by first | rfl | (simp; done) | (simp [*]; done)), H', ⟨by first | omega | exact Nat.le_refl _⟩, ⟨by (with_reducible repeat (first | refine blk_drewN ?_ _ | refine blk_drew ?_ | refine blk_alloc ?_ _)); exact BK132.out⟩, ⟨by repeat (first | (with_reducible first | exact HB.out | apply below_alloc | apply pw_below_drewN | apply below_drew1 | refine below_set ?_ GE132.out) | exact HB.out)⟩⟩
    · rw [if_neg c4] at H
      have c4b0 : decide (a0 < 0) = false := decide_eq_false c4
      clear c4
      (first | rw [c4b0] | (simp only [i64_w, i32_w]; rw [c4b0]) | skip)
      have H' := Aside0.mk H
      clear H
      go_wp2
      go_meet
      case rel => exact ⟨_, (decide (a0 > 4096)), (by first | rfl | (simp; done) | (simp [*]; done)), H', ⟨by first | omega | exact Nat.le_refl _⟩, ⟨by (with_reducible repeat (first | refine blk_drewN ?_ _ | refine blk_drew ?_ | refine blk_alloc ?_ _)); exact BK132.out⟩, ⟨by repeat (first | (with_reducible first | exact HB.out | apply below_alloc | apply pw_below_drewN | apply below_drew1 | refine below_set ?_ GE132.out) | exact HB.out)⟩⟩
  case rest =>
    clear HC2
    try clear c1
    try clear p2
    try clear c4
    try clear c4b0
    obtain ⟨kq, x10_1, rfl, HA, HJ1, BK132, HB⟩ := hcut
    cases kq with
    | zero => exact absurd HA.out (by simp [block_New.j0])
    | succ kj1 =>
      have H := HA.out
      clear HA
      simp only [block_New.j0] at H
      by_cases c5 : x10_1 = true
      · subst c5
        have H1 : (some (([] : List (List Int)), ([] : List (S57)), 1)) = some (r1, r2, r3) := by rw [if_pos rfl] at H; exact H
        clear H
        have H := H1
        clear H1
        simp only [Option.some.injEq, Prod.mk.injEq] at H
        obtain ⟨rfl, rfl, rfl⟩ := H
        have hcz6_0 : wc.cell? ⟨gb132, 0, none⟩ = some (.slice none 0 0) := (blk_cell BK132.out 0).trans rfl
        have hcz6_1 : wc.cell? ⟨gb132, 1, none⟩ = some (.slice none 0 0) := (blk_cell BK132.out 1).trans rfl
        have hfz6_0 := blk_frozen BK132.out 0
        have hfz6_1 := blk_frozen BK132.out 1
        go_wp2
        refine bodyPost_ret (results_ct rfl _ _ gb132 25 #[.slice none 0 0, .slice none 0 0] (0, 0) _ rfl (by (with_reducible repeat (first | refine blk_drewN ?_ _ | refine blk_drew ?_ | refine blk_alloc ?_ _)); refine blk_put (cs := #[.slice none 0 0, .slice none 0 0]) ?_ 1 _ rfl; (with_reducible repeat (first | refine blk_drewN ?_ _ | refine blk_drew ?_ | refine blk_alloc ?_ _)); refine blk_put (cs := #[.slice none 0 0, .slice none 0 0]) ?_ 0 _ rfl; (with_reducible repeat (first | refine blk_drewN ?_ _ | refine blk_drew ?_ | refine blk_alloc ?_ _)); exact BK132.out) Try.underlying25 rfl (by kernel_rfl)) rfl ?_
        exact ⟨_, _, by first | rfl | (simp [errW_none, errW_some] <;> rfl) | (simp [*, errW_none, errW_some] <;> rfl), by first | exact Kd.S_nil _ _ _ _ _ | exact Kd.N_nil _ _ _ _ _ | exact Kd.V_nil _ _ _ _ _ | exact Kd.Q_nil _ _ _ _ _ | exact Kd.R_nil _ _ _ _ _, by first | exact Kd.S_nil _ _ _ _ _ | exact Kd.N_nil _ _ _ _ _ | exact Kd.V_nil _ _ _ _ _ | exact Kd.Q_nil _ _ _ _ _ | exact Kd.R_nil _ _ _ _ _, by repeat (first | (with_reducible first | exact HB.out | apply below_alloc | apply pw_below_drewN | apply below_drew1 | refine below_set ?_ GE132.out) | exact HB.out)⟩
      · replace c5 := Bool.eq_false_iff.mpr c5
        subst c5
        have H1 : (block_New.l0 kj1 a0 0 ([] : List (List Int))) = some (r1, r2, r3) := by rw [if_neg (show ¬ (false = true) by decide)] at H; exact H
        clear H
        have H := H1
        clear H1
        have H' := Aside0.mk H
        clear H
        go_wp2_with (first | ((with_reducible refine gate_dst (N := 4) rfl ?_); refine box_event ?hg (N := 4) ?hd (cs := #[.slice none 0 0, .slice none 0 0]) (t := 25) ?hr ?_; (case hd => rfl); (case hg => rfl); (case hr => first | (go_simp; done) | (go_simp; rfl)); intro gb133 hg w7 hbox hb; have n0_ := Aside0.mk (blk_below (g := gb132) (o := .cells #[.slice none 0 0, .slice none 0 0] 25 (0, 0)) (by (with_reducible repeat (first | refine blk_drewN ?_ _ | refine blk_drew ?_ | refine blk_alloc ?_ _)); exact BK132.out) hb); have n1_ := Aside0.mk (below_step (by repeat (first | (with_reducible first | exact HB.out | apply below_alloc | apply pw_below_drewN | apply below_drew1 | refine below_set ?_ GE132.out) | exact HB.out)) hb); have n2_ := Aside0.mk (hbox); have n3_ := Aside0.mk ((by rw [hg]; exact (below_size (by repeat (first | (with_reducible first | exact HB.out | apply below_alloc | apply pw_below_drewN | apply below_drew1 | refine below_set ?_ GE132.out) | exact HB.out))) : w.heap.size ≤ gb133)); have n4_ := Aside0.mk ((by rw [hg]; exact (below_size (by repeat (first | (with_reducible first | exact HB.out | apply below_alloc | apply pw_below_drewN | apply below_drew1 | refine below_set ?_ GE132.out) | exact HB.out))) : w.heap.size ≤ gb133)); have n5_ := Aside0.mk ((by rw [hg]; exact Nat.ne_of_lt (blk_lt (g := gb132) (o := .cells #[.slice none 0 0, .slice none 0 0] 25 (0, 0)) (by (with_reducible repeat (first | refine blk_drewN ?_ _ | refine blk_drew ?_ | refine blk_alloc ?_ _)); exact BK132.out)) : gb132 ≠ gb133)); have n6_ := Aside0.mk ((by rw [hg]; exact Nat.ne_of_gt (blk_lt (g := gb132) (o := .cells #[.slice none 0 0, .slice none 0 0] 25 (0, 0)) (by (with_reducible repeat (first | refine blk_drewN ?_ _ | refine blk_drew ?_ | refine blk_alloc ?_ _)); exact BK132.out)) : gb133 ≠ gb132)); clear BK132; clear HB; have BK132 := n0_; have HB := n1_; have BK133 := n2_; have GW133 := n3_; have GE133 := n4_; have NB132_133 := n5_; have NB133_132 := n6_; clear n0_ n1_ n2_ n3_ n4_ n5_ n6_; clear hb hbox hg))
        go_loopg [13] kj1 (fun kq v13 w' => ∃ (x13_2 : Int) (x134000_2 : List (List Int)) (u134000 : Value), v13 = .int .i64 x13_2 ∧ Aside0 (block_New.l0 kq a0 x13_2 x134000_2 = some (r1, r2, r3)) ∧ Aside0 (kq ≤ kj1) ∧ Aside0 (Kd.S (Kd.slice 5 (Kd.int .u8)) 28 w' w.heap.size (fun _ => True) u134000 x134000_2) ∧ Aside0 (w'.heap[gb132]? = some (.cells #[(.slice none 0 0), (.slice none 0 0)] 25 (0, 0))) ∧ Aside0 (w'.heap[gb133]? = some (.cells #[u134000, (.slice none 0 0)] 25 (0, 0))) ∧ Aside0 (Below w.heap.size w w'))
        case atStart => exact ⟨(0), (([] : List (List Int))), (.slice none 0 0), (by first | rfl | (simp; done) | (simp [*]; done)), H', ⟨Nat.le_refl _⟩, ⟨by first | exact Kd.S_nil _ _ _ _ _ | exact Kd.N_nil _ _ _ _ _ | exact Kd.V_nil _ _ _ _ _ | exact Kd.Q_nil _ _ _ _ _ | exact Kd.R_nil _ _ _ _ _⟩, ⟨by (with_reducible repeat (first | refine blk_drewN ?_ _ | refine blk_drew ?_ | refine blk_alloc ?_ _)); exact BK132.out⟩, ⟨by (with_reducible repeat (first | refine blk_drewN ?_ _ | refine blk_drew ?_ | refine blk_alloc ?_ _)); exact BK133.out⟩, ⟨by repeat (first | (with_reducible first | exact HB.out | apply below_alloc | apply pw_below_drewN | apply below_drew1 | refine below_set ?_ GE132.out | refine below_set ?_ GE133.out) | exact HB.out)⟩⟩
        case round =>
          clear H'
          try clear c1
          try clear p2
          try clear c4
          try clear c4b0
          try clear c5
          try clear hcz6_0
          try clear hcz6_1
          try clear hfz6_0
          try clear hfz6_1
          try clear p2
          obtain ⟨x13_2, x134000_2, u134000, rfl, HA, HK2, HO_134000, BK132, BK133, HB⟩ := hrel
          cases gk with
          | zero => exact absurd HA.out (by simp [block_New.l0])
          | succ k2 =>
            have H := HA.out
            clear HA
            simp only [block_New.l0] at H
            by_cases c8 : x13_2 < a0
            · rw [if_pos c8] at H
              have c8b0 : decide (x13_2 < a0) = true := decide_eq_true c8
              clear c8
              by_cases c9 : 64 ≤ 281474976710656
              · rw [if_pos c9] at H
                have c9b0 := eq_true c9
                have c9b1 : decide (64 ≤ 281474976710656) = true := decide_eq_true c9
                clear c9
                obtain ⟨y134, hy134⟩ : ∃ y_ : List Int, y_ = (List.replicate 64 0) := ⟨_, rfl⟩
                replace H : (if x134000_2.length < 5864062014805 then (block_New.l0 k2 a0 (wrap64 (x13_2 + 1)) (x134000_2 ++ [y134])) else (none)) = some (r1, r2, r3) := by first | (rw [hy134]; with_reducible exact H) | (have H2_ := (Option.bind_some _ _).symm.trans H; rw [hy134]; with_reducible exact H2_) | (have H2_ := (Option.bind_some _ _).symm.trans H; with_reducible exact H2_) | with_reducible exact H | (rw [hy134]; exact H) | exact H
                have Ny134 := Aside0.mk hy134
                clear hy134
                by_cases c10 : x134000_2.length < 5864062014805
                · rw [if_pos c10] at H
                  have LMc10 := Aside0.mk c10
                  clear c10
                  obtain ⟨y137, hy137⟩ : ∃ y_ : List (List Int), y_ = (x134000_2 ++ [y134]) := ⟨_, rfl⟩
                  replace H : (block_New.l0 k2 a0 (wrap64 (x13_2 + 1)) y137) = some (r1, r2, r3) := by first | (rw [hy137]; with_reducible exact H) | (have H2_ := (Option.bind_some _ _).symm.trans H; rw [hy137]; with_reducible exact H2_) | (have H2_ := (Option.bind_some _ _).symm.trans H; with_reducible exact H2_) | with_reducible exact H | (rw [hy137]; exact H) | exact H
                  have Ny137 := Aside0.mk hy137
                  clear hy137
                  have H' := Aside0.mk H
                  clear H
                  try go_wp2
                  have n0_ := Aside0.mk (Kd.S_drew HO_134000.out)
                  have n1_ := Aside0.mk (blk_drew BK132.out)
                  have n2_ := Aside0.mk (blk_drew BK133.out)
                  have n3_ := Aside0.mk (below_drew1 HB.out)
                  clear HO_134000
                  clear BK132
                  clear BK133
                  clear HB
                  have HO_134000 := n0_
                  have BK132 := n1_
                  have BK133 := n2_
                  have HB := n3_
                  clear n0_ n1_ n2_ n3_
                  refine start_ (n := 7) (S := fun w' => w'.cell? ⟨gb133, 0, none⟩ = some (u134000) ∧ w'.cell? ⟨gb133, 1, none⟩ = some (.slice none 0 0)) (ds := [6]) #[false, false, false, false, false, false, false] (by kernel_rfl) rfl rfl ⟨(blk_cell BK133.out 0).trans rfl, (blk_cell BK133.out 1).trans rfl⟩ (fun hHeld => ?_)
                  generalize wr.drew = w11 at HO_134000 BK132 BK133 HB hHeld ⊢
                  refine pure_ (i := 0) (N := some 15) (v := ?_) (a' := ?_) #[true, false, false, false, false, false, false] rfl rfl (by kernel_rfl) (fun _ _ _ h => h) (Or.inl ⟨by rfl, ?_⟩) ?_ ?_
                  rotate_left
                  · intro w'
                    go_simp
                    with_reducible rfl
                  rotate_left
                  · simp only [Act.put, List.setIfInBounds_toArray, List.set_cons_zero, List.set_cons_succ, i64_w, i32_w]
                    rfl
                  refine take_ (i := 1) (N := some 16) (v := ?_) (a' := ?_) #[true, true, false, false, false, false, false] rfl rfl (by kernel_rfl) (fun _ _ _ h => h) (Or.inl ⟨by rfl, ?_⟩) hHeld ?_ ?_
                  rotate_left
                  · rintro w' ⟨s0, s1⟩
                    go_simp
                    with_reducible rfl
                  rotate_left
                  · simp only [Act.put, List.setIfInBounds_toArray, List.set_cons_zero, List.set_cons_succ, i64_w, i32_w]
                    rfl
                  refine one_ (i := 2) (N := some 17) #[true, true, true, false, false, false, false] rfl rfl (by kernel_rfl) (by decide) (fun K hK => ?_)
                  refine Kd.R_make_step (Kd.int .u8) _ 5 (by rfl) (N := 17) rfl 28 _ _ rfl 64 rfl rfl Try.underlying28 (.int .u8 0) 1 info5 rfl (by decide) (by omega) 0 (ok := fun _ => True) (okp := fun _ => True) rfl (fun _ hk => hk) trivial (by omega) (by omega) (Below.refl _ _) (Nat.le_refl _) ?_
                  intro v135 w12 ho13 hb hg_ hnew_
                  clear hg_ hnew_
                  (first | rw [← Ny134.out] at ho13 | (simp only [Int.reduceToNat] at ho13; rw [← Ny134.out] at ho13))
                  have n0_ := Aside0.mk (Kd.S_elder' (by (with_reducible repeat (first | apply Kd.S_alloc | apply Kd.S_drewN | apply Kd.S_drew)); exact HO_134000.out) (Kd.R_base ho13) hb)
                  have n1_ := Aside0.mk (Kd.R_lower ho13 (below_size (by repeat (first | (with_reducible first | exact HB.out | apply below_alloc | apply pw_below_drewN | apply below_drew1 | refine below_set ?_ GE132.out | refine below_set ?_ GE133.out) | exact HB.out))))
                  have n2_ := Aside0.mk (blk_below (g := gb132) (o := .cells #[.slice none 0 0, .slice none 0 0] 25 (0, 0)) (by (with_reducible repeat (first | refine blk_drewN ?_ _ | refine blk_drew ?_ | refine blk_alloc ?_ _)); exact BK132.out) hb)
                  have n3_ := Aside0.mk (blk_below (g := gb133) (o := .cells #[u134000, .slice none 0 0] 25 (0, 0)) (by (with_reducible repeat (first | refine blk_drewN ?_ _ | refine blk_drew ?_ | refine blk_alloc ?_ _)); exact BK133.out) hb)
                  have n4_ := Aside0.mk (below_step (by repeat (first | (with_reducible first | exact HB.out | apply below_alloc | apply pw_below_drewN | apply below_drew1 | refine below_set ?_ GE132.out | refine below_set ?_ GE133.out) | exact HB.out)) hb)
                  clear HO_134000
                  clear BK132
                  clear BK133
                  clear HB
                  have HO_134000 := n0_
                  have HO136 := n1_
                  have BK132 := n2_
                  have BK133 := n3_
                  have HB := n4_
                  clear n0_ n1_ n2_ n3_ n4_
                  clear hb ho13
                  obtain ⟨Ao15, co15, eo15⟩ := Kd.R_slice HO136.out
                  (first | subst eo15 | (injection eo15 with f1_ f2_ f3_; have f4_ := f1_.symm; have f5_ := f3_.symm; clear f1_ f2_ f3_; subst f4_; subst f5_))
                  refine hK.out _ _ ⟨(blk_cell BK133.out 0).trans rfl, (blk_cell BK133.out 1).trans rfl⟩ (fun hHeld => ?_)
                  clear hK K
                  refine norm_ (a' := ?_) ?_ ?_
                  rotate_left
                  · show Act.put _ (some 17) _ = _
                    simp only [Act.put, List.setIfInBounds_toArray, List.set_cons_zero, List.set_cons_succ, i64_w, i32_w]
                    rfl
                  refine one_ (i := 3) (N := some 18) #[true, true, true, true, false, false, false] rfl rfl (by kernel_rfl) (by decide) (fun K hK => ?_)
                  refine value_ (w1 := ?_) (v := ?_) (by rfl) rfl ?_ ?_
                  rotate_left 2
                  · go_simp
                    constructor
                    · rfl
                    · rfl
                  refine hK.out _ _ ⟨(blk_cell (blk_alloc BK133.out _) 0).trans rfl, (blk_cell (blk_alloc BK133.out _) 1).trans rfl⟩ (fun hHeld => ?_)
                  clear hK K
                  refine norm_ (a' := ?_) ?_ ?_
                  rotate_left
                  · show Act.put _ (some 18) _ = _
                    simp only [Act.put, List.setIfInBounds_toArray, List.set_cons_zero, List.set_cons_succ, i64_w, i32_w]
                    rfl
                  refine one_ (i := 4) (N := some 19) #[true, true, true, true, true, false, false] rfl rfl (by kernel_rfl) (by decide) (fun K hK => ?_)
                  refine Kd.S_append_step (Kd.slice 5 (Kd.int .u8)) (w0 := w) w.heap.size (by rfl) (.tmp 16) (.tmp 18) 22 28 (.slice none 0 0) 24 rfl Try.underlying22 info28 rfl (by decide) (by omega) u134000 x134000_2 y134 [.slice Ao15 y134.length co15] (fun _ => True) (fun k_ => some k_ = (.slice Ao15 y134.length co15 : Value).ownBlock) rfl rfl ?aP (fun k_ hk_ => ((Kd.R_mono (ok' := fun k_ => ((fun _ => True)) k_ ∧ some k_ ≠ (u134000 : Value).ownBlock) (Kd.R_apart' (HO136.out) (Kd.S_typed HO_134000.out) (by decide)) (fun k_ hk => ⟨trivial, hk.2⟩))).1 k_ hk_.symm) ?aF ?aO ?aB ?aS ?aL ?_
                  (case aP => exact Kd.M_row (Kd.R_mono (Kd.R_tight rfl (Kd.R_mono (ok' := fun k_ => ((fun _ => True)) k_ ∧ some k_ ≠ (u134000 : Value).ownBlock) (Kd.R_apart' (HO136.out) (Kd.S_typed HO_134000.out) (by decide)) (fun k_ hk => ⟨trivial, hk.2⟩))) (fun _ h_ => h_)))
                  (case aB => exact (by repeat (first | (with_reducible first | exact HB.out | apply below_alloc | apply pw_below_drewN | apply below_drew1 | refine below_set ?_ GE132.out | refine below_set ?_ GE133.out) | exact HB.out)))
                  (case aF => exact (fun _ _ => trivial))
                  (case aO => exact (by (with_reducible repeat (first | apply Kd.S_alloc | apply Kd.S_drewN | apply Kd.S_drew)); exact Kd.S_mono HO_134000.out (fun k_ hk => ⟨trivial, fun e_ => hk.2 e_⟩)))
                  (case aS => exact (below_size (by repeat (first | (with_reducible first | exact HB.out | apply below_alloc | apply pw_below_drewN | apply below_drew1 | refine below_set ?_ GE132.out | refine below_set ?_ GE133.out) | exact HB.out))))
                  (case aL => have := LMc10.out; omega)
                  intro v138 w14 ho hb hg hat
                  rw [← Ny137.out] at ho
                  have n0_ := Aside0.mk (blk_grown (g := gb132) (o := .cells #[.slice none 0 0, .slice none 0 0] 25 (0, 0)) (by (with_reducible repeat (first | refine blk_drewN ?_ _ | refine blk_drew ?_ | refine blk_alloc ?_ _)); exact BK132.out) hg (Kd.S_ne HO_134000.out BK132.out (by decide)))
                  have n1_ := Aside0.mk (blk_grown (g := gb133) (o := .cells #[u134000, .slice none 0 0] 25 (0, 0)) (by (with_reducible repeat (first | refine blk_drewN ?_ _ | refine blk_drew ?_ | refine blk_alloc ?_ _)); exact BK133.out) hg (Kd.S_ne HO_134000.out BK133.out (by decide)))
                  have n2_ := Aside0.mk (hb)
                  have n3_ := Aside0.mk (ho)
                  clear BK132
                  clear BK133
                  clear HB
                  clear HO_134000
                  clear HO136
                  have BK132 := n0_
                  have BK133 := n1_
                  have HB := n2_
                  have HO139 := n3_
                  clear n0_ n1_ n2_ n3_
                  clear ho hb hg hat
                  obtain ⟨Ao16, co16, eo16⟩ := Kd.S_slice HO139.out
                  (first | subst eo16 | (injection eo16 with f1_ f2_ f3_; have f4_ := f1_.symm; have f5_ := f3_.symm; clear f1_ f2_ f3_; subst f4_; subst f5_))
                  refine hK.out _ _ ⟨(blk_cell BK133.out 0).trans rfl, (blk_cell BK133.out 1).trans rfl⟩ (fun hHeld => ?_)
                  clear hK K
                  refine norm_ (a' := ?_) ?_ ?_
                  rotate_left
                  · show Act.put _ (some 19) _ = _
                    simp only [Act.put, List.setIfInBounds_toArray, List.set_cons_zero, List.set_cons_succ, i64_w, i32_w]
                    rfl
                  refine pure_ (i := 5) (N := some 20) (v := ?_) (a' := ?_) #[true, true, true, true, true, true, false] rfl rfl (by kernel_rfl) (fun _ _ _ h => h) (Or.inl ⟨by rfl, ?_⟩) ?_ ?_
                  rotate_left
                  · intro w'
                    go_simp
                    with_reducible rfl
                  rotate_left
                  · simp only [Act.put, List.setIfInBounds_toArray, List.set_cons_zero, List.set_cons_succ, i64_w, i32_w]
                    rfl
                  refine last_ (i := 6) (N := none) #[true, true, true, true, true, true, true] rfl rfl (by kernel_rfl) (by decide) (fun K hK => ?_)
                  have hs17 : w14.cell? ⟨gb133, 0, none⟩ = some (u134000) := (blk_cell BK133.out 0).trans rfl
                  have hfs17 := blk_frozen BK133.out 0
                  have hns17_0 := NB132_133.out
                  have hms17_0 := NB133_132.out
                  refine skip_ (w1 := ?_) (by rfl) rfl ?_ ?_
                  rotate_left
                  · go_simp
                    rfl
                  refine hK.out _ _ ?_
                  clear hK K
                  refine done_ (by kernel_rfl) ?_
                  try go_wp2
                  go_roundg k2
                  case measure => have := HJ1.out; have := HK2.out; omega
                  case rel => exact ⟨(wrap64 (x13_2 + 1)), (y137), (.slice Ao16 y137.length co16), (by first | rfl | (simp; done) | (simp [*]; done)), H', ⟨by have := HJ1.out; have := HK2.out; omega⟩, ⟨by (with_reducible repeat (first | apply Kd.S_alloc | apply Kd.S_drewN | apply Kd.S_drew)); exact Kd.S_mono (Kd.S_far (p := ⟨gb133, 0, none⟩) (Kd.S_types HO139.out BK133.out (by decide)) (fun _ hk => hk.2) (.slice Ao16 y137.length co16)) (fun _ hk => trivial)⟩, ⟨by (with_reducible repeat (first | refine blk_drewN ?_ _ | refine blk_drew ?_ | refine blk_alloc ?_ _)); refine blk_far ?_ NB132_133.out _; (with_reducible repeat (first | refine blk_drewN ?_ _ | refine blk_drew ?_ | refine blk_alloc ?_ _)); exact BK132.out⟩, ⟨by (with_reducible repeat (first | refine blk_drewN ?_ _ | refine blk_drew ?_ | refine blk_alloc ?_ _)); refine blk_put (cs := #[u134000, .slice none 0 0]) ?_ 0 _ rfl; (with_reducible repeat (first | refine blk_drewN ?_ _ | refine blk_drew ?_ | refine blk_alloc ?_ _)); exact BK133.out⟩, ⟨by repeat (first | (with_reducible first | exact HB.out | apply below_alloc | apply pw_below_drewN | apply below_drew1 | refine below_set ?_ GE132.out | refine below_set ?_ GE133.out) | exact HB.out)⟩⟩
                · rw [if_neg c10] at H
                  exact absurd H (by simp)
              · rw [if_neg c9] at H
                exact absurd H (by simp)
            · rw [if_neg c8] at H
              have c8b0 : decide (x13_2 < a0) = false := decide_eq_false c8
              clear c8
              simp only [Option.some.injEq, Prod.mk.injEq] at H
              obtain ⟨rfl, rfl, rfl⟩ := H
              have hnb18 := NB133_132.out
              have hnc18 := NB132_133.out
              have hcz19_0 : wr.cell? ⟨gb133, 0, none⟩ = some (u134000) := (blk_cell BK133.out 0).trans rfl
              have hcz19_1 : wr.cell? ⟨gb133, 1, none⟩ = some (.slice none 0 0) := (blk_cell BK133.out 1).trans rfl
              have hfz19_0 := blk_frozen BK133.out 0
              have hfz19_1 := blk_frozen BK133.out 1
              obtain ⟨Ao20, co20, eo20⟩ := Kd.S_slice HO_134000.out
              subst eo20
              have hcz21_0 : wr.cell? ⟨gb132, 0, none⟩ = some (.slice none 0 0) := (blk_cell BK132.out 0).trans rfl
              have hcz21_1 : wr.cell? ⟨gb132, 1, none⟩ = some (.slice none 0 0) := (blk_cell BK132.out 1).trans rfl
              have hfz21_0 := blk_frozen BK132.out 0
              have hfz21_1 := blk_frozen BK132.out 1
              go_wp2
              refine bodyPost_ret (results_ct rfl _ _ gb132 25 #[.slice Ao20 x134000_2.length co20, .slice none 0 0] (0, 0) _ rfl (by (with_reducible repeat (first | refine blk_drewN ?_ _ | refine blk_drew ?_ | refine blk_alloc ?_ _)); refine blk_put (cs := #[.slice Ao20 x134000_2.length co20, .slice none 0 0]) ?_ 1 _ rfl; (with_reducible repeat (first | refine blk_drewN ?_ _ | refine blk_drew ?_ | refine blk_alloc ?_ _)); refine blk_put (cs := #[.slice none 0 0, .slice none 0 0]) ?_ 0 _ rfl; (with_reducible repeat (first | refine blk_drewN ?_ _ | refine blk_drew ?_ | refine blk_alloc ?_ _)); exact BK132.out) Try.underlying25 rfl (by kernel_rfl)) rfl ?_
              exact ⟨_, _, by first | rfl | (simp [errW_none, errW_some] <;> rfl) | (simp [*, errW_none, errW_some] <;> rfl), by (with_reducible repeat (first | apply Kd.S_alloc | apply Kd.S_drewN | apply Kd.S_drew)); exact Kd.S_mono (Kd.S_far (p := ⟨gb132, 1, none⟩) (Kd.S_far (p := ⟨gb132, 0, none⟩) (Kd.S_types HO_134000.out BK132.out (by decide)) (fun _ hk => hk.2) (.slice Ao20 x134000_2.length co20)) (fun _ hk => hk.2) (.slice none 0 0)) (fun _ hk => trivial), by first | exact Kd.S_nil _ _ _ _ _ | exact Kd.N_nil _ _ _ _ _ | exact Kd.V_nil _ _ _ _ _ | exact Kd.Q_nil _ _ _ _ _ | exact Kd.R_nil _ _ _ _ _, by repeat (first | (with_reducible first | exact HB.out | apply below_alloc | apply pw_below_drewN | apply below_drew1 | refine below_set ?_ GE132.out | refine below_set ?_ GE133.out) | exact HB.out)⟩

end Go.Proofs.Ytiplneodkcjkmaa.P
