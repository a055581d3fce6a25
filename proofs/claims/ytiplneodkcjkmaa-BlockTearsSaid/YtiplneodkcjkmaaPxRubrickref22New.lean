-- Printed by this session's patched printer.
import Derived.Test.YtiplneodkcjkmaaPx0
namespace Go.Proofs.Ytiplneodkcjkmaa.P
open Go.RowKit Go.Proofs.YtiplneodkcjkmaaW.PrintWords Go.Proofs.YtiplneodkcjkmaaW.PrintLast Go.Proofs.YtiplneodkcjkmaaW.PrintMore
attribute [local go_sem] Go.Instr.field Go.part Go.asAgg max2_int min2_int max_two min_two max_three min_three max_four min_four   -- for this text's walks alone
set_option linter.unusedVariables false
set_option linter.unusedSimpArgs false

/-! ### rubrickref22_New: function 20 -/
def rubrickref22_New.l0 : Nat → Int → Int → List (List Int) → Option ((List (List Int)) × (List (S59)))
  | 0, _, _, _ => none
  | k + 1, x0, x4, x225000 => if x4 < x0 then (if 64 ≤ 281474976710656 then (if x225000.length < 5864062014805 then (rubrickref22_New.l0 k x0 (wrap64 (x4 + 1)) (x225000 ++ [(List.replicate 64 0)])) else (none)) else (none)) else (some (x225000, ([] : List (S59))))
def rubrickref22_New.f (k : Nat) (a0 : Int) : Option ((List (List Int)) × (List (S59))) := rubrickref22_New.l0 k a0 0 ([] : List (List Int))
theorem rubrickref22_New.mono_l : ∀ k, (∀ y0 y1 y2, LeO (rubrickref22_New.l0 k y0 y1 y2) (rubrickref22_New.l0 (k + 1) y0 y1 y2))
  | 0 => fun _ _ _ r h => by simp [rubrickref22_New.l0] at h
  | k + 1 => by
    have ih0 := rubrickref22_New.mono_l k
    · intro y0 y1 y2
      unfold rubrickref22_New.l0
      repeat' first
      | (with_reducible exact ih0 _ _ _)
      | (with_reducible exact LeO.refl _)
      | (with_reducible exact LeO.none _)
      | (with_reducible refine LeO.ite ?_ ?_)
      | (with_reducible refine LeO.bind ?_ (fun _ => ?_))
      | exact ih0 _ _ _
      | exact LeO.none _
      | refine LeO.ite ?_ ?_
      | refine LeO.bind ?_ (fun _ => ?_)
theorem rubrickref22_New.mono : ∀ a0 k, LeO (rubrickref22_New.f k a0) (rubrickref22_New.f (k + 1) a0) := by
  intro a0 k
  have ih0 := rubrickref22_New.mono_l k
  unfold rubrickref22_New.f
  repeat' first
      | (with_reducible exact ih0 _ _ _)
      | (with_reducible exact LeO.refl _)
      | (with_reducible exact LeO.none _)
      | (with_reducible refine LeO.ite ?_ ?_)
      | (with_reducible refine LeO.bind ?_ (fun _ => ?_))
      | exact ih0 _ _ _
      | exact LeO.none _
      | refine LeO.ite ?_ ?_
      | refine LeO.bind ?_ (fun _ => ?_)
set_option maxHeartbeats 8000000 in
set_option maxRecDepth 100000 in
theorem rubrickref22_New.calls (k : Nat) (a0 : Int) (r1 : List (List Int)) (r2 : List (S59)) (w : World) (h : rubrickref22_New.f k a0 = some (r1, r2)) :
    Calls Try.prog 20 #[.int .i64 a0] w fun e w' => ∃ v0_ v1_ : Value, e = .returned (.agg #[v0_, v1_]) ∧ Kd.S (Kd.slice 5 (Kd.int .u8)) 28 w' w.heap.size (fun _ => True) v0_ r1 ∧ Kd.S k59 59 w' w.heap.size (fun _ => True) v1_ r2 ∧ Below w.heap.size w w' := by
  have hu34 := Try.underlying34
  have HB := Aside0.mk (Below.refl w.heap.size w)
  have H : (rubrickref22_New.l0 k a0 0 ([] : List (List Int))) = some (r1, r2) := h
  clear h
  have H' := Aside0.mk H
  clear H
  go_enter Try.func20, Try.ntmps20
  go_wp2_with (first | ((with_reducible refine gate_dst (N := 2) rfl ?_); refine box_event ?hg (N := 2) ?hd (cs := #[.slice none 0 0, .slice none 0 0]) (t := 34) ?hr ?_; (case hd => rfl); (case hg => rfl); (case hr => first | (go_simp; done) | (go_simp; rfl)); intro gb223 hg w2 hbox hb; have n0_ := Aside0.mk (below_step (by repeat (first | (with_reducible first | exact HB.out | apply below_alloc | apply pw_below_drewN | apply below_drew1) | exact HB.out)) hb); have n1_ := Aside0.mk (hbox); have n2_ := Aside0.mk ((by rw [hg]; exact (below_size (by repeat (first | (with_reducible first | exact HB.out | apply below_alloc | apply pw_below_drewN | apply below_drew1) | exact HB.out))) : w.heap.size ≤ gb223)); have n3_ := Aside0.mk ((by rw [hg]; exact (below_size (by repeat (first | (with_reducible first | exact HB.out | apply below_alloc | apply pw_below_drewN | apply below_drew1) | exact HB.out))) : w.heap.size ≤ gb223)); clear HB; have HB := n0_; have BK223 := n1_; have GW223 := n2_; have GE223 := n3_; clear n0_ n1_ n2_ n3_; clear hb hbox hg) | ((with_reducible refine gate_dst (N := 3) rfl ?_); refine box_event ?hg (N := 3) ?hd (cs := #[.slice none 0 0, .slice none 0 0]) (t := 34) ?hr ?_; (case hd => rfl); (case hg => rfl); (case hr => first | (go_simp; done) | (go_simp; rfl)); intro gb224 hg w3 hbox hb; have n0_ := Aside0.mk (blk_below (g := gb223) (o := .cells #[.slice none 0 0, .slice none 0 0] 34 (0, 0)) (by (with_reducible repeat (first | refine blk_drewN ?_ _ | refine blk_drew ?_ | refine blk_alloc ?_ _)); exact BK223.out) hb); have n1_ := Aside0.mk (below_step (by repeat (first | (with_reducible first | exact HB.out | apply below_alloc | apply pw_below_drewN | apply below_drew1 | refine below_set ?_ GE223.out) | exact HB.out)) hb); have n2_ := Aside0.mk (hbox); have n3_ := Aside0.mk ((by rw [hg]; exact (below_size (by repeat (first | (with_reducible first | exact HB.out | apply below_alloc | apply pw_below_drewN | apply below_drew1 | refine below_set ?_ GE223.out) | exact HB.out))) : w.heap.size ≤ gb224)); have n4_ := Aside0.mk ((by rw [hg]; exact (below_size (by repeat (first | (with_reducible first | exact HB.out | apply below_alloc | apply pw_below_drewN | apply below_drew1 | refine below_set ?_ GE223.out) | exact HB.out))) : w.heap.size ≤ gb224)); have n5_ := Aside0.mk ((by rw [hg]; exact Nat.ne_of_lt (blk_lt (g := gb223) (o := .cells #[.slice none 0 0, .slice none 0 0] 34 (0, 0)) (by (with_reducible repeat (first | refine blk_drewN ?_ _ | refine blk_drew ?_ | refine blk_alloc ?_ _)); exact BK223.out)) : gb223 ≠ gb224)); have n6_ := Aside0.mk ((by rw [hg]; exact Nat.ne_of_gt (blk_lt (g := gb223) (o := .cells #[.slice none 0 0, .slice none 0 0] 34 (0, 0)) (by (with_reducible repeat (first | refine blk_drewN ?_ _ | refine blk_drew ?_ | refine blk_alloc ?_ _)); exact BK223.out)) : gb224 ≠ gb223)); clear BK223; clear HB; have BK223 := n0_; have HB := n1_; have BK224 := n2_; have GW224 := n3_; have GE224 := n4_; have NB223_224 := n5_; have NB224_223 := n6_; clear n0_ n1_ n2_ n3_ n4_ n5_ n6_; clear hb hbox hg))
  go_loopg [4] k (fun kq v4 w' => ∃ (x4_1 : Int) (x225000_1 : List (List Int)) (u225000 : Value), v4 = .int .i64 x4_1 ∧ Aside0 (rubrickref22_New.l0 kq a0 x4_1 x225000_1 = some (r1, r2)) ∧ Aside0 (kq ≤ k) ∧ Aside0 (Kd.S (Kd.slice 5 (Kd.int .u8)) 28 w' w.heap.size (fun _ => True) u225000 x225000_1) ∧ Aside0 (w'.heap[gb223]? = some (.cells #[(.slice none 0 0), (.slice none 0 0)] 34 (0, 0))) ∧ Aside0 (w'.heap[gb224]? = some (.cells #[u225000, (.slice none 0 0)] 34 (0, 0))) ∧ Aside0 (Below w.heap.size w w'))
  case atStart => exact ⟨(0), (([] : List (List Int))), (.slice none 0 0), (by first | rfl | (simp; done) | (simp [*]; done)), H', ⟨Nat.le_refl _⟩, ⟨by first | exact Kd.S_nil _ _ _ _ _ | exact Kd.N_nil _ _ _ _ _ | exact Kd.V_nil _ _ _ _ _ | exact Kd.Q_nil _ _ _ _ _ | exact Kd.R_nil _ _ _ _ _⟩, ⟨by (with_reducible repeat (first | refine blk_drewN ?_ _ | refine blk_drew ?_ | refine blk_alloc ?_ _)); exact BK223.out⟩, ⟨by (with_reducible repeat (first | refine blk_drewN ?_ _ | refine blk_drew ?_ | refine blk_alloc ?_ _)); exact BK224.out⟩, ⟨by repeat (first | (with_reducible first | exact HB.out | apply below_alloc | apply pw_below_drewN | apply below_drew1 | refine below_set ?_ GE223.out | refine below_set ?_ GE224.out) | exact HB.out)⟩⟩
  case round =>
    clear H'
    try clear c2
    try clear p2
    obtain ⟨x4_1, x225000_1, u225000, rfl, HA, HK1, HO_225000, BK223, BK224, HB⟩ := hrel
    cases gk with
    | zero => exact absurd HA.out (by simp [rubrickref22_New.l0])
    | succ k1 =>
      have H := HA.out
      clear HA
      simp only [rubrickref22_New.l0] at H
      by_cases c4 : x4_1 < a0
      · rw [if_pos c4] at H
        have c4b0 : decide (x4_1 < a0) = true := decide_eq_true c4
        clear c4
        by_cases c5 : 64 ≤ 281474976710656
        · rw [if_pos c5] at H
          have c5b0 := eq_true c5
          have c5b1 : decide (64 ≤ 281474976710656) = true := decide_eq_true c5
          clear c5
          obtain ⟨y225, hy225⟩ : ∃ y_ : List Int, y_ = (List.replicate 64 0) := ⟨_, rfl⟩
          replace H : (if x225000_1.length < 5864062014805 then (rubrickref22_New.l0 k1 a0 (wrap64 (x4_1 + 1)) (x225000_1 ++ [y225])) else (none)) = some (r1, r2) := by first | (rw [hy225]; with_reducible exact H) | (have H2_ := (Option.bind_some _ _).symm.trans H; rw [hy225]; with_reducible exact H2_) | (have H2_ := (Option.bind_some _ _).symm.trans H; with_reducible exact H2_) | with_reducible exact H | (rw [hy225]; exact H) | exact H
          have Ny225 := Aside0.mk hy225
          clear hy225
          by_cases c6 : x225000_1.length < 5864062014805
          · rw [if_pos c6] at H
            have LMc6 := Aside0.mk c6
            clear c6
            obtain ⟨y228, hy228⟩ : ∃ y_ : List (List Int), y_ = (x225000_1 ++ [y225]) := ⟨_, rfl⟩
            replace H : (rubrickref22_New.l0 k1 a0 (wrap64 (x4_1 + 1)) y228) = some (r1, r2) := by first | (rw [hy228]; with_reducible exact H) | (have H2_ := (Option.bind_some _ _).symm.trans H; rw [hy228]; with_reducible exact H2_) | (have H2_ := (Option.bind_some _ _).symm.trans H; with_reducible exact H2_) | with_reducible exact H | (rw [hy228]; exact H) | exact H
            have Ny228 := Aside0.mk hy228
            clear hy228
            have H' := Aside0.mk H
            clear H
            try go_wp2
            have n0_ := Aside0.mk (Kd.S_drew HO_225000.out)
            have n1_ := Aside0.mk (blk_drew BK223.out)
            have n2_ := Aside0.mk (blk_drew BK224.out)
            have n3_ := Aside0.mk (below_drew1 HB.out)
            clear HO_225000
            clear BK223
            clear BK224
            clear HB
            have HO_225000 := n0_
            have BK223 := n1_
            have BK224 := n2_
            have HB := n3_
            clear n0_ n1_ n2_ n3_
            refine start_ (n := 7) (S := fun w' => w'.cell? ⟨gb224, 0, none⟩ = some (u225000) ∧ w'.cell? ⟨gb224, 1, none⟩ = some (.slice none 0 0)) (ds := [6]) #[false, false, false, false, false, false, false] (by kernel_rfl) rfl rfl ⟨(blk_cell BK224.out 0).trans rfl, (blk_cell BK224.out 1).trans rfl⟩ (fun hHeld => ?_)
            generalize wr.drew = w7 at HO_225000 BK223 BK224 HB hHeld ⊢
            refine pure_ (i := 0) (N := some 10) (v := ?_) (a' := ?_) #[true, false, false, false, false, false, false] rfl rfl (by kernel_rfl) (fun _ _ _ h => h) (Or.inl ⟨by rfl, ?_⟩) ?_ ?_
            rotate_left
            · intro w'
              go_simp
              with_reducible rfl
            rotate_left
            · simp only [Act.put, List.setIfInBounds_toArray, List.set_cons_zero, List.set_cons_succ, i64_w, i32_w]
              rfl
            refine take_ (i := 1) (N := some 11) (v := ?_) (a' := ?_) #[true, true, false, false, false, false, false] rfl rfl (by kernel_rfl) (fun _ _ _ h => h) (Or.inl ⟨by rfl, ?_⟩) hHeld ?_ ?_
            rotate_left
            · rintro w' ⟨s0, s1⟩
              go_simp
              with_reducible rfl
            rotate_left
            · simp only [Act.put, List.setIfInBounds_toArray, List.set_cons_zero, List.set_cons_succ, i64_w, i32_w]
              rfl
            refine one_ (i := 2) (N := some 12) #[true, true, true, false, false, false, false] rfl rfl (by kernel_rfl) (by decide) (fun K hK => ?_)
            refine Kd.R_make_step (Kd.int .u8) _ 5 (by rfl) (N := 12) rfl 28 _ _ rfl 64 rfl rfl Try.underlying28 (.int .u8 0) 1 info5 rfl (by decide) (by omega) 0 (ok := fun _ => True) (okp := fun _ => True) rfl (fun _ hk => hk) trivial (by omega) (by omega) (Below.refl _ _) (Nat.le_refl _) ?_
            intro v226 w8 ho9 hb hg_ hnew_
            clear hg_ hnew_
            (first | rw [← Ny225.out] at ho9 | (simp only [Int.reduceToNat] at ho9; rw [← Ny225.out] at ho9))
            have n0_ := Aside0.mk (Kd.S_elder' (by (with_reducible repeat (first | apply Kd.S_alloc | apply Kd.S_drewN | apply Kd.S_drew)); exact HO_225000.out) (Kd.R_base ho9) hb)
            have n1_ := Aside0.mk (Kd.R_lower ho9 (below_size (by repeat (first | (with_reducible first | exact HB.out | apply below_alloc | apply pw_below_drewN | apply below_drew1 | refine below_set ?_ GE223.out | refine below_set ?_ GE224.out) | exact HB.out))))
            have n2_ := Aside0.mk (blk_below (g := gb223) (o := .cells #[.slice none 0 0, .slice none 0 0] 34 (0, 0)) (by (with_reducible repeat (first | refine blk_drewN ?_ _ | refine blk_drew ?_ | refine blk_alloc ?_ _)); exact BK223.out) hb)
            have n3_ := Aside0.mk (blk_below (g := gb224) (o := .cells #[u225000, .slice none 0 0] 34 (0, 0)) (by (with_reducible repeat (first | refine blk_drewN ?_ _ | refine blk_drew ?_ | refine blk_alloc ?_ _)); exact BK224.out) hb)
            have n4_ := Aside0.mk (below_step (by repeat (first | (with_reducible first | exact HB.out | apply below_alloc | apply pw_below_drewN | apply below_drew1 | refine below_set ?_ GE223.out | refine below_set ?_ GE224.out) | exact HB.out)) hb)
            clear HO_225000
            clear BK223
            clear BK224
            clear HB
            have HO_225000 := n0_
            have HO227 := n1_
            have BK223 := n2_
            have BK224 := n3_
            have HB := n4_
            clear n0_ n1_ n2_ n3_ n4_
            clear hb ho9
            obtain ⟨Ao11, co11, eo11⟩ := Kd.R_slice HO227.out
            (first | subst eo11 | (injection eo11 with f1_ f2_ f3_; have f4_ := f1_.symm; have f5_ := f3_.symm; clear f1_ f2_ f3_; subst f4_; subst f5_))
            refine hK.out _ _ ⟨(blk_cell BK224.out 0).trans rfl, (blk_cell BK224.out 1).trans rfl⟩ (fun hHeld => ?_)
            clear hK K
            refine norm_ (a' := ?_) ?_ ?_
            rotate_left
            · show Act.put _ (some 12) _ = _
              simp only [Act.put, List.setIfInBounds_toArray, List.set_cons_zero, List.set_cons_succ, i64_w, i32_w]
              rfl
            refine one_ (i := 3) (N := some 13) #[true, true, true, true, false, false, false] rfl rfl (by kernel_rfl) (by decide) (fun K hK => ?_)
            refine value_ (w1 := ?_) (v := ?_) (by rfl) rfl ?_ ?_
            rotate_left 2
            · go_simp
              constructor
              · rfl
              · rfl
            refine hK.out _ _ ⟨(blk_cell (blk_alloc BK224.out _) 0).trans rfl, (blk_cell (blk_alloc BK224.out _) 1).trans rfl⟩ (fun hHeld => ?_)
            clear hK K
            refine norm_ (a' := ?_) ?_ ?_
            rotate_left
            · show Act.put _ (some 13) _ = _
              simp only [Act.put, List.setIfInBounds_toArray, List.set_cons_zero, List.set_cons_succ, i64_w, i32_w]
              rfl
            refine one_ (i := 4) (N := some 14) #[true, true, true, true, true, false, false] rfl rfl (by kernel_rfl) (by decide) (fun K hK => ?_)
            refine Kd.S_append_step (Kd.slice 5 (Kd.int .u8)) (w0 := w) w.heap.size (by rfl) (.tmp 11) (.tmp 13) 22 28 (.slice none 0 0) 24 rfl Try.underlying22 info28 rfl (by decide) (by omega) u225000 x225000_1 y225 [.slice Ao11 y225.length co11] (fun _ => True) (fun k_ => some k_ = (.slice Ao11 y225.length co11 : Value).ownBlock) rfl rfl ?aP (fun k_ hk_ => ((Kd.R_mono (ok' := fun k_ => ((fun _ => True)) k_ ∧ some k_ ≠ (u225000 : Value).ownBlock) (Kd.R_apart' (HO227.out) (Kd.S_typed HO_225000.out) (by decide)) (fun k_ hk => ⟨trivial, hk.2⟩))).1 k_ hk_.symm) ?aF ?aO ?aB ?aS ?aL ?_
            (case aP => exact Kd.M_row (Kd.R_mono (Kd.R_tight rfl (Kd.R_mono (ok' := fun k_ => ((fun _ => True)) k_ ∧ some k_ ≠ (u225000 : Value).ownBlock) (Kd.R_apart' (HO227.out) (Kd.S_typed HO_225000.out) (by decide)) (fun k_ hk => ⟨trivial, hk.2⟩))) (fun _ h_ => h_)))
            (case aB => exact (by repeat (first | (with_reducible first | exact HB.out | apply below_alloc | apply pw_below_drewN | apply below_drew1 | refine below_set ?_ GE223.out | refine below_set ?_ GE224.out) | exact HB.out)))
            (case aF => exact (fun _ _ => trivial))
            (case aO => exact (by (with_reducible repeat (first | apply Kd.S_alloc | apply Kd.S_drewN | apply Kd.S_drew)); exact Kd.S_mono HO_225000.out (fun k_ hk => ⟨trivial, fun e_ => hk.2 e_⟩)))
            (case aS => exact (below_size (by repeat (first | (with_reducible first | exact HB.out | apply below_alloc | apply pw_below_drewN | apply below_drew1 | refine below_set ?_ GE223.out | refine below_set ?_ GE224.out) | exact HB.out))))
            (case aL => have := LMc6.out; omega)
            intro v229 w10 ho hb hg hat
            rw [← Ny228.out] at ho
            have n0_ := Aside0.mk (blk_grown (g := gb223) (o := .cells #[.slice none 0 0, .slice none 0 0] 34 (0, 0)) (by (with_reducible repeat (first | refine blk_drewN ?_ _ | refine blk_drew ?_ | refine blk_alloc ?_ _)); exact BK223.out) hg (Kd.S_ne HO_225000.out BK223.out (by decide)))
            have n1_ := Aside0.mk (blk_grown (g := gb224) (o := .cells #[u225000, .slice none 0 0] 34 (0, 0)) (by (with_reducible repeat (first | refine blk_drewN ?_ _ | refine blk_drew ?_ | refine blk_alloc ?_ _)); exact BK224.out) hg (Kd.S_ne HO_225000.out BK224.out (by decide)))
            have n2_ := Aside0.mk (hb)
            have n3_ := Aside0.mk (ho)
            clear BK223
            clear BK224
            clear HB
            clear HO_225000
            clear HO227
            have BK223 := n0_
            have BK224 := n1_
            have HB := n2_
            have HO230 := n3_
            clear n0_ n1_ n2_ n3_
            clear ho hb hg hat
            obtain ⟨Ao12, co12, eo12⟩ := Kd.S_slice HO230.out
            (first | subst eo12 | (injection eo12 with f1_ f2_ f3_; have f4_ := f1_.symm; have f5_ := f3_.symm; clear f1_ f2_ f3_; subst f4_; subst f5_))
            refine hK.out _ _ ⟨(blk_cell BK224.out 0).trans rfl, (blk_cell BK224.out 1).trans rfl⟩ (fun hHeld => ?_)
            clear hK K
            refine norm_ (a' := ?_) ?_ ?_
            rotate_left
            · show Act.put _ (some 14) _ = _
              simp only [Act.put, List.setIfInBounds_toArray, List.set_cons_zero, List.set_cons_succ, i64_w, i32_w]
              rfl
            refine pure_ (i := 5) (N := some 15) (v := ?_) (a' := ?_) #[true, true, true, true, true, true, false] rfl rfl (by kernel_rfl) (fun _ _ _ h => h) (Or.inl ⟨by rfl, ?_⟩) ?_ ?_
            rotate_left
            · intro w'
              go_simp
              with_reducible rfl
            rotate_left
            · simp only [Act.put, List.setIfInBounds_toArray, List.set_cons_zero, List.set_cons_succ, i64_w, i32_w]
              rfl
            refine last_ (i := 6) (N := none) #[true, true, true, true, true, true, true] rfl rfl (by kernel_rfl) (by decide) (fun K hK => ?_)
            have hs13 : w10.cell? ⟨gb224, 0, none⟩ = some (u225000) := (blk_cell BK224.out 0).trans rfl
            have hfs13 := blk_frozen BK224.out 0
            have hns13_0 := NB223_224.out
            have hms13_0 := NB224_223.out
            refine skip_ (w1 := ?_) (by rfl) rfl ?_ ?_
            rotate_left
            · go_simp
              rfl
            refine hK.out _ _ ?_
            clear hK K
            refine done_ (by kernel_rfl) ?_
            try go_wp2
            go_roundg k1
            case measure => have := HK1.out; omega
            case rel => exact ⟨(wrap64 (x4_1 + 1)), (y228), (.slice Ao12 y228.length co12), (by first | rfl | (simp; done) | (simp [*]; done)), H', ⟨by have := HK1.out; omega⟩, ⟨by (with_reducible repeat (first | apply Kd.S_alloc | apply Kd.S_drewN | apply Kd.S_drew)); exact Kd.S_mono (Kd.S_far (p := ⟨gb224, 0, none⟩) (Kd.S_types HO230.out BK224.out (by decide)) (fun _ hk => hk.2) (.slice Ao12 y228.length co12)) (fun _ hk => trivial)⟩, ⟨by (with_reducible repeat (first | refine blk_drewN ?_ _ | refine blk_drew ?_ | refine blk_alloc ?_ _)); refine blk_far ?_ NB223_224.out _; (with_reducible repeat (first | refine blk_drewN ?_ _ | refine blk_drew ?_ | refine blk_alloc ?_ _)); exact BK223.out⟩, ⟨by (with_reducible repeat (first | refine blk_drewN ?_ _ | refine blk_drew ?_ | refine blk_alloc ?_ _)); refine blk_put (cs := #[u225000, .slice none 0 0]) ?_ 0 _ rfl; (with_reducible repeat (first | refine blk_drewN ?_ _ | refine blk_drew ?_ | refine blk_alloc ?_ _)); exact BK224.out⟩, ⟨by repeat (first | (with_reducible first | exact HB.out | apply below_alloc | apply pw_below_drewN | apply below_drew1 | refine below_set ?_ GE223.out | refine below_set ?_ GE224.out) | exact HB.out)⟩⟩
          · rw [if_neg c6] at H
            exact absurd H (by simp)
        · rw [if_neg c5] at H
          exact absurd H (by simp)
      · rw [if_neg c4] at H
        have c4b0 : decide (x4_1 < a0) = false := decide_eq_false c4
        clear c4
        simp only [Option.some.injEq, Prod.mk.injEq] at H
        obtain ⟨rfl, rfl⟩ := H
        have hnb14 := NB224_223.out
        have hnc14 := NB223_224.out
        have hcz15_0 : wr.cell? ⟨gb224, 0, none⟩ = some (u225000) := (blk_cell BK224.out 0).trans rfl
        have hcz15_1 : wr.cell? ⟨gb224, 1, none⟩ = some (.slice none 0 0) := (blk_cell BK224.out 1).trans rfl
        have hfz15_0 := blk_frozen BK224.out 0
        have hfz15_1 := blk_frozen BK224.out 1
        obtain ⟨Ao16, co16, eo16⟩ := Kd.S_slice HO_225000.out
        subst eo16
        have hcz17_0 : wr.cell? ⟨gb223, 0, none⟩ = some (.slice none 0 0) := (blk_cell BK223.out 0).trans rfl
        have hcz17_1 : wr.cell? ⟨gb223, 1, none⟩ = some (.slice none 0 0) := (blk_cell BK223.out 1).trans rfl
        have hfz17_0 := blk_frozen BK223.out 0
        have hfz17_1 := blk_frozen BK223.out 1
        go_wp2
        refine bodyPost_ret (results_cell_row rfl _ _ gb223 34 #[.slice Ao16 x225000_1.length co16, .slice none 0 0] (0, 0) _ rfl (by (with_reducible repeat (first | refine blk_drewN ?_ _ | refine blk_drew ?_ | refine blk_alloc ?_ _)); refine blk_put (cs := #[.slice Ao16 x225000_1.length co16, .slice none 0 0]) ?_ 1 _ rfl; (with_reducible repeat (first | refine blk_drewN ?_ _ | refine blk_drew ?_ | refine blk_alloc ?_ _)); refine blk_put (cs := #[.slice none 0 0, .slice none 0 0]) ?_ 0 _ rfl; (with_reducible repeat (first | refine blk_drewN ?_ _ | refine blk_drew ?_ | refine blk_alloc ?_ _)); exact BK223.out) Try.underlying34 rfl (by kernel_rfl)) rfl ?_
        exact ⟨_, _, by first | rfl | (simp [errW_none, errW_some] <;> rfl) | (simp [*, errW_none, errW_some] <;> rfl), by (with_reducible repeat (first | apply Kd.S_alloc | apply Kd.S_drewN | apply Kd.S_drew)); exact Kd.S_mono (Kd.S_far (p := ⟨gb223, 1, none⟩) (Kd.S_far (p := ⟨gb223, 0, none⟩) (Kd.S_types HO_225000.out BK223.out (by decide)) (fun _ hk => hk.2) (.slice Ao16 x225000_1.length co16)) (fun _ hk => hk.2) (.slice none 0 0)) (fun _ hk => trivial), by first | exact Kd.S_nil _ _ _ _ _ | exact Kd.N_nil _ _ _ _ _ | exact Kd.V_nil _ _ _ _ _ | exact Kd.Q_nil _ _ _ _ _ | exact Kd.R_nil _ _ _ _ _, by repeat (first | (with_reducible first | exact HB.out | apply below_alloc | apply pw_below_drewN | apply below_drew1 | refine below_set ?_ GE223.out | refine below_set ?_ GE224.out) | exact HB.out)⟩

end Go.Proofs.Ytiplneodkcjkmaa.P
