/- Several of this session's texts in one. -/
import Derived.Test.YteofdfknemopiaaDoorPx0
import Derived.Outline
section
/- By hand: utf.many and utf.find (an array's range; the table of letters). -/
namespace Go.Proofs.YteofdfknemopiaaDoor.P
open Go.RowKit Go.Proofs.YteofdfknemopiaaDoorW.PrintWords Go.Proofs.YteofdfknemopiaaDoorW.PrintLast Go.Proofs.YteofdfknemopiaaDoorW.PrintMore

def utf_many.f (a0 : Int) : Option Int := some (if a0 < 128 then 1 else if a0 < 2048 then 2 else if a0 < 65536 then 3 else 4)

/-- How many bytes, as far as the first k tops tell. -/
def cntM (a0 : Int) (k : Nat) : Int := 1 + (if 0 < k ∧ a0 ≥ 128 then 1 else 0) + (if 1 < k ∧ a0 ≥ 2048 then 1 else 0) + (if 2 < k ∧ a0 ≥ 65536 then 1 else 0)
set_option maxRecDepth 100000 in
theorem utf_many.calls (a0 : Int) (r : Int) (w : World) (h : utf_many.f a0 = some r) :
    Calls Tryd.prog 44 #[.int .i64 a0] w fun e w' => e = .returned (.int .i64 r) ∧ Below w.heap.size w w' := by
  have i0 : ∀ w, (Instr.index 73 (.agg #[.int .i64 128, .int .i64 2048, .int .i64 65536]) (.int .i64 0)).run Tryd.prog w = .ok (.int .i64 128) w := fun _ => by kernel_rfl
  have i1 : ∀ w, (Instr.index 73 (.agg #[.int .i64 128, .int .i64 2048, .int .i64 65536]) (.int .i64 1)).run Tryd.prog w = .ok (.int .i64 2048) w := fun _ => by kernel_rfl
  have i2 : ∀ w, (Instr.index 73 (.agg #[.int .i64 128, .int .i64 2048, .int .i64 65536]) (.int .i64 2)).run Tryd.prog w = .ok (.int .i64 65536) w := fun _ => by kernel_rfl
  go_enter Tryd.func44, Tryd.ntmps44
  go_wp2
  go_loop [3, 5, 7] (fun n _ i => ∃ k : Nat, k ≤ 3 ∧ i = .int .i64 k ∧ n = .int .i64 (cntM a0 k)) (fun _ _ i => 3 - (intOf i).toNat)
  case atStart => exact ⟨0, by omega, rfl, rfl⟩
  case round =>
    obtain ⟨k, hk, rfl, rfl⟩ := hrel
    obtain rfl | rfl | rfl | rfl : k = 0 ∨ k = 1 ∨ k = 2 ∨ k = 3 := by omega
    · go_wp2
      all_goals exact ⟨⟨1, by omega, rfl, congrArg (Value.int .i64) (by unfold cntM; first | (unfold wrap64; split <;> split <;> split <;> omega) | (split <;> split <;> split <;> omega))⟩, by simp [intOf]⟩
    · go_wp2
      all_goals exact ⟨⟨2, by omega, rfl, congrArg (Value.int .i64) (by unfold cntM; first | (unfold wrap64; split <;> split <;> split <;> omega) | (split <;> split <;> split <;> omega))⟩, by simp [intOf]⟩
    · go_wp2
      all_goals exact ⟨⟨3, by omega, rfl, congrArg (Value.int .i64) (by unfold cntM; first | (unfold wrap64; split <;> split <;> split <;> omega) | (split <;> split <;> split <;> omega))⟩, by simp [intOf]⟩
    · go_wp2
      go_ret
      refine ⟨?_, Below.refl _ _⟩
      have := Option.some.inj h
      rw [← this]
      unfold cntM
      refine congrArg (fun z => Ending.returned (.int .i64 z)) ?_
      (repeat' split) <;> omega

/-- The span of letters that has a character: from, to, small; and whether there is one. -/
def findT : List (Int × Int × Int) → Int → Int × Int × Int × Bool
  | [], _ => (0, 0, 0, false)
  | s :: l, c => if s.1 ≤ c ∧ c ≤ s.2.1 then (s.1, s.2.1, s.2.2, true) else findT l c
def letSpans : List (Int × Int × Int) := [(65, 90, 32), (97, 122, 0), (192, 214, 32), (216, 222, 32), (223, 246, 0), (248, 255, 0), (913, 929, 32), (931, 937, 32), (945, 969, 0), (1024, 1039, 80), (1040, 1071, 32), (1072, 1119, 0)]
def utf_find.f (a0 : Int) : Option (Int × Int × Int × Bool) := some (findT letSpans a0)

theorem run_index (k : Nat) (hk : k < 12) : ∀ w : World, (Instr.index 72 (.agg letCells) (.int .i64 (k : Int))).run Tryd.prog w = .ok (.agg #[.int .i64 (letSpans.getD k (0, 0, 0)).1, .int .i64 (letSpans.getD k (0, 0, 0)).2.1, .int .i64 (letSpans.getD k (0, 0, 0)).2.2]) w := by
  intro w
  obtain rfl | rfl | rfl | rfl | rfl | rfl | rfl | rfl | rfl | rfl | rfl | rfl : k = 0 ∨ k = 1 ∨ k = 2 ∨ k = 3 ∨ k = 4 ∨ k = 5 ∨ k = 6 ∨ k = 7 ∨ k = 8 ∨ k = 9 ∨ k = 10 ∨ k = 11 := by omega
  all_goals kernel_rfl
theorem findT_drop (l : List (Int × Int × Int)) (c : Int) (k : Nat) (hk : k < l.length) : findT (l.drop k) c = if (l.getD k (0, 0, 0)).1 ≤ c ∧ c ≤ (l.getD k (0, 0, 0)).2.1 then ((l.getD k (0, 0, 0)).1, (l.getD k (0, 0, 0)).2.1, (l.getD k (0, 0, 0)).2.2, true) else findT (l.drop (k + 1)) c := by
  rw [List.drop_eq_getElem_cons hk, List.getD_eq_getElem?_getD, List.getElem?_eq_getElem hk]
  rfl

set_option maxHeartbeats 1000000 in
set_option maxRecDepth 100000 in
theorem utf_find.calls (a0 : Int) (r1 r2 r3 : Int) (r4 : Bool) (w : World) (hG : G w) (h : utf_find.f a0 = some (r1, r2, r3, r4)) :
    Calls Tryd.prog 40 #[.int .i64 a0] w fun e w' => e = .returned (.tuple #[.agg #[.int .i64 r1, .int .i64 r2, .int .i64 r3], .bool r4]) ∧ Below w.heap.size w w' := by
  obtain ⟨gt, gfr, hg1⟩ := hG.letters
  have HS := Aside0.mk (Option.some.inj h)
  clear h
  have hlt : 1 < w.heap.size := (Array.getElem?_eq_some_iff.1 hg1).1
  have hga : ∀ o, (w.alloc o).heap[1]? = some (.cells letCells gt gfr) := fun o => ((below_alloc (Below.refl w.heap.size w) o).block _ hlt).trans hg1
  have HG1 := Aside0.mk hg1
  clear hg1
  go_enter Tryd.func40, Tryd.ntmps40
  go_wp2_with (refine wpList_load_row rfl 72 _ rfl 1 rfl gt letCells gfr _ (hga _) Tryd.underlying72 rfl (by kernel_rfl) ?_)
  go_loopw [5, 7] (fun _ i wr => ∃ k : Nat, k ≤ 12 ∧ i = .int .i64 k ∧ Aside0 (findT letSpans a0 = findT (letSpans.drop k) a0) ∧ Aside0 (Below w.heap.size w wr) ∧ wr.heap[w.heap.size]? = some (.cells #[.int .i64 0, .int .i64 0, .int .i64 0] 65 (0, 0))) (fun _ i _ => 12 - (intOf i).toNat)
  case atStart => exact ⟨0, by omega, rfl, ⟨rfl⟩, ⟨below_alloc (Below.refl _ _) _⟩, blk_new w _⟩
  case round =>
    obtain ⟨k, hk, rfl, HF, HB, HC⟩ := hrel
    have hlt2 : w.heap.size < wr.heap.size := (Array.getElem?_eq_some_iff.1 HC).1
    have hc0 : wr.cell? ⟨w.heap.size, 0, none⟩ = some (.int .i64 0) := (blk_cell HC 0).trans rfl
    have hc1_ : wr.cell? ⟨w.heap.size, 1, none⟩ = some (.int .i64 0) := (blk_cell HC 1).trans rfl
    have hc2_ : wr.cell? ⟨w.heap.size, 2, none⟩ = some (.int .i64 0) := (blk_cell HC 2).trans rfl
    have hf0 := blk_frozen HC 0
    have hf1 := blk_frozen HC 1
    have hf2 := blk_frozen HC 2
    have HC' := Aside0.mk HC
    clear HC
    by_cases hk12 : k < 12
    · have hi := run_index k hk12
      have hd := findT_drop letSpans a0 k hk12
      generalize hs1 : (letSpans.getD k (0, 0, 0)).1 = s1 at hi hd
      generalize hs2 : (letSpans.getD k (0, 0, 0)).2.1 = s2 at hi hd
      generalize hs3 : (letSpans.getD k (0, 0, 0)).2.2 = s3 at hi hd
      clear hs1 hs2 hs3
      have HD := Aside0.mk hd
      clear hd
      have fin : ∀ (hn : ¬ (s1 ≤ a0 ∧ a0 ≤ s2)) (o : Obj), (∃ k_1 : Nat, k_1 ≤ 12 ∧ Value.int IntKind.i64 ((k : Int) + 1) = Value.int IntKind.i64 (k_1 : Int) ∧ Aside0 (findT letSpans a0 = findT (List.drop k_1 letSpans) a0) ∧ Aside0 (Below w.heap.size w (wr.alloc o)) ∧
          (wr.alloc o).heap[w.heap.size]? = some (Obj.cells #[Value.int IntKind.i64 0, Value.int IntKind.i64 0, Value.int IntKind.i64 0] 65 (0, 0))) ∧ 12 - (intOf (Value.int IntKind.i64 ((k : Int) + 1))).toNat < 12 - (intOf (Value.int IntKind.i64 (k : Int))).toNat := by
        intro hn o
        refine ⟨⟨k + 1, by omega, by rw [Int.natCast_add]; rfl, ⟨?_⟩, ⟨below_alloc HB.out _⟩, blk_alloc HC'.out _⟩, ?_⟩
        · rw [HF.out, HD.out, if_neg hn]
        · simp [intOf]
          omega
      have FIN := Aside0.mk fin
      clear fin
      by_cases hc1 : s1 ≤ a0
      · by_cases hc2 : a0 ≤ s2
        · go_wp2
          refine bodyPost_ret (results_ct rfl _ _ w.heap.size 65 #[.int .i64 s1, .int .i64 s2, .int .i64 s3] (0, 0) _ rfl ?hg Tryd.underlying65 rfl (by kernel_rfl)) rfl ?_
          case hg =>
            refine blk_alloc ?_ _
            refine blk_put (cs := #[.int .i64 s1, .int .i64 s2, .int .i64 0]) ?_ 2 _ rfl
            refine blk_put (cs := #[.int .i64 s1, .int .i64 0, .int .i64 0]) ?_ 1 _ rfl
            refine blk_put (cs := #[.int .i64 0, .int .i64 0, .int .i64 0]) ?_ 0 _ rfl
            exact HC'.out
          have hs := HS.out
          rw [HF.out, HD.out, if_pos ⟨hc1, hc2⟩] at hs
          simp only [Prod.mk.injEq] at hs
          obtain ⟨rfl, rfl, rfl, rfl⟩ := hs
          exact ⟨rfl, below_alloc (below_set (below_set (below_set HB.out (Nat.le_refl _)) (Nat.le_refl _)) (Nat.le_refl _)) _⟩
        · go_wp2
          exact FIN.out (fun hh => hc2 hh.2) _
      · go_wp2
        exact FIN.out (fun hh => hc1 hh.1) _
    · go_wp2
      refine bodyPost_ret (results_ct rfl _ _ w.heap.size 65 #[.int .i64 0, .int .i64 0, .int .i64 0] (0, 0) _ rfl ?hg Tryd.underlying65 rfl (by kernel_rfl)) rfl ?_
      case hg =>
        refine blk_put (cs := #[.int .i64 0, .int .i64 0, .int .i64 0]) ?_ 2 _ rfl
        refine blk_put (cs := #[.int .i64 0, .int .i64 0, .int .i64 0]) ?_ 1 _ rfl
        refine blk_put (cs := #[.int .i64 0, .int .i64 0, .int .i64 0]) ?_ 0 _ rfl
        exact HC'.out
      obtain rfl : k = 12 := by omega
      have hs := HS.out
      rw [HF.out] at hs
      have he : List.drop 12 letSpans = [] := rfl
      rw [he] at hs
      simp only [findT, Prod.mk.injEq] at hs
      obtain ⟨rfl, rfl, rfl, rfl⟩ := hs
      exact ⟨rfl, below_set (below_set (below_set HB.out (Nat.le_refl _)) (Nat.le_refl _)) (Nat.le_refl _)⟩
end Go.Proofs.YteofdfknemopiaaDoor.P
end
section
-- Printed by this session's patched printer.
namespace Go.Proofs.YteofdfknemopiaaDoor.P
open Go.RowKit Go.Proofs.YteofdfknemopiaaDoorW.PrintWords Go.Proofs.YteofdfknemopiaaDoorW.PrintLast Go.Proofs.YteofdfknemopiaaDoorW.PrintMore
attribute [local go_sem] Go.Instr.field Go.part Go.asAgg max2_int min2_int max_two min_two max_three min_three max_four min_four   -- for this text's walks alone
set_option linter.unusedVariables false
set_option linter.unusedSimpArgs false

/-! ### utf_Right: function 43 -/
def utf_Right.f (a0 : Int) : Option (Bool) := if a0 ≥ 0 then (if a0 ≤ 1114111 then (if a0 < 55296 then (some true) else (some (decide (a0 > 57343)))) else (some false)) else (some false)
set_option maxHeartbeats 8000000 in
set_option maxRecDepth 100000 in
theorem utf_Right.calls (a0 : Int) (r : Bool) (w : World) (h : utf_Right.f a0 = some r) :
    Calls Tryd.prog 43 #[.int .i64 a0] w fun e w' => e = .returned (.bool r) ∧ Drawn0 w w' := by
  have H : (if a0 ≥ 0 then (if a0 ≤ 1114111 then (if a0 < 55296 then (some true) else (some (decide (a0 > 57343)))) else (some false)) else (some false)) = some r := h
  clear h
  by_cases c2 : a0 ≥ 0
  · rw [if_pos c2] at H
    have c2b0 : decide (0 ≤ a0) = true := decide_eq_true c2
    clear c2
    by_cases c3 : a0 ≤ 1114111
    · rw [if_pos c3] at H
      have c3b0 : decide (a0 ≤ 1114111) = true := decide_eq_true c3
      clear c3
      by_cases c4 : a0 < 55296
      · rw [if_pos c4] at H
        have c4b0 : decide (a0 < 55296) = true := decide_eq_true c4
        clear c4
        obtain rfl := Option.some.inj H
        go_enter Tryd.func43, Tryd.ntmps43
        go_wp2
        go_ret
        exact ⟨by first | rfl | (simp; done) | (simp [*]; done), by repeat (first | exact Drawn0.refl _ | apply Drawn0.step)⟩
      · rw [if_neg c4] at H
        have c4b0 : decide (a0 < 55296) = false := decide_eq_false c4
        clear c4
        obtain rfl := Option.some.inj H
        go_enter Tryd.func43, Tryd.ntmps43
        go_wp2
        go_ret
        exact ⟨by first | rfl | (simp; done) | (simp [*]; done), by repeat (first | exact Drawn0.refl _ | apply Drawn0.step)⟩
    · rw [if_neg c3] at H
      have c3b0 : decide (a0 ≤ 1114111) = false := decide_eq_false c3
      clear c3
      obtain rfl := Option.some.inj H
      go_enter Tryd.func43, Tryd.ntmps43
      go_wp2
      go_ret
      exact ⟨by first | rfl | (simp; done) | (simp [*]; done), by repeat (first | exact Drawn0.refl _ | apply Drawn0.step)⟩
  · rw [if_neg c2] at H
    have c2b0 : decide (0 ≤ a0) = false := decide_eq_false c2
    clear c2
    obtain rfl := Option.some.inj H
    go_enter Tryd.func43, Tryd.ntmps43
    go_wp2
    go_ret
    exact ⟨by first | rfl | (simp; done) | (simp [*]; done), by repeat (first | exact Drawn0.refl _ | apply Drawn0.step)⟩

end Go.Proofs.YteofdfknemopiaaDoor.P
end
section
-- Printed by this session's patched printer.
namespace Go.Proofs.YteofdfknemopiaaDoor.P
open Go.RowKit Go.Proofs.YteofdfknemopiaaDoorW.PrintWords Go.Proofs.YteofdfknemopiaaDoorW.PrintLast Go.Proofs.YteofdfknemopiaaDoorW.PrintMore
attribute [local go_sem] Go.Instr.field Go.part Go.asAgg max2_int min2_int max_two min_two max_three min_three max_four min_four   -- for this text's walks alone
set_option linter.unusedVariables false
set_option linter.unusedSimpArgs false

/-! ### utf_Letter: function 34 -/
def utf_Letter.f (a0 : Int) : Option (Bool) := (utf_find.f a0).bind fun bt116 => (some bt116.2.2.2)
set_option maxHeartbeats 8000000 in
set_option maxRecDepth 100000 in
theorem utf_Letter.calls (a0 : Int) (r : Bool) (w : World) (hG : G w) (h : utf_Letter.f a0 = some r) :
    Calls Tryd.prog 34 #[.int .i64 a0] w fun e w' => e = .returned (.bool r) ∧ Below w.heap.size w w' := by
  have hu65 := Tryd.underlying65
  have HG := Aside0.mk hG
  clear hG
  have HB := Aside0.mk (Below.refl w.heap.size w)
  have H : ((utf_find.f a0).bind fun bt116 => (some bt116.2.2.2)) = some r := h
  clear h
  replace H := Option.bind_eq_some_iff.mp H
  obtain ⟨⟨t116, t117, t118, t119⟩, A20, H⟩ := H
  replace H : (some t119) = some r := H
  have A2 := Aside0.mk A20
  clear A20
  obtain rfl := Option.some.inj H
  go_enter Tryd.func34, Tryd.ntmps34
  go_wp2_with (first | ((with_reducible refine gate_callee (f := 40) rfl ?_); refine goesL_ (some 7) rfl rfl Tryd.func40 (by kernel_rfl) rfl #[.int .i64 a0] rfl (by (try simp only [List.map_toArray, List.map_cons, List.map_nil]); first | done | rfl | (simp only [List.length_drop, List.length_take]; rfl)) ?_; (with_reducible refine (utf_find.calls a0 t116 t117 t118 t119 _ ?side1 A2.out).mono ?_); (case side1 => first | exact HG.out | exact G.below HG.out (by repeat (first | (with_reducible first | exact HB.out | apply below_alloc | apply pw_below_drewN | apply below_drew1) | exact HB.out)) | (repeat (first | exact HG.out | apply G.drewN | apply G.drew | apply G.alloc))); rintro e w3 ⟨rfl, hb⟩; refine ⟨_, rfl, ?_⟩; have n0_ := Aside0.mk (below_step (by repeat (first | (with_reducible first | exact HB.out | apply below_alloc | apply pw_below_drewN | apply below_drew1) | exact HB.out)) hb); clear HB; have HB := n0_; clear n0_; (try clear hb); (try clear hb2); (try clear hk); (try clear hi)) | ((with_reducible refine gate_dst (N := 3) rfl ?_); refine box_event ?hg (N := 3) ?hd (cs := #[.int .i64 0, .int .i64 0, .int .i64 0]) (t := 65) ?hr ?_; (case hd => rfl); (case hg => rfl); (case hr => first | (go_simp; done) | (go_simp; rfl)); intro gb120 hg w4 hbox hb; have n0_ := Aside0.mk (below_step (by repeat (first | (with_reducible first | exact HB.out | apply below_alloc | apply pw_below_drewN | apply below_drew1) | exact HB.out)) hb); have n1_ := Aside0.mk (hbox); have n2_ := Aside0.mk ((by rw [hg]; exact (below_size (by repeat (first | (with_reducible first | exact HB.out | apply below_alloc | apply pw_below_drewN | apply below_drew1) | exact HB.out))) : w.heap.size ≤ gb120)); have n3_ := Aside0.mk ((by rw [hg]; exact (below_size (by repeat (first | (with_reducible first | exact HB.out | apply below_alloc | apply pw_below_drewN | apply below_drew1) | exact HB.out))) : w.heap.size ≤ gb120)); clear HB; have HB := n0_; have BK120 := n1_; have GW120 := n2_; have GE120 := n3_; clear n0_ n1_ n2_ n3_; clear hb hbox hg; have hcz5_0 : w4.cell? ⟨gb120, 0, none⟩ = some (.int .i64 0) := (blk_cell BK120.out 0).trans rfl; have hcz5_1 : w4.cell? ⟨gb120, 1, none⟩ = some (.int .i64 0) := (blk_cell BK120.out 1).trans rfl; have hcz5_2 : w4.cell? ⟨gb120, 2, none⟩ = some (.int .i64 0) := (blk_cell BK120.out 2).trans rfl; have hfz5_0 := blk_frozen BK120.out 0; have hfz5_1 := blk_frozen BK120.out 1; have hfz5_2 := blk_frozen BK120.out 2))
  go_ret
  exact ⟨by first | rfl | (simp [errW_none, errW_some] <;> rfl) | (simp [*, errW_none, errW_some] <;> rfl), by repeat (first | (with_reducible first | exact HB.out | apply below_alloc | apply pw_below_drewN | apply below_drew1 | refine below_set ?_ GE120.out) | exact HB.out)⟩

end Go.Proofs.YteofdfknemopiaaDoor.P
end
section
-- Printed by this session's patched printer.
namespace Go.Proofs.YteofdfknemopiaaDoor.P
open Go.RowKit Go.Proofs.YteofdfknemopiaaDoorW.PrintWords Go.Proofs.YteofdfknemopiaaDoorW.PrintLast Go.Proofs.YteofdfknemopiaaDoorW.PrintMore
attribute [local go_sem] Go.Instr.field Go.part Go.asAgg max2_int min2_int max_two min_two max_three min_three max_four min_four   -- for this text's walks alone
set_option linter.unusedVariables false
set_option linter.unusedSimpArgs false

/-! ### utf_Digit: function 35 -/
def utf_Digit.f (a0 : Int) : Option (Bool) := if a0 ≥ 48 then (some (decide (a0 ≤ 57))) else (some false)
set_option maxHeartbeats 8000000 in
set_option maxRecDepth 100000 in
theorem utf_Digit.calls (a0 : Int) (r : Bool) (w : World) (h : utf_Digit.f a0 = some r) :
    Calls Tryd.prog 35 #[.int .i64 a0] w fun e w' => e = .returned (.bool r) ∧ Drawn0 w w' := by
  have H : (if a0 ≥ 48 then (some (decide (a0 ≤ 57))) else (some false)) = some r := h
  clear h
  by_cases c2 : a0 ≥ 48
  · rw [if_pos c2] at H
    have c2b0 : decide (48 ≤ a0) = true := decide_eq_true c2
    clear c2
    obtain rfl := Option.some.inj H
    go_enter Tryd.func35, Tryd.ntmps35
    go_wp2
    go_ret
    exact ⟨by first | rfl | (simp; done) | (simp [*]; done), by repeat (first | exact Drawn0.refl _ | apply Drawn0.step)⟩
  · rw [if_neg c2] at H
    have c2b0 : decide (48 ≤ a0) = false := decide_eq_false c2
    clear c2
    obtain rfl := Option.some.inj H
    go_enter Tryd.func35, Tryd.ntmps35
    go_wp2
    go_ret
    exact ⟨by first | rfl | (simp; done) | (simp [*]; done), by repeat (first | exact Drawn0.refl _ | apply Drawn0.step)⟩

end Go.Proofs.YteofdfknemopiaaDoor.P
end
section
-- Printed by this session's patched printer.
namespace Go.Proofs.YteofdfknemopiaaDoor.P
open Go.RowKit Go.Proofs.YteofdfknemopiaaDoorW.PrintWords Go.Proofs.YteofdfknemopiaaDoorW.PrintLast Go.Proofs.YteofdfknemopiaaDoorW.PrintMore
attribute [local go_sem] Go.Instr.field Go.part Go.asAgg max2_int min2_int max_two min_two max_three min_three max_four min_four   -- for this text's walks alone
set_option linter.unusedVariables false
set_option linter.unusedSimpArgs false

/-! ### utf_Small: function 42 -/
def utf_Small.f (a0 : Int) : Option (Int) := (utf_find.f a0).bind fun bt131 => (some (wrap64 (a0 + bt131.2.2.1)))
set_option maxHeartbeats 8000000 in
set_option maxRecDepth 100000 in
theorem utf_Small.calls (a0 : Int) (r : Int) (w : World) (hG : G w) (h : utf_Small.f a0 = some r) :
    Calls Tryd.prog 42 #[.int .i64 a0] w fun e w' => e = .returned (.int .i64 r) ∧ Below w.heap.size w w' := by
  have hu65 := Tryd.underlying65
  have HG := Aside0.mk hG
  clear hG
  have HB := Aside0.mk (Below.refl w.heap.size w)
  have H : ((utf_find.f a0).bind fun bt131 => (some (wrap64 (a0 + bt131.2.2.1)))) = some r := h
  clear h
  replace H := Option.bind_eq_some_iff.mp H
  obtain ⟨⟨t131, t132, t133, t134⟩, A20, H⟩ := H
  replace H : (some (wrap64 (a0 + t133))) = some r := H
  have A2 := Aside0.mk A20
  clear A20
  obtain rfl := Option.some.inj H
  go_enter Tryd.func42, Tryd.ntmps42
  go_wp2_with (first | ((with_reducible refine gate_callee (f := 40) rfl ?_); refine goesL_ (some 7) rfl rfl Tryd.func40 (by kernel_rfl) rfl #[.int .i64 a0] rfl (by (try simp only [List.map_toArray, List.map_cons, List.map_nil]); first | done | rfl | (simp only [List.length_drop, List.length_take]; rfl)) ?_; (with_reducible refine (utf_find.calls a0 t131 t132 t133 t134 _ ?side1 A2.out).mono ?_); (case side1 => first | exact HG.out | exact G.below HG.out (by repeat (first | (with_reducible first | exact HB.out | apply below_alloc | apply pw_below_drewN | apply below_drew1) | exact HB.out)) | (repeat (first | exact HG.out | apply G.drewN | apply G.drew | apply G.alloc))); rintro e w3 ⟨rfl, hb⟩; refine ⟨_, rfl, ?_⟩; have n0_ := Aside0.mk (below_step (by repeat (first | (with_reducible first | exact HB.out | apply below_alloc | apply pw_below_drewN | apply below_drew1) | exact HB.out)) hb); clear HB; have HB := n0_; clear n0_; (try clear hb); (try clear hb2); (try clear hk); (try clear hi)) | ((with_reducible refine gate_dst (N := 3) rfl ?_); refine box_event ?hg (N := 3) ?hd (cs := #[.int .i64 0, .int .i64 0, .int .i64 0]) (t := 65) ?hr ?_; (case hd => rfl); (case hg => rfl); (case hr => first | (go_simp; done) | (go_simp; rfl)); intro gb135 hg w4 hbox hb; have n0_ := Aside0.mk (below_step (by repeat (first | (with_reducible first | exact HB.out | apply below_alloc | apply pw_below_drewN | apply below_drew1) | exact HB.out)) hb); have n1_ := Aside0.mk (hbox); have n2_ := Aside0.mk ((by rw [hg]; exact (below_size (by repeat (first | (with_reducible first | exact HB.out | apply below_alloc | apply pw_below_drewN | apply below_drew1) | exact HB.out))) : w.heap.size ≤ gb135)); have n3_ := Aside0.mk ((by rw [hg]; exact (below_size (by repeat (first | (with_reducible first | exact HB.out | apply below_alloc | apply pw_below_drewN | apply below_drew1) | exact HB.out))) : w.heap.size ≤ gb135)); clear HB; have HB := n0_; have BK135 := n1_; have GW135 := n2_; have GE135 := n3_; clear n0_ n1_ n2_ n3_; clear hb hbox hg; have hcz5_0 : w4.cell? ⟨gb135, 0, none⟩ = some (.int .i64 0) := (blk_cell BK135.out 0).trans rfl; have hcz5_1 : w4.cell? ⟨gb135, 1, none⟩ = some (.int .i64 0) := (blk_cell BK135.out 1).trans rfl; have hcz5_2 : w4.cell? ⟨gb135, 2, none⟩ = some (.int .i64 0) := (blk_cell BK135.out 2).trans rfl; have hfz5_0 := blk_frozen BK135.out 0; have hfz5_1 := blk_frozen BK135.out 1; have hfz5_2 := blk_frozen BK135.out 2))
  go_ret
  exact ⟨by first | rfl | (simp [errW_none, errW_some] <;> rfl) | (simp [*, errW_none, errW_some] <;> rfl), by repeat (first | (with_reducible first | exact HB.out | apply below_alloc | apply pw_below_drewN | apply below_drew1 | refine below_set ?_ GE135.out) | exact HB.out)⟩

end Go.Proofs.YteofdfknemopiaaDoor.P
end
section
-- Printed by this session's patched printer.
namespace Go.Proofs.YteofdfknemopiaaDoor.P
open Go.RowKit Go.Proofs.YteofdfknemopiaaDoorW.PrintWords Go.Proofs.YteofdfknemopiaaDoorW.PrintLast Go.Proofs.YteofdfknemopiaaDoorW.PrintMore
attribute [local go_sem] Go.Instr.field Go.part Go.asAgg max2_int min2_int max_two min_two max_three min_three max_four min_four   -- for this text's walks alone
set_option linter.unusedVariables false
set_option linter.unusedSimpArgs false

/-! ### utf_Encode: function 41 -/
def utf_Encode.l0 : Nat → Int → Int → List Int → Int → Option (List Int × Int)
  | 0, _, _, _, _ => none
  | k + 1, x0, x4, x5, x6 => if x6 > 0 then (if 0 ≤ x6 then (if x6 < (x5.length : Int) then (utf_Encode.l0 k (x0 / 64) x4 (x5.set (x6 : Int).toNat (Go.bits .or .u8 128 ((Go.bits .and .i64 x0 63) % 256))) (wrap64 (x6 - 1))) else (none)) else (none)) else (if 0 ≤ x4 then (if 0 < (x5.length : Int) then (some ((x5.set (0 : Int).toNat (Go.bits .or .u8 ((shr .i64 3840 x4) % 256) ((x0) % 256))), 0)) else (none)) else (none))
def utf_Encode.f (k : Nat) (a0 : Int) : Option (List Int × Int) := (utf_Right.f a0).bind fun t121 => (if t121 = true then ((utf_many.f a0).bind fun t122 => (if t122 = 1 then (some ((([(a0) % 256] : List Int)), 0)) else (if 0 ≤ t122 then (if (t122 : Int).toNat ≤ 281474976710656 then (utf_Encode.l0 k a0 t122 (List.replicate (t122 : Int).toNat 0) (wrap64 (t122 - 1))) else (none)) else (none)))) else (some (([] : List Int), 1)))
theorem utf_Encode.mono_l : ∀ k, (∀ y0 y1 y2 y3, LeO (utf_Encode.l0 k y0 y1 y2 y3) (utf_Encode.l0 (k + 1) y0 y1 y2 y3))
  | 0 => fun _ _ _ _ r h => by simp [utf_Encode.l0] at h
  | k + 1 => by
    have ih0 := utf_Encode.mono_l k
    · intro y0 y1 y2 y3
      unfold utf_Encode.l0
      repeat' first
      | (with_reducible exact ih0 _ _ _ _)
      | (with_reducible exact LeO.refl _)
      | (with_reducible exact LeO.none _)
      | (with_reducible refine LeO.ite ?_ ?_)
      | (with_reducible refine LeO.bind ?_ (fun _ => ?_))
      | exact ih0 _ _ _ _
      | exact LeO.none _
      | refine LeO.ite ?_ ?_
      | refine LeO.bind ?_ (fun _ => ?_)
theorem utf_Encode.mono : ∀ a0 k, LeO (utf_Encode.f k a0) (utf_Encode.f (k + 1) a0) := by
  intro a0 k
  have ih0 := utf_Encode.mono_l k
  unfold utf_Encode.f
  repeat' first
      | (with_reducible exact ih0 _ _ _ _)
      | (with_reducible exact LeO.refl _)
      | (with_reducible exact LeO.none _)
      | (with_reducible refine LeO.ite ?_ ?_)
      | (with_reducible refine LeO.bind ?_ (fun _ => ?_))
      | exact ih0 _ _ _ _
      | exact LeO.none _
      | refine LeO.ite ?_ ?_
      | refine LeO.bind ?_ (fun _ => ?_)
set_option maxHeartbeats 8000000 in
set_option maxRecDepth 100000 in
theorem utf_Encode.calls (k : Nat) (a0 : Int) (r1 : List Int) (r2 : Int) (w : World) (h : utf_Encode.f k a0 = some (r1, r2)) :
    Calls Tryd.prog 41 #[.int .i64 a0] w fun e w' => ∃ v0_ : Value, e = .returned (.tuple #[v0_, .int .i64 r2]) ∧ Kd.R (Kd.int .u8) 5 w' w.heap.size (fun _ => True) v0_ r1 ∧ Below w.heap.size w w' := by
  have HB := Aside0.mk (Below.refl w.heap.size w)
  have H : ((utf_Right.f a0).bind fun t121 => (if t121 = true then ((utf_many.f a0).bind fun t122 => (if t122 = 1 then (some ((([(a0) % 256] : List Int)), 0)) else (if 0 ≤ t122 then (if (t122 : Int).toNat ≤ 281474976710656 then (utf_Encode.l0 k a0 t122 (List.replicate (t122 : Int).toNat 0) (wrap64 (t122 - 1))) else (none)) else (none)))) else (some (([] : List Int), 1)))) = some (r1, r2) := h
  clear h
  replace H := Option.bind_eq_some_iff.mp H
  obtain ⟨t121, A20, H⟩ := H
  replace H : (if t121 = true then ((utf_many.f a0).bind fun t122 => (if t122 = 1 then (some ((([(a0) % 256] : List Int)), 0)) else (if 0 ≤ t122 then (if (t122 : Int).toNat ≤ 281474976710656 then (utf_Encode.l0 k a0 t122 (List.replicate (t122 : Int).toNat 0) (wrap64 (t122 - 1))) else (none)) else (none)))) else (some (([] : List Int), 1))) = some (r1, r2) := H
  have A2 := Aside0.mk A20
  clear A20
  by_cases c3 : t121 = true
  · subst c3
    have H1 : ((utf_many.f a0).bind fun t122 => (if t122 = 1 then (some ((([(a0) % 256] : List Int)), 0)) else (if 0 ≤ t122 then (if (t122 : Int).toNat ≤ 281474976710656 then (utf_Encode.l0 k a0 t122 (List.replicate (t122 : Int).toNat 0) (wrap64 (t122 - 1))) else (none)) else (none)))) = some (r1, r2) := by rw [if_pos rfl] at H; exact H
    clear H
    have H := H1
    clear H1
    replace H := Option.bind_eq_some_iff.mp H
    obtain ⟨t122, A40, H⟩ := H
    replace H : (if t122 = 1 then (some ((([(a0) % 256] : List Int)), 0)) else (if 0 ≤ t122 then (if (t122 : Int).toNat ≤ 281474976710656 then (utf_Encode.l0 k a0 t122 (List.replicate (t122 : Int).toNat 0) (wrap64 (t122 - 1))) else (none)) else (none))) = some (r1, r2) := H
    have A4 := Aside0.mk A40
    clear A40
    by_cases c5 : t122 = 1
    · rw [if_pos c5] at H
      have c5b0 : (t122 == 1) = true := beq_iff_eq.mpr c5
      have c5b1 : (t122 != 1) = false := bne_eq_false_iff_eq.mpr c5
      clear c5
      obtain ⟨y123, hy123⟩ : ∃ y_ : List Int, y_ = (([(a0) % 256] : List Int)) := ⟨_, rfl⟩
      replace H : (some (y123, 0)) = some (r1, r2) := by first | (rw [hy123]; with_reducible exact H) | (have H2_ := (Option.bind_some _ _).symm.trans H; rw [hy123]; with_reducible exact H2_) | (have H2_ := (Option.bind_some _ _).symm.trans H; with_reducible exact H2_) | with_reducible exact H | (rw [hy123]; exact H) | exact H
      have Ny123 := Aside0.mk hy123
      clear hy123
      simp only [Option.some.injEq, Prod.mk.injEq] at H
      obtain ⟨rfl, rfl⟩ := H
      go_enter Tryd.func41, Tryd.ntmps41
      go_wp2_with (first | ((with_reducible refine gate_callee (f := 43) rfl ?_); refine goesL_ (some 8) rfl rfl Tryd.func43 (by kernel_rfl) rfl #[.int .i64 a0] rfl (by (try simp only [List.map_toArray, List.map_cons, List.map_nil]); first | done | rfl | (simp only [List.length_drop, List.length_take]; rfl)) ?_; (with_reducible refine (utf_Right.calls a0 true _ A2.out).mono ?_); rintro e w' ⟨rfl, ⟨nd, rfl⟩⟩; refine ⟨_, rfl, ?_⟩) | ((with_reducible refine gate_callee (f := 44) rfl ?_); refine goesL_ (some 11) rfl rfl Tryd.func44 (by kernel_rfl) rfl #[.int .i64 a0] rfl (by (try simp only [List.map_toArray, List.map_cons, List.map_nil]); first | done | rfl | (simp only [List.length_drop, List.length_take]; rfl)) ?_; (with_reducible refine (utf_many.calls a0 t122 _ A4.out).mono ?_); rintro e w6 ⟨rfl, hb⟩; refine ⟨_, rfl, ?_⟩; have n0_ := Aside0.mk (below_step (by repeat (first | (with_reducible first | exact HB.out | apply below_alloc | apply pw_below_drewN | apply below_drew1) | exact HB.out)) hb); clear HB; have HB := n0_; clear n0_; (try clear hb); (try clear hb2); (try clear hk); (try clear hi)) | ((with_reducible refine gate_dst (N := 16) rfl ?_); refine Kd.R_lit (Kd.int .u8) _ 5 ?hg (N := 16) ?hd (xs := ([(a0) % 256] : List Int)) (inner := [.int .u8 ((a0) % 256)]) (ok := fun _ => True) (okp := fun _ => True) ?hr ?hp (fun _ hk => hk) trivial (Below.refl _ _) (Nat.le_refl _) (by simp) ?_; (case hd => rfl); (case hg => rfl); (case hr => first | (go_simp; done) | (go_simp; rfl)); (case hp => exact (Reps.one (show Kd.M (Kd.int .u8) _ _ _ ((a0) % 256) [.int .u8 ((a0) % 256)] from rfl) (Reps.none _ _))); intro v124 w7 ho8 hb hg_ hnew_; clear hg_ hnew_; (first | rw [← Ny123.out] at ho8 | (simp only [Int.reduceToNat] at ho8; rw [← Ny123.out] at ho8)); have n0_ := Aside0.mk (Kd.R_lower ho8 (below_size (by repeat (first | (with_reducible first | exact HB.out | apply below_alloc | apply pw_below_drewN | apply below_drew1) | exact HB.out)))); have n1_ := Aside0.mk (below_step (by repeat (first | (with_reducible first | exact HB.out | apply below_alloc | apply pw_below_drewN | apply below_drew1) | exact HB.out)) hb); clear HB; have HO125 := n0_; have HB := n1_; clear n0_ n1_; clear hb ho8))
      go_ret2
      exact ⟨_, by first | rfl | (simp [errW_none, errW_some] <;> rfl) | (simp [*, errW_none, errW_some] <;> rfl), by (with_reducible repeat (first | apply Kd.R_alloc | apply Kd.R_drewN | apply Kd.R_drew)); exact HO125.out, by repeat (first | (with_reducible first | exact HB.out | apply below_alloc | apply pw_below_drewN | apply below_drew1) | exact HB.out)⟩
    · rw [if_neg c5] at H
      have c5b0 : (t122 == 1) = false := beq_eq_false_iff_ne.mpr c5
      have c5b1 : (t122 != 1) = true := bne_iff_ne.mpr c5
      by_cases c9 : 0 ≤ t122
      · rw [if_pos c9] at H
        have c9b0 := eq_true c9
        have c9b1 : decide (0 ≤ t122) = true := decide_eq_true c9
        clear c9
        by_cases c10 : (t122 : Int).toNat ≤ 281474976710656
        · rw [if_pos c10] at H
          have c10b0 := eq_true c10
          have c10b1 : decide ((t122 : Int).toNat ≤ 281474976710656) = true := decide_eq_true c10
          clear c10
          obtain ⟨y126, hy126⟩ : ∃ y_ : List Int, y_ = (List.replicate (t122 : Int).toNat 0) := ⟨_, rfl⟩
          replace H : (utf_Encode.l0 k a0 t122 y126 (wrap64 (t122 - 1))) = some (r1, r2) := by first | (rw [hy126]; with_reducible exact H) | (have H2_ := (Option.bind_some _ _).symm.trans H; rw [hy126]; with_reducible exact H2_) | (have H2_ := (Option.bind_some _ _).symm.trans H; with_reducible exact H2_) | with_reducible exact H | (rw [hy126]; exact H) | exact H
          have Ny126 := Aside0.mk hy126
          clear hy126
          have H' := Aside0.mk H
          clear H
          go_enter Tryd.func41, Tryd.ntmps41
          go_wp2_with (first | ((with_reducible refine gate_callee (f := 43) rfl ?_); refine goesL_ (some 8) rfl rfl Tryd.func43 (by kernel_rfl) rfl #[.int .i64 a0] rfl (by (try simp only [List.map_toArray, List.map_cons, List.map_nil]); first | done | rfl | (simp only [List.length_drop, List.length_take]; rfl)) ?_; (with_reducible refine (utf_Right.calls a0 true _ A2.out).mono ?_); rintro e w' ⟨rfl, ⟨nd, rfl⟩⟩; refine ⟨_, rfl, ?_⟩) | ((with_reducible refine gate_callee (f := 44) rfl ?_); refine goesL_ (some 11) rfl rfl Tryd.func44 (by kernel_rfl) rfl #[.int .i64 a0] rfl (by (try simp only [List.map_toArray, List.map_cons, List.map_nil]); first | done | rfl | (simp only [List.length_drop, List.length_take]; rfl)) ?_; (with_reducible refine (utf_many.calls a0 t122 _ A4.out).mono ?_); rintro e w11 ⟨rfl, hb⟩; refine ⟨_, rfl, ?_⟩; have n0_ := Aside0.mk (below_step (by repeat (first | (with_reducible first | exact HB.out | apply below_alloc | apply pw_below_drewN | apply below_drew1) | exact HB.out)) hb); clear HB; have HB := n0_; clear n0_; (try clear hb); (try clear hb2); (try clear hk); (try clear hi)) | ((with_reducible refine gate_dst (N := 18) rfl ?_); refine Kd.R_make (Kd.int .u8) _ 5 rfl (N := 18) rfl 30 _ _ rfl t122 rfl rfl Tryd.underlying30 (.int .u8 0) 1 info5 rfl (by decide) (by omega) 0 (ok := fun _ => True) (okp := fun _ => True) rfl (fun _ hk => hk) trivial (of_decide_eq_true (by first | (with_reducible assumption) | assumption)) (Nat.le_trans (Nat.mul_le_mul_right _ (of_decide_eq_true (by first | (with_reducible assumption) | assumption) : t122.toNat ≤ 281474976710656)) (by omega)) (Below.refl _ _) (Nat.le_refl _) ?_; intro v127 w12 ho13 hb hg_ hnew_; clear hg_ hnew_; (first | rw [← Ny126.out] at ho13 | (simp only [Int.reduceToNat] at ho13; rw [← Ny126.out] at ho13)); have n0_ := Aside0.mk (Kd.R_lower ho13 (below_size (by repeat (first | (with_reducible first | exact HB.out | apply below_alloc | apply pw_below_drewN | apply below_drew1) | exact HB.out)))); have n1_ := Aside0.mk (below_step (by repeat (first | (with_reducible first | exact HB.out | apply below_alloc | apply pw_below_drewN | apply below_drew1) | exact HB.out)) hb); clear HB; have HO128 := n0_; have HB := n1_; clear n0_ n1_; clear hb ho13))
          go_loopg [0, 6] k (fun kq v0 v6 w' => ∃ (x0_1 : Int) (x5_1 : List Int) (x6_1 : Int), v0 = .int .i64 x0_1 ∧ v6 = .int .i64 x6_1 ∧ Aside0 (utf_Encode.l0 kq x0_1 t122 x5_1 x6_1 = some (r1, r2)) ∧ Aside0 (kq ≤ k) ∧ Aside0 (Kd.R (Kd.int .u8) 5 w' w.heap.size (fun _ => True) v127 x5_1) ∧ Aside0 (Below w.heap.size w w'))
          case atStart => exact ⟨(a0), (y126), (wrap64 (t122 - 1)), (by first | rfl | (simp; done) | (simp [*]; done)), (by first | rfl | (simp; done) | (simp [*]; done)), H', ⟨Nat.le_refl _⟩, ⟨by (with_reducible repeat (first | apply Kd.R_alloc | apply Kd.R_drewN | apply Kd.R_drew)); exact HO128.out⟩, ⟨by repeat (first | (with_reducible first | exact HB.out | apply below_alloc | apply pw_below_drewN | apply below_drew1) | exact HB.out)⟩⟩
          case round =>
            clear H'
            try clear c1
            try clear p2
            try clear c3
            try clear c4
            try clear c5
            try clear c5b0
            try clear c5b1
            try clear p6
            try clear c9
            try clear c9b0
            try clear c9b1
            try clear c10
            try clear c10b0
            try clear c10b1
            obtain ⟨x0_1, x5_1, x6_1, rfl, rfl, HA, HK1, HO_5, HB⟩ := hrel
            cases gk with
            | zero => exact absurd HA.out (by simp [utf_Encode.l0])
            | succ k1 =>
              have H := HA.out
              clear HA
              simp only [utf_Encode.l0] at H
              by_cases c14 : x6_1 > 0
              · rw [if_pos c14] at H
                have c14b0 : decide (0 < x6_1) = true := decide_eq_true c14
                clear c14
                by_cases c15 : 0 ≤ x6_1
                · rw [if_pos c15] at H
                  have c15b0 : decide (0 ≤ x6_1) = true := decide_eq_true c15
                  clear c15
                  by_cases c16 : x6_1 < (x5_1.length : Int)
                  · rw [if_pos c16] at H
                    have c16b0 : decide (x6_1 < (x5_1.length : Int)) = true := decide_eq_true c16
                    clear c16
                    obtain ⟨y129, hy129⟩ : ∃ y_ : List Int, y_ = (x5_1.set (x6_1 : Int).toNat (Go.bits .or .u8 128 ((Go.bits .and .i64 x0_1 63) % 256))) := ⟨_, rfl⟩
                    replace H : (utf_Encode.l0 k1 (x0_1 / 64) t122 y129 (wrap64 (x6_1 - 1))) = some (r1, r2) := by first | (rw [hy129]; with_reducible exact H) | (have H2_ := (Option.bind_some _ _).symm.trans H; rw [hy129]; with_reducible exact H2_) | (have H2_ := (Option.bind_some _ _).symm.trans H; with_reducible exact H2_) | with_reducible exact H | (rw [hy129]; exact H) | exact H
                    have Ny129 := Aside0.mk hy129
                    clear hy129
                    have H' := Aside0.mk H
                    clear H
                    have p17 : 0 ≤ (x6_1 : Int) := of_decide_eq_true (by first | (with_reducible assumption) | assumption)
                    have q17 : (x6_1 : Int) < ((x5_1.length : Int) : Int) := of_decide_eq_true (by first | (with_reducible assumption) | assumption)
                    obtain ⟨go17, co17, eo17, gb17, gl17, cl17, HG17⟩ := Kd.R_form HO_5.out (by omega)
                    (first | cases eo17 | (injection eo17 with ea_ en_ ec_; (first | subst ea_ | (injection ea_ with ea_; subst ea_)); subst ec_; clear en_))
                    have GB17 := Aside0.mk gb17
                    have GG17 := Aside0.mk HG17
                    clear gb17 gl17 HG17
                    obtain ⟨hx17_0, hf17_0⟩ := Kd.R_celln 0 HO_5.out (x6_1 : Int) p17 q17
                    replace p17 := eq_true p17
                    replace q17 := eq_true q17
                    have HP18 := Kd.R_putg HO_5.out (x6_1 : Int) (Go.bits .or .u8 128 ((Go.bits .and .i64 x0_1 63) % 256))
                    go_wp2_with (first | ((with_reducible refine gate_store (t := 5) (p := 31) rfl ?_); refine store_event (t := 5) (p := 31) (v := ?vo_w19) (w1 := (wr.setCell ⟨go17, (x6_1 : Int).toNat, none⟩ (.int .u8 (Go.bits .or .u8 128 ((Go.bits .and .i64 x0_1 63) % 256))))) ?hg ?ho ?hn ?hr ?_; (case ho => rfl); (case hg => rfl); (case hn => rfl); (case hr => first | (go_simp; done) | (go_simp; rfl)); intro w19 hw; have hg : wr.grownBy w19 (some go17) := (by rw [hw]; exact HP18.2); have hp_ : Kd.R (Kd.int .u8) 5 w19 w.heap.size (fun _ => True) (.slice (some ⟨go17, 0, none⟩) x5_1.length co17) y129 := (by rw [hw, Ny129.out]; exact HP18.1); clear HP18; have n0_ := Aside0.mk (hp_); have n1_ := Aside0.mk ((by rw [hw]; exact below_set (HB.out) GB17.out : Below w.heap.size w w19)); clear HO_5; clear HB; have HO_5 := n0_; have HB := n1_; clear n0_ n1_; clear hg hw hp_))
                    go_roundg k1
                    case measure => have := HK1.out; omega
                    case rel => exact ⟨(x0_1 / 64), (y129), (wrap64 (x6_1 - 1)), (by first | rfl | (simp; done) | (simp [*]; done)), (by first | rfl | (simp; done) | (simp [*]; done)), H', ⟨by have := HK1.out; omega⟩, ⟨by (with_reducible repeat (first | apply Kd.R_alloc | apply Kd.R_drewN | apply Kd.R_drew)); exact HO_5.out⟩, ⟨by repeat (first | (with_reducible first | exact HB.out | apply below_alloc | apply pw_below_drewN | apply below_drew1) | exact HB.out)⟩⟩
                  · rw [if_neg c16] at H
                    exact absurd H (by simp)
                · rw [if_neg c15] at H
                  exact absurd H (by simp)
              · rw [if_neg c14] at H
                have c14b0 : decide (0 < x6_1) = false := decide_eq_false c14
                clear c14
                by_cases c20 : 0 ≤ t122
                · rw [if_pos c20] at H
                  have c20b0 := eq_true c20
                  have c20b1 : decide (0 ≤ t122) = true := decide_eq_true c20
                  clear c20
                  obtain ⟨ji21, hji21⟩ : ∃ j_ : Int, (shr .i64 3840 t122) = j_ := ⟨_, rfl⟩
                  replace H : (if 0 < (x5_1.length : Int) then (some ((x5_1.set (0 : Int).toNat (Go.bits .or .u8 ((ji21) % 256) ((x0_1) % 256))), 0)) else (none)) = some (r1, r2) := by first | (rw [hji21] at H; exact H) | (simp only [hji21] at H ⊢; exact H)
                  have hji21_ : (3840 / 2 ^ min t122.toNat 64) = ji21 := hji21
                  have hji21z : t122 ≤ 64 → (3840 / 2 ^ t122.toNat) = ji21 := shr_small hji21
                  by_cases c22 : 0 < (x5_1.length : Int)
                  · rw [if_pos c22] at H
                    have c22b0 : decide (0 < (x5_1.length : Int)) = true := decide_eq_true c22
                    have c22b1 : decide (0 < x5_1.length) = true := decide_eq_true (by omega)
                    clear c22
                    obtain ⟨y130, hy130⟩ : ∃ y_ : List Int, y_ = (x5_1.set (0 : Int).toNat (Go.bits .or .u8 ((ji21) % 256) ((x0_1) % 256))) := ⟨_, rfl⟩
                    replace H : (some (y130, 0)) = some (r1, r2) := by first | (rw [hy130]; with_reducible exact H) | (have H2_ := (Option.bind_some _ _).symm.trans H; rw [hy130]; with_reducible exact H2_) | (have H2_ := (Option.bind_some _ _).symm.trans H; with_reducible exact H2_) | with_reducible exact H | (rw [hy130]; exact H) | exact H
                    have Ny130 := Aside0.mk hy130
                    clear hy130
                    simp only [Option.some.injEq, Prod.mk.injEq] at H
                    obtain ⟨rfl, rfl⟩ := H
                    have p23 : 0 ≤ (0 : Int) := (by omega)
                    have q23 : (0 : Int) < ((x5_1.length : Int) : Int) := of_decide_eq_true (by first | (with_reducible assumption) | assumption)
                    have qi23 : (0 < x5_1.length) = True := eq_true (by omega)
                    obtain ⟨go23, co23, eo23, gb23, gl23, cl23, HG23⟩ := Kd.R_form HO_5.out (by omega)
                    (first | cases eo23 | (injection eo23 with ea_ en_ ec_; (first | subst ea_ | (injection ea_ with ea_; subst ea_)); subst ec_; clear en_))
                    have GB23 := Aside0.mk gb23
                    have GG23 := Aside0.mk HG23
                    clear gb23 gl23 HG23
                    obtain ⟨hx23_0, hf23_0⟩ := Kd.R_celln 0 HO_5.out (0 : Int) p23 q23
                    (try rw [show ((0 : Int)).toNat = 0 from rfl] at hx23_0)
                    (try simp only [Nat.reduceMul, Nat.zero_mul, Nat.zero_add, Nat.reduceAdd] at hx23_0)
                    (try rw [show ((0 : Int)).toNat = 0 from rfl] at hf23_0)
                    (try simp only [Nat.reduceMul, Nat.zero_mul, Nat.zero_add, Nat.reduceAdd] at hf23_0)
                    replace p23 := eq_true p23
                    replace q23 := eq_true q23
                    have HP24 := Kd.R_putg HO_5.out (0 : Int) (Go.bits .or .u8 ((ji21) % 256) ((x0_1) % 256))
                    go_wp2_with (first | ((with_reducible refine gate_store (t := 5) (p := 41) rfl ?_); refine store_event (t := 5) (p := 41) (v := ?vo_w25) (w1 := (wr.setCell ⟨go23, (0 : Int).toNat, none⟩ (.int .u8 (Go.bits .or .u8 ((ji21) % 256) ((x0_1) % 256))))) ?hg ?ho ?hn ?hr ?_; (case ho => rfl); (case hg => rfl); (case hn => rfl); (case hr => first | (go_simp; done) | (go_simp; rfl)); intro w25 hw; have hg : wr.grownBy w25 (some go23) := (by rw [hw]; exact HP24.2); have hp_ : Kd.R (Kd.int .u8) 5 w25 w.heap.size (fun _ => True) (.slice (some ⟨go23, 0, none⟩) x5_1.length co23) y130 := (by rw [hw, Ny130.out]; exact HP24.1); clear HP24; have n0_ := Aside0.mk (hp_); have n1_ := Aside0.mk ((by rw [hw]; exact below_set (HB.out) GB23.out : Below w.heap.size w w25)); clear HO_5; clear HB; have HO_5 := n0_; have HB := n1_; clear n0_ n1_; clear hg hw hp_))
                    go_ret2
                    exact ⟨_, by first | rfl | (simp [errW_none, errW_some] <;> rfl) | (simp only [← hji21]; first | rfl | (simp [errW_none, errW_some] <;> rfl)) | (simp [*, errW_none, errW_some] <;> rfl), by (with_reducible repeat (first | apply Kd.R_alloc | apply Kd.R_drewN | apply Kd.R_drew)); exact HO_5.out, by repeat (first | (with_reducible first | exact HB.out | apply below_alloc | apply pw_below_drewN | apply below_drew1) | exact HB.out)⟩
                  · rw [if_neg c22] at H
                    exact absurd H (by simp)
                · rw [if_neg c20] at H
                  exact absurd H (by simp)
        · rw [if_neg c10] at H
          exact absurd H (by simp)
      · rw [if_neg c9] at H
        exact absurd H (by simp)
  · replace c3 := Bool.eq_false_iff.mpr c3
    subst c3
    have H1 : (some (([] : List Int), 1)) = some (r1, r2) := by rw [if_neg (show ¬ (false = true) by decide)] at H; exact H
    clear H
    have H := H1
    clear H1
    simp only [Option.some.injEq, Prod.mk.injEq] at H
    obtain ⟨rfl, rfl⟩ := H
    go_enter Tryd.func41, Tryd.ntmps41
    go_wp2_with (first | ((with_reducible refine gate_callee (f := 43) rfl ?_); refine goesL_ (some 8) rfl rfl Tryd.func43 (by kernel_rfl) rfl #[.int .i64 a0] rfl (by (try simp only [List.map_toArray, List.map_cons, List.map_nil]); first | done | rfl | (simp only [List.length_drop, List.length_take]; rfl)) ?_; (with_reducible refine (utf_Right.calls a0 false _ A2.out).mono ?_); rintro e w' ⟨rfl, ⟨nd, rfl⟩⟩; refine ⟨_, rfl, ?_⟩))
    go_ret2
    exact ⟨_, by first | rfl | (simp [errW_none, errW_some] <;> rfl) | (simp [*, errW_none, errW_some] <;> rfl), by first | exact Kd.R_nil _ _ _ _ _ | exact Kd.N_nil _ _ _ _ _ | exact Kd.V_nil _ _ _ _ _ | exact Kd.Q_nil _ _ _ _ _ | exact Kd.S_nil _ _ _ _ _, by repeat (first | (with_reducible first | exact HB.out | apply below_alloc | apply pw_below_drewN | apply below_drew1) | exact HB.out)⟩

end Go.Proofs.YteofdfknemopiaaDoor.P
end
section
-- Printed by this session's patched printer.
namespace Go.Proofs.YteofdfknemopiaaDoor.P
open Go.RowKit Go.Proofs.YteofdfknemopiaaDoorW.PrintWords Go.Proofs.YteofdfknemopiaaDoorW.PrintLast Go.Proofs.YteofdfknemopiaaDoorW.PrintMore
attribute [local go_sem] Go.Instr.field Go.part Go.asAgg max2_int min2_int max_two min_two max_three min_three max_four min_four   -- for this text's walks alone
set_option linter.unusedVariables false
set_option linter.unusedSimpArgs false

/-! ### utf_first: function 39 -/
mutual
def utf_first.j1 : Nat → List Int → Int → Int → Option (Int × Int)
  | 0, _, _, _ => none
  | k + 1, x0, x4, x5 => if x5 = 0 then (some (wrap64 (x4), 1)) else (if x5 = 1 then (utf_first.j2 k x0 x4 x5 true) else (if x5 > 4 then (utf_first.j2 k x0 x4 x5 true) else (utf_first.j2 k x0 x4 x5 (decide ((x0.length : Int) < x5)))))
def utf_first.j2 : Nat → List Int → Int → Int → Bool → Option (Int × Int)
  | 0, _, _, _, _ => none
  | k + 1, x0, x4, x5, x38 => if x38 = true then (some (65533, 1)) else (if 0 ≤ (wrap64 (7 - x5)) then (if 1 ≤ x5 then (if x5 ≤ (x0.length : Int) then (utf_first.l1 k x5 (Go.bits .and .i64 (wrap64 (x4)) (wrap64 ((shl .i64 1 (wrap64 (7 - x5))) - 1))) ((x0.take (x5 : Int).toNat).drop 1) (((x0.take (x5 : Int).toNat).drop 1).length : Int) 0) else (none)) else (none)) else (none))
def utf_first.l1 : Nat → Int → Int → List Int → Int → Int → Option (Int × Int)
  | 0, _, _, _, _, _ => none
  | k + 1, x5, x6, x48, x49, x50 => if x50 < x49 then (if 0 ≤ x50 then (if x50 < (x48.length : Int) then (if (Go.bits .and .u8 (rd x48 x50) 192) = 128 then (utf_first.l1 k x5 (Go.bits .or .i64 (wrap64 (x6 * 64)) (wrap64 (Go.bits .and .u8 (rd x48 x50) 63))) x48 x49 (wrap64 (x50 + 1))) else (some (65533, 1))) else (none)) else (none)) else ((utf_Right.f x6).bind fun t104 => (if t104 = true then ((utf_many.f x6).bind fun t105 => (if t105 = x5 then (some (x6, x5)) else (some (65533, 1)))) else (some (65533, 1))))
def utf_first.l0 : Nat → List Int → Int → Int → Option (Int × Int)
  | 0, _, _, _ => none
  | k + 1, x0, x4, x5 => if x5 < 5 then (if 0 ≤ x5 then (if (Go.bits .and .u8 (shl .u8 x4 x5) 128) = 0 then (utf_first.j1 k x0 x4 x5) else (utf_first.l0 k x0 x4 (wrap64 (x5 + 1)))) else (none)) else (utf_first.j1 k x0 x4 x5)
end
def utf_first.f (k : Nat) (l0 : List Int) : Option (Int × Int) := if 0 < (l0.length : Int) then (utf_first.l0 k l0 (rd l0 0) 0) else (none)
theorem utf_first.mono_l : ∀ k, (∀ y0 y1 y2, LeO (utf_first.j1 k y0 y1 y2) (utf_first.j1 (k + 1) y0 y1 y2)) ∧ (∀ y0 y1 y2 y3, LeO (utf_first.j2 k y0 y1 y2 y3) (utf_first.j2 (k + 1) y0 y1 y2 y3)) ∧ (∀ y0 y1 y2 y3 y4, LeO (utf_first.l1 k y0 y1 y2 y3 y4) (utf_first.l1 (k + 1) y0 y1 y2 y3 y4)) ∧ (∀ y0 y1 y2, LeO (utf_first.l0 k y0 y1 y2) (utf_first.l0 (k + 1) y0 y1 y2))
  | 0 => ⟨fun _ _ _ r h => by simp [utf_first.j1] at h, fun _ _ _ _ r h => by simp [utf_first.j2] at h, fun _ _ _ _ _ r h => by simp [utf_first.l1] at h, fun _ _ _ r h => by simp [utf_first.l0] at h⟩
  | k + 1 => by
    obtain ⟨ih0, ih1, ih2, ih3⟩ := utf_first.mono_l k
    refine ⟨?_, ?_, ?_, ?_⟩
    · intro y0 y1 y2
      unfold utf_first.j1
      repeat' first
      | (with_reducible exact ih0 _ _ _)
      | (with_reducible exact ih1 _ _ _ _)
      | (with_reducible exact ih2 _ _ _ _ _)
      | (with_reducible exact ih3 _ _ _)
      | (with_reducible exact LeO.refl _)
      | (with_reducible exact LeO.none _)
      | (with_reducible refine LeO.ite ?_ ?_)
      | (with_reducible refine LeO.bind ?_ (fun _ => ?_))
      | exact ih0 _ _ _
      | exact ih1 _ _ _ _
      | exact ih2 _ _ _ _ _
      | exact ih3 _ _ _
      | exact LeO.none _
      | refine LeO.ite ?_ ?_
      | refine LeO.bind ?_ (fun _ => ?_)
    · intro y0 y1 y2 y3
      unfold utf_first.j2
      repeat' first
      | (with_reducible exact ih0 _ _ _)
      | (with_reducible exact ih1 _ _ _ _)
      | (with_reducible exact ih2 _ _ _ _ _)
      | (with_reducible exact ih3 _ _ _)
      | (with_reducible exact LeO.refl _)
      | (with_reducible exact LeO.none _)
      | (with_reducible refine LeO.ite ?_ ?_)
      | (with_reducible refine LeO.bind ?_ (fun _ => ?_))
      | exact ih0 _ _ _
      | exact ih1 _ _ _ _
      | exact ih2 _ _ _ _ _
      | exact ih3 _ _ _
      | exact LeO.none _
      | refine LeO.ite ?_ ?_
      | refine LeO.bind ?_ (fun _ => ?_)
    · intro y0 y1 y2 y3 y4
      unfold utf_first.l1
      repeat' first
      | (with_reducible exact ih0 _ _ _)
      | (with_reducible exact ih1 _ _ _ _)
      | (with_reducible exact ih2 _ _ _ _ _)
      | (with_reducible exact ih3 _ _ _)
      | (with_reducible exact LeO.refl _)
      | (with_reducible exact LeO.none _)
      | (with_reducible refine LeO.ite ?_ ?_)
      | (with_reducible refine LeO.bind ?_ (fun _ => ?_))
      | exact ih0 _ _ _
      | exact ih1 _ _ _ _
      | exact ih2 _ _ _ _ _
      | exact ih3 _ _ _
      | exact LeO.none _
      | refine LeO.ite ?_ ?_
      | refine LeO.bind ?_ (fun _ => ?_)
    · intro y0 y1 y2
      unfold utf_first.l0
      repeat' first
      | (with_reducible exact ih0 _ _ _)
      | (with_reducible exact ih1 _ _ _ _)
      | (with_reducible exact ih2 _ _ _ _ _)
      | (with_reducible exact ih3 _ _ _)
      | (with_reducible exact LeO.refl _)
      | (with_reducible exact LeO.none _)
      | (with_reducible refine LeO.ite ?_ ?_)
      | (with_reducible refine LeO.bind ?_ (fun _ => ?_))
      | exact ih0 _ _ _
      | exact ih1 _ _ _ _
      | exact ih2 _ _ _ _ _
      | exact ih3 _ _ _
      | exact LeO.none _
      | refine LeO.ite ?_ ?_
      | refine LeO.bind ?_ (fun _ => ?_)
theorem utf_first.mono : ∀ a0 k, LeO (utf_first.f k a0) (utf_first.f (k + 1) a0) := by
  intro a0 k
  obtain ⟨ih0, ih1, ih2, ih3⟩ := utf_first.mono_l k
  unfold utf_first.f
  repeat' first
      | (with_reducible exact ih0 _ _ _)
      | (with_reducible exact ih1 _ _ _ _)
      | (with_reducible exact ih2 _ _ _ _ _)
      | (with_reducible exact ih3 _ _ _)
      | (with_reducible exact LeO.refl _)
      | (with_reducible exact LeO.none _)
      | (with_reducible refine LeO.ite ?_ ?_)
      | (with_reducible refine LeO.bind ?_ (fun _ => ?_))
      | exact ih0 _ _ _
      | exact ih1 _ _ _ _
      | exact ih2 _ _ _ _ _
      | exact ih3 _ _ _
      | exact LeO.none _
      | refine LeO.ite ?_ ?_
      | refine LeO.bind ?_ (fun _ => ?_)
set_option maxHeartbeats 8000000 in
set_option maxRecDepth 100000 in
theorem utf_first.calls (k : Nat) (A0 : Option Addr) (c0 : Nat) (l0 : List Int) (r1 : Int) (r2 : Int) (w : World) (hr0 : Kd.C (Kd.int .u8) w A0 l0.length l0) (hc0 : l0.length ≤ c0) (h : utf_first.f k l0 = some (r1, r2)) :
    Calls Tryd.prog 39 #[.slice A0 l0.length c0] w fun e w' => e = .returned (.tuple #[.int .i64 r1, .int .i64 r2]) ∧ Below w.heap.size w w' := by
  have HR0 := Aside0.mk hr0
  have HC0 := Aside0.mk hc0
  clear hr0 hc0
  have HB := Aside0.mk (Below.refl w.heap.size w)
  have H : (if 0 < (l0.length : Int) then (utf_first.l0 k l0 (rd l0 0) 0) else (none)) = some (r1, r2) := h
  clear h
  by_cases c2 : 0 < (l0.length : Int)
  · rw [if_pos c2] at H
    have c2b0 : decide (0 < (l0.length : Int)) = true := decide_eq_true c2
    have c2b1 : decide (0 < l0.length) = true := decide_eq_true (by omega)
    clear c2
    have HC3 := Aside0.mk H
    clear H
    have p101 : 0 ≤ (0 : Int) := (by omega)
    have q101 : 0 < (l0.length : Int) := of_decide_eq_true (by first | (with_reducible assumption) | assumption)
    obtain ⟨ad101, e101, hx101_0⟩ := Kd.at_int HR0.out 0 p101 q101
    cases e101
    have qi101 : (0 < l0.length) = True := eq_true (by omega)
    (try rw [show ((0 : Int)).toNat = 0 from rfl] at hx101_0)
    (try rw [Addr.add_zero'] at hx101_0)
    replace p101 := eq_true p101
    replace q101 := eq_true q101
    go_enter Tryd.func39, Tryd.ntmps39
    go_upto_block 0 with (fail)
    go_cut [5] (fun v5 wc => ∃ (kq : Nat) (x5_2 : Int), v5 = .int .i64 x5_2 ∧ Aside0 (utf_first.j1 kq l0 (rd l0 0) x5_2 = some (r1, r2)) ∧ Aside0 (kq ≤ k) ∧ Aside0 (Below w.heap.size w wc))
    case first =>
      have H := HC3.out
      clear HC3
      have H' := Aside0.mk H
      clear H
      go_wp2
      go_loopg [5] k (fun kq v5 w' => ∃ (x5_1 : Int), v5 = .int .i64 x5_1 ∧ Aside0 (utf_first.l0 kq l0 (rd l0 0) x5_1 = some (r1, r2)) ∧ Aside0 (kq ≤ k) ∧ Aside0 (Below w.heap.size w w'))
      case atStart => exact ⟨(0), (by first | rfl | (simp; done) | (simp [*]; done)), H', ⟨Nat.le_refl _⟩, ⟨by repeat (first | (with_reducible first | exact HB.out | apply below_alloc | apply pw_below_drewN | apply below_drew1) | exact HB.out)⟩⟩
      case round =>
        clear H'
        try clear p1
        try clear q1
        try clear hx1
        try clear qi1
        try clear c2
        try clear c2b0
        try clear c2b1
        try clear p2
        try clear c3
        try clear hx101_0
        try clear p101
        try clear q101
        obtain ⟨x5_1, rfl, HA, HK1, HB⟩ := hrel
        cases gk with
        | zero => exact absurd HA.out (by simp [utf_first.l0])
        | succ k1 =>
          have H := HA.out
          clear HA
          simp only [utf_first.l0] at H
          by_cases c4 : x5_1 < 5
          · rw [if_pos c4] at H
            have c4b0 : decide (x5_1 < 5) = true := decide_eq_true c4
            clear c4
            (first | rw [c4b0] | (simp only [i64_w, i32_w]; rw [c4b0]) | skip)
            by_cases c5 : 0 ≤ x5_1
            · rw [if_pos c5] at H
              have c5b0 := eq_true c5
              have c5b1 : decide (0 ≤ x5_1) = true := decide_eq_true c5
              clear c5
              obtain ⟨ji6, hji6⟩ : ∃ j_ : Int, (shl .u8 (rd l0 0) x5_1) = j_ := ⟨_, rfl⟩
              replace H : (if (Go.bits .and .u8 (ji6) 128) = 0 then (utf_first.j1 k1 l0 (rd l0 0) x5_1) else (utf_first.l0 k1 l0 (rd l0 0) (wrap64 (x5_1 + 1)))) = some (r1, r2) := by first | (rw [hji6] at H; exact H) | (simp only [hji6] at H ⊢; exact H)
              have hji6_ : (IntKind.u8.wrap ((rd l0 0) * 2 ^ min x5_1.toNat 8)) = ji6 := hji6
              have hji6z : x5_1 ≤ 8 → (IntKind.u8.wrap ((rd l0 0) * 2 ^ x5_1.toNat)) = ji6 := shl_small hji6
              by_cases c7 : (Go.bits .and .u8 (ji6) 128) = 0
              · rw [if_pos c7] at H
                have c7b0 : ((Go.bits .and .u8 (ji6) 128) == 0) = true := beq_iff_eq.mpr c7
                have c7b1 : ((Go.bits .and .u8 (ji6) 128) != 0) = false := bne_eq_false_iff_eq.mpr c7
                clear c7
                have H' := Aside0.mk H
                clear H
                go_wp2
                go_meet
                case rel => exact ⟨_, (x5_1), (by first | rfl | (simp; done) | (simp [*]; done)), H', ⟨by have := HK1.out; first | omega | exact Nat.le_refl _⟩, ⟨by repeat (first | (with_reducible first | exact HB.out | apply below_alloc | apply pw_below_drewN | apply below_drew1) | exact HB.out)⟩⟩
              · rw [if_neg c7] at H
                have c7b0 : ((Go.bits .and .u8 (ji6) 128) == 0) = false := beq_eq_false_iff_ne.mpr c7
                have c7b1 : ((Go.bits .and .u8 (ji6) 128) != 0) = true := bne_iff_ne.mpr c7
                have H' := Aside0.mk H
                clear H
                go_wp2
                go_roundg k1
                case measure => have := HK1.out; omega
                case rel => exact ⟨(wrap64 (x5_1 + 1)), (by first | rfl | (simp; done) | (simp [*]; done)), H', ⟨by have := HK1.out; omega⟩, ⟨by repeat (first | (with_reducible first | exact HB.out | apply below_alloc | apply pw_below_drewN | apply below_drew1) | exact HB.out)⟩⟩
            · rw [if_neg c5] at H
              exact absurd H (by simp)
          · rw [if_neg c4] at H
            have c4b0 : decide (x5_1 < 5) = false := decide_eq_false c4
            clear c4
            (first | rw [c4b0] | (simp only [i64_w, i32_w]; rw [c4b0]) | skip)
            have H' := Aside0.mk H
            clear H
            go_wp2
            go_meet
            case rel => exact ⟨_, (x5_1), (by first | rfl | (simp; done) | (simp [*]; done)), H', ⟨by have := HK1.out; first | omega | exact Nat.le_refl _⟩, ⟨by repeat (first | (with_reducible first | exact HB.out | apply below_alloc | apply pw_below_drewN | apply below_drew1) | exact HB.out)⟩⟩
    case rest =>
      clear HC3
      try clear p1
      try clear q1
      try clear hx1
      try clear qi1
      try clear c2
      try clear c2b0
      try clear c2b1
      try clear p2
      try clear c3
      try clear c4
      try clear c4b0
      try clear c5
      try clear c5b0
      try clear c5b1
      try clear p6
      try clear c7
      try clear c7b0
      try clear c7b1
      try clear hx101_0
      try clear p1
      try clear p101
      try clear p2
      try clear q1
      try clear q101
      obtain ⟨kq, x5_2, rfl, HA, HJ2, HB⟩ := hcut
      cases kq with
      | zero => exact absurd HA.out (by simp [utf_first.j1])
      | succ kj2 =>
        have H := HA.out
        clear HA
        simp only [utf_first.j1] at H
        by_cases c8 : x5_2 = 0
        · rw [if_pos c8] at H
          have c8b0 : (x5_2 == 0) = true := beq_iff_eq.mpr c8
          have c8b1 : (x5_2 != 0) = false := bne_eq_false_iff_eq.mpr c8
          clear c8
          simp only [Option.some.injEq, Prod.mk.injEq] at H
          obtain ⟨rfl, rfl⟩ := H
          go_wp2
          go_ret2
          exact ⟨by first | rfl | (simp [errW_none, errW_some] <;> rfl) | (simp [*, errW_none, errW_some] <;> rfl), by repeat (first | (with_reducible first | exact HB.out | apply below_alloc | apply pw_below_drewN | apply below_drew1) | exact HB.out)⟩
        · rw [if_neg c8] at H
          have c8b0 : (x5_2 == 0) = false := beq_eq_false_iff_ne.mpr c8
          have c8b1 : (x5_2 != 0) = true := bne_iff_ne.mpr c8
          have HC9 := Aside0.mk H
          clear H
          go_upto_region 7 with (fail)
          go_cut [38] (fun v38 wc => ∃ (kq : Nat) (x38_8 : Bool), v38 = .bool x38_8 ∧ Aside0 (utf_first.j2 kq l0 (rd l0 0) x5_2 x38_8 = some (r1, r2)) ∧ Aside0 (kq ≤ kj2) ∧ Aside0 (Below w.heap.size w wc))
          case first =>
            have H := HC9.out
            clear HC9
            by_cases c10 : x5_2 = 1
            · rw [if_pos c10] at H
              have c10b0 : (x5_2 == 1) = true := beq_iff_eq.mpr c10
              have c10b1 : (x5_2 != 1) = false := bne_eq_false_iff_eq.mpr c10
              clear c10
              (first | rw [c10b0] | (simp only [i64_w, i32_w]; rw [c10b0]) | skip)
              have H' := Aside0.mk H
              clear H
              go_wp2
              go_meet
              case rel => exact ⟨_, (true), (by first | rfl | (simp; done) | (simp [*]; done)), H', ⟨by have := HJ2.out; first | omega | exact Nat.le_refl _⟩, ⟨by repeat (first | (with_reducible first | exact HB.out | apply below_alloc | apply pw_below_drewN | apply below_drew1) | exact HB.out)⟩⟩
            · rw [if_neg c10] at H
              have c10b0 : (x5_2 == 1) = false := beq_eq_false_iff_ne.mpr c10
              have c10b1 : (x5_2 != 1) = true := bne_iff_ne.mpr c10
              (first | rw [c10b0] | (simp only [i64_w, i32_w]; rw [c10b0]) | skip)
              by_cases c11 : x5_2 > 4
              · rw [if_pos c11] at H
                have c11b0 : decide (4 < x5_2) = true := decide_eq_true c11
                clear c11
                have H' := Aside0.mk H
                clear H
                go_wp2
                go_meet
                case rel => exact ⟨_, (true), (by first | rfl | (simp; done) | (simp [*]; done)), H', ⟨by have := HJ2.out; first | omega | exact Nat.le_refl _⟩, ⟨by repeat (first | (with_reducible first | exact HB.out | apply below_alloc | apply pw_below_drewN | apply below_drew1) | exact HB.out)⟩⟩
              · rw [if_neg c11] at H
                have c11b0 : decide (4 < x5_2) = false := decide_eq_false c11
                clear c11
                have H' := Aside0.mk H
                clear H
                go_wp2
                go_meet
                case rel => exact ⟨_, (decide ((l0.length : Int) < x5_2)), (by first | rfl | (simp; done) | (simp [*]; done)), H', ⟨by have := HJ2.out; first | omega | exact Nat.le_refl _⟩, ⟨by repeat (first | (with_reducible first | exact HB.out | apply below_alloc | apply pw_below_drewN | apply below_drew1) | exact HB.out)⟩⟩
          case rest =>
            clear HC9
            try clear c1
            try clear p1
            try clear q1
            try clear hx1
            try clear qi1
            try clear c2
            try clear c2b0
            try clear c2b1
            try clear p2
            try clear c3
            try clear c4
            try clear c4b0
            try clear c5
            try clear c5b0
            try clear c5b1
            try clear p6
            try clear c7
            try clear c7b0
            try clear c7b1
            try clear c8
            try clear c8b0
            try clear c8b1
            try clear c10
            try clear c10b0
            try clear c10b1
            try clear p10
            try clear q10
            try clear hx10
            try clear qi10
            try clear c11
            try clear c11b0
            try clear hx101_0
            try clear p1
            try clear p101
            try clear p2
            try clear p6
            try clear q1
            try clear q101
            obtain ⟨kq, x38_8, rfl, HA, HJ8, HB⟩ := hcut
            cases kq with
            | zero => exact absurd HA.out (by simp [utf_first.j2])
            | succ kj8 =>
              have H := HA.out
              clear HA
              simp only [utf_first.j2] at H
              by_cases c12 : x38_8 = true
              · subst c12
                have H1 : (some (65533, 1)) = some (r1, r2) := by rw [if_pos rfl] at H; exact H
                clear H
                have H := H1
                clear H1
                simp only [Option.some.injEq, Prod.mk.injEq] at H
                obtain ⟨rfl, rfl⟩ := H
                go_wp2
                go_ret2
                exact ⟨by first | rfl | (simp [errW_none, errW_some] <;> rfl) | (simp [*, errW_none, errW_some] <;> rfl), by repeat (first | (with_reducible first | exact HB.out | apply below_alloc | apply pw_below_drewN | apply below_drew1) | exact HB.out)⟩
              · replace c12 := Bool.eq_false_iff.mpr c12
                subst c12
                have H1 : (if 0 ≤ (wrap64 (7 - x5_2)) then (if 1 ≤ x5_2 then (if x5_2 ≤ (l0.length : Int) then (utf_first.l1 kj8 x5_2 (Go.bits .and .i64 (wrap64 ((rd l0 0))) (wrap64 ((shl .i64 1 (wrap64 (7 - x5_2))) - 1))) ((l0.take (x5_2 : Int).toNat).drop 1) (((l0.take (x5_2 : Int).toNat).drop 1).length : Int) 0) else (none)) else (none)) else (none)) = some (r1, r2) := by rw [if_neg (show ¬ (false = true) by decide)] at H; exact H
                clear H
                have H := H1
                clear H1
                obtain ⟨ji13, hji13⟩ : ∃ j_ : Int, (wrap64 (7 - x5_2)) = j_ := ⟨_, rfl⟩
                replace H : (if 0 ≤ (ji13) then (if 1 ≤ x5_2 then (if x5_2 ≤ (l0.length : Int) then (utf_first.l1 kj8 x5_2 (Go.bits .and .i64 (wrap64 ((rd l0 0))) (wrap64 ((shl .i64 1 (ji13)) - 1))) ((l0.take (x5_2 : Int).toNat).drop 1) (((l0.take (x5_2 : Int).toNat).drop 1).length : Int) 0) else (none)) else (none)) else (none)) = some (r1, r2) := by first | (rw [hji13] at H; exact H) | (simp only [hji13] at H ⊢; exact H)
                have hji13w : (IntKind.i64.wrap (7 - x5_2)) = ji13 := (i64_w _).trans hji13
                by_cases c14 : 0 ≤ (ji13)
                · rw [if_pos c14] at H
                  have c14b0 := eq_true c14
                  have c14b1 : decide (0 ≤ (ji13)) = true := decide_eq_true c14
                  clear c14
                  obtain ⟨ji15, hji15⟩ : ∃ j_ : Int, (shl .i64 1 (ji13)) = j_ := ⟨_, rfl⟩
                  replace H : (if 1 ≤ x5_2 then (if x5_2 ≤ (l0.length : Int) then (utf_first.l1 kj8 x5_2 (Go.bits .and .i64 (wrap64 ((rd l0 0))) (wrap64 ((ji15) - 1))) ((l0.take (x5_2 : Int).toNat).drop 1) (((l0.take (x5_2 : Int).toNat).drop 1).length : Int) 0) else (none)) else (none)) = some (r1, r2) := by first | (rw [hji15] at H; exact H) | (simp only [hji15] at H ⊢; exact H)
                  have hji15_ : (IntKind.i64.wrap (1 * 2 ^ min (ji13).toNat 64)) = ji15 := hji15
                  have hji15z : (ji13) ≤ 64 → (IntKind.i64.wrap (1 * 2 ^ (ji13).toNat)) = ji15 := shl_small hji15
                  have hji15u : (IntKind.i64.wrap (2 ^ min (ji13).toNat 64)) = ji15 := by have h_ := hji15_; rw [Int.one_mul] at h_; exact h_
                  have hji15v : (ji13) ≤ 64 → (IntKind.i64.wrap (2 ^ (ji13).toNat)) = ji15 := fun hle_ => by have h_ := hji15z hle_; rw [Int.one_mul] at h_; exact h_
                  have hji15y : (wrap64 (1 * 2 ^ min (ji13).toNat 64)) = ji15 := (i64_w _).symm.trans hji15_
                  have hji15x : (ji13) ≤ 64 → (wrap64 (1 * 2 ^ (ji13).toNat)) = ji15 := fun h_ => (i64_w _).symm.trans (hji15z h_)
                  by_cases c16 : 1 ≤ x5_2
                  · rw [if_pos c16] at H
                    have c16b0 := eq_true c16
                    have c16b1 : decide (1 ≤ x5_2) = true := decide_eq_true c16
                    clear c16
                    by_cases c17 : x5_2 ≤ (l0.length : Int)
                    · rw [if_pos c17] at H
                      have c17b0 := eq_true c17
                      have c17b1 : decide (x5_2 ≤ (l0.length : Int)) = true := decide_eq_true c17
                      clear c17
                      have H' := Aside0.mk H
                      clear H
                      obtain ⟨i018, hi018, _, hsz18, _⟩ := info_parts info5
                      obtain ⟨A18, hcut18, hA18, hC18⟩ := print_mid_of (P := Tryd.prog) (Value.int .u8) 0 30 5 .i64 .i64 Tryd.underlying30 hi018 hsz18 (some ad101) c0 l0 1 x5_2 (by omega) (by first | omega | exact of_decide_eq_true (by first | (with_reducible assumption) | assumption)) (of_decide_eq_true (by first | (with_reducible assumption) | assumption)) HC0.out
                      have HR102 := Aside0.mk (Kd.C_of_reads (h1 := fun _ => rfl) (hA18 _ (Kd.reads_of_C HR0.out)))
                      have HC102 := Aside0.mk hC18
                      clear hA18 hC18 hi018 hsz18
                      (try have HLN19 := Aside0.mk (show ((l0.take (x5_2 : Int).toNat).drop 1).length = (x5_2.toNat - 1) from (by rw [List.length_drop, List.length_take]; have h_ : (x5_2 : Int) ≤ (l0.length : Int) := of_decide_eq_true (by first | (with_reducible assumption) | assumption); omega)))
                      go_wp2
                      go_loopg [6, 50] kj8 (fun kq v6 v50 w' => ∃ (x6_3 : Int) (x50_3 : Int), v6 = .int .i64 x6_3 ∧ v50 = .int .i64 x50_3 ∧ Aside0 (utf_first.l1 kq x5_2 x6_3 ((l0.take (x5_2 : Int).toNat).drop 1) (((l0.take (x5_2 : Int).toNat).drop 1).length : Int) x50_3 = some (r1, r2)) ∧ Aside0 (kq ≤ kj8) ∧ Aside0 (Below w.heap.size w w'))
                      case atStart => exact ⟨(Go.bits .and .i64 (wrap64 ((rd l0 0))) (wrap64 ((ji15) - 1))), (0), (by first | rfl | (simp; done) | (simp only [← hji15] <;> (first | rfl | simp)) | (simp [*]; done)), (by first | rfl | (simp; done) | (simp [*]; done)), H', ⟨Nat.le_refl _⟩, ⟨by repeat (first | (with_reducible first | exact HB.out | apply below_alloc | apply pw_below_drewN | apply below_drew1) | exact HB.out)⟩⟩
                      case round =>
                        clear H'
                        try clear c1
                        try clear p1
                        try clear q1
                        try clear hx1
                        try clear qi1
                        try clear c2
                        try clear c2b0
                        try clear c2b1
                        try clear p2
                        try clear c3
                        try clear c4
                        try clear c4b0
                        try clear c5
                        try clear c5b0
                        try clear c5b1
                        try clear p6
                        try clear c7
                        try clear c7b0
                        try clear c7b1
                        try clear c8
                        try clear c8b0
                        try clear c8b1
                        try clear c10
                        try clear c10b0
                        try clear c10b1
                        try clear p10
                        try clear q10
                        try clear hx10
                        try clear qi10
                        try clear c11
                        try clear c11b0
                        try clear c12
                        try clear c14
                        try clear c14b0
                        try clear c14b1
                        try clear c16
                        try clear c16b0
                        try clear c16b1
                        try clear c17
                        try clear c17b0
                        try clear c17b1
                        try clear hx101_0
                        try clear p1
                        try clear p10
                        try clear p101
                        try clear p2
                        try clear p6
                        try clear q1
                        try clear q10
                        try clear q101
                        obtain ⟨x6_3, x50_3, rfl, rfl, HA, HK3, HB⟩ := hrel
                        cases gk with
                        | zero => exact absurd HA.out (by simp [utf_first.l1])
                        | succ k3 =>
                          have H := HA.out
                          clear HA
                          simp only [utf_first.l1] at H
                          by_cases c20 : x50_3 < (((l0.take (x5_2 : Int).toNat).drop 1).length : Int)
                          · rw [if_pos c20] at H
                            have c20b0 : decide (x50_3 < (((l0.take (x5_2 : Int).toNat).drop 1).length : Int)) = true := decide_eq_true c20
                            (try (have c20b1 : decide (x50_3 < ((x5_2.toNat - 1 : Nat) : Int)) = true := by have h_ : decide (x50_3 < (((l0.take (x5_2 : Int).toNat).drop 1).length : Int)) = true := decide_eq_true c20; have he_ := (show Aside0 (((l0.take (x5_2 : Int).toNat).drop 1).length = ((x5_2 : Int).toNat - 1)) by assumption).out; rw [he_] at h_; exact h_))
                            (try (have c20b2 : (x50_3 < ((x5_2.toNat - 1 : Nat) : Int)) = True := by have h_ : decide (x50_3 < (((l0.take (x5_2 : Int).toNat).drop 1).length : Int)) = true := decide_eq_true c20; have he_ := (show Aside0 (((l0.take (x5_2 : Int).toNat).drop 1).length = ((x5_2 : Int).toNat - 1)) by assumption).out; rw [he_] at h_; exact eq_true (of_decide_eq_true h_)))
                            (try (have c20b3 : decide (x50_3 < (((l0.take (x5_2 : Int).toNat).tail).length : Int)) = true := by have h_ : decide (x50_3 < (((l0.take (x5_2 : Int).toNat).drop 1).length : Int)) = true := decide_eq_true c20; simpa only [List.drop_one] using h_))
                            clear c20
                            by_cases c21 : 0 ≤ x50_3
                            · rw [if_pos c21] at H
                              have c21b0 : decide (0 ≤ x50_3) = true := decide_eq_true c21
                              clear c21
                              by_cases c22 : x50_3 < (((l0.take (x5_2 : Int).toNat).drop 1).length : Int)
                              · rw [if_pos c22] at H
                                have c22b0 : decide (x50_3 < (((l0.take (x5_2 : Int).toNat).drop 1).length : Int)) = true := decide_eq_true c22
                                (try (have c22b1 : decide (x50_3 < ((x5_2.toNat - 1 : Nat) : Int)) = true := by have h_ : decide (x50_3 < (((l0.take (x5_2 : Int).toNat).drop 1).length : Int)) = true := decide_eq_true c22; have he_ := (show Aside0 (((l0.take (x5_2 : Int).toNat).drop 1).length = ((x5_2 : Int).toNat - 1)) by assumption).out; rw [he_] at h_; exact h_))
                                (try (have c22b2 : (x50_3 < ((x5_2.toNat - 1 : Nat) : Int)) = True := by have h_ : decide (x50_3 < (((l0.take (x5_2 : Int).toNat).drop 1).length : Int)) = true := decide_eq_true c22; have he_ := (show Aside0 (((l0.take (x5_2 : Int).toNat).drop 1).length = ((x5_2 : Int).toNat - 1)) by assumption).out; rw [he_] at h_; exact eq_true (of_decide_eq_true h_)))
                                (try (have c22b3 : decide (x50_3 < (((l0.take (x5_2 : Int).toNat).tail).length : Int)) = true := by have h_ : decide (x50_3 < (((l0.take (x5_2 : Int).toNat).drop 1).length : Int)) = true := decide_eq_true c22; simpa only [List.drop_one] using h_))
                                clear c22
                                by_cases c23 : (Go.bits .and .u8 (rd ((l0.take (x5_2 : Int).toNat).drop 1) x50_3) 192) = 128
                                · rw [if_pos c23] at H
                                  have c23b0 : ((Go.bits .and .u8 (rd ((l0.take (x5_2 : Int).toNat).drop 1) x50_3) 192) == 128) = true := beq_iff_eq.mpr c23
                                  (try (have c23b1 : ((Go.bits .and .u8 (rd ((l0.take (x5_2 : Int).toNat).tail) x50_3) 192) == 128) = true := by have h_ : ((Go.bits .and .u8 (rd ((l0.take (x5_2 : Int).toNat).drop 1) x50_3) 192) == 128) = true := beq_iff_eq.mpr c23; simpa only [List.drop_one] using h_))
                                  have c23b2 : ((Go.bits .and .u8 (rd ((l0.take (x5_2 : Int).toNat).drop 1) x50_3) 192) != 128) = false := bne_eq_false_iff_eq.mpr c23
                                  (try (have c23b3 : ((Go.bits .and .u8 (rd ((l0.take (x5_2 : Int).toNat).tail) x50_3) 192) != 128) = false := by have h_ : ((Go.bits .and .u8 (rd ((l0.take (x5_2 : Int).toNat).drop 1) x50_3) 192) != 128) = false := bne_eq_false_iff_eq.mpr c23; simpa only [List.drop_one] using h_))
                                  clear c23
                                  have H' := Aside0.mk H
                                  clear H
                                  have p103 : 0 ≤ (x50_3 : Int) := of_decide_eq_true (by first | (with_reducible assumption) | assumption)
                                  have q103 : x50_3 < (((l0.take (x5_2 : Int).toNat).drop 1).length : Int) := of_decide_eq_true (by first | (with_reducible assumption) | assumption)
                                  obtain ⟨ad103, e103, hx103_0⟩ := Kd.at_int HR102.out x50_3 p103 q103
                                  cases e103
                                  replace hx103_0 := (HB.out.cell (World.block_lt_of_cell? w _ hx103_0)).trans hx103_0
                                  replace p103 := eq_true p103
                                  replace q103 := eq_true q103
                                  go_wp2
                                  go_roundg k3
                                  case measure => have := HJ2.out; have := HJ8.out; have := HK3.out; omega
                                  case rel => exact ⟨(Go.bits .or .i64 (wrap64 (x6_3 * 64)) (wrap64 (Go.bits .and .u8 (rd ((l0.take (x5_2 : Int).toNat).drop 1) x50_3) 63))), (wrap64 (x50_3 + 1)), (by first | rfl | (simp; done) | (simp [*]; done)), (by first | rfl | (simp; done) | (simp [*]; done)), H', ⟨by have := HJ2.out; have := HJ8.out; have := HK3.out; omega⟩, ⟨by repeat (first | (with_reducible first | exact HB.out | apply below_alloc | apply pw_below_drewN | apply below_drew1) | exact HB.out)⟩⟩
                                · rw [if_neg c23] at H
                                  have c23b0 : ((Go.bits .and .u8 (rd ((l0.take (x5_2 : Int).toNat).drop 1) x50_3) 192) == 128) = false := beq_eq_false_iff_ne.mpr c23
                                  (try (have c23b1 : ((Go.bits .and .u8 (rd ((l0.take (x5_2 : Int).toNat).tail) x50_3) 192) == 128) = false := by have h_ : ((Go.bits .and .u8 (rd ((l0.take (x5_2 : Int).toNat).drop 1) x50_3) 192) == 128) = false := beq_eq_false_iff_ne.mpr c23; simpa only [List.drop_one] using h_))
                                  have c23b2 : ((Go.bits .and .u8 (rd ((l0.take (x5_2 : Int).toNat).drop 1) x50_3) 192) != 128) = true := bne_iff_ne.mpr c23
                                  (try (have c23b3 : ((Go.bits .and .u8 (rd ((l0.take (x5_2 : Int).toNat).tail) x50_3) 192) != 128) = true := by have h_ : ((Go.bits .and .u8 (rd ((l0.take (x5_2 : Int).toNat).drop 1) x50_3) 192) != 128) = true := bne_iff_ne.mpr c23; simpa only [List.drop_one] using h_))
                                  simp only [Option.some.injEq, Prod.mk.injEq] at H
                                  obtain ⟨rfl, rfl⟩ := H
                                  have p103 : 0 ≤ (x50_3 : Int) := of_decide_eq_true (by first | (with_reducible assumption) | assumption)
                                  have q103 : x50_3 < (((l0.take (x5_2 : Int).toNat).drop 1).length : Int) := of_decide_eq_true (by first | (with_reducible assumption) | assumption)
                                  obtain ⟨ad103, e103, hx103_0⟩ := Kd.at_int HR102.out x50_3 p103 q103
                                  cases e103
                                  replace hx103_0 := (HB.out.cell (World.block_lt_of_cell? w _ hx103_0)).trans hx103_0
                                  replace p103 := eq_true p103
                                  replace q103 := eq_true q103
                                  go_wp2
                                  go_ret2
                                  exact ⟨by first | rfl | (simp [errW_none, errW_some] <;> rfl) | (simp only [← hji13, ← hji15]; first | rfl | (simp [errW_none, errW_some] <;> rfl)) | (simp [*, errW_none, errW_some] <;> rfl), by repeat (first | (with_reducible first | exact HB.out | apply below_alloc | apply pw_below_drewN | apply below_drew1) | exact HB.out)⟩
                              · rw [if_neg c22] at H
                                exact absurd H (by simp)
                            · rw [if_neg c21] at H
                              exact absurd H (by simp)
                          · rw [if_neg c20] at H
                            have c20b0 : decide (x50_3 < (((l0.take (x5_2 : Int).toNat).drop 1).length : Int)) = false := decide_eq_false c20
                            (try (have c20b1 : decide (x50_3 < ((x5_2.toNat - 1 : Nat) : Int)) = false := by have h_ : decide (x50_3 < (((l0.take (x5_2 : Int).toNat).drop 1).length : Int)) = false := decide_eq_false c20; have he_ := (show Aside0 (((l0.take (x5_2 : Int).toNat).drop 1).length = ((x5_2 : Int).toNat - 1)) by assumption).out; rw [he_] at h_; exact h_))
                            (try (have c20b2 : decide (x50_3 < (((l0.take (x5_2 : Int).toNat).tail).length : Int)) = false := by have h_ : decide (x50_3 < (((l0.take (x5_2 : Int).toNat).drop 1).length : Int)) = false := decide_eq_false c20; simpa only [List.drop_one] using h_))
                            clear c20
                            replace H := Option.bind_eq_some_iff.mp H
                            obtain ⟨t104, A240, H⟩ := H
                            replace H : (if t104 = true then ((utf_many.f x6_3).bind fun t105 => (if t105 = x5_2 then (some (x6_3, x5_2)) else (some (65533, 1)))) else (some (65533, 1))) = some (r1, r2) := H
                            have A24 := Aside0.mk A240
                            clear A240
                            by_cases c25 : t104 = true
                            · subst c25
                              have H1 : ((utf_many.f x6_3).bind fun t105 => (if t105 = x5_2 then (some (x6_3, x5_2)) else (some (65533, 1)))) = some (r1, r2) := by rw [if_pos rfl] at H; exact H
                              clear H
                              have H := H1
                              clear H1
                              replace H := Option.bind_eq_some_iff.mp H
                              obtain ⟨t105, A260, H⟩ := H
                              replace H : (if t105 = x5_2 then (some (x6_3, x5_2)) else (some (65533, 1))) = some (r1, r2) := H
                              have A26 := Aside0.mk A260
                              clear A260
                              by_cases c27 : t105 = x5_2
                              · rw [if_pos c27] at H
                                have c27b0 : (t105 == x5_2) = true := beq_iff_eq.mpr c27
                                have c27b1 : (t105 != x5_2) = false := bne_eq_false_iff_eq.mpr c27
                                clear c27
                                simp only [Option.some.injEq, Prod.mk.injEq] at H
                                obtain ⟨rfl, rfl⟩ := H
                                go_wp2_with (first | ((with_reducible refine gate_callee (f := 43) rfl ?_); refine goesL_ (some 65) rfl rfl Tryd.func43 (by kernel_rfl) rfl #[.int .i64 x6_3] rfl (by (try simp only [List.map_toArray, List.map_cons, List.map_nil]); first | done | rfl | (simp only [List.length_drop, List.length_take]; rfl)) ?_; (with_reducible refine (utf_Right.calls x6_3 true _ A24.out).mono ?_); rintro e w' ⟨rfl, ⟨nd, rfl⟩⟩; refine ⟨_, rfl, ?_⟩) | (go_at_call 44; (with_reducible refine (utf_many.calls x6_3 t105 _ A26.out).mono ?_); rintro e w28 ⟨rfl, hb⟩; have n0_ := Aside0.mk (below_step (by repeat (first | (with_reducible first | exact HB.out | apply below_alloc | apply pw_below_drewN | apply below_drew1) | exact HB.out)) hb); clear HB; have HB := n0_; clear n0_; (try clear hb); (try clear hb2); (try clear hk); (try clear hi)))
                                go_ret2
                                exact ⟨by first | rfl | (simp [errW_none, errW_some] <;> rfl) | (simp only [← hji13, ← hji15]; first | rfl | (simp [errW_none, errW_some] <;> rfl)) | (simp [*, errW_none, errW_some] <;> rfl), by repeat (first | (with_reducible first | exact HB.out | apply below_alloc | apply pw_below_drewN | apply below_drew1) | exact HB.out)⟩
                              · rw [if_neg c27] at H
                                have c27b0 : (t105 == x5_2) = false := beq_eq_false_iff_ne.mpr c27
                                have c27b1 : (t105 != x5_2) = true := bne_iff_ne.mpr c27
                                simp only [Option.some.injEq, Prod.mk.injEq] at H
                                obtain ⟨rfl, rfl⟩ := H
                                go_wp2_with (first | ((with_reducible refine gate_callee (f := 43) rfl ?_); refine goesL_ (some 65) rfl rfl Tryd.func43 (by kernel_rfl) rfl #[.int .i64 x6_3] rfl (by (try simp only [List.map_toArray, List.map_cons, List.map_nil]); first | done | rfl | (simp only [List.length_drop, List.length_take]; rfl)) ?_; (with_reducible refine (utf_Right.calls x6_3 true _ A24.out).mono ?_); rintro e w' ⟨rfl, ⟨nd, rfl⟩⟩; refine ⟨_, rfl, ?_⟩) | (go_at_call 44; (with_reducible refine (utf_many.calls x6_3 t105 _ A26.out).mono ?_); rintro e w29 ⟨rfl, hb⟩; have n0_ := Aside0.mk (below_step (by repeat (first | (with_reducible first | exact HB.out | apply below_alloc | apply pw_below_drewN | apply below_drew1) | exact HB.out)) hb); clear HB; have HB := n0_; clear n0_; (try clear hb); (try clear hb2); (try clear hk); (try clear hi)))
                                go_ret2
                                exact ⟨by first | rfl | (simp [errW_none, errW_some] <;> rfl) | (simp only [← hji13, ← hji15]; first | rfl | (simp [errW_none, errW_some] <;> rfl)) | (simp [*, errW_none, errW_some] <;> rfl), by repeat (first | (with_reducible first | exact HB.out | apply below_alloc | apply pw_below_drewN | apply below_drew1) | exact HB.out)⟩
                            · replace c25 := Bool.eq_false_iff.mpr c25
                              subst c25
                              have H1 : (some (65533, 1)) = some (r1, r2) := by rw [if_neg (show ¬ (false = true) by decide)] at H; exact H
                              clear H
                              have H := H1
                              clear H1
                              simp only [Option.some.injEq, Prod.mk.injEq] at H
                              obtain ⟨rfl, rfl⟩ := H
                              go_wp2_with (first | ((with_reducible refine gate_callee (f := 43) rfl ?_); refine goesL_ (some 65) rfl rfl Tryd.func43 (by kernel_rfl) rfl #[.int .i64 x6_3] rfl (by (try simp only [List.map_toArray, List.map_cons, List.map_nil]); first | done | rfl | (simp only [List.length_drop, List.length_take]; rfl)) ?_; (with_reducible refine (utf_Right.calls x6_3 false _ A24.out).mono ?_); rintro e w' ⟨rfl, ⟨nd, rfl⟩⟩; refine ⟨_, rfl, ?_⟩))
                              go_ret2
                              exact ⟨by first | rfl | (simp [errW_none, errW_some] <;> rfl) | (simp only [← hji13, ← hji15]; first | rfl | (simp [errW_none, errW_some] <;> rfl)) | (simp [*, errW_none, errW_some] <;> rfl), by repeat (first | (with_reducible first | exact HB.out | apply below_alloc | apply pw_below_drewN | apply below_drew1) | exact HB.out)⟩
                    · rw [if_neg c17] at H
                      exact absurd H (by simp)
                  · rw [if_neg c16] at H
                    exact absurd H (by simp)
                · rw [if_neg c14] at H
                  exact absurd H (by simp)
  · rw [if_neg c2] at H
    exact absurd H (by simp)

end Go.Proofs.YteofdfknemopiaaDoor.P
end
section
-- Printed by this session's patched printer.
namespace Go.Proofs.YteofdfknemopiaaDoor.P
open Go.RowKit Go.Proofs.YteofdfknemopiaaDoorW.PrintWords Go.Proofs.YteofdfknemopiaaDoorW.PrintLast Go.Proofs.YteofdfknemopiaaDoorW.PrintMore
attribute [local go_sem] Go.Instr.field Go.part Go.asAgg max2_int min2_int max_two min_two max_three min_three max_four min_four   -- for this text's walks alone
set_option linter.unusedVariables false
set_option linter.unusedSimpArgs false

/-! ### utf_Decode: function 33 -/
def utf_Decode.l0 : Nat → List Int → List Int → Option (List Int)
  | 0, _, _ => none
  | k + 1, x0, x3 => if (x0.length : Int) > 0 then ((utf_first.f k x0).bind fun bt106 => (if x3.length < 17592186044416 then (if 0 ≤ bt106.2 then (if bt106.2 ≤ (x0.length : Int) then (utf_Decode.l0 k (x0.drop (bt106.2 : Int).toNat) (x3 ++ [bt106.1])) else (none)) else (none)) else (none))) else (some x3)
def utf_Decode.f (k : Nat) (l0 : List Int) : Option (List Int) := utf_Decode.l0 k l0 ([] : List Int)
theorem utf_Decode.mono_l : ∀ k, (∀ y0 y1, LeO (utf_Decode.l0 k y0 y1) (utf_Decode.l0 (k + 1) y0 y1))
  | 0 => fun _ _ r h => by simp [utf_Decode.l0] at h
  | k + 1 => by
    have ih0 := utf_Decode.mono_l k
    · intro y0 y1
      unfold utf_Decode.l0
      repeat' first
      | (with_reducible exact ih0 _ _)
      | (with_reducible exact utf_first.mono _ _)
      | (with_reducible exact LeO.refl _)
      | (with_reducible exact LeO.none _)
      | (with_reducible refine LeO.ite ?_ ?_)
      | (with_reducible refine LeO.bind ?_ (fun _ => ?_))
      | exact ih0 _ _
      | exact utf_first.mono _ _
      | exact LeO.none _
      | refine LeO.ite ?_ ?_
      | refine LeO.bind ?_ (fun _ => ?_)
theorem utf_Decode.mono : ∀ a0 k, LeO (utf_Decode.f k a0) (utf_Decode.f (k + 1) a0) := by
  intro a0 k
  have ih0 := utf_Decode.mono_l k
  unfold utf_Decode.f
  repeat' first
      | (with_reducible exact ih0 _ _)
      | (with_reducible exact utf_first.mono _ _)
      | (with_reducible exact LeO.refl _)
      | (with_reducible exact LeO.none _)
      | (with_reducible refine LeO.ite ?_ ?_)
      | (with_reducible refine LeO.bind ?_ (fun _ => ?_))
      | exact ih0 _ _
      | exact utf_first.mono _ _
      | exact LeO.none _
      | refine LeO.ite ?_ ?_
      | refine LeO.bind ?_ (fun _ => ?_)
set_option maxHeartbeats 8000000 in
set_option maxRecDepth 100000 in
theorem utf_Decode.calls (k : Nat) (P0_ : Nat → Prop) (A0 : Option Addr) (c0 : Nat) (l0 : List Int) (r : List Int) (w : World) (hs0 : Kd.V (Kd.int .u8) 5 w w.heap.size (fun k_ => P0_ k_) (.slice A0 l0.length c0) l0) (h : utf_Decode.f k l0 = some r) :
    Calls Tryd.prog 33 #[.slice A0 l0.length c0] w fun e w' => ∃ v0_ : Value, e = .returned (v0_) ∧ Kd.R (Kd.int .i64) 3 w' w.heap.size (fun k_ => (w.heap.size ≤ k_)) v0_ r ∧ Below w.heap.size w w' := by
  have HO0 := Aside0.mk (show Kd.V (Kd.int .u8) 5 w w.heap.size (fun k_ => (P0_ k_ ∨ w.heap.size ≤ k_)) (.slice A0 l0.length c0) l0 from Kd.V_mono hs0 (fun k_ hk => .inl hk))
  have HB := Aside0.mk (Below.refl w.heap.size w)
  have H : (utf_Decode.l0 k l0 ([] : List Int)) = some r := h
  clear h
  have H' := Aside0.mk H
  clear H
  go_enter Tryd.func33, Tryd.ntmps33
  go_wp2
  go_loopg [0, 3] k (fun kq v0 v3 w' => ∃ (x0_1 : List Int) (x3_1 : List Int), Aside0 (utf_Decode.l0 kq x0_1 x3_1 = some r) ∧ Aside0 (kq ≤ k) ∧ Aside0 (Kd.V (Kd.int .u8) 5 w' w.heap.size (fun k_ => (P0_ k_ ∨ w.heap.size ≤ k_) ∧ some k_ ≠ (v3 : Value).ownBlock) v0 x0_1) ∧ Aside0 (Kd.R (Kd.int .i64) 3 w' w.heap.size (fun k_ => (w.heap.size ≤ k_)) v3 x3_1) ∧ Aside0 (Below w.heap.size w w'))
  case atStart => exact ⟨(l0), (([] : List Int)), H', ⟨Nat.le_refl _⟩, ⟨by (with_reducible repeat (first | apply Kd.V_alloc | apply Kd.V_drewN | apply Kd.V_drew)); exact Kd.V_mono HO0.out (fun _ hk => ⟨hk, (by simp [Value.ownBlock])⟩)⟩, ⟨by first | exact Kd.R_nil _ _ _ _ _ | exact Kd.N_nil _ _ _ _ _ | exact Kd.V_nil _ _ _ _ _ | exact Kd.Q_nil _ _ _ _ _ | exact Kd.S_nil _ _ _ _ _⟩, ⟨by repeat (first | (with_reducible first | exact HB.out | apply below_alloc | apply pw_below_drewN | apply below_drew1) | exact HB.out)⟩⟩
  case round =>
    clear H'
    obtain ⟨x0_1, x3_1, HA, HK1, HO_0, HO_3, HB⟩ := hrel
    cases gk with
    | zero => exact absurd HA.out (by simp [utf_Decode.l0])
    | succ k1 =>
      have H := HA.out
      clear HA
      simp only [utf_Decode.l0] at H
      by_cases c2 : (x0_1.length : Int) > 0
      · rw [if_pos c2] at H
        have c2b0 : decide (0 < (x0_1.length : Int)) = true := decide_eq_true c2
        have c2b1 : decide (0 < x0_1.length) = true := decide_eq_true (by omega)
        clear c2
        replace H := Option.bind_eq_some_iff.mp H
        obtain ⟨⟨t106, t107⟩, A30, H⟩ := H
        replace H : (if x3_1.length < 17592186044416 then (if 0 ≤ t107 then (if t107 ≤ (x0_1.length : Int) then (utf_Decode.l0 k1 (x0_1.drop (t107 : Int).toNat) (x3_1 ++ [t106])) else (none)) else (none)) else (none)) = some r := H
        have A3 := Aside0.mk A30
        clear A30
        by_cases c4 : x3_1.length < 17592186044416
        · rw [if_pos c4] at H
          have LMc4 := Aside0.mk c4
          clear c4
          obtain ⟨y108, hy108⟩ : ∃ y_ : List Int, y_ = (x3_1 ++ [t106]) := ⟨_, rfl⟩
          replace H : (if 0 ≤ t107 then (if t107 ≤ (x0_1.length : Int) then (utf_Decode.l0 k1 (x0_1.drop (t107 : Int).toNat) y108) else (none)) else (none)) = some r := by first | (rw [hy108]; with_reducible exact H) | (have H2_ := (Option.bind_some _ _).symm.trans H; rw [hy108]; with_reducible exact H2_) | (have H2_ := (Option.bind_some _ _).symm.trans H; with_reducible exact H2_) | with_reducible exact H | (rw [hy108]; exact H) | exact H
          have Ny108 := Aside0.mk hy108
          clear hy108
          by_cases c5 : 0 ≤ t107
          · rw [if_pos c5] at H
            have c5b0 := eq_true c5
            have c5b1 : decide (0 ≤ t107) = true := decide_eq_true c5
            clear c5
            by_cases c6 : t107 ≤ (x0_1.length : Int)
            · rw [if_pos c6] at H
              have c6b0 := eq_true c6
              have c6b1 : decide (t107 ≤ (x0_1.length : Int)) = true := decide_eq_true c6
              clear c6
              obtain ⟨y111, hy111⟩ : ∃ y_ : List Int, y_ = (x0_1.drop (t107 : Int).toNat) := ⟨_, rfl⟩
              replace H : (utf_Decode.l0 k1 y111 y108) = some r := by first | (rw [hy111]; with_reducible exact H) | (have H2_ := (Option.bind_some _ _).symm.trans H; rw [hy111]; with_reducible exact H2_) | (have H2_ := (Option.bind_some _ _).symm.trans H; with_reducible exact H2_) | with_reducible exact H | (rw [hy111]; exact H) | exact H
              have Ny111 := Aside0.mk hy111
              clear hy111
              have H' := Aside0.mk H
              clear H
              obtain ⟨Ao7, co7, eo7⟩ := Kd.V_slice HO_0.out
              subst eo7
              go_wp2_with (first | ((with_reducible refine gate_callee (f := 39) rfl ?_); refine goesL_ (some 11) rfl rfl Tryd.func39 (by kernel_rfl) rfl #[.slice Ao7 x0_1.length co7] rfl (by (try simp only [List.map_toArray, List.map_cons, List.map_nil]); first | done | rfl | (simp only [List.length_drop, List.length_take]; rfl)) ?_; (with_reducible refine (utf_first.calls k1 _ _ x0_1 t106 t107 _ ?side1 ?side2 A3.out).mono ?_); (case side1 => repeat (first | exact (Kd.V_reads' HO_0.out).2.2 | (with_reducible refine Kd.C_alloc ?_ _) | (with_reducible refine Kd.C_drewN ?_ _) | (with_reducible refine Kd.C_drew ?_))); (case side2 => exact (Kd.V_reads' HO_0.out).2.1); rintro e w8 ⟨rfl, hb⟩; refine ⟨_, rfl, ?_⟩; have n0_ := Aside0.mk (Kd.V_below (by (with_reducible repeat (first | apply Kd.V_alloc | apply Kd.V_drewN | apply Kd.V_drew)); exact HO_0.out) hb); have n1_ := Aside0.mk (Kd.R_below (by (with_reducible repeat (first | apply Kd.R_alloc | apply Kd.R_drewN | apply Kd.R_drew)); exact HO_3.out) hb); have n2_ := Aside0.mk (below_step (by repeat (first | (with_reducible first | exact HB.out | apply below_alloc | apply pw_below_drewN | apply below_drew1) | exact HB.out)) hb); clear HO_0; clear HO_3; clear HB; have HO_0 := n0_; have HO_3 := n1_; have HB := n2_; clear n0_ n1_ n2_; (try clear hb); (try clear hb2); (try clear hk); (try clear hi)) | ((with_reducible refine gate_builtin (b := .append) (xs := #[.tmp 14, .tmp 16]) rfl ?_); at_builtin; refine Kd.R_append (Kd.int .i64) (w0 := w) w.heap.size rfl (.tmp 14) (.tmp 16) 48 3 (.int .i64 0) 8 rfl Tryd.underlying48 info3 rfl (by decide) (by omega) u3 x3_1 t106 [.int .i64 t106] (fun k_ => (w.heap.size ≤ k_)) (fun _ => False) rfl rfl ?aP (fun _ hk => hk.elim) ?aF ?aO ?aB ?aS ?aL ?_; (case aP => exact rfl); (case aB => exact (by repeat (first | (with_reducible first | exact HB.out | apply below_alloc | apply pw_below_drewN | apply below_drew1) | exact HB.out))); (case aF => exact (fun k_ hk => (Nat.le_trans (below_size (by repeat (first | (with_reducible first | exact HB.out | apply below_alloc | apply pw_below_drewN | apply below_drew1) | exact HB.out))) hk))); (case aO => exact (by (with_reducible repeat (first | apply Kd.R_alloc | apply Kd.R_drewN | apply Kd.R_drew)); exact HO_3.out)); (case aS => exact (below_size (by repeat (first | (with_reducible first | exact HB.out | apply below_alloc | apply pw_below_drewN | apply below_drew1) | exact HB.out)))); (case aL => have := LMc4.out; omega); intro v109 w9 ho hb hg hat; rw [← Ny108.out] at ho; have n0_ := Aside0.mk (Kd.V_afterv (ok := (fun k_ => (P0_ k_ ∨ w.heap.size ≤ k_))) (by (with_reducible repeat (first | apply Kd.V_alloc | apply Kd.V_drewN | apply Kd.V_drew)); exact HO_0.out) hg hat); have n1_ := Aside0.mk (hb); have n2_ := Aside0.mk (ho); clear HO_0; clear HB; clear HO_3; have HO_0 := n0_; have HB := n1_; have HO110 := n2_; clear n0_ n1_ n2_; clear ho hb hg hat; have q10 : (t107 : Int) ≤ ((x0_1.length : Int) : Int) := of_decide_eq_true (by first | (with_reducible assumption) | assumption); obtain ⟨i010, hi010, _, hsz10, _⟩ := info_parts info5; have hroom10 : x0_1.length ≤ co7 := (Kd.V_reads' HO_0.out).2.1; have hC10 : Kd.F (Kd.int .u8) _ _ Ao7 x0_1.length x0_1 := (Kd.V_at (base := w.heap.size) HO_0.out).2.2; have q010 : (0 : Int) ≤ (t107 : Int) := of_decide_eq_true (by first | (with_reducible assumption) | assumption); have hcut10 := cut_from (P := Tryd.prog) 30 5 .i64 Tryd.underlying30 hi010 1 hsz10 Ao7 x0_1.length co7 t107 q010 q10; have hr10 := Kd.F_cut (m := (t107 : Int).toNat) (c := co7) hC10 (by omega) hroom10; obtain ⟨A10, hA10⟩ : ∃ A1, A1 = (if co7 = (t107 : Int).toNat then Ao7 else (Ao7 : Option Addr).map (·.add ((t107 : Int).toNat * 1))) := ⟨_, rfl⟩; obtain ⟨c10, hc10⟩ : ∃ c1, c1 = co7 - (t107 : Int).toNat := ⟨_, rfl⟩; have hy10 : y111.length = x0_1.length - (t107 : Int).toNat := (by rw [Ny111.out, List.length_drop] <;> omega); rw [show (x0_1).drop (t107 : Int).toNat = y111 from Ny111.out.symm] at hr10; replace hr10 : Kd.F (Kd.int .u8) _ _ A10 y111.length y111 := (by rw [hA10]; exact hr10); rw [← hy10, ← hA10, ← hc10] at hcut10; have HO115 := Aside0.mk (show Kd.V (Kd.int .u8) 5 _ w.heap.size _ (.slice A10 y111.length c10) y111 from Kd.V_mk (by rw [hy10, hc10]; exact Nat.sub_le_sub_right hroom10 _) hr10); have HC115 := Aside0.mk (show y111.length ≤ c10 from by rw [hy10, hc10]; exact Nat.sub_le_sub_right hroom10 _); clear hr10 hC10 hroom10 hi010 hsz10 hc10; have KY10 := Aside0.mk hy10; have KA10 := Aside0.mk hA10; clear hy10 hA10; replace q10 := eq_true q10))
              go_roundg k1
              case measure => have := HK1.out; omega
              case rel => exact ⟨(y111), (y108), H', ⟨by have := HK1.out; omega⟩, ⟨by (with_reducible repeat (first | apply Kd.V_alloc | apply Kd.V_drewN | apply Kd.V_drew)); exact HO115.out⟩, ⟨by (with_reducible repeat (first | apply Kd.R_alloc | apply Kd.R_drewN | apply Kd.R_drew)); exact HO110.out⟩, ⟨by repeat (first | (with_reducible first | exact HB.out | apply below_alloc | apply pw_below_drewN | apply below_drew1) | exact HB.out)⟩⟩
            · rw [if_neg c6] at H
              exact absurd H (by simp)
          · rw [if_neg c5] at H
            exact absurd H (by simp)
        · rw [if_neg c4] at H
          exact absurd H (by simp)
      · rw [if_neg c2] at H
        have c2b0 : decide (0 < (x0_1.length : Int)) = false := decide_eq_false c2
        have c2b1 : decide (0 < x0_1.length) = false := decide_eq_false (by omega)
        clear c2
        obtain rfl := Option.some.inj H
        obtain ⟨Ao11, co11, eo11⟩ := Kd.V_slice HO_0.out
        subst eo11
        go_wp2
        go_ret
        exact ⟨_, by first | rfl | (simp [errW_none, errW_some] <;> rfl) | (simp [*, errW_none, errW_some] <;> rfl), by (with_reducible repeat (first | apply Kd.R_alloc | apply Kd.R_drewN | apply Kd.R_drew)); exact HO_3.out, by repeat (first | (with_reducible first | exact HB.out | apply below_alloc | apply pw_below_drewN | apply below_drew1) | exact HB.out)⟩

end Go.Proofs.YteofdfknemopiaaDoor.P
end
section
-- Printed by this session's patched printer.
namespace Go.Proofs.YteofdfknemopiaaDoor.P
open Go.RowKit Go.Proofs.YteofdfknemopiaaDoorW.PrintWords Go.Proofs.YteofdfknemopiaaDoorW.PrintLast Go.Proofs.YteofdfknemopiaaDoorW.PrintMore
attribute [local go_sem] Go.Instr.field Go.part Go.asAgg max2_int min2_int max_two min_two max_three min_three max_four min_four   -- for this text's walks alone
set_option linter.unusedVariables false
set_option linter.unusedSimpArgs false

/-! ### rubrickref04_Encode: function 26 -/
def rubrickref04_Encode.f (a0 : Int) : Option (List Int) := if a0 < 128 then (some (([(a0) % 256] : List Int))) else (if a0 < 2048 then (some (([(wrap64 (192 + (wrap64 (Int.tdiv a0 64)))) % 256, (wrap64 (128 + (Int.tmod a0 64))) % 256] : List Int))) else (if a0 < 65536 then (some (([(wrap64 (224 + (wrap64 (Int.tdiv a0 4096)))) % 256, (wrap64 (128 + (Int.tmod (wrap64 (Int.tdiv a0 64)) 64))) % 256, (wrap64 (128 + (Int.tmod a0 64))) % 256] : List Int))) else (some (([(wrap64 (240 + (wrap64 (Int.tdiv a0 262144)))) % 256, (wrap64 (128 + (Int.tmod (wrap64 (Int.tdiv a0 4096)) 64))) % 256, (wrap64 (128 + (Int.tmod (wrap64 (Int.tdiv a0 64)) 64))) % 256, (wrap64 (128 + (Int.tmod a0 64))) % 256] : List Int)))))
set_option maxHeartbeats 8000000 in
set_option maxRecDepth 100000 in
theorem rubrickref04_Encode.calls (a0 : Int) (r : List Int) (w : World) (h : rubrickref04_Encode.f a0 = some r) :
    Calls Tryd.prog 26 #[.int .i64 a0] w fun e w' => ∃ v0_ : Value, e = .returned (v0_) ∧ Kd.R (Kd.int .u8) 5 w' w.heap.size (fun _ => True) v0_ r ∧ Below w.heap.size w w' := by
  have HB := Aside0.mk (Below.refl w.heap.size w)
  have H : (if a0 < 128 then (some (([(a0) % 256] : List Int))) else (if a0 < 2048 then (some (([(wrap64 (192 + (wrap64 (Int.tdiv a0 64)))) % 256, (wrap64 (128 + (Int.tmod a0 64))) % 256] : List Int))) else (if a0 < 65536 then (some (([(wrap64 (224 + (wrap64 (Int.tdiv a0 4096)))) % 256, (wrap64 (128 + (Int.tmod (wrap64 (Int.tdiv a0 64)) 64))) % 256, (wrap64 (128 + (Int.tmod a0 64))) % 256] : List Int))) else (some (([(wrap64 (240 + (wrap64 (Int.tdiv a0 262144)))) % 256, (wrap64 (128 + (Int.tmod (wrap64 (Int.tdiv a0 4096)) 64))) % 256, (wrap64 (128 + (Int.tmod (wrap64 (Int.tdiv a0 64)) 64))) % 256, (wrap64 (128 + (Int.tmod a0 64))) % 256] : List Int)))))) = some r := h
  clear h
  by_cases c2 : a0 < 128
  · rw [if_pos c2] at H
    have c2b0 : decide (a0 < 128) = true := decide_eq_true c2
    clear c2
    obtain ⟨y330, hy330⟩ : ∃ y_ : List Int, y_ = (([(a0) % 256] : List Int)) := ⟨_, rfl⟩
    replace H : (some y330) = some r := by first | (rw [hy330]; with_reducible exact H) | (have H2_ := (Option.bind_some _ _).symm.trans H; rw [hy330]; with_reducible exact H2_) | (have H2_ := (Option.bind_some _ _).symm.trans H; with_reducible exact H2_) | with_reducible exact H | (rw [hy330]; exact H) | exact H
    have Ny330 := Aside0.mk hy330
    clear hy330
    obtain rfl := Option.some.inj H
    go_enter Tryd.func26, Tryd.ntmps26
    go_wp2_with (first | ((with_reducible refine gate_dst (N := 7) rfl ?_); refine Kd.R_lit (Kd.int .u8) _ 5 ?hg (N := 7) ?hd (xs := ([(a0) % 256] : List Int)) (inner := [.int .u8 ((a0) % 256)]) (ok := fun _ => True) (okp := fun _ => True) ?hr ?hp (fun _ hk => hk) trivial (Below.refl _ _) (Nat.le_refl _) (by simp) ?_; (case hd => rfl); (case hg => rfl); (case hr => first | (go_simp; done) | (go_simp; rfl)); (case hp => exact (Reps.one (show Kd.M (Kd.int .u8) _ _ _ ((a0) % 256) [.int .u8 ((a0) % 256)] from rfl) (Reps.none _ _))); intro v331 w3 ho4 hb hg_ hnew_; clear hg_ hnew_; (first | rw [← Ny330.out] at ho4 | (simp only [Int.reduceToNat] at ho4; rw [← Ny330.out] at ho4)); have n0_ := Aside0.mk (Kd.R_lower ho4 (below_size (by repeat (first | (with_reducible first | exact HB.out | apply below_alloc | apply pw_below_drewN | apply below_drew1) | exact HB.out)))); have n1_ := Aside0.mk (below_step (by repeat (first | (with_reducible first | exact HB.out | apply below_alloc | apply pw_below_drewN | apply below_drew1) | exact HB.out)) hb); clear HB; have HO332 := n0_; have HB := n1_; clear n0_ n1_; clear hb ho4))
    go_ret
    exact ⟨_, by first | rfl | (simp [errW_none, errW_some] <;> rfl) | (simp [*, errW_none, errW_some] <;> rfl), by (with_reducible repeat (first | apply Kd.R_alloc | apply Kd.R_drewN | apply Kd.R_drew)); exact HO332.out, by repeat (first | (with_reducible first | exact HB.out | apply below_alloc | apply pw_below_drewN | apply below_drew1) | exact HB.out)⟩
  · rw [if_neg c2] at H
    have c2b0 : decide (a0 < 128) = false := decide_eq_false c2
    clear c2
    by_cases c5 : a0 < 2048
    · rw [if_pos c5] at H
      have c5b0 : decide (a0 < 2048) = true := decide_eq_true c5
      clear c5
      obtain ⟨y333, hy333⟩ : ∃ y_ : List Int, y_ = (([(wrap64 (192 + (wrap64 (Int.tdiv a0 64)))) % 256, (wrap64 (128 + (Int.tmod a0 64))) % 256] : List Int)) := ⟨_, rfl⟩
      replace H : (some y333) = some r := by first | (rw [hy333]; with_reducible exact H) | (have H2_ := (Option.bind_some _ _).symm.trans H; rw [hy333]; with_reducible exact H2_) | (have H2_ := (Option.bind_some _ _).symm.trans H; with_reducible exact H2_) | with_reducible exact H | (rw [hy333]; exact H) | exact H
      have Ny333 := Aside0.mk hy333
      clear hy333
      obtain rfl := Option.some.inj H
      go_enter Tryd.func26, Tryd.ntmps26
      go_wp2_with (first | ((with_reducible refine gate_dst (N := 18) rfl ?_); refine Kd.R_lit (Kd.int .u8) _ 5 ?hg (N := 18) ?hd (xs := ([(wrap64 (192 + (wrap64 (Int.tdiv a0 64)))) % 256, (wrap64 (128 + (Int.tmod a0 64))) % 256] : List Int)) (inner := [.int .u8 ((wrap64 (192 + (wrap64 (Int.tdiv a0 64)))) % 256), .int .u8 ((wrap64 (128 + (Int.tmod a0 64))) % 256)]) (ok := fun _ => True) (okp := fun _ => True) ?hr ?hp (fun _ hk => hk) trivial (Below.refl _ _) (Nat.le_refl _) (by simp) ?_; (case hd => rfl); (case hg => rfl); (case hr => first | (go_simp; done) | (go_simp; rfl)); (case hp => exact (Reps.one (show Kd.M (Kd.int .u8) _ _ _ ((wrap64 (192 + (wrap64 (Int.tdiv a0 64)))) % 256) [.int .u8 ((wrap64 (192 + (wrap64 (Int.tdiv a0 64)))) % 256)] from rfl) (Reps.one (show Kd.M (Kd.int .u8) _ _ _ ((wrap64 (128 + (Int.tmod a0 64))) % 256) [.int .u8 ((wrap64 (128 + (Int.tmod a0 64))) % 256)] from rfl) (Reps.none _ _)))); intro v334 w6 ho7 hb hg_ hnew_; clear hg_ hnew_; (first | rw [← Ny333.out] at ho7 | (simp only [Int.reduceToNat] at ho7; rw [← Ny333.out] at ho7)); have n0_ := Aside0.mk (Kd.R_lower ho7 (below_size (by repeat (first | (with_reducible first | exact HB.out | apply below_alloc | apply pw_below_drewN | apply below_drew1) | exact HB.out)))); have n1_ := Aside0.mk (below_step (by repeat (first | (with_reducible first | exact HB.out | apply below_alloc | apply pw_below_drewN | apply below_drew1) | exact HB.out)) hb); clear HB; have HO335 := n0_; have HB := n1_; clear n0_ n1_; clear hb ho7))
      go_ret
      exact ⟨_, by first | rfl | (simp [errW_none, errW_some] <;> rfl) | (simp [*, errW_none, errW_some] <;> rfl), by (with_reducible repeat (first | apply Kd.R_alloc | apply Kd.R_drewN | apply Kd.R_drew)); exact HO335.out, by repeat (first | (with_reducible first | exact HB.out | apply below_alloc | apply pw_below_drewN | apply below_drew1) | exact HB.out)⟩
    · rw [if_neg c5] at H
      have c5b0 : decide (a0 < 2048) = false := decide_eq_false c5
      clear c5
      by_cases c8 : a0 < 65536
      · rw [if_pos c8] at H
        have c8b0 : decide (a0 < 65536) = true := decide_eq_true c8
        clear c8
        obtain ⟨y336, hy336⟩ : ∃ y_ : List Int, y_ = (([(wrap64 (224 + (wrap64 (Int.tdiv a0 4096)))) % 256, (wrap64 (128 + (Int.tmod (wrap64 (Int.tdiv a0 64)) 64))) % 256, (wrap64 (128 + (Int.tmod a0 64))) % 256] : List Int)) := ⟨_, rfl⟩
        replace H : (some y336) = some r := by first | (rw [hy336]; with_reducible exact H) | (have H2_ := (Option.bind_some _ _).symm.trans H; rw [hy336]; with_reducible exact H2_) | (have H2_ := (Option.bind_some _ _).symm.trans H; with_reducible exact H2_) | with_reducible exact H | (rw [hy336]; exact H) | exact H
        have Ny336 := Aside0.mk hy336
        clear hy336
        obtain rfl := Option.some.inj H
        go_enter Tryd.func26, Tryd.ntmps26
        go_wp2_with (first | ((with_reducible refine gate_dst (N := 34) rfl ?_); refine Kd.R_lit (Kd.int .u8) _ 5 ?hg (N := 34) ?hd (xs := ([(wrap64 (224 + (wrap64 (Int.tdiv a0 4096)))) % 256, (wrap64 (128 + (Int.tmod (wrap64 (Int.tdiv a0 64)) 64))) % 256, (wrap64 (128 + (Int.tmod a0 64))) % 256] : List Int)) (inner := [.int .u8 ((wrap64 (224 + (wrap64 (Int.tdiv a0 4096)))) % 256), .int .u8 ((wrap64 (128 + (Int.tmod (wrap64 (Int.tdiv a0 64)) 64))) % 256), .int .u8 ((wrap64 (128 + (Int.tmod a0 64))) % 256)]) (ok := fun _ => True) (okp := fun _ => True) ?hr ?hp (fun _ hk => hk) trivial (Below.refl _ _) (Nat.le_refl _) (by simp) ?_; (case hd => rfl); (case hg => rfl); (case hr => first | (go_simp; done) | (go_simp; rfl)); (case hp => exact (Reps.one (show Kd.M (Kd.int .u8) _ _ _ ((wrap64 (224 + (wrap64 (Int.tdiv a0 4096)))) % 256) [.int .u8 ((wrap64 (224 + (wrap64 (Int.tdiv a0 4096)))) % 256)] from rfl) (Reps.one (show Kd.M (Kd.int .u8) _ _ _ ((wrap64 (128 + (Int.tmod (wrap64 (Int.tdiv a0 64)) 64))) % 256) [.int .u8 ((wrap64 (128 + (Int.tmod (wrap64 (Int.tdiv a0 64)) 64))) % 256)] from rfl) (Reps.one (show Kd.M (Kd.int .u8) _ _ _ ((wrap64 (128 + (Int.tmod a0 64))) % 256) [.int .u8 ((wrap64 (128 + (Int.tmod a0 64))) % 256)] from rfl) (Reps.none _ _))))); intro v337 w9 ho10 hb hg_ hnew_; clear hg_ hnew_; (first | rw [← Ny336.out] at ho10 | (simp only [Int.reduceToNat] at ho10; rw [← Ny336.out] at ho10)); have n0_ := Aside0.mk (Kd.R_lower ho10 (below_size (by repeat (first | (with_reducible first | exact HB.out | apply below_alloc | apply pw_below_drewN | apply below_drew1) | exact HB.out)))); have n1_ := Aside0.mk (below_step (by repeat (first | (with_reducible first | exact HB.out | apply below_alloc | apply pw_below_drewN | apply below_drew1) | exact HB.out)) hb); clear HB; have HO338 := n0_; have HB := n1_; clear n0_ n1_; clear hb ho10))
        go_ret
        exact ⟨_, by first | rfl | (simp [errW_none, errW_some] <;> rfl) | (simp [*, errW_none, errW_some] <;> rfl), by (with_reducible repeat (first | apply Kd.R_alloc | apply Kd.R_drewN | apply Kd.R_drew)); exact HO338.out, by repeat (first | (with_reducible first | exact HB.out | apply below_alloc | apply pw_below_drewN | apply below_drew1) | exact HB.out)⟩
      · rw [if_neg c8] at H
        have c8b0 : decide (a0 < 65536) = false := decide_eq_false c8
        clear c8
        obtain ⟨y339, hy339⟩ : ∃ y_ : List Int, y_ = (([(wrap64 (240 + (wrap64 (Int.tdiv a0 262144)))) % 256, (wrap64 (128 + (Int.tmod (wrap64 (Int.tdiv a0 4096)) 64))) % 256, (wrap64 (128 + (Int.tmod (wrap64 (Int.tdiv a0 64)) 64))) % 256, (wrap64 (128 + (Int.tmod a0 64))) % 256] : List Int)) := ⟨_, rfl⟩
        replace H : (some y339) = some r := by first | (rw [hy339]; with_reducible exact H) | (have H2_ := (Option.bind_some _ _).symm.trans H; rw [hy339]; with_reducible exact H2_) | (have H2_ := (Option.bind_some _ _).symm.trans H; with_reducible exact H2_) | with_reducible exact H | (rw [hy339]; exact H) | exact H
        have Ny339 := Aside0.mk hy339
        clear hy339
        obtain rfl := Option.some.inj H
        go_enter Tryd.func26, Tryd.ntmps26
        go_wp2_with (first | ((with_reducible refine gate_dst (N := 53) rfl ?_); refine Kd.R_lit (Kd.int .u8) _ 5 ?hg (N := 53) ?hd (xs := ([(wrap64 (240 + (wrap64 (Int.tdiv a0 262144)))) % 256, (wrap64 (128 + (Int.tmod (wrap64 (Int.tdiv a0 4096)) 64))) % 256, (wrap64 (128 + (Int.tmod (wrap64 (Int.tdiv a0 64)) 64))) % 256, (wrap64 (128 + (Int.tmod a0 64))) % 256] : List Int)) (inner := [.int .u8 ((wrap64 (240 + (wrap64 (Int.tdiv a0 262144)))) % 256), .int .u8 ((wrap64 (128 + (Int.tmod (wrap64 (Int.tdiv a0 4096)) 64))) % 256), .int .u8 ((wrap64 (128 + (Int.tmod (wrap64 (Int.tdiv a0 64)) 64))) % 256), .int .u8 ((wrap64 (128 + (Int.tmod a0 64))) % 256)]) (ok := fun _ => True) (okp := fun _ => True) ?hr ?hp (fun _ hk => hk) trivial (Below.refl _ _) (Nat.le_refl _) (by simp) ?_; (case hd => rfl); (case hg => rfl); (case hr => first | (go_simp; done) | (go_simp; rfl)); (case hp => exact (Reps.one (show Kd.M (Kd.int .u8) _ _ _ ((wrap64 (240 + (wrap64 (Int.tdiv a0 262144)))) % 256) [.int .u8 ((wrap64 (240 + (wrap64 (Int.tdiv a0 262144)))) % 256)] from rfl) (Reps.one (show Kd.M (Kd.int .u8) _ _ _ ((wrap64 (128 + (Int.tmod (wrap64 (Int.tdiv a0 4096)) 64))) % 256) [.int .u8 ((wrap64 (128 + (Int.tmod (wrap64 (Int.tdiv a0 4096)) 64))) % 256)] from rfl) (Reps.one (show Kd.M (Kd.int .u8) _ _ _ ((wrap64 (128 + (Int.tmod (wrap64 (Int.tdiv a0 64)) 64))) % 256) [.int .u8 ((wrap64 (128 + (Int.tmod (wrap64 (Int.tdiv a0 64)) 64))) % 256)] from rfl) (Reps.one (show Kd.M (Kd.int .u8) _ _ _ ((wrap64 (128 + (Int.tmod a0 64))) % 256) [.int .u8 ((wrap64 (128 + (Int.tmod a0 64))) % 256)] from rfl) (Reps.none _ _)))))); intro v340 w11 ho12 hb hg_ hnew_; clear hg_ hnew_; (first | rw [← Ny339.out] at ho12 | (simp only [Int.reduceToNat] at ho12; rw [← Ny339.out] at ho12)); have n0_ := Aside0.mk (Kd.R_lower ho12 (below_size (by repeat (first | (with_reducible first | exact HB.out | apply below_alloc | apply pw_below_drewN | apply below_drew1) | exact HB.out)))); have n1_ := Aside0.mk (below_step (by repeat (first | (with_reducible first | exact HB.out | apply below_alloc | apply pw_below_drewN | apply below_drew1) | exact HB.out)) hb); clear HB; have HO341 := n0_; have HB := n1_; clear n0_ n1_; clear hb ho12))
        go_ret
        exact ⟨_, by first | rfl | (simp [errW_none, errW_some] <;> rfl) | (simp [*, errW_none, errW_some] <;> rfl), by (with_reducible repeat (first | apply Kd.R_alloc | apply Kd.R_drewN | apply Kd.R_drew)); exact HO341.out, by repeat (first | (with_reducible first | exact HB.out | apply below_alloc | apply pw_below_drewN | apply below_drew1) | exact HB.out)⟩

end Go.Proofs.YteofdfknemopiaaDoor.P
end
section
-- Printed by this session's patched printer.
namespace Go.Proofs.YteofdfknemopiaaDoor.P
open Go.RowKit Go.Proofs.YteofdfknemopiaaDoorW.PrintWords Go.Proofs.YteofdfknemopiaaDoorW.PrintLast Go.Proofs.YteofdfknemopiaaDoorW.PrintMore
attribute [local go_sem] Go.Instr.field Go.part Go.asAgg max2_int min2_int max_two min_two max_three min_three max_four min_four   -- for this text's walks alone
set_option linter.unusedVariables false
set_option linter.unusedSimpArgs false

/-! ### rubrickref04_Right: function 25 -/
def rubrickref04_Right.f (a0 : Int) : Option (Bool) := if a0 ≥ 0 then (if a0 < 55296 then (some true) else (if a0 > 57343 then (some (decide (a0 < 1114112))) else (some false))) else (if a0 > 57343 then (some (decide (a0 < 1114112))) else (some false))
set_option maxHeartbeats 8000000 in
set_option maxRecDepth 100000 in
theorem rubrickref04_Right.calls (a0 : Int) (r : Bool) (w : World) (h : rubrickref04_Right.f a0 = some r) :
    Calls Tryd.prog 25 #[.int .i64 a0] w fun e w' => e = .returned (.bool r) ∧ Drawn0 w w' := by
  have H : (if a0 ≥ 0 then (if a0 < 55296 then (some true) else (if a0 > 57343 then (some (decide (a0 < 1114112))) else (some false))) else (if a0 > 57343 then (some (decide (a0 < 1114112))) else (some false))) = some r := h
  clear h
  by_cases c2 : a0 ≥ 0
  · rw [if_pos c2] at H
    have c2b0 : decide (0 ≤ a0) = true := decide_eq_true c2
    clear c2
    by_cases c3 : a0 < 55296
    · rw [if_pos c3] at H
      have c3b0 : decide (a0 < 55296) = true := decide_eq_true c3
      clear c3
      obtain rfl := Option.some.inj H
      go_enter Tryd.func25, Tryd.ntmps25
      go_wp2
      go_ret
      exact ⟨by first | rfl | (simp; done) | (simp [*]; done), by repeat (first | exact Drawn0.refl _ | apply Drawn0.step)⟩
    · rw [if_neg c3] at H
      have c3b0 : decide (a0 < 55296) = false := decide_eq_false c3
      clear c3
      by_cases c4 : a0 > 57343
      · rw [if_pos c4] at H
        have c4b0 : decide (57343 < a0) = true := decide_eq_true c4
        clear c4
        obtain rfl := Option.some.inj H
        go_enter Tryd.func25, Tryd.ntmps25
        go_wp2
        go_ret
        exact ⟨by first | rfl | (simp; done) | (simp [*]; done), by repeat (first | exact Drawn0.refl _ | apply Drawn0.step)⟩
      · rw [if_neg c4] at H
        have c4b0 : decide (57343 < a0) = false := decide_eq_false c4
        clear c4
        obtain rfl := Option.some.inj H
        go_enter Tryd.func25, Tryd.ntmps25
        go_wp2
        go_ret
        exact ⟨by first | rfl | (simp; done) | (simp [*]; done), by repeat (first | exact Drawn0.refl _ | apply Drawn0.step)⟩
  · rw [if_neg c2] at H
    have c2b0 : decide (0 ≤ a0) = false := decide_eq_false c2
    clear c2
    by_cases c5 : a0 > 57343
    · rw [if_pos c5] at H
      have c5b0 : decide (57343 < a0) = true := decide_eq_true c5
      clear c5
      obtain rfl := Option.some.inj H
      go_enter Tryd.func25, Tryd.ntmps25
      go_wp2
      go_ret
      exact ⟨by first | rfl | (simp; done) | (simp [*]; done), by repeat (first | exact Drawn0.refl _ | apply Drawn0.step)⟩
    · rw [if_neg c5] at H
      have c5b0 : decide (57343 < a0) = false := decide_eq_false c5
      clear c5
      obtain rfl := Option.some.inj H
      go_enter Tryd.func25, Tryd.ntmps25
      go_wp2
      go_ret
      exact ⟨by first | rfl | (simp; done) | (simp [*]; done), by repeat (first | exact Drawn0.refl _ | apply Drawn0.step)⟩

end Go.Proofs.YteofdfknemopiaaDoor.P
end
section
-- Printed by this session's patched printer.
namespace Go.Proofs.YteofdfknemopiaaDoor.P
open Go.RowKit Go.Proofs.YteofdfknemopiaaDoorW.PrintWords Go.Proofs.YteofdfknemopiaaDoorW.PrintLast Go.Proofs.YteofdfknemopiaaDoorW.PrintMore
attribute [local go_sem] Go.Instr.field Go.part Go.asAgg max2_int min2_int max_two min_two max_three min_three max_four min_four   -- for this text's walks alone
set_option linter.unusedVariables false
set_option linter.unusedSimpArgs false

/-! ### rubrickref04_begins: function 24 -/
def rubrickref04_begins.l0 : Nat → List Int → Int → Int → Int → Option (Int)
  | 0, _, _, _, _ => none
  | k + 1, x0, x1, x6, x7 => if x7 < x1 then (if 0 ≤ x7 then (if x7 < (x0.length : Int) then (rubrickref04_begins.l0 k x0 x1 (wrap64 ((wrap64 ((wrap64 (x6 * 64)) + (wrap64 (rd x0 x7)))) - 128)) (wrap64 (x7 + 1))) else (none)) else (none)) else (some x6)
def rubrickref04_begins.f (k : Nat) (l0 : List Int) (a1 : Int) : Option (Int) := if (l0.length : Int) < a1 then (some (-1)) else ((some (([0, 0, 192, 224, 240] : List Int) : List Int)).bind fun y324 => (if 0 < (l0.length : Int) then (if 0 ≤ a1 then (if a1 < (y324.length : Int) then (rubrickref04_begins.l0 k l0 a1 (wrap64 ((wrap64 (rd l0 0)) - (rd y324 a1))) 1) else (none)) else (none)) else (none)))
theorem rubrickref04_begins.mono_l : ∀ k, (∀ y0 y1 y2 y3, LeO (rubrickref04_begins.l0 k y0 y1 y2 y3) (rubrickref04_begins.l0 (k + 1) y0 y1 y2 y3))
  | 0 => fun _ _ _ _ r h => by simp [rubrickref04_begins.l0] at h
  | k + 1 => by
    have ih0 := rubrickref04_begins.mono_l k
    · intro y0 y1 y2 y3
      unfold rubrickref04_begins.l0
      repeat' first
      | (with_reducible exact ih0 _ _ _ _)
      | (with_reducible exact LeO.refl _)
      | (with_reducible exact LeO.none _)
      | (with_reducible refine LeO.ite ?_ ?_)
      | (with_reducible refine LeO.bind ?_ (fun _ => ?_))
      | exact ih0 _ _ _ _
      | exact LeO.none _
      | refine LeO.ite ?_ ?_
      | refine LeO.bind ?_ (fun _ => ?_)
theorem rubrickref04_begins.mono : ∀ a0 a1 k, LeO (rubrickref04_begins.f k a0 a1) (rubrickref04_begins.f (k + 1) a0 a1) := by
  intro a0 a1 k
  have ih0 := rubrickref04_begins.mono_l k
  unfold rubrickref04_begins.f
  repeat' first
      | (with_reducible exact ih0 _ _ _ _)
      | (with_reducible exact LeO.refl _)
      | (with_reducible exact LeO.none _)
      | (with_reducible refine LeO.ite ?_ ?_)
      | (with_reducible refine LeO.bind ?_ (fun _ => ?_))
      | exact ih0 _ _ _ _
      | exact LeO.none _
      | refine LeO.ite ?_ ?_
      | refine LeO.bind ?_ (fun _ => ?_)
set_option maxHeartbeats 8000000 in
set_option maxRecDepth 100000 in
theorem rubrickref04_begins.calls (k : Nat) (A0 : Option Addr) (c0 : Nat) (l0 : List Int) (a1 : Int) (r : Int) (w : World) (hr0 : Kd.C (Kd.int .u8) w A0 l0.length l0) (hc0 : l0.length ≤ c0) (h : rubrickref04_begins.f k l0 a1 = some r) :
    Calls Tryd.prog 24 #[.slice A0 l0.length c0, .int .i64 a1] w fun e w' => e = .returned (.int .i64 r) ∧ Below w.heap.size w w' := by
  have HR0 := Aside0.mk hr0
  have HC0 := Aside0.mk hc0
  clear hr0 hc0
  have HB := Aside0.mk (Below.refl w.heap.size w)
  have H : (if (l0.length : Int) < a1 then (some (-1)) else ((some (([0, 0, 192, 224, 240] : List Int) : List Int)).bind fun y324 => (if 0 < (l0.length : Int) then (if 0 ≤ a1 then (if a1 < (y324.length : Int) then (rubrickref04_begins.l0 k l0 a1 (wrap64 ((wrap64 (rd l0 0)) - (rd y324 a1))) 1) else (none)) else (none)) else (none)))) = some r := h
  clear h
  by_cases c3 : (l0.length : Int) < a1
  · rw [if_pos c3] at H
    have c3b0 : decide ((l0.length : Int) < a1) = true := decide_eq_true c3
    clear c3
    obtain rfl := Option.some.inj H
    go_enter Tryd.func24, Tryd.ntmps24
    go_wp2
    repeat (go_quiet (fail); try go_wp2)
    go_ret
    exact ⟨by first | rfl | (simp [errW_none, errW_some] <;> rfl) | (simp [*, errW_none, errW_some] <;> rfl), by repeat (first | (with_reducible first | exact HB.out | apply below_alloc | apply pw_below_drewN | apply below_drew1) | exact HB.out)⟩
  · rw [if_neg c3] at H
    have c3b0 : decide ((l0.length : Int) < a1) = false := decide_eq_false c3
    clear c3
    obtain ⟨y324, hy324⟩ : ∃ y_ : List Int, y_ = (([0, 0, 192, 224, 240] : List Int)) := ⟨_, rfl⟩
    replace H : (if 0 < (l0.length : Int) then (if 0 ≤ a1 then (if a1 < (y324.length : Int) then (rubrickref04_begins.l0 k l0 a1 (wrap64 ((wrap64 (rd l0 0)) - (rd y324 a1))) 1) else (none)) else (none)) else (none)) = some r := by first | (rw [hy324]; with_reducible exact H) | (have H2_ := (Option.bind_some _ _).symm.trans H; rw [hy324]; with_reducible exact H2_) | (have H2_ := (Option.bind_some _ _).symm.trans H; with_reducible exact H2_) | with_reducible exact H | (rw [hy324]; exact H) | exact H
    have Ny324 := Aside0.mk hy324
    clear hy324
    by_cases c4 : 0 < (l0.length : Int)
    · rw [if_pos c4] at H
      have c4b0 : decide (0 < (l0.length : Int)) = true := decide_eq_true c4
      have c4b1 : decide (0 < l0.length) = true := decide_eq_true (by omega)
      clear c4
      by_cases c5 : 0 ≤ a1
      · rw [if_pos c5] at H
        have c5b0 : decide (0 ≤ a1) = true := decide_eq_true c5
        clear c5
        by_cases c6 : a1 < (y324.length : Int)
        · rw [if_pos c6] at H
          have c6b0 : decide (a1 < (y324.length : Int)) = true := decide_eq_true c6
          clear c6
          have H' := Aside0.mk H
          clear H
          go_enter Tryd.func24, Tryd.ntmps24
          go_wp2_with (first | ((with_reducible refine gate_dst (N := 12) rfl ?_); refine Kd.R_lit (Kd.int .i64) _ 3 ?hg (N := 12) ?hd (xs := ([0, 0, 192, 224, 240] : List Int)) (inner := [.int .i64 0, .int .i64 0, .int .i64 192, .int .i64 224, .int .i64 240]) (ok := fun _ => True) (okp := fun _ => True) ?hr ?hp (fun _ hk => hk) trivial (Below.refl _ _) (Nat.le_refl _) (by simp) ?_; (case hd => rfl); (case hg => rfl); (case hr => first | (go_simp; done) | (go_simp; rfl)); (case hp => exact (Reps.one (show Kd.M (Kd.int .i64) _ _ _ 0 [.int .i64 0] from rfl) (Reps.one (show Kd.M (Kd.int .i64) _ _ _ 0 [.int .i64 0] from rfl) (Reps.one (show Kd.M (Kd.int .i64) _ _ _ 192 [.int .i64 192] from rfl) (Reps.one (show Kd.M (Kd.int .i64) _ _ _ 224 [.int .i64 224] from rfl) (Reps.one (show Kd.M (Kd.int .i64) _ _ _ 240 [.int .i64 240] from rfl) (Reps.none _ _))))))); intro v325 w7 ho8 hb hg_ hnew_; clear hg_ hnew_; (first | rw [← Ny324.out] at ho8 | (simp only [Int.reduceToNat] at ho8; rw [← Ny324.out] at ho8)); have n0_ := Aside0.mk (Kd.R_lower ho8 (below_size (by repeat (first | (with_reducible first | exact HB.out | apply below_alloc | apply pw_below_drewN | apply below_drew1) | exact HB.out)))); have n1_ := Aside0.mk (below_step (by repeat (first | (with_reducible first | exact HB.out | apply below_alloc | apply pw_below_drewN | apply below_drew1) | exact HB.out)) hb); clear HB; have HO326 := n0_; have HB := n1_; clear n0_ n1_; clear hb ho8; have p327 : 0 ≤ (0 : Int) := (by omega); have q327 : 0 < (l0.length : Int) := of_decide_eq_true (by first | (with_reducible assumption) | assumption); obtain ⟨ad327, e327, hx327_0⟩ := Kd.at_int HR0.out 0 p327 q327; cases e327; have qi327 : (0 < l0.length) = True := eq_true (by omega); (try rw [show ((0 : Int)).toNat = 0 from rfl] at hx327_0); (try rw [Addr.add_zero'] at hx327_0); replace hx327_0 := (HB.out.cell (World.block_lt_of_cell? w _ hx327_0)).trans hx327_0; replace p327 := eq_true p327; replace q327 := eq_true q327; obtain ⟨Ao9, co9, eo9⟩ := Kd.R_slice HO326.out; subst eo9; have p328 : 0 ≤ (a1 : Int) := of_decide_eq_true (by first | (with_reducible assumption) | assumption); have q328 : a1 < (y324.length : Int) := of_decide_eq_true (by first | (with_reducible assumption) | assumption); obtain ⟨ad328, e328, hx328_0⟩ := Kd.at_int (Kd.R_reads' HO326.out).2.2 a1 p328 q328; cases e328; replace p328 := eq_true p328; replace q328 := eq_true q328))
          repeat (go_quiet (first | ((with_reducible refine gate_dst (N := 12) rfl ?_); refine Kd.R_lit (Kd.int .i64) _ 3 ?hg (N := 12) ?hd (xs := ([0, 0, 192, 224, 240] : List Int)) (inner := [.int .i64 0, .int .i64 0, .int .i64 192, .int .i64 224, .int .i64 240]) (ok := fun _ => True) (okp := fun _ => True) ?hr ?hp (fun _ hk => hk) trivial (Below.refl _ _) (Nat.le_refl _) (by simp) ?_; (case hd => rfl); (case hg => rfl); (case hr => first | (go_simp; done) | (go_simp; rfl)); (case hp => exact (Reps.one (show Kd.M (Kd.int .i64) _ _ _ 0 [.int .i64 0] from rfl) (Reps.one (show Kd.M (Kd.int .i64) _ _ _ 0 [.int .i64 0] from rfl) (Reps.one (show Kd.M (Kd.int .i64) _ _ _ 192 [.int .i64 192] from rfl) (Reps.one (show Kd.M (Kd.int .i64) _ _ _ 224 [.int .i64 224] from rfl) (Reps.one (show Kd.M (Kd.int .i64) _ _ _ 240 [.int .i64 240] from rfl) (Reps.none _ _))))))); intro v325 w7 ho8 hb hg_ hnew_; clear hg_ hnew_; (first | rw [← Ny324.out] at ho8 | (simp only [Int.reduceToNat] at ho8; rw [← Ny324.out] at ho8)); have n0_ := Aside0.mk (Kd.R_lower ho8 (below_size (by repeat (first | (with_reducible first | exact HB.out | apply below_alloc | apply pw_below_drewN | apply below_drew1) | exact HB.out)))); have n1_ := Aside0.mk (below_step (by repeat (first | (with_reducible first | exact HB.out | apply below_alloc | apply pw_below_drewN | apply below_drew1) | exact HB.out)) hb); clear HB; have HO326 := n0_; have HB := n1_; clear n0_ n1_; clear hb ho8; have p327 : 0 ≤ (0 : Int) := (by omega); have q327 : 0 < (l0.length : Int) := of_decide_eq_true (by first | (with_reducible assumption) | assumption); obtain ⟨ad327, e327, hx327_0⟩ := Kd.at_int HR0.out 0 p327 q327; cases e327; have qi327 : (0 < l0.length) = True := eq_true (by omega); (try rw [show ((0 : Int)).toNat = 0 from rfl] at hx327_0); (try rw [Addr.add_zero'] at hx327_0); replace hx327_0 := (HB.out.cell (World.block_lt_of_cell? w _ hx327_0)).trans hx327_0; replace p327 := eq_true p327; replace q327 := eq_true q327; obtain ⟨Ao9, co9, eo9⟩ := Kd.R_slice HO326.out; subst eo9; have p328 : 0 ≤ (a1 : Int) := of_decide_eq_true (by first | (with_reducible assumption) | assumption); have q328 : a1 < (y324.length : Int) := of_decide_eq_true (by first | (with_reducible assumption) | assumption); obtain ⟨ad328, e328, hx328_0⟩ := Kd.at_int (Kd.R_reads' HO326.out).2.2 a1 p328 q328; cases e328; replace p328 := eq_true p328; replace q328 := eq_true q328)); try go_wp2_with (first | ((with_reducible refine gate_dst (N := 12) rfl ?_); refine Kd.R_lit (Kd.int .i64) _ 3 ?hg (N := 12) ?hd (xs := ([0, 0, 192, 224, 240] : List Int)) (inner := [.int .i64 0, .int .i64 0, .int .i64 192, .int .i64 224, .int .i64 240]) (ok := fun _ => True) (okp := fun _ => True) ?hr ?hp (fun _ hk => hk) trivial (Below.refl _ _) (Nat.le_refl _) (by simp) ?_; (case hd => rfl); (case hg => rfl); (case hr => first | (go_simp; done) | (go_simp; rfl)); (case hp => exact (Reps.one (show Kd.M (Kd.int .i64) _ _ _ 0 [.int .i64 0] from rfl) (Reps.one (show Kd.M (Kd.int .i64) _ _ _ 0 [.int .i64 0] from rfl) (Reps.one (show Kd.M (Kd.int .i64) _ _ _ 192 [.int .i64 192] from rfl) (Reps.one (show Kd.M (Kd.int .i64) _ _ _ 224 [.int .i64 224] from rfl) (Reps.one (show Kd.M (Kd.int .i64) _ _ _ 240 [.int .i64 240] from rfl) (Reps.none _ _))))))); intro v325 w7 ho8 hb hg_ hnew_; clear hg_ hnew_; (first | rw [← Ny324.out] at ho8 | (simp only [Int.reduceToNat] at ho8; rw [← Ny324.out] at ho8)); have n0_ := Aside0.mk (Kd.R_lower ho8 (below_size (by repeat (first | (with_reducible first | exact HB.out | apply below_alloc | apply pw_below_drewN | apply below_drew1) | exact HB.out)))); have n1_ := Aside0.mk (below_step (by repeat (first | (with_reducible first | exact HB.out | apply below_alloc | apply pw_below_drewN | apply below_drew1) | exact HB.out)) hb); clear HB; have HO326 := n0_; have HB := n1_; clear n0_ n1_; clear hb ho8; have p327 : 0 ≤ (0 : Int) := (by omega); have q327 : 0 < (l0.length : Int) := of_decide_eq_true (by first | (with_reducible assumption) | assumption); obtain ⟨ad327, e327, hx327_0⟩ := Kd.at_int HR0.out 0 p327 q327; cases e327; have qi327 : (0 < l0.length) = True := eq_true (by omega); (try rw [show ((0 : Int)).toNat = 0 from rfl] at hx327_0); (try rw [Addr.add_zero'] at hx327_0); replace hx327_0 := (HB.out.cell (World.block_lt_of_cell? w _ hx327_0)).trans hx327_0; replace p327 := eq_true p327; replace q327 := eq_true q327; obtain ⟨Ao9, co9, eo9⟩ := Kd.R_slice HO326.out; subst eo9; have p328 : 0 ≤ (a1 : Int) := of_decide_eq_true (by first | (with_reducible assumption) | assumption); have q328 : a1 < (y324.length : Int) := of_decide_eq_true (by first | (with_reducible assumption) | assumption); obtain ⟨ad328, e328, hx328_0⟩ := Kd.at_int (Kd.R_reads' HO326.out).2.2 a1 p328 q328; cases e328; replace p328 := eq_true p328; replace q328 := eq_true q328)))
          go_loopg [6, 7] k (fun kq v6 v7 w' => ∃ (x6_1 : Int) (x7_1 : Int), v6 = .int .i64 x6_1 ∧ v7 = .int .i64 x7_1 ∧ Aside0 (rubrickref04_begins.l0 kq l0 a1 x6_1 x7_1 = some r) ∧ Aside0 (kq ≤ k) ∧ Aside0 (Below w.heap.size w w'))
          case atStart => exact ⟨(wrap64 ((wrap64 (rd l0 0)) - (rd y324 a1))), (1), (by first | rfl | (simp; done) | (simp [*]; done)), (by first | rfl | (simp; done) | (simp [*]; done)), H', ⟨Nat.le_refl _⟩, ⟨by repeat (first | (with_reducible first | exact HB.out | apply below_alloc | apply pw_below_drewN | apply below_drew1) | exact HB.out)⟩⟩
          case round =>
            clear H'
            try clear c2
            try clear p2
            try clear c3
            try clear c3b0
            try clear p3
            try clear q3
            try clear hx3
            try clear qi3
            try clear c4
            try clear c4b0
            try clear c4b1
            try clear c5
            try clear c5b0
            try clear c6
            try clear c6b0
            try clear p6
            try clear hx327_0
            try clear hx328_0
            try clear p327
            try clear p328
            try clear q327
            try clear q328
            obtain ⟨x6_1, x7_1, rfl, rfl, HA, HK1, HB⟩ := hrel
            cases gk with
            | zero => exact absurd HA.out (by simp [rubrickref04_begins.l0])
            | succ k1 =>
              have H := HA.out
              clear HA
              simp only [rubrickref04_begins.l0] at H
              by_cases c10 : x7_1 < a1
              · rw [if_pos c10] at H
                have c10b0 : decide (x7_1 < a1) = true := decide_eq_true c10
                clear c10
                by_cases c11 : 0 ≤ x7_1
                · rw [if_pos c11] at H
                  have c11b0 : decide (0 ≤ x7_1) = true := decide_eq_true c11
                  clear c11
                  by_cases c12 : x7_1 < (l0.length : Int)
                  · rw [if_pos c12] at H
                    have c12b0 : decide (x7_1 < (l0.length : Int)) = true := decide_eq_true c12
                    clear c12
                    have H' := Aside0.mk H
                    clear H
                    have p329 : 0 ≤ (x7_1 : Int) := of_decide_eq_true (by first | (with_reducible assumption) | assumption)
                    have q329 : x7_1 < (l0.length : Int) := of_decide_eq_true (by first | (with_reducible assumption) | assumption)
                    obtain ⟨ad329, e329, hx329_0⟩ := Kd.at_int HR0.out x7_1 p329 q329
                    obtain rfl : ad327 = ad329 := (by injection e329)
                    replace hx329_0 := (HB.out.cell (World.block_lt_of_cell? w _ hx329_0)).trans hx329_0
                    replace p329 := eq_true p329
                    replace q329 := eq_true q329
                    go_wp2
                    repeat (go_quiet (fail); try go_wp2)
                    go_roundg k1
                    case measure => have := HK1.out; omega
                    case rel => exact ⟨(wrap64 ((wrap64 ((wrap64 (x6_1 * 64)) + (wrap64 (rd l0 x7_1)))) - 128)), (wrap64 (x7_1 + 1)), (by first | rfl | (simp; done) | (simp [*]; done)), (by first | rfl | (simp; done) | (simp [*]; done)), H', ⟨by have := HK1.out; omega⟩, ⟨by repeat (first | (with_reducible first | exact HB.out | apply below_alloc | apply pw_below_drewN | apply below_drew1) | exact HB.out)⟩⟩
                  · rw [if_neg c12] at H
                    exact absurd H (by simp)
                · rw [if_neg c11] at H
                  exact absurd H (by simp)
              · rw [if_neg c10] at H
                have c10b0 : decide (x7_1 < a1) = false := decide_eq_false c10
                clear c10
                obtain rfl := Option.some.inj H
                go_wp2
                repeat (go_quiet (fail); try go_wp2)
                go_ret
                exact ⟨by first | rfl | (simp [errW_none, errW_some] <;> rfl) | (simp [*, errW_none, errW_some] <;> rfl), by repeat (first | (with_reducible first | exact HB.out | apply below_alloc | apply pw_below_drewN | apply below_drew1) | exact HB.out)⟩
        · rw [if_neg c6] at H
          exact absurd H (by simp)
      · rw [if_neg c5] at H
        exact absurd H (by simp)
    · rw [if_neg c4] at H
      exact absurd H (by simp)

end Go.Proofs.YteofdfknemopiaaDoor.P
end
section
-- Printed by this session's patched printer.
namespace Go.Proofs.YteofdfknemopiaaDoor.P
open Go.RowKit Go.Proofs.YteofdfknemopiaaDoorW.PrintWords Go.Proofs.YteofdfknemopiaaDoorW.PrintLast Go.Proofs.YteofdfknemopiaaDoorW.PrintMore
attribute [local go_sem] Go.Instr.field Go.part Go.asAgg max2_int min2_int max_two min_two max_three min_three max_four min_four   -- for this text's walks alone
set_option linter.unusedVariables false
set_option linter.unusedSimpArgs false

/-! ### rubrickref04_least: function 27 -/
def rubrickref04_least.f (a0 : Int) (a1 : Int) : Option (Int) := if a0 < a1 then (some a0) else (some a1)
set_option maxHeartbeats 8000000 in
set_option maxRecDepth 100000 in
theorem rubrickref04_least.calls (a0 : Int) (a1 : Int) (r : Int) (w : World) (h : rubrickref04_least.f a0 a1 = some r) :
    Calls Tryd.prog 27 #[.int .i64 a0, .int .i64 a1] w fun e w' => e = .returned (.int .i64 r) ∧ Drawn0 w w' := by
  have H : (if a0 < a1 then (some a0) else (some a1)) = some r := h
  clear h
  by_cases c3 : a0 < a1
  · rw [if_pos c3] at H
    have c3b0 : decide (a0 < a1) = true := decide_eq_true c3
    clear c3
    obtain rfl := Option.some.inj H
    go_enter Tryd.func27, Tryd.ntmps27
    go_wp2
    go_ret
    exact ⟨by first | rfl | (simp; done) | (simp [*]; done), by repeat (first | exact Drawn0.refl _ | apply Drawn0.step)⟩
  · rw [if_neg c3] at H
    have c3b0 : decide (a0 < a1) = false := decide_eq_false c3
    clear c3
    obtain rfl := Option.some.inj H
    go_enter Tryd.func27, Tryd.ntmps27
    go_wp2
    go_ret
    exact ⟨by first | rfl | (simp; done) | (simp [*]; done), by repeat (first | exact Drawn0.refl _ | apply Drawn0.step)⟩

end Go.Proofs.YteofdfknemopiaaDoor.P
end
section
-- Printed by this session's patched printer.
namespace Go.Proofs.YteofdfknemopiaaDoor.P
open Go.RowKit Go.Proofs.YteofdfknemopiaaDoorW.PrintWords Go.Proofs.YteofdfknemopiaaDoorW.PrintLast Go.Proofs.YteofdfknemopiaaDoorW.PrintMore
attribute [local go_sem] Go.Instr.field Go.part Go.asAgg max2_int min2_int max_two min_two max_three min_three max_four min_four   -- for this text's walks alone
set_option linter.unusedVariables false
set_option linter.unusedSimpArgs false

/-! ### rubrickref04_in: function 29 -/
def rubrickref04_in.f (a0 : Int) (a1 : Int) (a2 : Int) : Option (Bool) := if a0 ≥ a1 then (some (decide (a0 ≤ a2))) else (some false)
set_option maxHeartbeats 8000000 in
set_option maxRecDepth 100000 in
theorem rubrickref04_in.calls (a0 : Int) (a1 : Int) (a2 : Int) (r : Bool) (w : World) (h : rubrickref04_in.f a0 a1 a2 = some r) :
    Calls Tryd.prog 29 #[.int .i64 a0, .int .i64 a1, .int .i64 a2] w fun e w' => e = .returned (.bool r) ∧ Drawn0 w w' := by
  have H : (if a0 ≥ a1 then (some (decide (a0 ≤ a2))) else (some false)) = some r := h
  clear h
  by_cases c4 : a0 ≥ a1
  · rw [if_pos c4] at H
    have c4b0 : decide (a1 ≤ a0) = true := decide_eq_true c4
    clear c4
    obtain rfl := Option.some.inj H
    go_enter Tryd.func29, Tryd.ntmps29
    go_wp2
    go_ret
    exact ⟨by first | rfl | (simp; done) | (simp [*]; done), by repeat (first | exact Drawn0.refl _ | apply Drawn0.step)⟩
  · rw [if_neg c4] at H
    have c4b0 : decide (a1 ≤ a0) = false := decide_eq_false c4
    clear c4
    obtain rfl := Option.some.inj H
    go_enter Tryd.func29, Tryd.ntmps29
    go_wp2
    go_ret
    exact ⟨by first | rfl | (simp; done) | (simp [*]; done), by repeat (first | exact Drawn0.refl _ | apply Drawn0.step)⟩

end Go.Proofs.YteofdfknemopiaaDoor.P
end
section
-- Printed by this session's patched printer.
namespace Go.Proofs.YteofdfknemopiaaDoor.P
open Go.RowKit Go.Proofs.YteofdfknemopiaaDoorW.PrintWords Go.Proofs.YteofdfknemopiaaDoorW.PrintLast Go.Proofs.YteofdfknemopiaaDoorW.PrintMore
attribute [local go_sem] Go.Instr.field Go.part Go.asAgg max2_int min2_int max_two min_two max_three min_three max_four min_four   -- for this text's walks alone
set_option linter.unusedVariables false
set_option linter.unusedSimpArgs false

/-! ### rubrickref04_Letter: function 28 -/
def rubrickref04_Letter.f (a0 : Int) : Option (Bool) := (rubrickref04_in.f a0 65 90).bind fun t342 => (if t342 = true then (some true) else ((rubrickref04_in.f a0 97 122).bind fun t343 => (if t343 = true then (some true) else ((rubrickref04_in.f a0 192 214).bind fun t344 => (if t344 = true then (some true) else ((rubrickref04_in.f a0 216 246).bind fun t345 => (if t345 = true then (some true) else ((rubrickref04_in.f a0 248 255).bind fun t346 => (if t346 = true then (some true) else ((rubrickref04_in.f a0 913 929).bind fun t347 => (if t347 = true then (some true) else ((rubrickref04_in.f a0 931 937).bind fun t348 => (if t348 = true then (some true) else ((rubrickref04_in.f a0 945 969).bind fun t349 => (if t349 = true then (some true) else ((rubrickref04_in.f a0 1024 1119).bind fun t350 => (some t350)))))))))))))))))
set_option maxHeartbeats 8000000 in
set_option maxRecDepth 100000 in
theorem rubrickref04_Letter.calls (a0 : Int) (r : Bool) (w : World) (h : rubrickref04_Letter.f a0 = some r) :
    Calls Tryd.prog 28 #[.int .i64 a0] w fun e w' => e = .returned (.bool r) ∧ Drawn0 w w' := by
  have H : ((rubrickref04_in.f a0 65 90).bind fun t342 => (if t342 = true then (some true) else ((rubrickref04_in.f a0 97 122).bind fun t343 => (if t343 = true then (some true) else ((rubrickref04_in.f a0 192 214).bind fun t344 => (if t344 = true then (some true) else ((rubrickref04_in.f a0 216 246).bind fun t345 => (if t345 = true then (some true) else ((rubrickref04_in.f a0 248 255).bind fun t346 => (if t346 = true then (some true) else ((rubrickref04_in.f a0 913 929).bind fun t347 => (if t347 = true then (some true) else ((rubrickref04_in.f a0 931 937).bind fun t348 => (if t348 = true then (some true) else ((rubrickref04_in.f a0 945 969).bind fun t349 => (if t349 = true then (some true) else ((rubrickref04_in.f a0 1024 1119).bind fun t350 => (some t350)))))))))))))))))) = some r := h
  clear h
  replace H := Option.bind_eq_some_iff.mp H
  obtain ⟨t342, A20, H⟩ := H
  replace H : (if t342 = true then (some true) else ((rubrickref04_in.f a0 97 122).bind fun t343 => (if t343 = true then (some true) else ((rubrickref04_in.f a0 192 214).bind fun t344 => (if t344 = true then (some true) else ((rubrickref04_in.f a0 216 246).bind fun t345 => (if t345 = true then (some true) else ((rubrickref04_in.f a0 248 255).bind fun t346 => (if t346 = true then (some true) else ((rubrickref04_in.f a0 913 929).bind fun t347 => (if t347 = true then (some true) else ((rubrickref04_in.f a0 931 937).bind fun t348 => (if t348 = true then (some true) else ((rubrickref04_in.f a0 945 969).bind fun t349 => (if t349 = true then (some true) else ((rubrickref04_in.f a0 1024 1119).bind fun t350 => (some t350))))))))))))))))) = some r := H
  have A2 := Aside0.mk A20
  clear A20
  by_cases c3 : t342 = true
  · subst c3
    have H1 : (some true) = some r := by rw [if_pos rfl] at H; exact H
    clear H
    have H := H1
    clear H1
    obtain rfl := Option.some.inj H
    go_enter Tryd.func28, Tryd.ntmps28
    go_wp2_with (first | ((with_reducible refine gate_callee (f := 29) rfl ?_); refine goesL_ (some 4) rfl rfl Tryd.func29 (by kernel_rfl) rfl #[.int .i64 a0, .int .i64 65, .int .i64 90] rfl (by (try simp only [List.map_toArray, List.map_cons, List.map_nil]); first | done | rfl | (simp only [List.length_drop, List.length_take]; rfl)) ?_; (with_reducible refine (rubrickref04_in.calls a0 65 90 true _ A2.out).mono ?_); rintro e w' ⟨rfl, ⟨nd, rfl⟩⟩; refine ⟨_, rfl, ?_⟩))
    go_ret
    exact ⟨by first | rfl | (simp; done) | (simp [*]; done), by repeat (first | exact Drawn0.refl _ | apply Drawn0.step)⟩
  · replace c3 := Bool.eq_false_iff.mpr c3
    subst c3
    have H1 : ((rubrickref04_in.f a0 97 122).bind fun t343 => (if t343 = true then (some true) else ((rubrickref04_in.f a0 192 214).bind fun t344 => (if t344 = true then (some true) else ((rubrickref04_in.f a0 216 246).bind fun t345 => (if t345 = true then (some true) else ((rubrickref04_in.f a0 248 255).bind fun t346 => (if t346 = true then (some true) else ((rubrickref04_in.f a0 913 929).bind fun t347 => (if t347 = true then (some true) else ((rubrickref04_in.f a0 931 937).bind fun t348 => (if t348 = true then (some true) else ((rubrickref04_in.f a0 945 969).bind fun t349 => (if t349 = true then (some true) else ((rubrickref04_in.f a0 1024 1119).bind fun t350 => (some t350)))))))))))))))) = some r := by rw [if_neg (show ¬ (false = true) by decide)] at H; exact H
    clear H
    have H := H1
    clear H1
    replace H := Option.bind_eq_some_iff.mp H
    obtain ⟨t343, A40, H⟩ := H
    replace H : (if t343 = true then (some true) else ((rubrickref04_in.f a0 192 214).bind fun t344 => (if t344 = true then (some true) else ((rubrickref04_in.f a0 216 246).bind fun t345 => (if t345 = true then (some true) else ((rubrickref04_in.f a0 248 255).bind fun t346 => (if t346 = true then (some true) else ((rubrickref04_in.f a0 913 929).bind fun t347 => (if t347 = true then (some true) else ((rubrickref04_in.f a0 931 937).bind fun t348 => (if t348 = true then (some true) else ((rubrickref04_in.f a0 945 969).bind fun t349 => (if t349 = true then (some true) else ((rubrickref04_in.f a0 1024 1119).bind fun t350 => (some t350))))))))))))))) = some r := H
    have A4 := Aside0.mk A40
    clear A40
    by_cases c5 : t343 = true
    · subst c5
      have H1 : (some true) = some r := by rw [if_pos rfl] at H; exact H
      clear H
      have H := H1
      clear H1
      obtain rfl := Option.some.inj H
      go_enter Tryd.func28, Tryd.ntmps28
      go_wp2_with (first | ((with_reducible refine gate_callee (f := 29) rfl ?_); refine goesL_ (some 4) rfl rfl Tryd.func29 (by kernel_rfl) rfl #[.int .i64 a0, .int .i64 65, .int .i64 90] rfl (by (try simp only [List.map_toArray, List.map_cons, List.map_nil]); first | done | rfl | (simp only [List.length_drop, List.length_take]; rfl)) ?_; (with_reducible refine (rubrickref04_in.calls a0 65 90 false _ A2.out).mono ?_); rintro e w' ⟨rfl, ⟨nd, rfl⟩⟩; refine ⟨_, rfl, ?_⟩) | (go_at_call 29; (with_reducible refine (rubrickref04_in.calls a0 97 122 true _ A4.out).mono ?_); rintro e w' ⟨rfl, ⟨nd, rfl⟩⟩))
      go_ret
      exact ⟨by first | rfl | (simp; done) | (simp [*]; done), by repeat (first | exact Drawn0.refl _ | apply Drawn0.step)⟩
    · replace c5 := Bool.eq_false_iff.mpr c5
      subst c5
      have H1 : ((rubrickref04_in.f a0 192 214).bind fun t344 => (if t344 = true then (some true) else ((rubrickref04_in.f a0 216 246).bind fun t345 => (if t345 = true then (some true) else ((rubrickref04_in.f a0 248 255).bind fun t346 => (if t346 = true then (some true) else ((rubrickref04_in.f a0 913 929).bind fun t347 => (if t347 = true then (some true) else ((rubrickref04_in.f a0 931 937).bind fun t348 => (if t348 = true then (some true) else ((rubrickref04_in.f a0 945 969).bind fun t349 => (if t349 = true then (some true) else ((rubrickref04_in.f a0 1024 1119).bind fun t350 => (some t350)))))))))))))) = some r := by rw [if_neg (show ¬ (false = true) by decide)] at H; exact H
      clear H
      have H := H1
      clear H1
      replace H := Option.bind_eq_some_iff.mp H
      obtain ⟨t344, A60, H⟩ := H
      replace H : (if t344 = true then (some true) else ((rubrickref04_in.f a0 216 246).bind fun t345 => (if t345 = true then (some true) else ((rubrickref04_in.f a0 248 255).bind fun t346 => (if t346 = true then (some true) else ((rubrickref04_in.f a0 913 929).bind fun t347 => (if t347 = true then (some true) else ((rubrickref04_in.f a0 931 937).bind fun t348 => (if t348 = true then (some true) else ((rubrickref04_in.f a0 945 969).bind fun t349 => (if t349 = true then (some true) else ((rubrickref04_in.f a0 1024 1119).bind fun t350 => (some t350))))))))))))) = some r := H
      have A6 := Aside0.mk A60
      clear A60
      by_cases c7 : t344 = true
      · subst c7
        have H1 : (some true) = some r := by rw [if_pos rfl] at H; exact H
        clear H
        have H := H1
        clear H1
        obtain rfl := Option.some.inj H
        go_enter Tryd.func28, Tryd.ntmps28
        go_wp2_with (first | ((with_reducible refine gate_callee (f := 29) rfl ?_); refine goesL_ (some 4) rfl rfl Tryd.func29 (by kernel_rfl) rfl #[.int .i64 a0, .int .i64 65, .int .i64 90] rfl (by (try simp only [List.map_toArray, List.map_cons, List.map_nil]); first | done | rfl | (simp only [List.length_drop, List.length_take]; rfl)) ?_; (with_reducible refine (rubrickref04_in.calls a0 65 90 false _ A2.out).mono ?_); rintro e w' ⟨rfl, ⟨nd, rfl⟩⟩; refine ⟨_, rfl, ?_⟩) | (go_at_call 29; (with_reducible refine (rubrickref04_in.calls a0 97 122 false _ A4.out).mono ?_); rintro e w' ⟨rfl, ⟨nd, rfl⟩⟩) | (go_at_call 29; (with_reducible refine (rubrickref04_in.calls a0 192 214 true _ A6.out).mono ?_); rintro e w' ⟨rfl, ⟨nd, rfl⟩⟩))
        go_ret
        exact ⟨by first | rfl | (simp; done) | (simp [*]; done), by repeat (first | exact Drawn0.refl _ | apply Drawn0.step)⟩
      · replace c7 := Bool.eq_false_iff.mpr c7
        subst c7
        have H1 : ((rubrickref04_in.f a0 216 246).bind fun t345 => (if t345 = true then (some true) else ((rubrickref04_in.f a0 248 255).bind fun t346 => (if t346 = true then (some true) else ((rubrickref04_in.f a0 913 929).bind fun t347 => (if t347 = true then (some true) else ((rubrickref04_in.f a0 931 937).bind fun t348 => (if t348 = true then (some true) else ((rubrickref04_in.f a0 945 969).bind fun t349 => (if t349 = true then (some true) else ((rubrickref04_in.f a0 1024 1119).bind fun t350 => (some t350)))))))))))) = some r := by rw [if_neg (show ¬ (false = true) by decide)] at H; exact H
        clear H
        have H := H1
        clear H1
        replace H := Option.bind_eq_some_iff.mp H
        obtain ⟨t345, A80, H⟩ := H
        replace H : (if t345 = true then (some true) else ((rubrickref04_in.f a0 248 255).bind fun t346 => (if t346 = true then (some true) else ((rubrickref04_in.f a0 913 929).bind fun t347 => (if t347 = true then (some true) else ((rubrickref04_in.f a0 931 937).bind fun t348 => (if t348 = true then (some true) else ((rubrickref04_in.f a0 945 969).bind fun t349 => (if t349 = true then (some true) else ((rubrickref04_in.f a0 1024 1119).bind fun t350 => (some t350))))))))))) = some r := H
        have A8 := Aside0.mk A80
        clear A80
        by_cases c9 : t345 = true
        · subst c9
          have H1 : (some true) = some r := by rw [if_pos rfl] at H; exact H
          clear H
          have H := H1
          clear H1
          obtain rfl := Option.some.inj H
          go_enter Tryd.func28, Tryd.ntmps28
          go_wp2_with (first | ((with_reducible refine gate_callee (f := 29) rfl ?_); refine goesL_ (some 4) rfl rfl Tryd.func29 (by kernel_rfl) rfl #[.int .i64 a0, .int .i64 65, .int .i64 90] rfl (by (try simp only [List.map_toArray, List.map_cons, List.map_nil]); first | done | rfl | (simp only [List.length_drop, List.length_take]; rfl)) ?_; (with_reducible refine (rubrickref04_in.calls a0 65 90 false _ A2.out).mono ?_); rintro e w' ⟨rfl, ⟨nd, rfl⟩⟩; refine ⟨_, rfl, ?_⟩) | (go_at_call 29; (with_reducible refine (rubrickref04_in.calls a0 97 122 false _ A4.out).mono ?_); rintro e w' ⟨rfl, ⟨nd, rfl⟩⟩) | (go_at_call 29; (with_reducible refine (rubrickref04_in.calls a0 192 214 false _ A6.out).mono ?_); rintro e w' ⟨rfl, ⟨nd, rfl⟩⟩) | (go_at_call 29; (with_reducible refine (rubrickref04_in.calls a0 216 246 true _ A8.out).mono ?_); rintro e w' ⟨rfl, ⟨nd, rfl⟩⟩))
          go_ret
          exact ⟨by first | rfl | (simp; done) | (simp [*]; done), by repeat (first | exact Drawn0.refl _ | apply Drawn0.step)⟩
        · replace c9 := Bool.eq_false_iff.mpr c9
          subst c9
          have H1 : ((rubrickref04_in.f a0 248 255).bind fun t346 => (if t346 = true then (some true) else ((rubrickref04_in.f a0 913 929).bind fun t347 => (if t347 = true then (some true) else ((rubrickref04_in.f a0 931 937).bind fun t348 => (if t348 = true then (some true) else ((rubrickref04_in.f a0 945 969).bind fun t349 => (if t349 = true then (some true) else ((rubrickref04_in.f a0 1024 1119).bind fun t350 => (some t350)))))))))) = some r := by rw [if_neg (show ¬ (false = true) by decide)] at H; exact H
          clear H
          have H := H1
          clear H1
          replace H := Option.bind_eq_some_iff.mp H
          obtain ⟨t346, A100, H⟩ := H
          replace H : (if t346 = true then (some true) else ((rubrickref04_in.f a0 913 929).bind fun t347 => (if t347 = true then (some true) else ((rubrickref04_in.f a0 931 937).bind fun t348 => (if t348 = true then (some true) else ((rubrickref04_in.f a0 945 969).bind fun t349 => (if t349 = true then (some true) else ((rubrickref04_in.f a0 1024 1119).bind fun t350 => (some t350))))))))) = some r := H
          have A10 := Aside0.mk A100
          clear A100
          by_cases c11 : t346 = true
          · subst c11
            have H1 : (some true) = some r := by rw [if_pos rfl] at H; exact H
            clear H
            have H := H1
            clear H1
            obtain rfl := Option.some.inj H
            go_enter Tryd.func28, Tryd.ntmps28
            go_wp2_with (first | ((with_reducible refine gate_callee (f := 29) rfl ?_); refine goesL_ (some 4) rfl rfl Tryd.func29 (by kernel_rfl) rfl #[.int .i64 a0, .int .i64 65, .int .i64 90] rfl (by (try simp only [List.map_toArray, List.map_cons, List.map_nil]); first | done | rfl | (simp only [List.length_drop, List.length_take]; rfl)) ?_; (with_reducible refine (rubrickref04_in.calls a0 65 90 false _ A2.out).mono ?_); rintro e w' ⟨rfl, ⟨nd, rfl⟩⟩; refine ⟨_, rfl, ?_⟩) | (go_at_call 29; (with_reducible refine (rubrickref04_in.calls a0 97 122 false _ A4.out).mono ?_); rintro e w' ⟨rfl, ⟨nd, rfl⟩⟩) | (go_at_call 29; (with_reducible refine (rubrickref04_in.calls a0 192 214 false _ A6.out).mono ?_); rintro e w' ⟨rfl, ⟨nd, rfl⟩⟩) | (go_at_call 29; (with_reducible refine (rubrickref04_in.calls a0 216 246 false _ A8.out).mono ?_); rintro e w' ⟨rfl, ⟨nd, rfl⟩⟩) | (go_at_call 29; (with_reducible refine (rubrickref04_in.calls a0 248 255 true _ A10.out).mono ?_); rintro e w' ⟨rfl, ⟨nd, rfl⟩⟩))
            go_ret
            exact ⟨by first | rfl | (simp; done) | (simp [*]; done), by repeat (first | exact Drawn0.refl _ | apply Drawn0.step)⟩
          · replace c11 := Bool.eq_false_iff.mpr c11
            subst c11
            have H1 : ((rubrickref04_in.f a0 913 929).bind fun t347 => (if t347 = true then (some true) else ((rubrickref04_in.f a0 931 937).bind fun t348 => (if t348 = true then (some true) else ((rubrickref04_in.f a0 945 969).bind fun t349 => (if t349 = true then (some true) else ((rubrickref04_in.f a0 1024 1119).bind fun t350 => (some t350)))))))) = some r := by rw [if_neg (show ¬ (false = true) by decide)] at H; exact H
            clear H
            have H := H1
            clear H1
            replace H := Option.bind_eq_some_iff.mp H
            obtain ⟨t347, A120, H⟩ := H
            replace H : (if t347 = true then (some true) else ((rubrickref04_in.f a0 931 937).bind fun t348 => (if t348 = true then (some true) else ((rubrickref04_in.f a0 945 969).bind fun t349 => (if t349 = true then (some true) else ((rubrickref04_in.f a0 1024 1119).bind fun t350 => (some t350))))))) = some r := H
            have A12 := Aside0.mk A120
            clear A120
            by_cases c13 : t347 = true
            · subst c13
              have H1 : (some true) = some r := by rw [if_pos rfl] at H; exact H
              clear H
              have H := H1
              clear H1
              obtain rfl := Option.some.inj H
              go_enter Tryd.func28, Tryd.ntmps28
              go_wp2_with (first | ((with_reducible refine gate_callee (f := 29) rfl ?_); refine goesL_ (some 4) rfl rfl Tryd.func29 (by kernel_rfl) rfl #[.int .i64 a0, .int .i64 65, .int .i64 90] rfl (by (try simp only [List.map_toArray, List.map_cons, List.map_nil]); first | done | rfl | (simp only [List.length_drop, List.length_take]; rfl)) ?_; (with_reducible refine (rubrickref04_in.calls a0 65 90 false _ A2.out).mono ?_); rintro e w' ⟨rfl, ⟨nd, rfl⟩⟩; refine ⟨_, rfl, ?_⟩) | (go_at_call 29; (with_reducible refine (rubrickref04_in.calls a0 97 122 false _ A4.out).mono ?_); rintro e w' ⟨rfl, ⟨nd, rfl⟩⟩) | (go_at_call 29; (with_reducible refine (rubrickref04_in.calls a0 192 214 false _ A6.out).mono ?_); rintro e w' ⟨rfl, ⟨nd, rfl⟩⟩) | (go_at_call 29; (with_reducible refine (rubrickref04_in.calls a0 216 246 false _ A8.out).mono ?_); rintro e w' ⟨rfl, ⟨nd, rfl⟩⟩) | (go_at_call 29; (with_reducible refine (rubrickref04_in.calls a0 248 255 false _ A10.out).mono ?_); rintro e w' ⟨rfl, ⟨nd, rfl⟩⟩) | (go_at_call 29; (with_reducible refine (rubrickref04_in.calls a0 913 929 true _ A12.out).mono ?_); rintro e w' ⟨rfl, ⟨nd, rfl⟩⟩))
              go_ret
              exact ⟨by first | rfl | (simp; done) | (simp [*]; done), by repeat (first | exact Drawn0.refl _ | apply Drawn0.step)⟩
            · replace c13 := Bool.eq_false_iff.mpr c13
              subst c13
              have H1 : ((rubrickref04_in.f a0 931 937).bind fun t348 => (if t348 = true then (some true) else ((rubrickref04_in.f a0 945 969).bind fun t349 => (if t349 = true then (some true) else ((rubrickref04_in.f a0 1024 1119).bind fun t350 => (some t350)))))) = some r := by rw [if_neg (show ¬ (false = true) by decide)] at H; exact H
              clear H
              have H := H1
              clear H1
              replace H := Option.bind_eq_some_iff.mp H
              obtain ⟨t348, A140, H⟩ := H
              replace H : (if t348 = true then (some true) else ((rubrickref04_in.f a0 945 969).bind fun t349 => (if t349 = true then (some true) else ((rubrickref04_in.f a0 1024 1119).bind fun t350 => (some t350))))) = some r := H
              have A14 := Aside0.mk A140
              clear A140
              by_cases c15 : t348 = true
              · subst c15
                have H1 : (some true) = some r := by rw [if_pos rfl] at H; exact H
                clear H
                have H := H1
                clear H1
                obtain rfl := Option.some.inj H
                go_enter Tryd.func28, Tryd.ntmps28
                go_wp2_with (first | ((with_reducible refine gate_callee (f := 29) rfl ?_); refine goesL_ (some 4) rfl rfl Tryd.func29 (by kernel_rfl) rfl #[.int .i64 a0, .int .i64 65, .int .i64 90] rfl (by (try simp only [List.map_toArray, List.map_cons, List.map_nil]); first | done | rfl | (simp only [List.length_drop, List.length_take]; rfl)) ?_; (with_reducible refine (rubrickref04_in.calls a0 65 90 false _ A2.out).mono ?_); rintro e w' ⟨rfl, ⟨nd, rfl⟩⟩; refine ⟨_, rfl, ?_⟩) | (go_at_call 29; (with_reducible refine (rubrickref04_in.calls a0 97 122 false _ A4.out).mono ?_); rintro e w' ⟨rfl, ⟨nd, rfl⟩⟩) | (go_at_call 29; (with_reducible refine (rubrickref04_in.calls a0 192 214 false _ A6.out).mono ?_); rintro e w' ⟨rfl, ⟨nd, rfl⟩⟩) | (go_at_call 29; (with_reducible refine (rubrickref04_in.calls a0 216 246 false _ A8.out).mono ?_); rintro e w' ⟨rfl, ⟨nd, rfl⟩⟩) | (go_at_call 29; (with_reducible refine (rubrickref04_in.calls a0 248 255 false _ A10.out).mono ?_); rintro e w' ⟨rfl, ⟨nd, rfl⟩⟩) | (go_at_call 29; (with_reducible refine (rubrickref04_in.calls a0 913 929 false _ A12.out).mono ?_); rintro e w' ⟨rfl, ⟨nd, rfl⟩⟩) | (go_at_call 29; (with_reducible refine (rubrickref04_in.calls a0 931 937 true _ A14.out).mono ?_); rintro e w' ⟨rfl, ⟨nd, rfl⟩⟩))
                go_ret
                exact ⟨by first | rfl | (simp; done) | (simp [*]; done), by repeat (first | exact Drawn0.refl _ | apply Drawn0.step)⟩
              · replace c15 := Bool.eq_false_iff.mpr c15
                subst c15
                have H1 : ((rubrickref04_in.f a0 945 969).bind fun t349 => (if t349 = true then (some true) else ((rubrickref04_in.f a0 1024 1119).bind fun t350 => (some t350)))) = some r := by rw [if_neg (show ¬ (false = true) by decide)] at H; exact H
                clear H
                have H := H1
                clear H1
                replace H := Option.bind_eq_some_iff.mp H
                obtain ⟨t349, A160, H⟩ := H
                replace H : (if t349 = true then (some true) else ((rubrickref04_in.f a0 1024 1119).bind fun t350 => (some t350))) = some r := H
                have A16 := Aside0.mk A160
                clear A160
                by_cases c17 : t349 = true
                · subst c17
                  have H1 : (some true) = some r := by rw [if_pos rfl] at H; exact H
                  clear H
                  have H := H1
                  clear H1
                  obtain rfl := Option.some.inj H
                  go_enter Tryd.func28, Tryd.ntmps28
                  go_wp2_with (first | ((with_reducible refine gate_callee (f := 29) rfl ?_); refine goesL_ (some 4) rfl rfl Tryd.func29 (by kernel_rfl) rfl #[.int .i64 a0, .int .i64 65, .int .i64 90] rfl (by (try simp only [List.map_toArray, List.map_cons, List.map_nil]); first | done | rfl | (simp only [List.length_drop, List.length_take]; rfl)) ?_; (with_reducible refine (rubrickref04_in.calls a0 65 90 false _ A2.out).mono ?_); rintro e w' ⟨rfl, ⟨nd, rfl⟩⟩; refine ⟨_, rfl, ?_⟩) | (go_at_call 29; (with_reducible refine (rubrickref04_in.calls a0 97 122 false _ A4.out).mono ?_); rintro e w' ⟨rfl, ⟨nd, rfl⟩⟩) | (go_at_call 29; (with_reducible refine (rubrickref04_in.calls a0 192 214 false _ A6.out).mono ?_); rintro e w' ⟨rfl, ⟨nd, rfl⟩⟩) | (go_at_call 29; (with_reducible refine (rubrickref04_in.calls a0 216 246 false _ A8.out).mono ?_); rintro e w' ⟨rfl, ⟨nd, rfl⟩⟩) | (go_at_call 29; (with_reducible refine (rubrickref04_in.calls a0 248 255 false _ A10.out).mono ?_); rintro e w' ⟨rfl, ⟨nd, rfl⟩⟩) | (go_at_call 29; (with_reducible refine (rubrickref04_in.calls a0 913 929 false _ A12.out).mono ?_); rintro e w' ⟨rfl, ⟨nd, rfl⟩⟩) | (go_at_call 29; (with_reducible refine (rubrickref04_in.calls a0 931 937 false _ A14.out).mono ?_); rintro e w' ⟨rfl, ⟨nd, rfl⟩⟩) | (go_at_call 29; (with_reducible refine (rubrickref04_in.calls a0 945 969 true _ A16.out).mono ?_); rintro e w' ⟨rfl, ⟨nd, rfl⟩⟩))
                  go_ret
                  exact ⟨by first | rfl | (simp; done) | (simp [*]; done), by repeat (first | exact Drawn0.refl _ | apply Drawn0.step)⟩
                · replace c17 := Bool.eq_false_iff.mpr c17
                  subst c17
                  have H1 : ((rubrickref04_in.f a0 1024 1119).bind fun t350 => (some t350)) = some r := by rw [if_neg (show ¬ (false = true) by decide)] at H; exact H
                  clear H
                  have H := H1
                  clear H1
                  replace H := Option.bind_eq_some_iff.mp H
                  obtain ⟨t350, A180, H⟩ := H
                  replace H : (some t350) = some r := H
                  have A18 := Aside0.mk A180
                  clear A180
                  obtain rfl := Option.some.inj H
                  go_enter Tryd.func28, Tryd.ntmps28
                  go_wp2_with (first | ((with_reducible refine gate_callee (f := 29) rfl ?_); refine goesL_ (some 4) rfl rfl Tryd.func29 (by kernel_rfl) rfl #[.int .i64 a0, .int .i64 65, .int .i64 90] rfl (by (try simp only [List.map_toArray, List.map_cons, List.map_nil]); first | done | rfl | (simp only [List.length_drop, List.length_take]; rfl)) ?_; (with_reducible refine (rubrickref04_in.calls a0 65 90 false _ A2.out).mono ?_); rintro e w' ⟨rfl, ⟨nd, rfl⟩⟩; refine ⟨_, rfl, ?_⟩) | (go_at_call 29; (with_reducible refine (rubrickref04_in.calls a0 97 122 false _ A4.out).mono ?_); rintro e w' ⟨rfl, ⟨nd, rfl⟩⟩) | (go_at_call 29; (with_reducible refine (rubrickref04_in.calls a0 192 214 false _ A6.out).mono ?_); rintro e w' ⟨rfl, ⟨nd, rfl⟩⟩) | (go_at_call 29; (with_reducible refine (rubrickref04_in.calls a0 216 246 false _ A8.out).mono ?_); rintro e w' ⟨rfl, ⟨nd, rfl⟩⟩) | (go_at_call 29; (with_reducible refine (rubrickref04_in.calls a0 248 255 false _ A10.out).mono ?_); rintro e w' ⟨rfl, ⟨nd, rfl⟩⟩) | (go_at_call 29; (with_reducible refine (rubrickref04_in.calls a0 913 929 false _ A12.out).mono ?_); rintro e w' ⟨rfl, ⟨nd, rfl⟩⟩) | (go_at_call 29; (with_reducible refine (rubrickref04_in.calls a0 931 937 false _ A14.out).mono ?_); rintro e w' ⟨rfl, ⟨nd, rfl⟩⟩) | (go_at_call 29; (with_reducible refine (rubrickref04_in.calls a0 945 969 false _ A16.out).mono ?_); rintro e w' ⟨rfl, ⟨nd, rfl⟩⟩) | (go_at_call 29; (with_reducible refine (rubrickref04_in.calls a0 1024 1119 t350 _ A18.out).mono ?_); rintro e w' ⟨rfl, ⟨nd, rfl⟩⟩))
                  go_ret
                  exact ⟨by first | rfl | (simp; done) | (simp [*]; done), by repeat (first | exact Drawn0.refl _ | apply Drawn0.step)⟩

end Go.Proofs.YteofdfknemopiaaDoor.P
end
section
-- Printed by this session's patched printer.
namespace Go.Proofs.YteofdfknemopiaaDoor.P
open Go.RowKit Go.Proofs.YteofdfknemopiaaDoorW.PrintWords Go.Proofs.YteofdfknemopiaaDoorW.PrintLast Go.Proofs.YteofdfknemopiaaDoorW.PrintMore
attribute [local go_sem] Go.Instr.field Go.part Go.asAgg max2_int min2_int max_two min_two max_three min_three max_four min_four   -- for this text's walks alone
set_option linter.unusedVariables false
set_option linter.unusedSimpArgs false

/-! ### rubrickref04_Small: function 21 -/
def rubrickref04_Small.f (a0 : Int) : Option (Int) := (rubrickref04_in.f a0 1024 1039).bind fun t352 => (if t352 = true then (some (wrap64 (a0 + 80))) else ((rubrickref04_in.f a0 65 90).bind fun t353 => (if t353 = true then (some (wrap64 (a0 + 32))) else ((rubrickref04_in.f a0 192 214).bind fun t354 => (if t354 = true then (some (wrap64 (a0 + 32))) else ((rubrickref04_in.f a0 216 222).bind fun t355 => (if t355 = true then (some (wrap64 (a0 + 32))) else ((rubrickref04_in.f a0 913 929).bind fun t356 => (if t356 = true then (some (wrap64 (a0 + 32))) else ((rubrickref04_in.f a0 931 937).bind fun t357 => (if t357 = true then (some (wrap64 (a0 + 32))) else ((rubrickref04_in.f a0 1040 1071).bind fun t358 => (if t358 = true then (some (wrap64 (a0 + 32))) else (some a0))))))))))))))
set_option maxHeartbeats 8000000 in
set_option maxRecDepth 100000 in
theorem rubrickref04_Small.calls (a0 : Int) (r : Int) (w : World) (h : rubrickref04_Small.f a0 = some r) :
    Calls Tryd.prog 21 #[.int .i64 a0] w fun e w' => e = .returned (.int .i64 r) ∧ Drawn0 w w' := by
  have H : ((rubrickref04_in.f a0 1024 1039).bind fun t352 => (if t352 = true then (some (wrap64 (a0 + 80))) else ((rubrickref04_in.f a0 65 90).bind fun t353 => (if t353 = true then (some (wrap64 (a0 + 32))) else ((rubrickref04_in.f a0 192 214).bind fun t354 => (if t354 = true then (some (wrap64 (a0 + 32))) else ((rubrickref04_in.f a0 216 222).bind fun t355 => (if t355 = true then (some (wrap64 (a0 + 32))) else ((rubrickref04_in.f a0 913 929).bind fun t356 => (if t356 = true then (some (wrap64 (a0 + 32))) else ((rubrickref04_in.f a0 931 937).bind fun t357 => (if t357 = true then (some (wrap64 (a0 + 32))) else ((rubrickref04_in.f a0 1040 1071).bind fun t358 => (if t358 = true then (some (wrap64 (a0 + 32))) else (some a0))))))))))))))) = some r := h
  clear h
  replace H := Option.bind_eq_some_iff.mp H
  obtain ⟨t352, A20, H⟩ := H
  replace H : (if t352 = true then (some (wrap64 (a0 + 80))) else ((rubrickref04_in.f a0 65 90).bind fun t353 => (if t353 = true then (some (wrap64 (a0 + 32))) else ((rubrickref04_in.f a0 192 214).bind fun t354 => (if t354 = true then (some (wrap64 (a0 + 32))) else ((rubrickref04_in.f a0 216 222).bind fun t355 => (if t355 = true then (some (wrap64 (a0 + 32))) else ((rubrickref04_in.f a0 913 929).bind fun t356 => (if t356 = true then (some (wrap64 (a0 + 32))) else ((rubrickref04_in.f a0 931 937).bind fun t357 => (if t357 = true then (some (wrap64 (a0 + 32))) else ((rubrickref04_in.f a0 1040 1071).bind fun t358 => (if t358 = true then (some (wrap64 (a0 + 32))) else (some a0)))))))))))))) = some r := H
  have A2 := Aside0.mk A20
  clear A20
  by_cases c3 : t352 = true
  · subst c3
    have H1 : (some (wrap64 (a0 + 80))) = some r := by rw [if_pos rfl] at H; exact H
    clear H
    have H := H1
    clear H1
    obtain rfl := Option.some.inj H
    go_enter Tryd.func21, Tryd.ntmps21
    go_wp2_with (first | ((with_reducible refine gate_callee (f := 29) rfl ?_); refine goesL_ (some 4) rfl rfl Tryd.func29 (by kernel_rfl) rfl #[.int .i64 a0, .int .i64 1024, .int .i64 1039] rfl (by (try simp only [List.map_toArray, List.map_cons, List.map_nil]); first | done | rfl | (simp only [List.length_drop, List.length_take]; rfl)) ?_; (with_reducible refine (rubrickref04_in.calls a0 1024 1039 true _ A2.out).mono ?_); rintro e w' ⟨rfl, ⟨nd, rfl⟩⟩; refine ⟨_, rfl, ?_⟩))
    go_ret
    exact ⟨by first | rfl | (simp; done) | (simp [*]; done), by repeat (first | exact Drawn0.refl _ | apply Drawn0.step)⟩
  · replace c3 := Bool.eq_false_iff.mpr c3
    subst c3
    have H1 : ((rubrickref04_in.f a0 65 90).bind fun t353 => (if t353 = true then (some (wrap64 (a0 + 32))) else ((rubrickref04_in.f a0 192 214).bind fun t354 => (if t354 = true then (some (wrap64 (a0 + 32))) else ((rubrickref04_in.f a0 216 222).bind fun t355 => (if t355 = true then (some (wrap64 (a0 + 32))) else ((rubrickref04_in.f a0 913 929).bind fun t356 => (if t356 = true then (some (wrap64 (a0 + 32))) else ((rubrickref04_in.f a0 931 937).bind fun t357 => (if t357 = true then (some (wrap64 (a0 + 32))) else ((rubrickref04_in.f a0 1040 1071).bind fun t358 => (if t358 = true then (some (wrap64 (a0 + 32))) else (some a0))))))))))))) = some r := by rw [if_neg (show ¬ (false = true) by decide)] at H; exact H
    clear H
    have H := H1
    clear H1
    replace H := Option.bind_eq_some_iff.mp H
    obtain ⟨t353, A40, H⟩ := H
    replace H : (if t353 = true then (some (wrap64 (a0 + 32))) else ((rubrickref04_in.f a0 192 214).bind fun t354 => (if t354 = true then (some (wrap64 (a0 + 32))) else ((rubrickref04_in.f a0 216 222).bind fun t355 => (if t355 = true then (some (wrap64 (a0 + 32))) else ((rubrickref04_in.f a0 913 929).bind fun t356 => (if t356 = true then (some (wrap64 (a0 + 32))) else ((rubrickref04_in.f a0 931 937).bind fun t357 => (if t357 = true then (some (wrap64 (a0 + 32))) else ((rubrickref04_in.f a0 1040 1071).bind fun t358 => (if t358 = true then (some (wrap64 (a0 + 32))) else (some a0)))))))))))) = some r := H
    have A4 := Aside0.mk A40
    clear A40
    by_cases c5 : t353 = true
    · subst c5
      have H1 : (some (wrap64 (a0 + 32))) = some r := by rw [if_pos rfl] at H; exact H
      clear H
      have H := H1
      clear H1
      obtain rfl := Option.some.inj H
      go_enter Tryd.func21, Tryd.ntmps21
      go_wp2_with (first | ((with_reducible refine gate_callee (f := 29) rfl ?_); refine goesL_ (some 4) rfl rfl Tryd.func29 (by kernel_rfl) rfl #[.int .i64 a0, .int .i64 1024, .int .i64 1039] rfl (by (try simp only [List.map_toArray, List.map_cons, List.map_nil]); first | done | rfl | (simp only [List.length_drop, List.length_take]; rfl)) ?_; (with_reducible refine (rubrickref04_in.calls a0 1024 1039 false _ A2.out).mono ?_); rintro e w' ⟨rfl, ⟨nd, rfl⟩⟩; refine ⟨_, rfl, ?_⟩) | ((with_reducible refine gate_callee (f := 29) rfl ?_); refine goesL_ (some 8) rfl rfl Tryd.func29 (by kernel_rfl) rfl #[.int .i64 a0, .int .i64 65, .int .i64 90] rfl (by (try simp only [List.map_toArray, List.map_cons, List.map_nil]); first | done | rfl | (simp only [List.length_drop, List.length_take]; rfl)) ?_; (with_reducible refine (rubrickref04_in.calls a0 65 90 true _ A4.out).mono ?_); rintro e w' ⟨rfl, ⟨nd, rfl⟩⟩; refine ⟨_, rfl, ?_⟩))
      go_ret
      exact ⟨by first | rfl | (simp; done) | (simp [*]; done), by repeat (first | exact Drawn0.refl _ | apply Drawn0.step)⟩
    · replace c5 := Bool.eq_false_iff.mpr c5
      subst c5
      have H1 : ((rubrickref04_in.f a0 192 214).bind fun t354 => (if t354 = true then (some (wrap64 (a0 + 32))) else ((rubrickref04_in.f a0 216 222).bind fun t355 => (if t355 = true then (some (wrap64 (a0 + 32))) else ((rubrickref04_in.f a0 913 929).bind fun t356 => (if t356 = true then (some (wrap64 (a0 + 32))) else ((rubrickref04_in.f a0 931 937).bind fun t357 => (if t357 = true then (some (wrap64 (a0 + 32))) else ((rubrickref04_in.f a0 1040 1071).bind fun t358 => (if t358 = true then (some (wrap64 (a0 + 32))) else (some a0))))))))))) = some r := by rw [if_neg (show ¬ (false = true) by decide)] at H; exact H
      clear H
      have H := H1
      clear H1
      replace H := Option.bind_eq_some_iff.mp H
      obtain ⟨t354, A60, H⟩ := H
      replace H : (if t354 = true then (some (wrap64 (a0 + 32))) else ((rubrickref04_in.f a0 216 222).bind fun t355 => (if t355 = true then (some (wrap64 (a0 + 32))) else ((rubrickref04_in.f a0 913 929).bind fun t356 => (if t356 = true then (some (wrap64 (a0 + 32))) else ((rubrickref04_in.f a0 931 937).bind fun t357 => (if t357 = true then (some (wrap64 (a0 + 32))) else ((rubrickref04_in.f a0 1040 1071).bind fun t358 => (if t358 = true then (some (wrap64 (a0 + 32))) else (some a0)))))))))) = some r := H
      have A6 := Aside0.mk A60
      clear A60
      by_cases c7 : t354 = true
      · subst c7
        have H1 : (some (wrap64 (a0 + 32))) = some r := by rw [if_pos rfl] at H; exact H
        clear H
        have H := H1
        clear H1
        obtain rfl := Option.some.inj H
        go_enter Tryd.func21, Tryd.ntmps21
        go_wp2_with (first | ((with_reducible refine gate_callee (f := 29) rfl ?_); refine goesL_ (some 4) rfl rfl Tryd.func29 (by kernel_rfl) rfl #[.int .i64 a0, .int .i64 1024, .int .i64 1039] rfl (by (try simp only [List.map_toArray, List.map_cons, List.map_nil]); first | done | rfl | (simp only [List.length_drop, List.length_take]; rfl)) ?_; (with_reducible refine (rubrickref04_in.calls a0 1024 1039 false _ A2.out).mono ?_); rintro e w' ⟨rfl, ⟨nd, rfl⟩⟩; refine ⟨_, rfl, ?_⟩) | ((with_reducible refine gate_callee (f := 29) rfl ?_); refine goesL_ (some 8) rfl rfl Tryd.func29 (by kernel_rfl) rfl #[.int .i64 a0, .int .i64 65, .int .i64 90] rfl (by (try simp only [List.map_toArray, List.map_cons, List.map_nil]); first | done | rfl | (simp only [List.length_drop, List.length_take]; rfl)) ?_; (with_reducible refine (rubrickref04_in.calls a0 65 90 false _ A4.out).mono ?_); rintro e w' ⟨rfl, ⟨nd, rfl⟩⟩; refine ⟨_, rfl, ?_⟩) | (go_at_call 29; (with_reducible refine (rubrickref04_in.calls a0 192 214 true _ A6.out).mono ?_); rintro e w' ⟨rfl, ⟨nd, rfl⟩⟩))
        go_ret
        exact ⟨by first | rfl | (simp; done) | (simp [*]; done), by repeat (first | exact Drawn0.refl _ | apply Drawn0.step)⟩
      · replace c7 := Bool.eq_false_iff.mpr c7
        subst c7
        have H1 : ((rubrickref04_in.f a0 216 222).bind fun t355 => (if t355 = true then (some (wrap64 (a0 + 32))) else ((rubrickref04_in.f a0 913 929).bind fun t356 => (if t356 = true then (some (wrap64 (a0 + 32))) else ((rubrickref04_in.f a0 931 937).bind fun t357 => (if t357 = true then (some (wrap64 (a0 + 32))) else ((rubrickref04_in.f a0 1040 1071).bind fun t358 => (if t358 = true then (some (wrap64 (a0 + 32))) else (some a0))))))))) = some r := by rw [if_neg (show ¬ (false = true) by decide)] at H; exact H
        clear H
        have H := H1
        clear H1
        replace H := Option.bind_eq_some_iff.mp H
        obtain ⟨t355, A80, H⟩ := H
        replace H : (if t355 = true then (some (wrap64 (a0 + 32))) else ((rubrickref04_in.f a0 913 929).bind fun t356 => (if t356 = true then (some (wrap64 (a0 + 32))) else ((rubrickref04_in.f a0 931 937).bind fun t357 => (if t357 = true then (some (wrap64 (a0 + 32))) else ((rubrickref04_in.f a0 1040 1071).bind fun t358 => (if t358 = true then (some (wrap64 (a0 + 32))) else (some a0)))))))) = some r := H
        have A8 := Aside0.mk A80
        clear A80
        by_cases c9 : t355 = true
        · subst c9
          have H1 : (some (wrap64 (a0 + 32))) = some r := by rw [if_pos rfl] at H; exact H
          clear H
          have H := H1
          clear H1
          obtain rfl := Option.some.inj H
          go_enter Tryd.func21, Tryd.ntmps21
          go_wp2_with (first | ((with_reducible refine gate_callee (f := 29) rfl ?_); refine goesL_ (some 4) rfl rfl Tryd.func29 (by kernel_rfl) rfl #[.int .i64 a0, .int .i64 1024, .int .i64 1039] rfl (by (try simp only [List.map_toArray, List.map_cons, List.map_nil]); first | done | rfl | (simp only [List.length_drop, List.length_take]; rfl)) ?_; (with_reducible refine (rubrickref04_in.calls a0 1024 1039 false _ A2.out).mono ?_); rintro e w' ⟨rfl, ⟨nd, rfl⟩⟩; refine ⟨_, rfl, ?_⟩) | ((with_reducible refine gate_callee (f := 29) rfl ?_); refine goesL_ (some 8) rfl rfl Tryd.func29 (by kernel_rfl) rfl #[.int .i64 a0, .int .i64 65, .int .i64 90] rfl (by (try simp only [List.map_toArray, List.map_cons, List.map_nil]); first | done | rfl | (simp only [List.length_drop, List.length_take]; rfl)) ?_; (with_reducible refine (rubrickref04_in.calls a0 65 90 false _ A4.out).mono ?_); rintro e w' ⟨rfl, ⟨nd, rfl⟩⟩; refine ⟨_, rfl, ?_⟩) | (go_at_call 29; (with_reducible refine (rubrickref04_in.calls a0 192 214 false _ A6.out).mono ?_); rintro e w' ⟨rfl, ⟨nd, rfl⟩⟩) | (go_at_call 29; (with_reducible refine (rubrickref04_in.calls a0 216 222 true _ A8.out).mono ?_); rintro e w' ⟨rfl, ⟨nd, rfl⟩⟩))
          go_ret
          exact ⟨by first | rfl | (simp; done) | (simp [*]; done), by repeat (first | exact Drawn0.refl _ | apply Drawn0.step)⟩
        · replace c9 := Bool.eq_false_iff.mpr c9
          subst c9
          have H1 : ((rubrickref04_in.f a0 913 929).bind fun t356 => (if t356 = true then (some (wrap64 (a0 + 32))) else ((rubrickref04_in.f a0 931 937).bind fun t357 => (if t357 = true then (some (wrap64 (a0 + 32))) else ((rubrickref04_in.f a0 1040 1071).bind fun t358 => (if t358 = true then (some (wrap64 (a0 + 32))) else (some a0))))))) = some r := by rw [if_neg (show ¬ (false = true) by decide)] at H; exact H
          clear H
          have H := H1
          clear H1
          replace H := Option.bind_eq_some_iff.mp H
          obtain ⟨t356, A100, H⟩ := H
          replace H : (if t356 = true then (some (wrap64 (a0 + 32))) else ((rubrickref04_in.f a0 931 937).bind fun t357 => (if t357 = true then (some (wrap64 (a0 + 32))) else ((rubrickref04_in.f a0 1040 1071).bind fun t358 => (if t358 = true then (some (wrap64 (a0 + 32))) else (some a0)))))) = some r := H
          have A10 := Aside0.mk A100
          clear A100
          by_cases c11 : t356 = true
          · subst c11
            have H1 : (some (wrap64 (a0 + 32))) = some r := by rw [if_pos rfl] at H; exact H
            clear H
            have H := H1
            clear H1
            obtain rfl := Option.some.inj H
            go_enter Tryd.func21, Tryd.ntmps21
            go_wp2_with (first | ((with_reducible refine gate_callee (f := 29) rfl ?_); refine goesL_ (some 4) rfl rfl Tryd.func29 (by kernel_rfl) rfl #[.int .i64 a0, .int .i64 1024, .int .i64 1039] rfl (by (try simp only [List.map_toArray, List.map_cons, List.map_nil]); first | done | rfl | (simp only [List.length_drop, List.length_take]; rfl)) ?_; (with_reducible refine (rubrickref04_in.calls a0 1024 1039 false _ A2.out).mono ?_); rintro e w' ⟨rfl, ⟨nd, rfl⟩⟩; refine ⟨_, rfl, ?_⟩) | ((with_reducible refine gate_callee (f := 29) rfl ?_); refine goesL_ (some 8) rfl rfl Tryd.func29 (by kernel_rfl) rfl #[.int .i64 a0, .int .i64 65, .int .i64 90] rfl (by (try simp only [List.map_toArray, List.map_cons, List.map_nil]); first | done | rfl | (simp only [List.length_drop, List.length_take]; rfl)) ?_; (with_reducible refine (rubrickref04_in.calls a0 65 90 false _ A4.out).mono ?_); rintro e w' ⟨rfl, ⟨nd, rfl⟩⟩; refine ⟨_, rfl, ?_⟩) | (go_at_call 29; (with_reducible refine (rubrickref04_in.calls a0 192 214 false _ A6.out).mono ?_); rintro e w' ⟨rfl, ⟨nd, rfl⟩⟩) | (go_at_call 29; (with_reducible refine (rubrickref04_in.calls a0 216 222 false _ A8.out).mono ?_); rintro e w' ⟨rfl, ⟨nd, rfl⟩⟩) | (go_at_call 29; (with_reducible refine (rubrickref04_in.calls a0 913 929 true _ A10.out).mono ?_); rintro e w' ⟨rfl, ⟨nd, rfl⟩⟩))
            go_ret
            exact ⟨by first | rfl | (simp; done) | (simp [*]; done), by repeat (first | exact Drawn0.refl _ | apply Drawn0.step)⟩
          · replace c11 := Bool.eq_false_iff.mpr c11
            subst c11
            have H1 : ((rubrickref04_in.f a0 931 937).bind fun t357 => (if t357 = true then (some (wrap64 (a0 + 32))) else ((rubrickref04_in.f a0 1040 1071).bind fun t358 => (if t358 = true then (some (wrap64 (a0 + 32))) else (some a0))))) = some r := by rw [if_neg (show ¬ (false = true) by decide)] at H; exact H
            clear H
            have H := H1
            clear H1
            replace H := Option.bind_eq_some_iff.mp H
            obtain ⟨t357, A120, H⟩ := H
            replace H : (if t357 = true then (some (wrap64 (a0 + 32))) else ((rubrickref04_in.f a0 1040 1071).bind fun t358 => (if t358 = true then (some (wrap64 (a0 + 32))) else (some a0)))) = some r := H
            have A12 := Aside0.mk A120
            clear A120
            by_cases c13 : t357 = true
            · subst c13
              have H1 : (some (wrap64 (a0 + 32))) = some r := by rw [if_pos rfl] at H; exact H
              clear H
              have H := H1
              clear H1
              obtain rfl := Option.some.inj H
              go_enter Tryd.func21, Tryd.ntmps21
              go_wp2_with (first | ((with_reducible refine gate_callee (f := 29) rfl ?_); refine goesL_ (some 4) rfl rfl Tryd.func29 (by kernel_rfl) rfl #[.int .i64 a0, .int .i64 1024, .int .i64 1039] rfl (by (try simp only [List.map_toArray, List.map_cons, List.map_nil]); first | done | rfl | (simp only [List.length_drop, List.length_take]; rfl)) ?_; (with_reducible refine (rubrickref04_in.calls a0 1024 1039 false _ A2.out).mono ?_); rintro e w' ⟨rfl, ⟨nd, rfl⟩⟩; refine ⟨_, rfl, ?_⟩) | ((with_reducible refine gate_callee (f := 29) rfl ?_); refine goesL_ (some 8) rfl rfl Tryd.func29 (by kernel_rfl) rfl #[.int .i64 a0, .int .i64 65, .int .i64 90] rfl (by (try simp only [List.map_toArray, List.map_cons, List.map_nil]); first | done | rfl | (simp only [List.length_drop, List.length_take]; rfl)) ?_; (with_reducible refine (rubrickref04_in.calls a0 65 90 false _ A4.out).mono ?_); rintro e w' ⟨rfl, ⟨nd, rfl⟩⟩; refine ⟨_, rfl, ?_⟩) | (go_at_call 29; (with_reducible refine (rubrickref04_in.calls a0 192 214 false _ A6.out).mono ?_); rintro e w' ⟨rfl, ⟨nd, rfl⟩⟩) | (go_at_call 29; (with_reducible refine (rubrickref04_in.calls a0 216 222 false _ A8.out).mono ?_); rintro e w' ⟨rfl, ⟨nd, rfl⟩⟩) | (go_at_call 29; (with_reducible refine (rubrickref04_in.calls a0 913 929 false _ A10.out).mono ?_); rintro e w' ⟨rfl, ⟨nd, rfl⟩⟩) | (go_at_call 29; (with_reducible refine (rubrickref04_in.calls a0 931 937 true _ A12.out).mono ?_); rintro e w' ⟨rfl, ⟨nd, rfl⟩⟩))
              go_ret
              exact ⟨by first | rfl | (simp; done) | (simp [*]; done), by repeat (first | exact Drawn0.refl _ | apply Drawn0.step)⟩
            · replace c13 := Bool.eq_false_iff.mpr c13
              subst c13
              have H1 : ((rubrickref04_in.f a0 1040 1071).bind fun t358 => (if t358 = true then (some (wrap64 (a0 + 32))) else (some a0))) = some r := by rw [if_neg (show ¬ (false = true) by decide)] at H; exact H
              clear H
              have H := H1
              clear H1
              replace H := Option.bind_eq_some_iff.mp H
              obtain ⟨t358, A140, H⟩ := H
              replace H : (if t358 = true then (some (wrap64 (a0 + 32))) else (some a0)) = some r := H
              have A14 := Aside0.mk A140
              clear A140
              by_cases c15 : t358 = true
              · subst c15
                have H1 : (some (wrap64 (a0 + 32))) = some r := by rw [if_pos rfl] at H; exact H
                clear H
                have H := H1
                clear H1
                obtain rfl := Option.some.inj H
                go_enter Tryd.func21, Tryd.ntmps21
                go_wp2_with (first | ((with_reducible refine gate_callee (f := 29) rfl ?_); refine goesL_ (some 4) rfl rfl Tryd.func29 (by kernel_rfl) rfl #[.int .i64 a0, .int .i64 1024, .int .i64 1039] rfl (by (try simp only [List.map_toArray, List.map_cons, List.map_nil]); first | done | rfl | (simp only [List.length_drop, List.length_take]; rfl)) ?_; (with_reducible refine (rubrickref04_in.calls a0 1024 1039 false _ A2.out).mono ?_); rintro e w' ⟨rfl, ⟨nd, rfl⟩⟩; refine ⟨_, rfl, ?_⟩) | ((with_reducible refine gate_callee (f := 29) rfl ?_); refine goesL_ (some 8) rfl rfl Tryd.func29 (by kernel_rfl) rfl #[.int .i64 a0, .int .i64 65, .int .i64 90] rfl (by (try simp only [List.map_toArray, List.map_cons, List.map_nil]); first | done | rfl | (simp only [List.length_drop, List.length_take]; rfl)) ?_; (with_reducible refine (rubrickref04_in.calls a0 65 90 false _ A4.out).mono ?_); rintro e w' ⟨rfl, ⟨nd, rfl⟩⟩; refine ⟨_, rfl, ?_⟩) | (go_at_call 29; (with_reducible refine (rubrickref04_in.calls a0 192 214 false _ A6.out).mono ?_); rintro e w' ⟨rfl, ⟨nd, rfl⟩⟩) | (go_at_call 29; (with_reducible refine (rubrickref04_in.calls a0 216 222 false _ A8.out).mono ?_); rintro e w' ⟨rfl, ⟨nd, rfl⟩⟩) | (go_at_call 29; (with_reducible refine (rubrickref04_in.calls a0 913 929 false _ A10.out).mono ?_); rintro e w' ⟨rfl, ⟨nd, rfl⟩⟩) | (go_at_call 29; (with_reducible refine (rubrickref04_in.calls a0 931 937 false _ A12.out).mono ?_); rintro e w' ⟨rfl, ⟨nd, rfl⟩⟩) | (go_at_call 29; (with_reducible refine (rubrickref04_in.calls a0 1040 1071 true _ A14.out).mono ?_); rintro e w' ⟨rfl, ⟨nd, rfl⟩⟩))
                go_ret
                exact ⟨by first | rfl | (simp; done) | (simp [*]; done), by repeat (first | exact Drawn0.refl _ | apply Drawn0.step)⟩
              · replace c15 := Bool.eq_false_iff.mpr c15
                subst c15
                have H1 : (some a0) = some r := by rw [if_neg (show ¬ (false = true) by decide)] at H; exact H
                clear H
                have H := H1
                clear H1
                obtain rfl := Option.some.inj H
                go_enter Tryd.func21, Tryd.ntmps21
                go_wp2_with (first | ((with_reducible refine gate_callee (f := 29) rfl ?_); refine goesL_ (some 4) rfl rfl Tryd.func29 (by kernel_rfl) rfl #[.int .i64 a0, .int .i64 1024, .int .i64 1039] rfl (by (try simp only [List.map_toArray, List.map_cons, List.map_nil]); first | done | rfl | (simp only [List.length_drop, List.length_take]; rfl)) ?_; (with_reducible refine (rubrickref04_in.calls a0 1024 1039 false _ A2.out).mono ?_); rintro e w' ⟨rfl, ⟨nd, rfl⟩⟩; refine ⟨_, rfl, ?_⟩) | ((with_reducible refine gate_callee (f := 29) rfl ?_); refine goesL_ (some 8) rfl rfl Tryd.func29 (by kernel_rfl) rfl #[.int .i64 a0, .int .i64 65, .int .i64 90] rfl (by (try simp only [List.map_toArray, List.map_cons, List.map_nil]); first | done | rfl | (simp only [List.length_drop, List.length_take]; rfl)) ?_; (with_reducible refine (rubrickref04_in.calls a0 65 90 false _ A4.out).mono ?_); rintro e w' ⟨rfl, ⟨nd, rfl⟩⟩; refine ⟨_, rfl, ?_⟩) | (go_at_call 29; (with_reducible refine (rubrickref04_in.calls a0 192 214 false _ A6.out).mono ?_); rintro e w' ⟨rfl, ⟨nd, rfl⟩⟩) | (go_at_call 29; (with_reducible refine (rubrickref04_in.calls a0 216 222 false _ A8.out).mono ?_); rintro e w' ⟨rfl, ⟨nd, rfl⟩⟩) | (go_at_call 29; (with_reducible refine (rubrickref04_in.calls a0 913 929 false _ A10.out).mono ?_); rintro e w' ⟨rfl, ⟨nd, rfl⟩⟩) | (go_at_call 29; (with_reducible refine (rubrickref04_in.calls a0 931 937 false _ A12.out).mono ?_); rintro e w' ⟨rfl, ⟨nd, rfl⟩⟩) | (go_at_call 29; (with_reducible refine (rubrickref04_in.calls a0 1040 1071 false _ A14.out).mono ?_); rintro e w' ⟨rfl, ⟨nd, rfl⟩⟩))
                go_ret
                exact ⟨by first | rfl | (simp; done) | (simp [*]; done), by repeat (first | exact Drawn0.refl _ | apply Drawn0.step)⟩

end Go.Proofs.YteofdfknemopiaaDoor.P
end
