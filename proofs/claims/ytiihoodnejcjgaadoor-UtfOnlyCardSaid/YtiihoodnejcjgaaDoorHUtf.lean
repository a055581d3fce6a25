/- By hand: utf.many and utf.find (an array's range; the table of letters). -/
import Derived.Test.YtiihoodnejcjgaaDoorPx0
import Derived.Outline
namespace Go.Proofs.YtiihoodnejcjgaaDoor.P
open Go.RowKit Go.Proofs.YtiihoodnejcjgaaDoorW.PrintWords Go.Proofs.YtiihoodnejcjgaaDoorW.PrintLast Go.Proofs.YtiihoodnejcjgaaDoorW.PrintMore

def utf_many.f (a0 : Int) : Option Int := some (if a0 < 128 then 1 else if a0 < 2048 then 2 else if a0 < 65536 then 3 else 4)

/-- How many bytes, as far as the first k tops tell. -/
def cntM (a0 : Int) (k : Nat) : Int := 1 + (if 0 < k ∧ a0 ≥ 128 then 1 else 0) + (if 1 < k ∧ a0 ≥ 2048 then 1 else 0) + (if 2 < k ∧ a0 ≥ 65536 then 1 else 0)
set_option maxRecDepth 100000 in
theorem utf_many.calls (a0 : Int) (r : Int) (w : World) (h : utf_many.f a0 = some r) :
    Calls Tryd.prog 74 #[.int .i64 a0] w fun e w' => e = .returned (.int .i64 r) ∧ Below w.heap.size w w' := by
  have i0 : ∀ w, (Instr.index 136 (.agg #[.int .i64 128, .int .i64 2048, .int .i64 65536]) (.int .i64 0)).run Tryd.prog w = .ok (.int .i64 128) w := fun _ => by kernel_rfl
  have i1 : ∀ w, (Instr.index 136 (.agg #[.int .i64 128, .int .i64 2048, .int .i64 65536]) (.int .i64 1)).run Tryd.prog w = .ok (.int .i64 2048) w := fun _ => by kernel_rfl
  have i2 : ∀ w, (Instr.index 136 (.agg #[.int .i64 128, .int .i64 2048, .int .i64 65536]) (.int .i64 2)).run Tryd.prog w = .ok (.int .i64 65536) w := fun _ => by kernel_rfl
  go_enter Tryd.func74, Tryd.ntmps74
  go_wp2
  go_loop [3, 5, 7] (fun n _ i => ∃ k : Nat, k ≤ 3 ∧ i = .int .i64 k ∧ n = .int .i64 (cntM a0 k)) (fun _ _ i => 3 - (intOf i).toNat)
  case atStart => exact ⟨0, by omega, rfl, rfl⟩
  case round =>
    obtain ⟨k, hk, rfl, rfl⟩ := hrel
    obtain rfl | rfl | rfl | rfl : k = 0 ∨ k = 1 ∨ k = 2 ∨ k = 3 := by omega
    · go_wp2
      all_goals exact ⟨⟨1, by omega, rfl, congrArg (Value.int .i64) (by unfold cntM; first | (unfold wrap64; split <;> split <;> split <;> omega) | (split <;> split <;> split <;> omega))⟩, by simp [intOf]⟩
    · go_wp2
      all_goals exact ⟨⟨2, by omega, rfl, congrArg (Value.int .i64) (by unfold cntM; first | (unfold wrap64; split <;> split <;> split <;> omega) | (split <;> split <;> split <;> omega))⟩, by simp [intOf]⟩
    · go_wp2
      all_goals exact ⟨⟨3, by omega, rfl, congrArg (Value.int .i64) (by unfold cntM; first | (unfold wrap64; split <;> split <;> split <;> omega) | (split <;> split <;> split <;> omega))⟩, by simp [intOf]⟩
    · go_wp2
      go_ret
      refine ⟨?_, Below.refl _ _⟩
      have := Option.some.inj h
      rw [← this]
      unfold cntM
      refine congrArg (fun z => Ending.returned (.int .i64 z)) ?_
      (repeat' split) <;> omega

/-- The span of letters that has a character: from, to, small; and whether there is one. -/
def findT : List (Int × Int × Int) → Int → Int × Int × Int × Bool
  | [], _ => (0, 0, 0, false)
  | s :: l, c => if s.1 ≤ c ∧ c ≤ s.2.1 then (s.1, s.2.1, s.2.2, true) else findT l c
def letSpans : List (Int × Int × Int) := [(65, 90, 32), (97, 122, 0), (192, 214, 32), (216, 222, 32), (223, 246, 0), (248, 255, 0), (913, 929, 32), (931, 937, 32), (945, 969, 0), (1024, 1039, 80), (1040, 1071, 32), (1072, 1119, 0)]
def utf_find.f (a0 : Int) : Option (Int × Int × Int × Bool) := some (findT letSpans a0)

theorem run_index (k : Nat) (hk : k < 12) : ∀ w : World, (Instr.index 135 (.agg letCells) (.int .i64 (k : Int))).run Tryd.prog w = .ok (.agg #[.int .i64 (letSpans.getD k (0, 0, 0)).1, .int .i64 (letSpans.getD k (0, 0, 0)).2.1, .int .i64 (letSpans.getD k (0, 0, 0)).2.2]) w := by
  intro w
  obtain rfl | rfl | rfl | rfl | rfl | rfl | rfl | rfl | rfl | rfl | rfl | rfl : k = 0 ∨ k = 1 ∨ k = 2 ∨ k = 3 ∨ k = 4 ∨ k = 5 ∨ k = 6 ∨ k = 7 ∨ k = 8 ∨ k = 9 ∨ k = 10 ∨ k = 11 := by omega
  all_goals kernel_rfl
theorem findT_drop (l : List (Int × Int × Int)) (c : Int) (k : Nat) (hk : k < l.length) : findT (l.drop k) c = if (l.getD k (0, 0, 0)).1 ≤ c ∧ c ≤ (l.getD k (0, 0, 0)).2.1 then ((l.getD k (0, 0, 0)).1, (l.getD k (0, 0, 0)).2.1, (l.getD k (0, 0, 0)).2.2, true) else findT (l.drop (k + 1)) c := by
  rw [List.drop_eq_getElem_cons hk, List.getD_eq_getElem?_getD, List.getElem?_eq_getElem hk]
  rfl

set_option maxHeartbeats 1000000 in
set_option maxRecDepth 100000 in
theorem utf_find.calls (a0 : Int) (r1 r2 r3 : Int) (r4 : Bool) (w : World) (hG : G w) (h : utf_find.f a0 = some (r1, r2, r3, r4)) :
    Calls Tryd.prog 72 #[.int .i64 a0] w fun e w' => e = .returned (.tuple #[.agg #[.int .i64 r1, .int .i64 r2, .int .i64 r3], .bool r4]) ∧ Below w.heap.size w w' := by
  obtain ⟨gt, gfr, hg1⟩ := hG
  have HS := Aside0.mk (Option.some.inj h)
  clear h
  have hlt : 0 < w.heap.size := (Array.getElem?_eq_some_iff.1 hg1).1
  have hga : ∀ o, (w.alloc o).heap[0]? = some (.cells letCells gt gfr) := fun o => ((below_alloc (Below.refl w.heap.size w) o).block _ hlt).trans hg1
  have HG1 := Aside0.mk hg1
  clear hg1
  go_enter Tryd.func72, Tryd.ntmps72
  go_wp2_with (refine wpList_load_row rfl 135 _ rfl 0 rfl gt letCells gfr _ (hga _) Tryd.underlying135 rfl (by kernel_rfl) ?_)
  go_loopw [5, 7] (fun _ i wr => ∃ k : Nat, k ≤ 12 ∧ i = .int .i64 k ∧ Aside0 (findT letSpans a0 = findT (letSpans.drop k) a0) ∧ Aside0 (Below w.heap.size w wr) ∧ wr.heap[w.heap.size]? = some (.cells #[.int .i64 0, .int .i64 0, .int .i64 0] 95 (0, 0))) (fun _ i _ => 12 - (intOf i).toNat)
  case atStart => exact ⟨0, by omega, rfl, ⟨rfl⟩, ⟨below_alloc (Below.refl _ _) _⟩, blk_new w _⟩
  case round =>
    obtain ⟨k, hk, rfl, HF, HB, HC⟩ := hrel
    have hlt2 : w.heap.size < wr.heap.size := (Array.getElem?_eq_some_iff.1 HC).1
    have hc0 : wr.cell? ⟨w.heap.size, 0, none⟩ = some (.int .i64 0) := (blk_cell HC 0).trans rfl
    have hc1_ : wr.cell? ⟨w.heap.size, 1, none⟩ = some (.int .i64 0) := (blk_cell HC 1).trans rfl
    have hc2_ : wr.cell? ⟨w.heap.size, 2, none⟩ = some (.int .i64 0) := (blk_cell HC 2).trans rfl
    have hf0 := blk_frozen HC 0
    have hf1 := blk_frozen HC 1
    have hf2 := blk_frozen HC 2
    have HC' := Aside0.mk HC
    clear HC
    by_cases hk12 : k < 12
    · have hi := run_index k hk12
      have hd := findT_drop letSpans a0 k hk12
      generalize hs1 : (letSpans.getD k (0, 0, 0)).1 = s1 at hi hd
      generalize hs2 : (letSpans.getD k (0, 0, 0)).2.1 = s2 at hi hd
      generalize hs3 : (letSpans.getD k (0, 0, 0)).2.2 = s3 at hi hd
      clear hs1 hs2 hs3
      have HD := Aside0.mk hd
      clear hd
      have fin : ∀ (hn : ¬ (s1 ≤ a0 ∧ a0 ≤ s2)) (o : Obj), (∃ k_1 : Nat, k_1 ≤ 12 ∧ Value.int IntKind.i64 ((k : Int) + 1) = Value.int IntKind.i64 (k_1 : Int) ∧ Aside0 (findT letSpans a0 = findT (List.drop k_1 letSpans) a0) ∧ Aside0 (Below w.heap.size w (wr.alloc o)) ∧
          (wr.alloc o).heap[w.heap.size]? = some (Obj.cells #[Value.int IntKind.i64 0, Value.int IntKind.i64 0, Value.int IntKind.i64 0] 95 (0, 0))) ∧ 12 - (intOf (Value.int IntKind.i64 ((k : Int) + 1))).toNat < 12 - (intOf (Value.int IntKind.i64 (k : Int))).toNat := by
        intro hn o
        refine ⟨⟨k + 1, by omega, by rw [Int.natCast_add]; rfl, ⟨?_⟩, ⟨below_alloc HB.out _⟩, blk_alloc HC'.out _⟩, ?_⟩
        · rw [HF.out, HD.out, if_neg hn]
        · simp [intOf]
          omega
      have FIN := Aside0.mk fin
      clear fin
      by_cases hc1 : s1 ≤ a0
      · by_cases hc2 : a0 ≤ s2
        · go_wp2
          refine bodyPost_ret (results_ct rfl _ _ w.heap.size 95 #[.int .i64 s1, .int .i64 s2, .int .i64 s3] (0, 0) _ rfl ?hg Tryd.underlying95 rfl (by kernel_rfl)) rfl ?_
          case hg =>
            refine blk_alloc ?_ _
            refine blk_put (cs := #[.int .i64 s1, .int .i64 s2, .int .i64 0]) ?_ 2 _ rfl
            refine blk_put (cs := #[.int .i64 s1, .int .i64 0, .int .i64 0]) ?_ 1 _ rfl
            refine blk_put (cs := #[.int .i64 0, .int .i64 0, .int .i64 0]) ?_ 0 _ rfl
            exact HC'.out
          have hs := HS.out
          rw [HF.out, HD.out, if_pos ⟨hc1, hc2⟩] at hs
          simp only [Prod.mk.injEq] at hs
          obtain ⟨rfl, rfl, rfl, rfl⟩ := hs
          exact ⟨rfl, below_alloc (below_set (below_set (below_set HB.out (Nat.le_refl _)) (Nat.le_refl _)) (Nat.le_refl _)) _⟩
        · go_wp2
          exact FIN.out (fun hh => hc2 hh.2) _
      · go_wp2
        exact FIN.out (fun hh => hc1 hh.1) _
    · go_wp2
      refine bodyPost_ret (results_ct rfl _ _ w.heap.size 95 #[.int .i64 0, .int .i64 0, .int .i64 0] (0, 0) _ rfl ?hg Tryd.underlying95 rfl (by kernel_rfl)) rfl ?_
      case hg =>
        refine blk_put (cs := #[.int .i64 0, .int .i64 0, .int .i64 0]) ?_ 2 _ rfl
        refine blk_put (cs := #[.int .i64 0, .int .i64 0, .int .i64 0]) ?_ 1 _ rfl
        refine blk_put (cs := #[.int .i64 0, .int .i64 0, .int .i64 0]) ?_ 0 _ rfl
        exact HC'.out
      obtain rfl : k = 12 := by omega
      have hs := HS.out
      rw [HF.out] at hs
      have he : List.drop 12 letSpans = [] := rfl
      rw [he] at hs
      simp only [findT, Prod.mk.injEq] at hs
      obtain ⟨rfl, rfl, rfl, rfl⟩ := hs
      exact ⟨rfl, below_set (below_set (below_set HB.out (Nat.le_refl _)) (Nat.le_refl _)) (Nat.le_refl _)⟩
end Go.Proofs.YtiihoodnejcjgaaDoor.P
