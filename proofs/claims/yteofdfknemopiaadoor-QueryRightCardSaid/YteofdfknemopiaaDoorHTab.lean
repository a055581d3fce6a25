/- From the row's condition on utf.letters to G: the variable's block holds the table. -/
import Derived.Test.YteofdfknemopiaaDoorRows
import Derived.Test.YteofdfknemopiaaDoorBase
import Derived.Lib.LaidTab
import Derived.OpenShut
namespace Go.Proofs.YteofdfknemopiaaDoor.P
open Go.RowKit

theorem gTab : Tryd.prog.globalNamed "rubrick/utf.letters" = some 1 := by kernel_rfl
theorem gTabType : (Tryd.prog.globals[1]?).map (·.type) = some 72 := by kernel_rfl
theorem tabCells : Tryd.prog.cellsOf 72 = 36 := by kernel_rfl
theorem spanCells : Tryd.prog.cellsOf 65 = 3 := by kernel_rfl
theorem intCells : Tryd.prog.cellsOf 3 = 1 := by kernel_rfl

set_option maxRecDepth 100000 in
theorem span_of_trod {H : Type} {enc : TypeId × Value → H} {w : World} {base : Nat} {sp : Nat → Bool} {held : Bool} {fuel : Nat} {cs : List Value} {a b c : Int} {p : List MemPlace}
    (h : DataW.trod enc Tryd.prog w base sp held fuel 65 cs = some (.agg [.lit (.int .i64 a), .lit (.int .i64 b), .lit (.int .i64 c)], p)) : cs = [.int .i64 a, .int .i64 b, .int .i64 c] := by
  obtain ⟨xs, n, rfl, hx, hl, hxl, hf⟩ := DataW.trod_struct Tryd.underlying65 h
  rw [spanCells] at hl
  match xs, hxl with
  | [x0, x1, x2], _ =>
    simp only [Prod.mk.injEq, List.map_cons, List.map_nil, DataW.agg.injEq, List.cons.injEq, and_true] at hx
    obtain ⟨⟨e0, e1, e2⟩, _⟩ := hx
    have f0 : DataW.trod enc Tryd.prog w base sp held n 3 ((cs.drop 0).take (Tryd.prog.cellsOf 3)) = some x0 := hf 0 _ rfl
    have f1 : DataW.trod enc Tryd.prog w base sp held n 3 ((cs.drop 1).take (Tryd.prog.cellsOf 3)) = some x1 := hf 1 _ rfl
    have f2 : DataW.trod enc Tryd.prog w base sp held n 3 ((cs.drop 2).take (Tryd.prog.cellsOf 3)) = some x2 := hf 2 _ rfl
    rw [intCells] at f0 f1 f2
    match cs, hl with
    | [c0, c1, c2], _ =>
      obtain ⟨z0, hc0, hz0, _⟩ := DataW.trod_int Tryd.underlying3 f0
      obtain ⟨z1, hc1, hz1, _⟩ := DataW.trod_int Tryd.underlying3 f1
      obtain ⟨z2, hc2, hz2, _⟩ := DataW.trod_int Tryd.underlying3 f2
      subst hz0 hz1 hz2
      simp only [DataW.lit.injEq, Lit.int.injEq, true_and] at e0 e1 e2
      subst e0 e1 e2
      simp at hc0 hc1 hc2
      rw [hc0, hc1, hc2]
set_option maxRecDepth 100000 in
theorem tab_of_trod {H : Type} {enc : TypeId × Value → H} {w : World} {base : Nat} {sp : Nat → Bool} {held : Bool} {fuel : Nat} {cs : List Value} {p : List MemPlace}
    (h : DataW.trod enc Tryd.prog w base sp held fuel 72 cs = some (Rows.laid_rubrick_utf_letters, p)) : cs = letCells.toList := by
  obtain ⟨xs, n, rfl, hx, hl, hxl, hf⟩ := DataW.trod_array Tryd.underlying72 h
  rw [tabCells] at hl
  rw [spanCells] at hf
  match xs, hxl with
  | [x0, x1, x2, x3, x4, x5, x6, x7, x8, x9, x10, x11], _ =>
    simp only [Rows.laid_rubrick_utf_letters, Prod.mk.injEq, List.map_cons, List.map_nil, DataW.agg.injEq, List.cons.injEq, and_true] at hx
    obtain ⟨⟨e0, e1, e2, e3, e4, e5, e6, e7, e8, e9, e10, e11⟩, _⟩ := hx
    have part : ∀ (i : Nat) (x : DataW H × List MemPlace) (a b c : Int), i < 12 → [x0, x1, x2, x3, x4, x5, x6, x7, x8, x9, x10, x11][i]? = some x → .agg [.lit (.int .i64 a), .lit (.int .i64 b), .lit (.int .i64 c)] = x.1 → (cs.drop (i * 3)).take 3 = [.int .i64 a, .int .i64 b, .int .i64 c] := by
      intro i x a b c hi hxi hxe
      have f := hf i hi
      rw [hxi] at f
      obtain ⟨xa, xb⟩ := x
      dsimp only at hxe
      subst hxe
      exact span_of_trod f
    have q0 := part 0 _ _ _ _ (by decide) rfl e0
    have q1 := part 1 _ _ _ _ (by decide) rfl e1
    have q2 := part 2 _ _ _ _ (by decide) rfl e2
    have q3 := part 3 _ _ _ _ (by decide) rfl e3
    have q4 := part 4 _ _ _ _ (by decide) rfl e4
    have q5 := part 5 _ _ _ _ (by decide) rfl e5
    have q6 := part 6 _ _ _ _ (by decide) rfl e6
    have q7 := part 7 _ _ _ _ (by decide) rfl e7
    have q8 := part 8 _ _ _ _ (by decide) rfl e8
    have q9 := part 9 _ _ _ _ (by decide) rfl e9
    have q10 := part 10 _ _ _ _ (by decide) rfl e10
    have q11 := part 11 _ _ _ _ (by decide) rfl e11
    have sp : ∀ (m : Nat) (l : List Value), l.drop m = (l.drop m).take 3 ++ l.drop (m + 3) := fun m l => by rw [← List.drop_drop, List.take_append_drop]
    have z : cs.drop 36 = [] := List.drop_eq_nil_of_le (by omega)
    have s0 := sp 0 cs; have s1 := sp 3 cs; have s2 := sp 6 cs; have s3 := sp 9 cs; have s4 := sp 12 cs; have s5 := sp 15 cs
    have s6 := sp 18 cs; have s7 := sp 21 cs; have s8 := sp 24 cs; have s9 := sp 27 cs; have s10 := sp 30 cs; have s11 := sp 33 cs
    simp only [Nat.reduceMul, Nat.reduceAdd] at q0 q1 q2 q3 q4 q5 q6 q7 q8 q9 q10 q11 s0 s1 s2 s3 s4 s5 s6 s7 s8 s9 s10 s11
    rw [q0, s1, q1, s2, q2, s3, q3, s4, q4, s5, q5, s6, q6, s7, q7, s8, q8, s9, q9, s10, q10, s11, q11, z] at s0
    rw [List.drop_zero] at s0
    rw [s0]
    rfl
theorem gSig : Tryd.prog.globalNamed "rubrick/query.signs" = some 0 := by kernel_rfl
theorem gSigType : (Tryd.prog.globals[0]?).map (·.type) = some 42 := by kernel_rfl
theorem sigCells : Tryd.prog.cellsOf 42 = 4 := by kernel_rfl
theorem byteCells : Tryd.prog.cellsOf 5 = 1 := by kernel_rfl
set_option maxRecDepth 100000 in
theorem sig_of_trod {H : Type} {enc : TypeId × Value → H} {w : World} {base : Nat} {sp : Nat → Bool} {held : Bool} {fuel : Nat} {cs : List Value} {p : List MemPlace}
    (h : DataW.trod enc Tryd.prog w base sp held fuel 42 cs = some (Rows.laid_rubrick_query_signs, p)) : cs = signCells.toList := by
  obtain ⟨xs, n, rfl, hx, hl, hxl, hf⟩ := DataW.trod_array Tryd.underlying42 h
  rw [sigCells] at hl
  rw [byteCells] at hf
  match xs, hxl with
  | [x0, x1, x2, x3], _ =>
    simp only [Rows.laid_rubrick_query_signs, Prod.mk.injEq, List.map_cons, List.map_nil, DataW.agg.injEq, List.cons.injEq, and_true] at hx
    obtain ⟨⟨e0, e1, e2, e3⟩, _⟩ := hx
    have f0 : DataW.trod enc Tryd.prog w base sp held n 5 ((cs.drop 0).take 1) = some x0 := hf 0 (by decide)
    have f1 : DataW.trod enc Tryd.prog w base sp held n 5 ((cs.drop 1).take 1) = some x1 := hf 1 (by decide)
    have f2 : DataW.trod enc Tryd.prog w base sp held n 5 ((cs.drop 2).take 1) = some x2 := hf 2 (by decide)
    have f3 : DataW.trod enc Tryd.prog w base sp held n 5 ((cs.drop 3).take 1) = some x3 := hf 3 (by decide)
    match cs, hl with
    | [c0, c1, c2, c3], _ =>
      obtain ⟨z0, hc0, hz0, _⟩ := DataW.trod_int Tryd.underlying5 f0
      obtain ⟨z1, hc1, hz1, _⟩ := DataW.trod_int Tryd.underlying5 f1
      obtain ⟨z2, hc2, hz2, _⟩ := DataW.trod_int Tryd.underlying5 f2
      obtain ⟨z3, hc3, hz3, _⟩ := DataW.trod_int Tryd.underlying5 f3
      subst hz0 hz1 hz2 hz3
      simp only [DataW.lit.injEq, Lit.int.injEq, true_and] at e0 e1 e2 e3
      subst e0 e1 e2 e3
      simp at hc0 hc1 hc2 hc3
      rw [hc0, hc1, hc2, hc3]
      rfl
theorem G_of_laid {W : World} (h : laidMetH Tryd.prog [("rubrick/utf.letters", Rows.laid_rubrick_utf_letters), ("rubrick/query.signs", Rows.laid_rubrick_query_signs)] W) : G W := by
  have h2 : laidMet Tryd.prog [("rubrick/utf.letters", Rows.laid_rubrick_utf_letters), ("rubrick/query.signs", Rows.laid_rubrick_query_signs)] W := h
  obtain ⟨ps, ⟨g', t', cs, fuel, p, q, hg', ht', hvar, hd, ⟨g2', t2', cs2, fuel2, p2, q2, hg2', ht2', hvar2, hd2, _, _⟩, _⟩, _⟩ := h2
  obtain rfl := Option.some.inj (gTab.symm.trans hg')
  obtain rfl := Option.some.inj (gTabType.symm.trans ht')
  obtain rfl := Option.some.inj (gSig.symm.trans hg2')
  obtain rfl := Option.some.inj (gSigType.symm.trans ht2')
  have hcs := tab_of_trod hd
  have hcs2 := sig_of_trod hd2
  unfold World.var? at hvar hvar2
  rw [gTab] at hvar
  rw [gSig] at hvar2
  simp only [Option.bind_some] at hvar hvar2
  constructor
  · cases hh : W.heap[1]? with
    | none => rw [hh] at hvar; cases hvar
    | some o =>
      rw [hh] at hvar
      cases o with
      | cells c t fr =>
        simp only [Option.some.injEq] at hvar
        refine ⟨t, fr, ?_⟩
        rw [hvar]
        congr 2
        exact Array.ext' hcs
      | _ => cases hvar
  · cases hh : W.heap[0]? with
    | none => rw [hh] at hvar2; cases hvar2
    | some o =>
      rw [hh] at hvar2
      cases o with
      | cells c t fr =>
        simp only [Option.some.injEq] at hvar2
        refine ⟨t, fr, ?_⟩
        rw [hvar2]
        congr 2
        exact Array.ext' hcs2
      | _ => cases hvar2
end Go.Proofs.YteofdfknemopiaaDoor.P
