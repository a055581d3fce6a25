/- Several of this session's texts in one. -/
import Derived.Test.YteofdfknemopiaaDoorPx0
import Derived.BigQuiet
import Derived.Test.YteofdfknemopiaaDoorHBT
import Derived.Test.YteofdfknemopiaaDoorHBU
import Derived.Test.YteofdfknemopiaaDoorHBQ
import Derived.IntWalk
section
/- query.Parse by hand (1): what the parser's methods compute, in plain words; the parser's variable; next and fail walked. -/
set_option linter.unusedVariables false
set_option linter.unusedSimpArgs false
namespace Go.Proofs.YteofdfknemopiaaDoor.P
open Go.RowKit Go.Proofs.YteofdfknemopiaaDoorW.PrintWords Go.Proofs.YteofdfknemopiaaDoorW.PrintLast Go.Proofs.YteofdfknemopiaaDoorW.PrintMore
attribute [local go_sem] Go.Instr.field Go.part Go.asAgg
abbrev Qo := S38
/-- Where reading is. -/
structure Ps where
  at_ : Nat
  deep : Nat
  words : Nat
  out : List Qo
  e : Int
/-- Behind spaces. -/
def skipN (b : List Int) (a : Nat) : Nat := a + ((b.drop a).takeWhile (fun c => decide (c = 32))).length
theorem skipN_space (b : List Int) (a : Nat) (h : b[a]? = some 32) : skipN b a = skipN b (a + 1) := by
  obtain ⟨hlt, he⟩ := List.getElem?_eq_some_iff.1 h
  unfold skipN
  rw [List.drop_eq_getElem_cons hlt, he, List.takeWhile_cons_of_pos (by decide), List.length_cons]
  omega
theorem skipN_stop (b : List Int) (a : Nat) (h : b[a]? ≠ some 32) : skipN b a = a := by
  unfold skipN
  by_cases hlt : a < b.length
  · rw [List.drop_eq_getElem_cons hlt, List.takeWhile_cons_of_neg (by
      intro h2
      exact h (by rw [List.getElem?_eq_getElem hlt, of_decide_eq_true h2])), List.length_nil]
    rfl
  · rw [List.drop_eq_nil_of_le (by omega)]; rfl
theorem skipN_le (b : List Int) (a : Nat) (h : a ≤ b.length) : a ≤ skipN b a ∧ skipN b a ≤ b.length := by
  unfold skipN
  have := (List.takeWhile_prefix (l := b.drop a) (fun c : Int => decide (c = 32))).length_le
  rw [List.length_drop] at this
  omega
/-- The parser's variable. -/
structure PI (w0 : World) (g : Nat) (A0 : Option Addr) (c0 : Nat) (b : List Int) (p : Ps) (v4 : Value) (W : World) : Prop where
  below : Below w0.heap.size w0 W
  ge : w0.heap.size ≤ g
  box : W.heap[g]? = some (.cells #[.slice A0 b.length c0, .int .i64 (p.at_ : Int), .int .i64 (p.deep : Int), .int .i64 (p.words : Int), v4, .int .i64 p.e] 45 (0, 0))
  rb : Kd.C (Kd.int .u8) w0 A0 b.length b
  cb : b.length ≤ c0
  out : Kd.S k38 38 W w0.heap.size (fun k => k ≠ g) v4 p.out
  le : p.at_ ≤ b.length
  dl : p.deep ≤ 8
  wl : p.words ≤ 16
theorem PI.step {w0 W W' : World} {g : Nat} {A0 : Option Addr} {c0 : Nat} {b : List Int} {p : Ps} {v4 : Value} (h : PI w0 g A0 c0 b p v4 W) (hb : Below W.heap.size W W') : PI w0 g A0 c0 b p v4 W' :=
  ⟨below_step h.below hb, h.ge, (hb.block _ (blk_lt h.box)).trans h.box, h.rb, h.cb, Kd.S_below h.out hb, h.le, h.dl, h.wl⟩
theorem PI.set1 {w0 W : World} {g : Nat} {A0 : Option Addr} {c0 : Nat} {b : List Int} {p : Ps} {v4 : Value} (h : PI w0 g A0 c0 b p v4 W) (x : Nat) (hx : x ≤ b.length) : PI w0 g A0 c0 b { p with at_ := x } v4 (W.setCell ⟨g, 1, none⟩ (.int .i64 (x : Int))) :=
  ⟨below_set h.below h.ge, h.ge, blk_put h.box 1 _ rfl, h.rb, h.cb, Kd.S_far h.out (fun _ hk => hk) _, hx, h.dl, h.wl⟩
theorem PI.set2 {w0 W : World} {g : Nat} {A0 : Option Addr} {c0 : Nat} {b : List Int} {p : Ps} {v4 : Value} (h : PI w0 g A0 c0 b p v4 W) (x : Nat) (hx : x ≤ 8) : PI w0 g A0 c0 b { p with deep := x } v4 (W.setCell ⟨g, 2, none⟩ (.int .i64 (x : Int))) :=
  ⟨below_set h.below h.ge, h.ge, blk_put h.box 2 _ rfl, h.rb, h.cb, Kd.S_far h.out (fun _ hk => hk) _, h.le, hx, h.wl⟩
theorem PI.set3 {w0 W : World} {g : Nat} {A0 : Option Addr} {c0 : Nat} {b : List Int} {p : Ps} {v4 : Value} (h : PI w0 g A0 c0 b p v4 W) (x : Nat) (hx : x ≤ 16) : PI w0 g A0 c0 b { p with words := x } v4 (W.setCell ⟨g, 3, none⟩ (.int .i64 (x : Int))) :=
  ⟨below_set h.below h.ge, h.ge, blk_put h.box 3 _ rfl, h.rb, h.cb, Kd.S_far h.out (fun _ hk => hk) _, h.le, h.dl, hx⟩
theorem PI.set5 {w0 W : World} {g : Nat} {A0 : Option Addr} {c0 : Nat} {b : List Int} {p : Ps} {v4 : Value} (h : PI w0 g A0 c0 b p v4 W) (x : Int) : PI w0 g A0 c0 b { p with e := x } v4 (W.setCell ⟨g, 5, none⟩ (.int .i64 x)) :=
  ⟨below_set h.below h.ge, h.ge, blk_put h.box 5 _ rfl, h.rb, h.cb, Kd.S_far h.out (fun _ hk => hk) _, h.le, h.dl, h.wl⟩
theorem PI.cells {w0 W : World} {g : Nat} {A0 : Option Addr} {c0 : Nat} {b : List Int} {p : Ps} {v4 : Value} (h : PI w0 g A0 c0 b p v4 W) :
    W.cell? ⟨g, 0, none⟩ = some (.slice A0 b.length c0) ∧ W.cell? ⟨g, 1, none⟩ = some (.int .i64 (p.at_ : Int)) ∧ W.cell? ⟨g, 2, none⟩ = some (.int .i64 (p.deep : Int)) ∧ W.cell? ⟨g, 3, none⟩ = some (.int .i64 (p.words : Int)) ∧ W.cell? ⟨g, 4, none⟩ = some v4 ∧ W.cell? ⟨g, 5, none⟩ = some (.int .i64 p.e) :=
  ⟨(blk_cell h.box 0).trans rfl, (blk_cell h.box 1).trans rfl, (blk_cell h.box 2).trans rfl, (blk_cell h.box 3).trans rfl, (blk_cell h.box 4).trans rfl, (blk_cell h.box 5).trans rfl⟩
/-- fail: the error is noted. -/
theorem p_fail {w0 W : World} {g : Nat} {A0 : Option Addr} {c0 : Nat} {b : List Int} {p : Ps} {v4 : Value} (h : PI w0 g A0 c0 b p v4 W) (x : Int) :
    Calls Tryd.prog 38 #[.pointer (some ⟨g, 0, none⟩), .int .i64 x] W fun e W' => e = .returned (.bool false) ∧ PI w0 g A0 c0 b { p with e := x } v4 W' := by
  have HP := Aside0.mk h
  obtain ⟨h0, h1, h2, h3, h4, h5⟩ := h.cells
  have f5 := blk_frozen h.box 5
  clear h
  go_enter Tryd.func38, Tryd.ntmps38
  go_wp2
  go_ret
  exact ⟨rfl, HP.out.set5 x⟩
end Go.Proofs.YteofdfknemopiaaDoor.P
end
section
/- query.Parse by hand (2): next. -/
set_option linter.unusedVariables false
set_option linter.unusedSimpArgs false
namespace Go.Proofs.YteofdfknemopiaaDoor.P
open Go.RowKit Go.Proofs.YteofdfknemopiaaDoorW.PrintWords Go.Proofs.YteofdfknemopiaaDoorW.PrintLast Go.Proofs.YteofdfknemopiaaDoorW.PrintMore
attribute [local go_sem] Go.Instr.field Go.part Go.asAgg
theorem rd_get (b : List Int) (a : Nat) (h : a < b.length) : rd b (a : Int) = b[a] := by
  unfold rd
  rw [Int.toNat_natCast, List.getD_eq_getElem?_getD, List.getElem?_eq_getElem h]; rfl
set_option maxHeartbeats 4000000 in
set_option maxRecDepth 100000 in
theorem p_next {w0 W : World} {g : Nat} {A0 : Option Addr} {c0 : Nat} {b : List Int} {p : Ps} {v4 : Value} (h : PI w0 g A0 c0 b p v4 W) :
    Calls Tryd.prog 18 #[.pointer (some ⟨g, 0, none⟩)] W fun e W' => e = .returned (.int .u8 (b.getD (skipN b p.at_) 0)) ∧ PI w0 g A0 c0 b { p with at_ := skipN b p.at_ } v4 W' := by
  have HP0 := Aside0.mk h
  have hmax : b.length ≤ 9223372036854775807 := h.rb.2.1
  have hle0 := h.le
  clear h
  go_enter Tryd.func18, Tryd.ntmps18
  go_wp2
  go_loopg [] (b.length + 1) (fun kq w' => ∃ a : Nat, b.length + 1 ≤ a + kq ∧ skipN b a = skipN b p.at_ ∧ Aside0 (PI w0 g A0 c0 b { p with at_ := a } v4 w'))
  case atStart => exact ⟨p.at_, by omega, rfl, HP0⟩
  case round =>
    clear HP0
    obtain ⟨a, hka, hsk, HP⟩ := hrel
    have hle : a ≤ b.length := HP.out.le
    cases gk with
    | zero => exact absurd hle (by omega)
    | succ k1 =>
      obtain ⟨h0, h1, h2, h3, h4, h5⟩ := HP.out.cells
      dsimp only at h1
      have f1 := blk_frozen HP.out.box 1
      by_cases c2 : (a : Int) < (b.length : Int)
      · have hlt : a < b.length := by omega
        obtain ⟨ad, e, hx⟩ := Kd.at_int HP.out.rb (a : Int) (by omega) c2
        subst e
        replace hx := pw_cell_below HP.out.below hx
        rw [Int.toNat_natCast] at hx
        have hd := rd_get b a hlt
        generalize rd b (a : Int) = c at hx hd
        have p0 : (0 ≤ (a : Int)) = True := eq_true (by omega)
        have q0 : ((a : Int) < (b.length : Int)) = True := eq_true c2
        have c2b : decide ((a : Int) < (b.length : Int)) = true := decide_eq_true c2
        have c6 : ¬ (a : Int) = (b.length : Int) := by omega
        have c6b : ((a : Int) == (b.length : Int)) = false := beq_eq_false_iff_ne.mpr c6
        by_cases c4 : c = 32
        · have hs := skipN_space b a (by rw [List.getElem?_eq_getElem hlt, ← hd, c4])
          have hw : wrap64 ((a : Int) + 1) = ((a + 1 : Nat) : Int) := by unfold wrap64; omega
          have c4b : (c == 32) = true := beq_iff_eq.mpr c4
          have HH := Aside0.mk hs
          clear hd hs c2 c4 c6
          go_wp2
          repeat (go_quiet (fail); try go_wp2)
          go_roundg k1
          case measure => omega
          case rel => exact ⟨a + 1, by omega, by rw [← HH.out]; exact hsk, ⟨(HP.out.step (pw_below_drewN (Below.refl _ _) _)).set1 (a + 1) (by omega)⟩⟩
        · have c4b : (c == 32) = false := beq_eq_false_iff_ne.mpr c4
          have hs := skipN_stop b a (by rw [List.getElem?_eq_getElem hlt, ← hd]; exact fun e => c4 (Option.some.inj e))
          have HH := Aside0.mk hs
          have HD := Aside0.mk hd
          clear hd hs c2 c4 c6
          go_wp2
          repeat (go_quiet (fail); try go_wp2)
          go_ret
          rw [← hsk, HH.out]
          exact ⟨congrArg (fun x => Ending.returned (Value.int .u8 x)) (by rw [List.getD_eq_getElem?_getD, List.getElem?_eq_getElem hlt, HD.out]; rfl), HP.out.step (by repeat (first | (with_reducible first | exact Below.refl _ _ | apply pw_below_drewN | apply below_drew1)))⟩
      · obtain rfl : a = b.length := by omega
        have HH := Aside0.mk (skipN_stop b b.length (by rw [List.getElem?_eq_none (Nat.le_refl _)]; simp))
        have c2b : decide ((b.length : Int) < (b.length : Int)) = false := decide_eq_false c2
        clear c2
        go_wp2
        repeat (go_quiet (fail); try go_wp2)
        go_ret
        rw [← hsk, HH.out]
        exact ⟨congrArg (fun x => Ending.returned (Value.int .u8 x)) (by rw [List.getD_eq_getElem?_getD, List.getElem?_eq_none (Nat.le_refl _)]; rfl), HP.out.step (by repeat (first | (with_reducible first | exact Below.refl _ _ | apply pw_below_drewN | apply below_drew1)))⟩
end Go.Proofs.YteofdfknemopiaaDoor.P
end
section
/- query.Parse by hand (3): word. -/
set_option linter.unusedVariables false
set_option linter.unusedSimpArgs false
namespace Go.Proofs.YteofdfknemopiaaDoor.P
open Go.RowKit Go.Proofs.YteofdfknemopiaaDoorW.PrintWords Go.Proofs.YteofdfknemopiaaDoorW.PrintLast Go.Proofs.YteofdfknemopiaaDoorW.PrintMore
attribute [local go_sem] Go.Instr.field Go.part Go.asAgg
/-- How many bytes the letters and digits at the head of a row take. -/
def wordL (k : Nat) : List Int → Int → Option Int
  | [], n => some n
  | c :: cs, n => (utf_Letter.f c).bind fun a =>
      if a = true then (utf_Encode.f k c).bind fun e => wordL k cs (wrap64 (n + (e.1.length : Int)))
      else (utf_Digit.f c).bind fun d => if d = true then (utf_Encode.f k c).bind fun e => wordL k cs (wrap64 (n + (e.1.length : Int))) else some n
def wordF (k : Nat) (r : List Int) : Option Int := (utf_Decode.f k r).bind fun cs => wordL k cs 0
theorem drawn0_below {w w' : World} (h : Drawn0 w w') : Below w.heap.size w w' := by
  obtain ⟨n, rfl⟩ := h
  exact pw_below_drewN (Below.refl _ _) n
set_option maxHeartbeats 4000000 in
set_option maxRecDepth 100000 in
theorem p_word {w0 W : World} {g : Nat} {A0 : Option Addr} {c0 : Nat} {b : List Int} {p : Ps} {v4 : Value} (k : Nat) (n : Int) (h : PI w0 g A0 c0 b p v4 W) (hG : G W) (hf : wordF k (b.drop p.at_) = some n) :
    Calls Tryd.prog 37 #[.pointer (some ⟨g, 0, none⟩)] W fun e W' => e = .returned (.int .i64 n) ∧ Below W.heap.size W W' := by
  obtain ⟨cs, hd, hl⟩ := Option.bind_eq_some_iff.1 hf
  obtain ⟨h0, h1, h2, h3, h4, h5⟩ := h.cells
  have HP := Aside0.mk h
  have hle := h.le
  have hcb := h.cb
  have HG := Aside0.mk hG
  have HD := Aside0.mk hd
  have HL := Aside0.mk hl
  clear h hf hG hd hl
  have p0 : (0 ≤ (p.at_ : Int)) = True := eq_true (by omega)
  have q0 : ((p.at_ : Int) ≤ (b.length : Int)) = True := eq_true (by omega)
  have q1 : ((p.at_ : Int) ≤ (c0 : Int)) = True := eq_true (by omega)
  obtain ⟨iu, hiu, hsu⟩ := Option.map_eq_some_iff.1 (show (Tryd.prog.info? 5).map (·.size) = some 1 by kernel_rfl)
  obtain ⟨A', hs1, hs2, hs3⟩ := print_drop_of (P := Tryd.prog) (Value.int .u8) (0 : Int) 30 5 .i64 Tryd.underlying30 hiu hsu A0 c0 b (p.at_ : Int) (by omega) (by omega) hcb
  rw [Int.toNat_natCast] at hs1 hs2 hs3
  have hC : (Kd.int .u8).C W A' (b.drop p.at_).length (b.drop p.at_) := Kd.C_of_reads (h1 := fun _ => rfl) (hs2 _ (Kd.reads_of_C (h1 := fun _ => rfl) (Kd.C_below HP.out.rb HP.out.below)))
  have HC := Aside0.mk hC
  have HS3 := Aside0.mk hs3
  clear hs2 hC hs3 hiu hsu
  go_enter Tryd.func37, Tryd.ntmps37
  go_wp2
  go_quiet (fail)
  go_wp2_with (go_at_call 33; go_loud (rw [show b.length - p.at_ = (b.drop p.at_).length from List.length_drop.symm]; refine (utf_Decode.calls k (fun k_ => k_ < (W.drewN nq).heap.size) _ _ (b.drop p.at_) cs _ (Kd.V_mk HS3.out (Kd.C_F (Kd.heap_int _) (Kd.C_below HC.out (pw_below_drewN (Below.refl _ _) _)))) HD.out).mono ?_; rintro e w1 ⟨vd, rfl, hvd, hb1⟩; refine hold ?_))
  unfold Held
  obtain ⟨Ad, cd, rfl⟩ := Kd.R_slice hvd
  have B1 := Aside0.mk (below_step (pw_below_drewN (Below.refl W.heap.size W) nq) hb1)
  have G1 := Aside0.mk (HG.out.below B1.out)
  have C1 := Aside0.mk (Kd.R_reads' hvd).2.2
  have hmax := (Kd.R_reads' hvd).2.2.2.1
  clear hvd hb1 h0 h1 h2 h3 h4 h5 p0 q0 q1 hs1 HG
  go_wp2
  go_loopw [3, 21] (fun nn idx wr => ∃ (j : Nat) (acc : Int), j ≤ cs.length ∧ nn = .int .i64 acc ∧ idx = .int .i64 (j : Int) ∧ Aside0 (wordL k (cs.drop j) acc = some n) ∧ Aside0 (Below W.heap.size W wr) ∧ Aside0 (G wr) ∧ Aside0 (Kd.C (Kd.int .i64) wr Ad cs.length cs)) (fun _ idx _ => cs.length - (intOf idx).toNat)
  case atStart => exact ⟨0, 0, Nat.zero_le _, rfl, rfl, HL, B1, G1, C1⟩
  case round =>
    clear B1 G1 C1 HL
    obtain ⟨j, acc, hj, rfl, rfl, HL, HB, HG, HC1⟩ := hrel
    have hj0 : (0 : Int) ≤ (j : Int) := by omega
    by_cases hlt : j < cs.length
    · have hl := HL.out
      rw [List.drop_eq_getElem_cons hlt, wordL] at hl
      obtain ⟨a, ha, hl⟩ := Option.bind_eq_some_iff.1 hl
      have HA := Aside0.mk ha
      have HW := Aside0.mk hl
      have hjl : (j : Int) < (cs.length : Int) := by omega
      obtain ⟨ad, e, hx⟩ := Kd.at_int HC1.out (j : Int) hj0 hjl
      subst e
      rw [Int.toNat_natCast, rd_get cs j hlt] at hx
      generalize cs[j] = c at hx HA HW
      clear ha hl HL
      go_wp2_with (go_at_call 34; go_loud (refine (utf_Letter.calls c a _ HG.out HA.out).mono ?_; rintro e w2 ⟨rfl, hb2⟩; refine hold ?_))
      unfold Held
      have B2 := Aside0.mk (below_step HB.out hb2)
      have Q2 := Aside0.mk hb2
      clear hb2
      cases a with
      | true =>
        replace HW : Aside0 _ := ⟨(if_pos rfl).symm.trans HW.out⟩
        obtain ⟨⟨eb, en⟩, hen, hl⟩ := Option.bind_eq_some_iff.1 HW.out
        have HE := Aside0.mk hen
        have HN := Aside0.mk hl
        clear hen hl HW
        go_wp2_with (go_at_call 41; go_loud (refine (utf_Encode.calls k c eb en _ HE.out).mono ?_; rintro e w3 ⟨ve, rfl, hve, hb3⟩; refine hold ?_))
        unfold Held
        obtain ⟨Ae, ce, rfl⟩ := Kd.R_slice hve
        have B3 := Aside0.mk (below_step B2.out hb3)
        have G3 := Aside0.mk (HG.out.below (below_step Q2.out hb3))
        have C3 := Aside0.mk (Kd.C_below HC1.out (below_step Q2.out hb3))
        clear hve hb3
        go_wp2
        exact ⟨⟨j + 1, wrap64 (acc + (eb.length : Int)), by omega, rfl, by rw [Int.natCast_add]; rfl, HN, B3, G3, C3⟩, by simp [intOf]; omega⟩
      | false =>
        replace HW : Aside0 _ := ⟨(if_neg (by decide)).symm.trans HW.out⟩
        obtain ⟨d, hd, hl⟩ := Option.bind_eq_some_iff.1 HW.out
        have HDg := Aside0.mk hd
        replace HW := Aside0.mk hl
        clear hd hl
        go_wp2_with (go_at_call 35; go_loud (refine (utf_Digit.calls c d _ HDg.out).mono ?_; rintro e w4 ⟨rfl, hb4⟩; refine hold ?_))
        unfold Held
        have Q4 := Aside0.mk (below_step Q2.out (drawn0_below hb4))
        have B4 := Aside0.mk (below_step HB.out Q4.out)
        clear hb4 Q2 B2
        cases d with
        | true =>
          replace HW : Aside0 _ := ⟨(if_pos rfl).symm.trans HW.out⟩
          obtain ⟨⟨eb, en⟩, hen, hl⟩ := Option.bind_eq_some_iff.1 HW.out
          have HE := Aside0.mk hen
          have HN := Aside0.mk hl
          clear hen hl HW
          go_wp2_with (go_at_call 41; go_loud (refine (utf_Encode.calls k c eb en _ HE.out).mono ?_; rintro e w3 ⟨ve, rfl, hve, hb3⟩; refine hold ?_))
          unfold Held
          obtain ⟨Ae, ce, rfl⟩ := Kd.R_slice hve
          have B3 := Aside0.mk (below_step B4.out hb3)
          have G3 := Aside0.mk (HG.out.below (below_step Q4.out hb3))
          have C3 := Aside0.mk (Kd.C_below HC1.out (below_step Q4.out hb3))
          clear hve hb3
          go_wp2
          exact ⟨⟨j + 1, wrap64 (acc + (eb.length : Int)), by omega, rfl, by rw [Int.natCast_add]; rfl, HN, B3, G3, C3⟩, by simp [intOf]; omega⟩
        | false =>
          have hn := (if_neg (by decide)).symm.trans HW.out
          obtain rfl := Option.some.inj hn
          go_wp2
          go_ret
          exact ⟨rfl, B4.out⟩
    · have hl := HL.out
      rw [List.drop_eq_nil_of_le (by omega), wordL] at hl
      obtain rfl := Option.some.inj hl
      have hjl : ¬ (j : Int) < (cs.length : Int) := by omega
      go_wp2
      go_ret
      exact ⟨rfl, HB.out⟩
end Go.Proofs.YteofdfknemopiaaDoor.P
end
section
/- query.Parse by hand (4): what unit, part, asking and Parse compute. -/
set_option linter.unusedVariables false
set_option linter.unusedSimpArgs false
namespace Go.Proofs.YteofdfknemopiaaDoor.P
open Go.RowKit Go.Proofs.YteofdfknemopiaaDoorW.PrintWords Go.Proofs.YteofdfknemopiaaDoorW.PrintLast Go.Proofs.YteofdfknemopiaaDoorW.PrintMore
/-- One step more. -/
def putO (p : Ps) (o : Qo) : Option Ps := if p.out.length < 100000 then some { p with out := p.out ++ [o] } else none
mutual
def unitF (kw : Nat) (b : List Int) : Nat → Ps → Option (Bool × Ps)
  | 0, _ => none
  | k + 1, p0 =>
    (wordF kw (b.drop (skipN b p0.at_))).bind fun n =>
      if b.getD (skipN b p0.at_) 0 = 33 then some (false, { p0 with at_ := skipN b p0.at_, e := 9 })
      else if b.getD (skipN b p0.at_) 0 = 40 then
        if p0.deep = 8 then some (false, { p0 with at_ := skipN b p0.at_, e := 8 })
        else (askF kw b k { p0 with at_ := skipN b p0.at_ + 1, deep := p0.deep + 1 }).bind fun r =>
          if r.1 = true then
            (if b.getD (skipN b r.2.at_) 0 = 41 then
              (if r.2.deep = 0 then none else some (true, { r.2 with at_ := skipN b r.2.at_ + 1, deep := r.2.deep - 1 }))
            else some (false, { r.2 with at_ := skipN b r.2.at_, e := 2 }))
          else some (false, r.2)
      else if 0 < n then
        if p0.words = 16 then some (false, { p0 with at_ := skipN b p0.at_, e := 8 })
        else if skipN b p0.at_ + n.toNat ≤ b.length then
          (token_Terms.f ((b.drop (skipN b p0.at_)).take n.toNat)).bind fun ts =>
            match ts with
            | [] => none
            | t :: _ => (putO p0 ⟨0, t⟩).bind fun q => some (true, { q with at_ := skipN b p0.at_ + n.toNat, words := p0.words + 1 })
        else none
      else some (false, { p0 with at_ := skipN b p0.at_, e := 2 })
def partF (kw : Nat) (b : List Int) : Nat → Ps → Option (Bool × Ps)
  | 0, _ => none
  | k + 1, p => (unitF kw b k p).bind fun r => if r.1 = true then partL kw b k r.2 else some (false, r.2)
def partL (kw : Nat) (b : List Int) : Nat → Ps → Option (Bool × Ps)
  | 0, _ => none
  | k + 1, p =>
    if b.getD (skipN b p.at_) 0 = 33 then
      (unitF kw b k { p with at_ := skipN b p.at_ + 1 }).bind fun r => if r.1 = true then (putO r.2 ⟨3, ByteArray.empty⟩).bind fun q => partL kw b k q else some (false, r.2)
    else if b.getD (skipN b p.at_) 0 = 38 then
      (unitF kw b k { p with at_ := skipN b p.at_ + 1 }).bind fun r => if r.1 = true then (putO r.2 ⟨1, ByteArray.empty⟩).bind fun q => partL kw b k q else some (false, r.2)
    else some (true, { p with at_ := skipN b p.at_ })
def askF (kw : Nat) (b : List Int) : Nat → Ps → Option (Bool × Ps)
  | 0, _ => none
  | k + 1, p => (partF kw b k p).bind fun r => if r.1 = true then askL kw b k r.2 else some (false, r.2)
def askL (kw : Nat) (b : List Int) : Nat → Ps → Option (Bool × Ps)
  | 0, _ => none
  | k + 1, p =>
    if b.getD (skipN b p.at_) 0 = 124 then
      (partF kw b k { p with at_ := skipN b p.at_ + 1 }).bind fun r => if r.1 = true then (putO r.2 ⟨2, ByteArray.empty⟩).bind fun q => askL kw b k q else some (false, r.2)
    else some (true, { p with at_ := skipN b p.at_ })
end
/-- A byte that is not nought stands within the row. -/
theorem at_lt {b : List Int} {a : Nat} {c : Int} (h : b.getD a 0 = c) (hc : c ≠ 0) : a < b.length := by
  rcases Nat.lt_or_ge a b.length with h1 | h1
  · exact h1
  · rw [List.getD_eq_getElem?_getD, List.getElem?_eq_none h1] at h
    exact absurd h.symm hc
/-- What a method of the parser does: its answer, and the parser's variable behind it. -/
def PCalls (w0 : World) (g : Nat) (A0 : Option Addr) (c0 : Nat) (b : List Int) (f : Nat) (F : Ps → Option (Bool × Ps)) : Prop :=
  ∀ (W : World) (p : Ps) (v4 : Value) (r : Bool) (q : Ps), PI w0 g A0 c0 b p v4 W → F p = some (r, q) →
    Calls Tryd.prog f #[.pointer (some ⟨g, 0, none⟩)] W fun e W' => e = .returned (.bool r) ∧ ∃ v4', PI w0 g A0 c0 b q v4' W'
end Go.Proofs.YteofdfknemopiaaDoor.P
end
section
/- query.Parse by hand (5): asking walked, from what part does. -/
set_option linter.unusedVariables false
set_option linter.unusedSimpArgs false
namespace Go.Proofs.YteofdfknemopiaaDoor.P
open Go.RowKit Go.Proofs.YteofdfknemopiaaDoorW.PrintWords Go.Proofs.YteofdfknemopiaaDoorW.PrintLast Go.Proofs.YteofdfknemopiaaDoorW.PrintMore
attribute [local go_sem] Go.Instr.field Go.part Go.asAgg
theorem info_Op : (Tryd.prog.info? 38).map (fun i => (i.zero, i.size, i.bytes)) = some (some (.agg #[.int .i64 0, .string ByteArray.empty]), 2, 24) := by kernel_rfl
theorem PI.away {w0 W : World} {g : Nat} {A0 : Option Addr} {c0 : Nat} {b : List Int} {p : Ps} {v4 : Value} (h : PI w0 g A0 c0 b p v4 W) : some g ≠ v4.ownBlock := fun e => (Kd.S_R h.out).1 g e.symm rfl
theorem PI.append {w0 W w1 : World} {g : Nat} {A0 : Option Addr} {c0 : Nat} {b : List Int} {p : Ps} {v4 v1 : Value} {o : Qo} (h : PI w0 g A0 c0 b p v4 W) (hg : W.grownBy w1 v4.ownBlock) (hB : Below w0.heap.size w0 w1) (hS : Kd.S k38 38 w1 w0.heap.size (fun k => k ≠ g) v1 (p.out ++ [o])) :
    PI w0 g A0 c0 b { p with out := p.out ++ [o] } v1 (w1.setCell ⟨g, 4, none⟩ v1) :=
  ⟨below_set hB h.ge, h.ge, blk_put (blk_grown h.box hg h.away) 4 _ rfl, h.rb, h.cb, Kd.S_far hS (fun _ hk => hk) _, h.le, h.dl, h.wl⟩
set_option maxHeartbeats 8000000 in
set_option maxRecDepth 100000 in
theorem ask_of {w0 : World} {g : Nat} {A0 : Option Addr} {c0 : Nat} {b : List Int} (kw K : Nat) (hp : ∀ k, k < K → PCalls w0 g A0 c0 b 23 (partF kw b k)) :
    PCalls w0 g A0 c0 b 17 (askF kw b K) := by
  intro W p v4 r q hP hF
  cases K with
  | zero => simp [askF] at hF
  | succ k =>
    rw [askF] at hF
    obtain ⟨⟨r1, p1⟩, h1, hF⟩ := Option.bind_eq_some_iff.1 hF
    have HF := Aside0.mk hF
    have H1 := Aside0.mk h1
    have HP := Aside0.mk hP
    have Hp := Aside0.mk hp
    clear hF h1 hP hp
    go_enter Tryd.func17, Tryd.ntmps17
    go_wp2_with (go_at_call 23; go_loud (refine (Hp.out k (Nat.lt_succ_self k) _ p v4 r1 p1 HP.out H1.out).mono ?_; rintro e w1 ⟨rfl, v5, hP1⟩; refine hold ?_))
    unfold Held
    have P1 := Aside0.mk hP1
    clear hP1 HP H1
    cases r1 with
    | false =>
      have hF := HF.out
      rw [if_neg (by simp)] at hF
      obtain ⟨rfl, rfl⟩ := Prod.mk.inj (Option.some.inj hF)
      go_wp2
      go_ret
      exact ⟨rfl, v5, P1.out⟩
    | true =>
      have hF := HF.out
      rw [if_pos rfl] at hF
      have HA0 := Aside0.mk hF
      clear hF HF
      go_wp2
      go_loopg [] k (fun kq w' => ∃ (p' : Ps) (v' : Value), kq ≤ k ∧ Aside0 (askL kw b kq p' = some (r, q)) ∧ Aside0 (PI w0 g A0 c0 b p' v' w'))
      case atStart => exact ⟨p1, v5, Nat.le_refl _, HA0, P1⟩
      case round =>
        clear HA0 P1
        obtain ⟨p', v', hk, HA, HP⟩ := hrel
        cases gk with
        | zero => exact absurd HA.out (by simp [askL])
        | succ k1 =>
          have hA := HA.out
          rw [askL] at hA
          clear HA
          have hNx := p_next HP.out
          generalize hc : b.getD (skipN b p'.at_) 0 = c at hA hNx
          have HNx := Aside0.mk hNx
          have HC := Aside0.mk hc
          clear hNx hc
          by_cases c1 : c = 124
          · rw [if_pos c1] at hA
            obtain ⟨⟨r2, p2⟩, h2, hA⟩ := Option.bind_eq_some_iff.1 hA
            have H2 := Aside0.mk h2
            have HA := Aside0.mk hA
            have hlt : skipN b p'.at_ < b.length := at_lt HC.out (by rw [c1]; decide)
            subst c1
            clear h2 hA
            go_wp2_with (go_at_call 18; go_loud (refine HNx.out.mono ?_; rintro e w2 ⟨rfl, hP2⟩; refine hold ?_))
            unfold Held
            have P2 := Aside0.mk hP2
            obtain ⟨h0, h1, h2, h3, h4, h5⟩ := hP2.cells
            dsimp only at h1
            have f1 := blk_frozen hP2.box 1
            have hmax : b.length ≤ 9223372036854775807 := hP2.rb.2.1
            have hw : wrap64 (((skipN b p'.at_ : Nat) : Int) + 1) = ((skipN b p'.at_ : Nat) : Int) + 1 := by unfold wrap64; omega
            have P3 := Aside0.mk (hP2.set1 (skipN b p'.at_ + 1) (by omega))
            clear hP2 HNx HP
            go_wp2_with (go_at_call 23; go_loud (refine (Hp.out k1 (by omega) _ _ v' r2 p2 P3.out H2.out).mono ?_; rintro e w4 ⟨rfl, v6, hP4⟩; refine hold ?_))
            unfold Held
            clear P2 P3 h0 h1 h2 h3 h4 h5 f1 hw
            cases r2 with
            | false =>
              have hA := HA.out
              rw [if_neg (by simp)] at hA
              obtain ⟨rfl, rfl⟩ := Prod.mk.inj (Option.some.inj hA)
              go_wp2
              go_ret
              exact ⟨rfl, v6, hP4⟩
            | true =>
              have hA := HA.out
              rw [if_pos rfl] at hA
              obtain ⟨p3, hput, hA⟩ := Option.bind_eq_some_iff.1 hA
              unfold putO at hput
              have hol : p2.out.length < 100000 := by
                rcases Nat.lt_or_ge p2.out.length 100000 with h | h
                · exact h
                · rw [if_neg (by omega)] at hput; cases hput
              rw [if_pos hol] at hput
              obtain rfl := Option.some.inj hput
              have HA2 := Aside0.mk hA
              have P4 := Aside0.mk hP4
              obtain ⟨h0, h1, h2, h3, h4, h5⟩ := hP4.cells
              have f4 := blk_frozen hP4.box 4
              have hgl := blk_lt hP4.box
              have hne1 : g ≠ w4.heap.size := by omega
              have hne2 : w4.heap.size ≠ g := by omega
              clear hA HA hput hP4
              go_wp2_with ((refine Kd.S_append k38 (w0 := w0) w0.heap.size rfl (.tmp 23) (.tmp 25) 22 38 (.agg #[.int .i64 0, .string ByteArray.empty]) 24 rfl Tryd.underlying22 info_Op rfl (by decide) (by decide) v6 p2.out ⟨2, ByteArray.empty⟩ [.int .i64 2, .string ByteArray.empty] (fun k => k ≠ g) (fun _ => False) rfl rfl (k38_mkM _ _ _ ⟨2, ByteArray.empty⟩) (fun _ h => h.elim) (fun k hk => by omega) (Kd.S_mono P4.out.out (fun k hk => ⟨hk, id⟩)) P4.out.below (below_size P4.out.below) (by omega) ?_; intro v7 w5 hS5 hb5 hg5 hat5; refine hold ?_))
              unfold Held
              obtain ⟨A7, c7, hv7⟩ := Kd.S_slice hS5
              rw [List.length_append, List.length_singleton] at hv7
              subst hv7
              have PN := Aside0.mk (P4.out.append hg5 hb5 hS5)
              have hB5 := blk_grown P4.out.box hg5 P4.out.away
              have e4 := (blk_cell hB5 4).trans rfl
              have f5 := blk_frozen hB5 4
              clear hg5 hb5 hS5 hat5 hB5 P4 h0 h1 h2 h3 h4 h5 f4
              go_wp2
              go_roundg k1
              case measure => omega
              case rel => exact ⟨_, _, by omega, HA2, PN⟩
          · rw [if_neg c1] at hA
            obtain ⟨rfl, rfl⟩ := Prod.mk.inj (Option.some.inj hA)
            have hd : (c == 124) = false := beq_eq_false_iff_ne.mpr c1
            go_wp2_with (go_at_call 18; go_loud (refine HNx.out.mono ?_; rintro e w2 ⟨rfl, hP2⟩; refine hold ?_))
            unfold Held
            clear HNx HP
            go_wp2
            go_ret
            exact ⟨rfl, v', hP2⟩
end Go.Proofs.YteofdfknemopiaaDoor.P
end
section
/- query.Parse by hand (6): part walked, from what unit does (printed by gen_part.py). -/
set_option linter.unusedVariables false
set_option linter.unusedSimpArgs false
namespace Go.Proofs.YteofdfknemopiaaDoor.P
open Go.RowKit Go.Proofs.YteofdfknemopiaaDoorW.PrintWords Go.Proofs.YteofdfknemopiaaDoorW.PrintLast Go.Proofs.YteofdfknemopiaaDoorW.PrintMore
attribute [local go_sem] Go.Instr.field Go.part Go.asAgg
set_option maxHeartbeats 8000000 in
set_option maxRecDepth 100000 in
theorem part_of {w0 : World} {g : Nat} {A0 : Option Addr} {c0 : Nat} {b : List Int} (kw K : Nat) (hp : ∀ k, k < K → PCalls w0 g A0 c0 b 31 (unitF kw b k)) :
    PCalls w0 g A0 c0 b 23 (partF kw b K) := by
  intro W p v4 r q hP hF
  cases K with
  | zero => simp [partF] at hF
  | succ k =>
    rw [partF] at hF
    obtain ⟨⟨r1, p1⟩, h1, hF⟩ := Option.bind_eq_some_iff.1 hF
    have HF := Aside0.mk hF
    have H1 := Aside0.mk h1
    have HP := Aside0.mk hP
    have Hp := Aside0.mk hp
    clear hF h1 hP hp
    go_enter Tryd.func23, Tryd.ntmps23
    go_wp2_with (go_at_call 31; go_loud (refine (Hp.out k (Nat.lt_succ_self k) _ p v4 r1 p1 HP.out H1.out).mono ?_; rintro e w1 ⟨rfl, v5, hP1⟩; refine hold ?_))
    unfold Held
    have P1 := Aside0.mk hP1
    clear hP1 HP H1
    cases r1 with
    | false =>
      have hF := HF.out
      rw [if_neg (by simp)] at hF
      obtain ⟨rfl, rfl⟩ := Prod.mk.inj (Option.some.inj hF)
      go_wp2
      go_ret
      exact ⟨rfl, v5, P1.out⟩
    | true =>
      have hF := HF.out
      rw [if_pos rfl] at hF
      have HA0 := Aside0.mk hF
      clear hF HF
      go_wp2
      go_loopg [] k (fun kq w' => ∃ (p' : Ps) (v' : Value), kq ≤ k ∧ Aside0 (partL kw b kq p' = some (r, q)) ∧ Aside0 (PI w0 g A0 c0 b p' v' w'))
      case atStart => exact ⟨p1, v5, Nat.le_refl _, HA0, P1⟩
      case round =>
        clear HA0 P1
        obtain ⟨p', v', hk, HA, HP⟩ := hrel
        cases gk with
        | zero => exact absurd HA.out (by simp [partL])
        | succ k1 =>
          have hA := HA.out
          rw [partL] at hA
          clear HA
          have hNx := p_next HP.out
          generalize hc : b.getD (skipN b p'.at_) 0 = c at hA hNx
          have HNx := Aside0.mk hNx
          have HC := Aside0.mk hc
          clear hNx hc
          by_cases c1 : c = 33
          · rw [if_pos c1] at hA
            obtain ⟨⟨r2, p2⟩, h2, hA⟩ := Option.bind_eq_some_iff.1 hA
            have H2 := Aside0.mk h2
            have HA := Aside0.mk hA
            have hlt : skipN b p'.at_ < b.length := at_lt HC.out (by rw [c1]; decide)
            subst c1
            clear h2 hA
            go_wp2_with (go_at_call 18; go_loud (refine HNx.out.mono ?_; rintro e w2 ⟨rfl, hP2⟩; refine hold ?_))
            unfold Held
            have P2 := Aside0.mk hP2
            obtain ⟨h0, h1, h2, h3, h4, h5⟩ := hP2.cells
            dsimp only at h1
            have f1 := blk_frozen hP2.box 1
            have hmax : b.length ≤ 9223372036854775807 := hP2.rb.2.1
            have hw : wrap64 (((skipN b p'.at_ : Nat) : Int) + 1) = ((skipN b p'.at_ : Nat) : Int) + 1 := by unfold wrap64; omega
            have P3 := Aside0.mk (hP2.set1 (skipN b p'.at_ + 1) (by omega))
            clear hP2 HNx HP
            go_wp2_with (go_at_call 31; go_loud (refine (Hp.out k1 (by omega) _ _ v' r2 p2 P3.out H2.out).mono ?_; rintro e w4 ⟨rfl, v6, hP4⟩; refine hold ?_))
            unfold Held
            clear P2 P3 h0 h1 h2 h3 h4 h5 f1 hw
            cases r2 with
            | false =>
              have hA := HA.out
              rw [if_neg (by simp)] at hA
              obtain ⟨rfl, rfl⟩ := Prod.mk.inj (Option.some.inj hA)
              go_wp2
              go_ret
              exact ⟨rfl, v6, hP4⟩
            | true =>
              have hA := HA.out
              rw [if_pos rfl] at hA
              obtain ⟨p3, hput, hA⟩ := Option.bind_eq_some_iff.1 hA
              unfold putO at hput
              have hol : p2.out.length < 100000 := by
                rcases Nat.lt_or_ge p2.out.length 100000 with h | h
                · exact h
                · rw [if_neg (by omega)] at hput; cases hput
              rw [if_pos hol] at hput
              obtain rfl := Option.some.inj hput
              have HA2 := Aside0.mk hA
              have P4 := Aside0.mk hP4
              obtain ⟨h0, h1, h2, h3, h4, h5⟩ := hP4.cells
              have f4 := blk_frozen hP4.box 4
              have hgl := blk_lt hP4.box
              have hne1 : g ≠ w4.heap.size := by omega
              have hne2 : w4.heap.size ≠ g := by omega
              clear hA HA hput hP4
              go_wp2_with ((refine Kd.S_append k38 (w0 := w0) w0.heap.size rfl (.tmp 27) (.tmp 30) 22 38 (.agg #[.int .i64 0, .string ByteArray.empty]) 24 rfl Tryd.underlying22 info_Op rfl (by decide) (by decide) v6 p2.out ⟨3, ByteArray.empty⟩ [.int .i64 3, .string ByteArray.empty] (fun k => k ≠ g) (fun _ => False) rfl rfl (k38_mkM _ _ _ ⟨3, ByteArray.empty⟩) (fun _ h => h.elim) (fun k hk => by omega) (Kd.S_mono P4.out.out (fun k hk => ⟨hk, id⟩)) P4.out.below (below_size P4.out.below) (by omega) ?_; intro v7 w5 hS5 hb5 hg5 hat5; refine hold ?_))
              unfold Held
              obtain ⟨A7, c7, hv7⟩ := Kd.S_slice hS5
              rw [List.length_append, List.length_singleton] at hv7
              subst hv7
              have PN := Aside0.mk (P4.out.append hg5 hb5 hS5)
              have hB5 := blk_grown P4.out.box hg5 P4.out.away
              have e4 := (blk_cell hB5 4).trans rfl
              have f5 := blk_frozen hB5 4
              clear hg5 hb5 hS5 hat5 hB5 P4 h0 h1 h2 h3 h4 h5 f4
              go_wp2
              go_roundg k1
              case measure => omega
              case rel => exact ⟨_, _, by omega, HA2, PN⟩
          · rw [if_neg c1] at hA
            have hd1 : (c == 33) = false := beq_eq_false_iff_ne.mpr c1
            by_cases c2 : c = 38
            · rw [if_pos c2] at hA
              obtain ⟨⟨r2, p2⟩, h2, hA⟩ := Option.bind_eq_some_iff.1 hA
              have H2 := Aside0.mk h2
              have HA := Aside0.mk hA
              have hlt : skipN b p'.at_ < b.length := at_lt HC.out (by rw [c2]; decide)
              subst c2
              clear h2 hA c1
              go_wp2_with (go_at_call 18; go_loud (refine HNx.out.mono ?_; rintro e w2 ⟨rfl, hP2⟩; refine hold ?_))
              unfold Held
              have P2 := Aside0.mk hP2
              obtain ⟨h0, h1, h2, h3, h4, h5⟩ := hP2.cells
              dsimp only at h1
              have f1 := blk_frozen hP2.box 1
              have hmax : b.length ≤ 9223372036854775807 := hP2.rb.2.1
              have hw : wrap64 (((skipN b p'.at_ : Nat) : Int) + 1) = ((skipN b p'.at_ : Nat) : Int) + 1 := by unfold wrap64; omega
              have P3 := Aside0.mk (hP2.set1 (skipN b p'.at_ + 1) (by omega))
              clear hP2 HNx HP
              go_wp2_with (go_at_call 31; go_loud (refine (Hp.out k1 (by omega) _ _ v' r2 p2 P3.out H2.out).mono ?_; rintro e w4 ⟨rfl, v6, hP4⟩; refine hold ?_))
              unfold Held
              clear P2 P3 h0 h1 h2 h3 h4 h5 f1 hw
              cases r2 with
              | false =>
                have hA := HA.out
                rw [if_neg (by simp)] at hA
                obtain ⟨rfl, rfl⟩ := Prod.mk.inj (Option.some.inj hA)
                go_wp2
                go_ret
                exact ⟨rfl, v6, hP4⟩
              | true =>
                have hA := HA.out
                rw [if_pos rfl] at hA
                obtain ⟨p3, hput, hA⟩ := Option.bind_eq_some_iff.1 hA
                unfold putO at hput
                have hol : p2.out.length < 100000 := by
                  rcases Nat.lt_or_ge p2.out.length 100000 with h | h
                  · exact h
                  · rw [if_neg (by omega)] at hput; cases hput
                rw [if_pos hol] at hput
                obtain rfl := Option.some.inj hput
                have HA2 := Aside0.mk hA
                have P4 := Aside0.mk hP4
                obtain ⟨h0, h1, h2, h3, h4, h5⟩ := hP4.cells
                have f4 := blk_frozen hP4.box 4
                have hgl := blk_lt hP4.box
                have hne1 : g ≠ w4.heap.size := by omega
                have hne2 : w4.heap.size ≠ g := by omega
                clear hA HA hput hP4
                go_wp2_with ((refine Kd.S_append k38 (w0 := w0) w0.heap.size rfl (.tmp 27) (.tmp 30) 22 38 (.agg #[.int .i64 0, .string ByteArray.empty]) 24 rfl Tryd.underlying22 info_Op rfl (by decide) (by decide) v6 p2.out ⟨1, ByteArray.empty⟩ [.int .i64 1, .string ByteArray.empty] (fun k => k ≠ g) (fun _ => False) rfl rfl (k38_mkM _ _ _ ⟨1, ByteArray.empty⟩) (fun _ h => h.elim) (fun k hk => by omega) (Kd.S_mono P4.out.out (fun k hk => ⟨hk, id⟩)) P4.out.below (below_size P4.out.below) (by omega) ?_; intro v7 w5 hS5 hb5 hg5 hat5; refine hold ?_))
                unfold Held
                obtain ⟨A7, c7, hv7⟩ := Kd.S_slice hS5
                rw [List.length_append, List.length_singleton] at hv7
                subst hv7
                have PN := Aside0.mk (P4.out.append hg5 hb5 hS5)
                have hB5 := blk_grown P4.out.box hg5 P4.out.away
                have e4 := (blk_cell hB5 4).trans rfl
                have f5 := blk_frozen hB5 4
                clear hg5 hb5 hS5 hat5 hB5 P4 h0 h1 h2 h3 h4 h5 f4
                go_wp2
                go_roundg k1
                case measure => omega
                case rel => exact ⟨_, _, by omega, HA2, PN⟩
            · rw [if_neg c2] at hA
              obtain ⟨rfl, rfl⟩ := Prod.mk.inj (Option.some.inj hA)
              have hd : (c == 38) = false := beq_eq_false_iff_ne.mpr c2
              go_wp2_with (go_at_call 18; go_loud (refine HNx.out.mono ?_; rintro e w2 ⟨rfl, hP2⟩; refine hold ?_))
              unfold Held
              clear HNx HP
              go_wp2
              go_ret
              exact ⟨rfl, v', hP2⟩
end Go.Proofs.YteofdfknemopiaaDoor.P
end
section
/- query.Parse by hand (7): unit walked, from what asking does. (printed by gen_unit.py) -/
set_option linter.unusedVariables false
set_option linter.unusedSimpArgs false
namespace Go.Proofs.YteofdfknemopiaaDoor.P
open Go.RowKit Go.Proofs.YteofdfknemopiaaDoorW.PrintWords Go.Proofs.YteofdfknemopiaaDoorW.PrintLast Go.Proofs.YteofdfknemopiaaDoorW.PrintMore
attribute [local go_sem] Go.Instr.field Go.part Go.asAgg
set_option maxHeartbeats 8000000 in
set_option maxRecDepth 100000 in
theorem unit_of {w0 : World} {g : Nat} {A0 : Option Addr} {c0 : Nat} {b : List Int} (kw K : Nat) (hG : G w0) (hp : ∀ k, k < K → PCalls w0 g A0 c0 b 17 (askF kw b k)) :
    PCalls w0 g A0 c0 b 31 (unitF kw b K) := by
  intro W p v4 r q hP hF
  cases K with
  | zero => simp [unitF] at hF
  | succ k =>
    rw [unitF] at hF
    obtain ⟨n, hn, hF⟩ := Option.bind_eq_some_iff.1 hF
    have hNx := p_next hP
    have hle := skipN_le b p.at_ hP.le
    have hmax : b.length ≤ 9223372036854775807 := hP.rb.2.1
    have hac : ∀ c : Int, b.getD (skipN b p.at_) 0 = c → c ≠ 0 → skipN b p.at_ < b.length := fun c h h0 => at_lt h h0
    generalize hc : b.getD (skipN b p.at_) 0 = c at hF hNx
    have hac' := Aside0.mk (hac c hc)
    generalize skipN b p.at_ = a at hF hNx hn hle hac' hc hac
    clear hac
    have HF := Aside0.mk hF
    have HNx := Aside0.mk hNx
    have HN := Aside0.mk hn
    have Hp := Aside0.mk hp
    have HG := Aside0.mk hG
    have HC := Aside0.mk hc
    clear hF hNx hn hp hG hc hP
    go_enter Tryd.func31, Tryd.ntmps31
    go_wp2_with (go_at_call 18; go_loud (refine HNx.out.mono ?_; rintro e w2 ⟨rfl, hP2⟩; refine hold ?_))
    unfold Held
    have P2 := Aside0.mk hP2
    clear hP2 HNx
    go_wp2_with (go_at_call 37; go_loud (refine (p_word kw n P2.out (HG.out.below P2.out.below) HN.out).mono ?_; rintro e w3 ⟨rfl, hb3⟩; refine hold ?_))
    unfold Held
    have P3 := Aside0.mk (P2.out.step hb3)
    clear hb3 P2 HN
    obtain ⟨h0, h1, h2, h3, h4, h5⟩ := P3.out.cells
    dsimp only at h1
    by_cases c1 : c = 33
    · have hF := HF.out
      rw [if_pos c1] at hF
      obtain ⟨rfl, rfl⟩ := Prod.mk.inj (Option.some.inj hF)
      have hlt := hac'.out (by rw [c1]; decide)
      subst c1
      have q0 : decide ((a : Int) < (b.length : Int)) = true := decide_eq_true (by omega)
      go_wp2
      go_quiet (fail)
      go_wp2_with (go_at_call 38; go_loud (refine (p_fail (P3.out.step (pw_below_drewN (Below.refl _ _) nq)) 9).mono ?_; rintro e w4 ⟨rfl, hP4⟩; refine hold ?_))
      unfold Held
      go_wp2
      go_ret
      exact ⟨rfl, v4, hP4⟩
    · have hd1 : (c == 33) = false := beq_eq_false_iff_ne.mpr c1
      have HF2 := Aside0.mk ((if_neg c1).symm.trans HF.out)
      clear HF
      by_cases c2 : c = 40
      · have hF := HF2.out
        rw [if_pos c2] at hF
        have hlt := hac'.out (by rw [c2]; decide)
        subst c2
        by_cases c3 : p.deep = 8
        · rw [if_pos c3] at hF
          obtain ⟨rfl, rfl⟩ := Prod.mk.inj (Option.some.inj hF)
          have hd8 : (p.deep : Int) = 8 := by omega
          go_wp2
          go_quiet (fail)
          go_wp2_with (go_at_call 38; go_loud (refine (p_fail (P3.out.step (pw_below_drewN (Below.refl _ _) nq)) 8).mono ?_; rintro e w4 ⟨rfl, hP4⟩; refine hold ?_))
          unfold Held
          go_wp2
          go_ret
          exact ⟨rfl, v4, hP4⟩
        · rw [if_neg c3] at hF
          have hd8 : ¬ (p.deep : Int) = 8 := by omega
          go_wp2
          go_quiet (fail)
          obtain ⟨⟨r2, p2⟩, h2', hF⟩ := Option.bind_eq_some_iff.1 hF
          have H2 := Aside0.mk h2'
          have HF := Aside0.mk hF
          have PD := Aside0.mk (P3.out.step (pw_below_drewN (Below.refl _ _) nq))
          have hdl := P3.out.dl
          dsimp only at hdl
          have P5 := Aside0.mk ((PD.out.set1 (a + 1) (by omega)).set2 (p.deep + 1) (by show p.deep + 1 ≤ 8; omega))
          have f1 := blk_frozen PD.out.box 1
          have f2 := blk_frozen PD.out.box 2
          have hw1 : wrap64 ((a : Int) + 1) = (a : Int) + 1 := by unfold wrap64; omega
          have hw2 : wrap64 ((p.deep : Int) + 1) = (p.deep : Int) + 1 := by unfold wrap64; omega
          clear hF h2'
          go_wp2_with (go_at_call 17; go_loud (refine (Hp.out k (Nat.lt_succ_self k) _ _ v4 r2 p2 P5.out H2.out).mono ?_; rintro e w4 ⟨rfl, v5, hP5⟩; refine hold ?_))
          unfold Held
          have P6 := Aside0.mk hP5
          clear hP5 P5 PD P3 H2 h0 h1 h2 h3 h4 h5 f1 f2
          cases r2 with
          | false =>
            have hF := HF.out
            rw [if_neg (by simp)] at hF
            obtain ⟨rfl, rfl⟩ := Prod.mk.inj (Option.some.inj hF)
            go_wp2
            go_ret
            exact ⟨rfl, v5, P6.out⟩
          | true =>
            have hF := HF.out
            rw [if_pos rfl] at hF
            have hNx := p_next (P6.out.step (below_drew (Below.refl w4.heap.size w4)))
            have hle2 := skipN_le b p2.at_ P6.out.le
            have hac2 := Aside0.mk (fun (c : Int) (h : b.getD (skipN b p2.at_) 0 = c) (h0 : c ≠ 0) => at_lt h h0)
            have hdl2 := P6.out.dl
            have S0 := (P6.out.step (below_drew (Below.refl w4.heap.size w4))).cells.1
            clear HF
            generalize hc2 : b.getD (skipN b p2.at_) 0 = c' at hF hNx
            have hac3 := Aside0.mk (hac2.out c' hc2)
            generalize skipN b p2.at_ = a2 at hF hNx hle2 hac3 hc2
            have HF := Aside0.mk hF
            have HNx := Aside0.mk hNx
            clear hF hNx hac2 hc2 P6
            by_cases c4 : c' = 41
            · have hF := HF.out
              rw [if_pos c4] at hF
              have hlt2 := hac3.out (by rw [c4]; decide)
              subst c4
              have hdn : p2.deep ≠ 0 := by
                intro e
                rw [if_pos e] at hF; cases hF
              rw [if_neg hdn] at hF
              obtain ⟨rfl, rfl⟩ := Prod.mk.inj (Option.some.inj hF)
              go_wp2
              refine wp_region_noPanic ?_
              refine wp_region_held_drew (S := fun W => W.cell? ⟨g, 0, none⟩ = some (Value.slice A0 b.length c0)) (by kernel_rfl) S0 (fun hHeld => ?_)
              refine wpAnyH_take (i := 0) (oi := ?X1o) (v := ?X1v) ?X1h ?X1a ?X1b ?X1c (fun _ _ _ h => h) (Or.inl ⟨?X1e, ?X1y⟩) (by assumption) ?X1r
              case X1h => simp only [List.getElem?_toArray, List.getElem?_cons_zero, List.getElem?_cons_succ]; rfl
              case X1a => kernel_rfl
              case X1b => kernel_rfl
              case X1c => kernel_rfl
              case X1e => rfl
              case X1y => first | (intro w hSw; (try dsimp only at hSw); go_simp; done) | (intro w hSw; (try dsimp only at hSw); go_simp; with_reducible rfl)
              (try simp only [Act.put, List.setIfInBounds_toArray, List.set_cons_zero, List.set_cons_succ])
              refine wpAnyH_ready (rs := [1]) (by kernel_rfl) (by simp) ?_
              refine AllReadyH.cons (o := ?X2o) ?X2h (fun K hK => ?X2r) (AllReadyH.nil)
              case X2h => simp only [List.getElem?_toArray, List.getElem?_cons_zero, List.getElem?_cons_succ]; rfl
              go_simp
              (go_at_call 18; go_loud (refine HNx.out.mono ?_; rintro e w5 ⟨rfl, hP7⟩; have P7 := Aside0.mk hP7; have q1 := hP7.cells.2.1; dsimp only at q1; clear hP7))
              refine hK.out _ _ ?_ (fun hHeld2 => ?_)
              · exact P7.out.cells.1
              clear hK K hHeld
              have hHeld := hHeld2
              clear hHeld2
              (try simp only [Act.put, List.setIfInBounds_toArray, List.set_cons_zero, List.set_cons_succ])
              refine wpAnyH_take (i := 2) (oi := ?X3o) (v := ?X3v) ?X3h ?X3a ?X3b ?X3c (fun _ _ _ h => h) (Or.inl ⟨?X3e, ?X3y⟩) (by assumption) ?X3r
              case X3h => simp only [List.getElem?_toArray, List.getElem?_cons_zero, List.getElem?_cons_succ]; rfl
              case X3a => kernel_rfl
              case X3b => kernel_rfl
              case X3c => kernel_rfl
              case X3e => rfl
              case X3y => first | (intro w hSw; (try dsimp only at hSw); go_simp; done) | (intro w hSw; (try dsimp only at hSw); go_simp; with_reducible rfl)
              (try simp only [Act.put, List.setIfInBounds_toArray, List.set_cons_zero, List.set_cons_succ])
              refine wpAnyH_take (i := 3) (oi := ?X4o) (v := ?X4v) ?X4h ?X4a ?X4b ?X4c (fun _ _ _ h => h) (Or.inl ⟨?X4e, ?X4y⟩) (by assumption) ?X4r
              case X4h => simp only [List.getElem?_toArray, List.getElem?_cons_zero, List.getElem?_cons_succ]; rfl
              case X4a => kernel_rfl
              case X4b => kernel_rfl
              case X4c => kernel_rfl
              case X4e => rfl
              case X4y => first | (intro w hSw; (try dsimp only at hSw); go_simp; done) | (intro w hSw; (try dsimp only at hSw); go_simp; with_reducible rfl)
              (try simp only [Act.put, List.setIfInBounds_toArray, List.set_cons_zero, List.set_cons_succ])
              refine wpAnyH_take (i := 4) (oi := ?X5o) (v := ?X5v) ?X5h ?X5a ?X5b ?X5c (fun _ _ _ h => h) (Or.inl ⟨?X5e, ?X5y⟩) (by assumption) ?X5r
              case X5h => simp only [List.getElem?_toArray, List.getElem?_cons_zero, List.getElem?_cons_succ]; rfl
              case X5a => kernel_rfl
              case X5b => kernel_rfl
              case X5c => kernel_rfl
              case X5e => rfl
              case X5y => first | (intro w hSw; (try dsimp only at hSw); go_simp; done) | (intro w hSw; (try dsimp only at hSw); go_simp; with_reducible rfl)
              (try simp only [Act.put, List.setIfInBounds_toArray, List.set_cons_zero, List.set_cons_succ])
              refine wpAnyH_take (i := 5) (oi := ?X6o) (v := ?X6v) ?X6h ?X6a ?X6b ?X6c (fun _ _ _ h => h) (Or.inl ⟨?X6e, ?X6y⟩) (by assumption) ?X6r
              case X6h => simp only [List.getElem?_toArray, List.getElem?_cons_zero, List.getElem?_cons_succ]; rfl
              case X6a => kernel_rfl
              case X6b => kernel_rfl
              case X6c => kernel_rfl
              case X6e => rfl
              case X6y => first | (intro w hSw; (try dsimp only at hSw); go_simp; done) | (intro w hSw; (try dsimp only at hSw); go_simp; with_reducible rfl)
              (try simp only [Act.put, List.setIfInBounds_toArray, List.set_cons_zero, List.set_cons_succ])
              refine wpAnyH_take (i := 6) (oi := ?X7o) (v := ?X7v) ?X7h ?X7a ?X7b ?X7c (fun _ _ _ h => h) (Or.inl ⟨?X7e, ?X7y⟩) (by assumption) ?X7r
              case X7h => simp only [List.getElem?_toArray, List.getElem?_cons_zero, List.getElem?_cons_succ]; rfl
              case X7a => kernel_rfl
              case X7b => kernel_rfl
              case X7c => kernel_rfl
              case X7e => rfl
              case X7y => first | (intro w hSw; (try dsimp only at hSw); go_simp; done) | (intro w hSw; (try dsimp only at hSw); go_simp; with_reducible rfl)
              (try simp only [Act.put, List.setIfInBounds_toArray, List.set_cons_zero, List.set_cons_succ])
              refine wpAnyH_take (i := 8) (oi := ?X8o) (v := ?X8v) ?X8h ?X8a ?X8b ?X8c (fun _ _ _ h => h) (Or.inl ⟨?X8e, ?X8y⟩) (by assumption) ?X8r
              case X8h => simp only [List.getElem?_toArray, List.getElem?_cons_zero, List.getElem?_cons_succ]; rfl
              case X8a => kernel_rfl
              case X8b => kernel_rfl
              case X8c => kernel_rfl
              case X8e => rfl
              case X8y => first | (intro w hSw; (try dsimp only at hSw); go_simp; done) | (intro w hSw; (try dsimp only at hSw); go_simp; with_reducible rfl)
              (try simp only [Act.put, List.setIfInBounds_toArray, List.set_cons_zero, List.set_cons_succ])
              refine wpAnyH_take (i := 9) (oi := ?X9o) (v := ?X9v) ?X9h ?X9a ?X9b ?X9c (fun _ _ _ h => h) (Or.inl ⟨?X9e, ?X9y⟩) (by assumption) ?X9r
              case X9h => simp only [List.getElem?_toArray, List.getElem?_cons_zero, List.getElem?_cons_succ]; rfl
              case X9a => kernel_rfl
              case X9b => kernel_rfl
              case X9c => kernel_rfl
              case X9e => rfl
              case X9y => first | (intro w hSw; (try dsimp only at hSw); go_simp; done) | (intro w hSw; (try dsimp only at hSw); go_simp; with_reducible rfl)
              (try simp only [Act.put, List.setIfInBounds_toArray, List.set_cons_zero, List.set_cons_succ])
              refine wpAnyH_take (i := 10) (oi := ?X10o) (v := ?X10v) ?X10h ?X10a ?X10b ?X10c (fun _ _ _ h => h) (Or.inl ⟨?X10e, ?X10y⟩) (by assumption) ?X10r
              case X10h => simp only [List.getElem?_toArray, List.getElem?_cons_zero, List.getElem?_cons_succ]; rfl
              case X10a => kernel_rfl
              case X10b => kernel_rfl
              case X10c => kernel_rfl
              case X10e => rfl
              case X10y => first | (intro w hSw; (try dsimp only at hSw); go_simp; done) | (intro w hSw; (try dsimp only at hSw); go_simp; with_reducible rfl)
              (try simp only [Act.put, List.setIfInBounds_toArray, List.set_cons_zero, List.set_cons_succ])
              refine wpAnyH_take (i := 11) (oi := ?X11o) (v := ?X11v) ?X11h ?X11a ?X11b ?X11c (fun _ _ _ h => h) (Or.inl ⟨?X11e, ?X11y⟩) (by assumption) ?X11r
              case X11h => simp only [List.getElem?_toArray, List.getElem?_cons_zero, List.getElem?_cons_succ]; rfl
              case X11a => kernel_rfl
              case X11b => kernel_rfl
              case X11c => kernel_rfl
              case X11e => rfl
              case X11y => first | (intro w hSw; (try dsimp only at hSw); go_simp; done) | (intro w hSw; (try dsimp only at hSw); go_simp; with_reducible rfl)
              (try simp only [Act.put, List.setIfInBounds_toArray, List.set_cons_zero, List.set_cons_succ])
              refine wpAnyH_take (i := 12) (oi := ?X12o) (v := ?X12v) ?X12h ?X12a ?X12b ?X12c (fun _ _ _ h => h) (Or.inl ⟨?X12e, ?X12y⟩) (by assumption) ?X12r
              case X12h => simp only [List.getElem?_toArray, List.getElem?_cons_zero, List.getElem?_cons_succ]; rfl
              case X12a => kernel_rfl
              case X12b => kernel_rfl
              case X12c => kernel_rfl
              case X12e => rfl
              case X12y => first | (intro w hSw; (try dsimp only at hSw); go_simp; done) | (intro w hSw; (try dsimp only at hSw); go_simp; with_reducible rfl)
              (try simp only [Act.put, List.setIfInBounds_toArray, List.set_cons_zero, List.set_cons_succ])
              refine wpAnyH_ready (rs := [7]) (by kernel_rfl) (by simp) ?_
              refine AllReadyH.cons (o := ?X13o) ?X13h (fun K hK => ?X13r) (AllReadyH.nil)
              case X13h => simp only [List.getElem?_toArray, List.getElem?_cons_zero, List.getElem?_cons_succ]; rfl
              go_simp
              refine hK.out _ _ ?_ (fun hHeld2 => ?_)
              · exact P7.out.cells.1
              clear hK K hHeld
              have hHeld := hHeld2
              clear hHeld2
              (try simp only [Act.put, List.setIfInBounds_toArray, List.set_cons_zero, List.set_cons_succ])
              refine wpAnyH_take (i := 13) (oi := ?X14o) (v := ?X14v) ?X14h ?X14a ?X14b ?X14c (fun _ _ _ h => h) (Or.inl ⟨?X14e, ?X14y⟩) (by assumption) ?X14r
              case X14h => simp only [List.getElem?_toArray, List.getElem?_cons_zero, List.getElem?_cons_succ]; rfl
              case X14a => kernel_rfl
              case X14b => kernel_rfl
              case X14c => kernel_rfl
              case X14e => rfl
              case X14y => first | (intro w hSw; (try dsimp only at hSw); go_simp; done) | (intro w hSw; (try dsimp only at hSw); go_simp; with_reducible rfl)
              (try simp only [Act.put, List.setIfInBounds_toArray, List.set_cons_zero, List.set_cons_succ])
              refine wpAnyH_take (i := 14) (oi := ?X15o) (v := ?X15v) ?X15h ?X15a ?X15b ?X15c (fun _ _ _ h => h) (Or.inl ⟨?X15e, ?X15y⟩) (by assumption) ?X15r
              case X15h => simp only [List.getElem?_toArray, List.getElem?_cons_zero, List.getElem?_cons_succ]; rfl
              case X15a => kernel_rfl
              case X15b => kernel_rfl
              case X15c => kernel_rfl
              case X15e => rfl
              case X15y => first | (intro w hSw; (try dsimp only at hSw); go_simp; done) | (intro w hSw; (try dsimp only at hSw); go_simp; with_reducible rfl)
              (try simp only [Act.put, List.setIfInBounds_toArray, List.set_cons_zero, List.set_cons_succ])
              refine wpAnyH_done (by kernel_rfl) (NoPanic.normal ?_) _
              have PN := Aside0.mk ((P7.out.set1 (a2 + 1) (by omega)).set2 (p2.deep - 1) (by show p2.deep - 1 ≤ 8; omega))
              have hcast : ((p2.deep - 1 : Nat) : Int) = (p2.deep : Int) - 1 := by omega
              rw [hcast] at PN
              have hd6 : ((a2 : Int) == (b.length : Int)) = false := beq_eq_false_iff_ne.mpr (by omega)
              have hd7 : decide ((a2 : Int) = (b.length : Int)) = false := decide_eq_false (by omega)
              obtain ⟨h0, h1, h2, h3, h4, h5⟩ := P7.out.cells
              dsimp only at h1
              have f1 := blk_frozen P7.out.box 1
              have f2 := blk_frozen P7.out.box 2
              have hw3 : wrap64 ((a2 : Int) + 1) = (a2 : Int) + 1 := by unfold wrap64; omega
              have hw4 : wrap64 ((p2.deep : Int) - 1) = (p2.deep : Int) - 1 := by unfold wrap64; omega
              clear HF HF2 Hp HC HNx hcast P7 S0 hHeld q1
              go_wp2
              go_ret
              exact ⟨rfl, v5, PN.out⟩
            · have hF := HF.out
              rw [if_neg c4] at hF
              obtain ⟨rfl, rfl⟩ := Prod.mk.inj (Option.some.inj hF)
              have hd4 : (c' == 41) = false := beq_eq_false_iff_ne.mpr c4
              have hd5 : (c' != 41) = true := bne_iff_ne.mpr c4
              go_wp2
              refine wp_region_noPanic ?_
              refine wp_region_held_drew (S := fun _ => True) (by kernel_rfl) trivial (fun hHeld => ?_)
              refine wpAnyH_take (i := 0) (oi := ?X16o) (v := ?X16v) ?X16h ?X16a ?X16b ?X16c (fun _ _ _ h => h) (Or.inl ⟨?X16e, ?X16y⟩) (by assumption) ?X16r
              case X16h => simp only [List.getElem?_toArray, List.getElem?_cons_zero, List.getElem?_cons_succ]; rfl
              case X16a => kernel_rfl
              case X16b => kernel_rfl
              case X16c => kernel_rfl
              case X16e => rfl
              case X16y => first | (intro w hSw; (try dsimp only at hSw); go_simp; done) | (intro w hSw; (try dsimp only at hSw); go_simp; with_reducible rfl)
              (try simp only [Act.put, List.setIfInBounds_toArray, List.set_cons_zero, List.set_cons_succ])
              refine wpAnyH_ready (rs := [1]) (by kernel_rfl) (by simp) ?_
              refine AllReadyH.cons (o := ?X17o) ?X17h (fun K hK => ?X17r) (AllReadyH.nil)
              case X17h => simp only [List.getElem?_toArray, List.getElem?_cons_zero, List.getElem?_cons_succ]; rfl
              go_simp
              (go_at_call 18; go_loud (refine HNx.out.mono ?_; rintro e w5 ⟨rfl, hP7⟩; have P7 := Aside0.mk hP7; have q1 := hP7.cells.2.1; dsimp only at q1; clear hP7))
              refine hK.out _ _ ?_ (fun hHeld2 => ?_)
              · trivial
              clear hK K hHeld
              have hHeld := hHeld2
              clear hHeld2
              (try simp only [Act.put, List.setIfInBounds_toArray, List.set_cons_zero, List.set_cons_succ])
              refine wpAnyH_take (i := 2) (oi := ?X18o) (v := ?X18v) ?X18h ?X18a ?X18b ?X18c (fun _ _ _ h => h) (Or.inl ⟨?X18e, ?X18y⟩) (by assumption) ?X18r
              case X18h => simp only [List.getElem?_toArray, List.getElem?_cons_zero, List.getElem?_cons_succ]; rfl
              case X18a => kernel_rfl
              case X18b => kernel_rfl
              case X18c => kernel_rfl
              case X18e => rfl
              case X18y => first | (intro w hSw; (try dsimp only at hSw); go_simp; done) | (intro w hSw; (try dsimp only at hSw); go_simp; with_reducible rfl)
              (try simp only [Act.put, List.setIfInBounds_toArray, List.set_cons_zero, List.set_cons_succ])
              refine wpAnyH_take (i := 3) (oi := ?X19o) (v := ?X19v) ?X19h ?X19a ?X19b ?X19c (fun _ _ _ h => h) (Or.inl ⟨?X19e, ?X19y⟩) (by assumption) ?X19r
              case X19h => simp only [List.getElem?_toArray, List.getElem?_cons_zero, List.getElem?_cons_succ]; rfl
              case X19a => kernel_rfl
              case X19b => kernel_rfl
              case X19c => kernel_rfl
              case X19e => rfl
              case X19y => first | (intro w hSw; (try dsimp only at hSw); go_simp; done) | (intro w hSw; (try dsimp only at hSw); go_simp; with_reducible rfl)
              (try simp only [Act.put, List.setIfInBounds_toArray, List.set_cons_zero, List.set_cons_succ])
              refine wpAnyH_take (i := 4) (oi := ?X20o) (v := undef) ?X20h ?X20a ?X20b ?X20c (fun _ _ _ h => h) (Or.inr ⟨?X20e, rfl⟩) (by assumption) ?X20r
              case X20h => simp only [List.getElem?_toArray, List.getElem?_cons_zero, List.getElem?_cons_succ]; rfl
              case X20a => kernel_rfl
              case X20b => kernel_rfl
              case X20c => kernel_rfl
              case X20e => rfl
              (try simp only [Act.put, List.setIfInBounds_toArray, List.set_cons_zero, List.set_cons_succ])
              refine wpAnyH_take (i := 5) (oi := ?X21o) (v := undef) ?X21h ?X21a ?X21b ?X21c (fun _ _ _ h => h) (Or.inr ⟨?X21e, rfl⟩) (by assumption) ?X21r
              case X21h => simp only [List.getElem?_toArray, List.getElem?_cons_zero, List.getElem?_cons_succ]; rfl
              case X21a => kernel_rfl
              case X21b => kernel_rfl
              case X21c => kernel_rfl
              case X21e => rfl
              (try simp only [Act.put, List.setIfInBounds_toArray, List.set_cons_zero, List.set_cons_succ])
              refine wpAnyH_take (i := 6) (oi := ?X22o) (v := undef) ?X22h ?X22a ?X22b ?X22c (fun _ _ _ h => h) (Or.inr ⟨?X22e, rfl⟩) (by assumption) ?X22r
              case X22h => simp only [List.getElem?_toArray, List.getElem?_cons_zero, List.getElem?_cons_succ]; rfl
              case X22a => kernel_rfl
              case X22b => kernel_rfl
              case X22c => kernel_rfl
              case X22e => rfl
              (try simp only [Act.put, List.setIfInBounds_toArray, List.set_cons_zero, List.set_cons_succ])
              refine wpAnyH_take (i := 7) (oi := ?X23o) (v := undef) ?X23h ?X23a ?X23b ?X23c (fun _ _ _ h => h) (Or.inr ⟨?X23e, rfl⟩) (by assumption) ?X23r
              case X23h => simp only [List.getElem?_toArray, List.getElem?_cons_zero, List.getElem?_cons_succ]; rfl
              case X23a => kernel_rfl
              case X23b => kernel_rfl
              case X23c => kernel_rfl
              case X23e => rfl
              (try simp only [Act.put, List.setIfInBounds_toArray, List.set_cons_zero, List.set_cons_succ])
              refine wpAnyH_take (i := 8) (oi := ?X24o) (v := undef) ?X24h ?X24a ?X24b ?X24c (fun _ _ _ h => h) (Or.inr ⟨?X24e, rfl⟩) (by assumption) ?X24r
              case X24h => simp only [List.getElem?_toArray, List.getElem?_cons_zero, List.getElem?_cons_succ]; rfl
              case X24a => kernel_rfl
              case X24b => kernel_rfl
              case X24c => kernel_rfl
              case X24e => rfl
              (try simp only [Act.put, List.setIfInBounds_toArray, List.set_cons_zero, List.set_cons_succ])
              refine wpAnyH_take (i := 9) (oi := ?X25o) (v := undef) ?X25h ?X25a ?X25b ?X25c (fun _ _ _ h => h) (Or.inr ⟨?X25e, rfl⟩) (by assumption) ?X25r
              case X25h => simp only [List.getElem?_toArray, List.getElem?_cons_zero, List.getElem?_cons_succ]; rfl
              case X25a => kernel_rfl
              case X25b => kernel_rfl
              case X25c => kernel_rfl
              case X25e => rfl
              (try simp only [Act.put, List.setIfInBounds_toArray, List.set_cons_zero, List.set_cons_succ])
              refine wpAnyH_take (i := 10) (oi := ?X26o) (v := undef) ?X26h ?X26a ?X26b ?X26c (fun _ _ _ h => h) (Or.inr ⟨?X26e, rfl⟩) (by assumption) ?X26r
              case X26h => simp only [List.getElem?_toArray, List.getElem?_cons_zero, List.getElem?_cons_succ]; rfl
              case X26a => kernel_rfl
              case X26b => kernel_rfl
              case X26c => kernel_rfl
              case X26e => rfl
              (try simp only [Act.put, List.setIfInBounds_toArray, List.set_cons_zero, List.set_cons_succ])
              refine wpAnyH_take (i := 11) (oi := ?X27o) (v := undef) ?X27h ?X27a ?X27b ?X27c (fun _ _ _ h => h) (Or.inr ⟨?X27e, rfl⟩) (by assumption) ?X27r
              case X27h => simp only [List.getElem?_toArray, List.getElem?_cons_zero, List.getElem?_cons_succ]; rfl
              case X27a => kernel_rfl
              case X27b => kernel_rfl
              case X27c => kernel_rfl
              case X27e => rfl
              (try simp only [Act.put, List.setIfInBounds_toArray, List.set_cons_zero, List.set_cons_succ])
              refine wpAnyH_take (i := 12) (oi := ?X28o) (v := undef) ?X28h ?X28a ?X28b ?X28c (fun _ _ _ h => h) (Or.inr ⟨?X28e, rfl⟩) (by assumption) ?X28r
              case X28h => simp only [List.getElem?_toArray, List.getElem?_cons_zero, List.getElem?_cons_succ]; rfl
              case X28a => kernel_rfl
              case X28b => kernel_rfl
              case X28c => kernel_rfl
              case X28e => rfl
              (try simp only [Act.put, List.setIfInBounds_toArray, List.set_cons_zero, List.set_cons_succ])
              refine wpAnyH_take (i := 13) (oi := ?X29o) (v := undef) ?X29h ?X29a ?X29b ?X29c (fun _ _ _ h => h) (Or.inr ⟨?X29e, rfl⟩) (by assumption) ?X29r
              case X29h => simp only [List.getElem?_toArray, List.getElem?_cons_zero, List.getElem?_cons_succ]; rfl
              case X29a => kernel_rfl
              case X29b => kernel_rfl
              case X29c => kernel_rfl
              case X29e => rfl
              (try simp only [Act.put, List.setIfInBounds_toArray, List.set_cons_zero, List.set_cons_succ])
              refine wpAnyH_take (i := 14) (oi := ?X30o) (v := ?X30v) ?X30h ?X30a ?X30b ?X30c (fun _ _ _ h => h) (Or.inl ⟨?X30e, ?X30y⟩) (by assumption) ?X30r
              case X30h => simp only [List.getElem?_toArray, List.getElem?_cons_zero, List.getElem?_cons_succ]; rfl
              case X30a => kernel_rfl
              case X30b => kernel_rfl
              case X30c => kernel_rfl
              case X30e => rfl
              case X30y => first | (intro w hSw; (try dsimp only at hSw); go_simp; done) | (intro w hSw; (try dsimp only at hSw); go_simp; with_reducible rfl)
              (try simp only [Act.put, List.setIfInBounds_toArray, List.set_cons_zero, List.set_cons_succ])
              refine wpAnyH_done (by kernel_rfl) (NoPanic.normal ?_) _
              go_wp2_with (go_at_call 38; go_loud (refine (p_fail P7.out 2).mono ?_; rintro e w6 ⟨rfl, hP8⟩; refine hold ?_))
              unfold Held
              go_wp2
              go_ret
              exact ⟨rfl, v5, hP8⟩
      · have HF := Aside0.mk ((if_neg c2).symm.trans HF2.out)
        have hd2 : (c == 40) = false := beq_eq_false_iff_ne.mpr c2
        clear HF2 hac' HC Hp
        by_cases c5 : 0 < n
        · have HF3 := Aside0.mk ((if_pos c5).symm.trans HF.out)
          clear HF
          obtain ⟨m, rfl⟩ := Int.eq_ofNat_of_zero_le (Int.le_of_lt c5)
          have hn1 : decide ((0 : Int) < (m : Int)) = true := decide_eq_true c5
          by_cases c6 : p.words = 16
          · have hF := HF3.out
            rw [if_pos c6] at hF
            obtain ⟨rfl, rfl⟩ := Prod.mk.inj (Option.some.inj hF)
            have hw : (p.words : Int) = 16 := by omega
            clear hF HF3
            go_wp2
            go_quiet (fail)
            go_wp2_with (go_at_call 38; go_loud (refine (p_fail (P3.out.step (pw_below_drewN (Below.refl _ _) nq)) 8).mono ?_; rintro e w4 ⟨rfl, hP4⟩; refine hold ?_))
            unfold Held
            go_wp2
            go_ret
            exact ⟨rfl, v4, hP4⟩
          · have HF4 := Aside0.mk ((if_neg c6).symm.trans HF3.out)
            clear HF3
            have hw6 : ¬ (p.words : Int) = 16 := by omega
            have hmn : a + m ≤ b.length := by
              rcases Nat.lt_or_ge b.length (a + m) with h | h
              · have := HF4.out
                rw [Int.toNat_natCast, if_neg (by omega)] at this; cases this
              · exact h
            have hF := (if_pos (by rw [Int.toNat_natCast]; exact hmn)).symm.trans HF4.out
            rw [Int.toNat_natCast] at hF
            obtain ⟨ts, hts, hF⟩ := Option.bind_eq_some_iff.1 hF
            clear HF4
            cases ts with
            | nil => cases hF
            | cons t tl =>
            obtain ⟨p3, hput, hF⟩ := Option.bind_eq_some_iff.1 hF
            obtain ⟨rfl, rfl⟩ := Prod.mk.inj (Option.some.inj hF)
            unfold putO at hput
            have hol : p.out.length < 100000 := by
              rcases Nat.lt_or_ge p.out.length 100000 with h | h
              · exact h
              · rw [if_neg (by omega)] at hput; cases hput
            rw [if_pos hol] at hput
            obtain rfl := Option.some.inj hput
            have HT := Aside0.mk hts
            clear hts hput hF
            go_wp2
            go_quiet (fail)
            have PW := Aside0.mk (P3.out.step (pw_below_drewN (Below.refl w3.heap.size w3) nq))
            have PR := Aside0.mk (PW.out.step (below_drew (Below.refl _ _)))
            have GR := Aside0.mk (HG.out.below PR.out.below)
            have hwl := PR.out.wl
            dsimp only at hwl
            have S0 : (w3.drewN nq).drew.cell? ⟨g, 0, none⟩ = some (.slice A0 b.length c0) ∧ (w3.drewN nq).drew.cell? ⟨g, 1, none⟩ = some (.int .i64 (a : Int)) := ⟨PR.out.cells.1, PR.out.cells.2.1⟩
            have hq4 := PW.out.cells.2.2.2.2.1
            obtain ⟨iu, hiu, hsu⟩ := Option.map_eq_some_iff.1 (show (Tryd.prog.info? 5).map (·.size) = some 1 by kernel_rfl)
            obtain ⟨A', hs1, hs2, hs3⟩ := print_mid_of (P := Tryd.prog) (Value.int .u8) (0 : Int) 30 5 .i64 .i64 Tryd.underlying30 hiu hsu A0 c0 b (a : Int) ((a : Int) + (m : Int)) (by omega) (by omega) (by omega) PR.out.cb
            have htw : (b.take ((a : Int) + (m : Int)).toNat).drop (a : Int).toNat = (b.drop a).take m := by
              rw [Int.toNat_natCast, show ((a : Int) + (m : Int)).toNat = a + m by omega, List.drop_take]
              congr 1; omega
            rw [htw] at hs1 hs2 hs3
            rw [Int.toNat_natCast] at hs1 hs3
            clear htw
            generalize (b.drop a).take m = tw at *
            have HR := Aside0.mk (Kd.C_of_reads (h1 := fun _ => rfl) (hs2 _ (Kd.reads_of_C (h1 := fun _ => rfl) (Kd.C_below PR.out.rb PR.out.below))))
            have HS3 := Aside0.mk hs3
            have hsum : IntKind.i64.wrap ((a : Int) + (m : Int)) = (a : Int) + (m : Int) := IntWalk.i64_in _ (by omega)
            clear hs2 hs3 hiu hsu
            go_wp2
            clear h0 h1 h2 h3 h4 h5 P3
            generalize w3.drewN nq = wr at *
            clear w3
            refine wp_region_noPanic ?_
            refine wp_region_held_drew (S := fun W => W.cell? ⟨g, 0, none⟩ = some (Value.slice A0 b.length c0) ∧ W.cell? ⟨g, 1, none⟩ = some (Value.int .i64 (a : Int))) (by kernel_rfl) S0 (fun hHeld => ?_)
            refine wpAnyH_take (i := 0) (oi := ?X31o) (v := ?X31v) ?X31h ?X31a ?X31b ?X31c (fun _ _ _ h => h) (Or.inl ⟨?X31e, ?X31y⟩) (by assumption) ?X31r
            case X31h => simp only [List.getElem?_toArray, List.getElem?_cons_zero, List.getElem?_cons_succ]; rfl
            case X31a => kernel_rfl
            case X31b => kernel_rfl
            case X31c => kernel_rfl
            case X31e => rfl
            case X31y => first | (intro w hSw; (try dsimp only at hSw); go_simp; done) | (intro w hSw; (try dsimp only at hSw); go_simp; with_reducible rfl)
            (try simp only [Act.put, List.setIfInBounds_toArray, List.set_cons_zero, List.set_cons_succ])
            refine wpAnyH_take (i := 1) (oi := ?X32o) (v := ?X32v) ?X32h ?X32a ?X32b ?X32c (fun _ _ _ h => h) (Or.inl ⟨?X32e, ?X32y⟩) (by assumption) ?X32r
            case X32h => simp only [List.getElem?_toArray, List.getElem?_cons_zero, List.getElem?_cons_succ]; rfl
            case X32a => kernel_rfl
            case X32b => kernel_rfl
            case X32c => kernel_rfl
            case X32e => rfl
            case X32y => first | (intro w hSw; (try dsimp only at hSw); go_simp; done) | (intro w hSw; (try dsimp only at hSw); go_simp; with_reducible rfl)
            (try simp only [Act.put, List.setIfInBounds_toArray, List.set_cons_zero, List.set_cons_succ])
            refine wpAnyH_take (i := 2) (oi := ?X33o) (v := ?X33v) ?X33h ?X33a ?X33b ?X33c (fun _ _ _ h => h) (Or.inl ⟨?X33e, ?X33y⟩) (by assumption) ?X33r
            case X33h => simp only [List.getElem?_toArray, List.getElem?_cons_zero, List.getElem?_cons_succ]; rfl
            case X33a => kernel_rfl
            case X33b => kernel_rfl
            case X33c => kernel_rfl
            case X33e => rfl
            case X33y => first | (intro w hSw; (try dsimp only at hSw); go_simp; done) | (intro w hSw; (try dsimp only at hSw); go_simp; with_reducible rfl)
            (try simp only [Act.put, List.setIfInBounds_toArray, List.set_cons_zero, List.set_cons_succ])
            refine wpAnyH_take (i := 3) (oi := ?X34o) (v := ?X34v) ?X34h ?X34a ?X34b ?X34c (fun _ _ _ h => h) (Or.inl ⟨?X34e, ?X34y⟩) (by assumption) ?X34r
            case X34h => simp only [List.getElem?_toArray, List.getElem?_cons_zero, List.getElem?_cons_succ]; rfl
            case X34a => kernel_rfl
            case X34b => kernel_rfl
            case X34c => kernel_rfl
            case X34e => rfl
            case X34y => first | (intro w hSw; (try dsimp only at hSw); go_simp; done) | (intro w hSw; (try dsimp only at hSw); go_simp; with_reducible rfl)
            (try simp only [Act.put, List.setIfInBounds_toArray, List.set_cons_zero, List.set_cons_succ])
            refine wpAnyH_take (i := 5) (oi := ?X35o) (v := ?X35v) ?X35h ?X35a ?X35b ?X35c (fun _ _ _ h => h) (Or.inl ⟨?X35e, ?X35y⟩) (by assumption) ?X35r
            case X35h => simp only [List.getElem?_toArray, List.getElem?_cons_zero, List.getElem?_cons_succ]; rfl
            case X35a => kernel_rfl
            case X35b => kernel_rfl
            case X35c => kernel_rfl
            case X35e => rfl
            case X35y => first | (intro w hSw; (try dsimp only at hSw); go_simp; done) | (intro w hSw; (try dsimp only at hSw); go_simp; with_reducible rfl)
            (try simp only [Act.put, List.setIfInBounds_toArray, List.set_cons_zero, List.set_cons_succ])
            refine wpAnyH_take (i := 6) (oi := ?X36o) (v := ?X36v) ?X36h ?X36a ?X36b ?X36c (fun _ _ _ h => h) (Or.inl ⟨?X36e, ?X36y⟩) (by assumption) ?X36r
            case X36h => simp only [List.getElem?_toArray, List.getElem?_cons_zero, List.getElem?_cons_succ]; rfl
            case X36a => kernel_rfl
            case X36b => kernel_rfl
            case X36c => kernel_rfl
            case X36e => rfl
            case X36y => first | (intro w hSw; (try dsimp only at hSw); go_simp; done) | (intro w hSw; (try dsimp only at hSw); go_simp; with_reducible rfl)
            (try simp only [Act.put, List.setIfInBounds_toArray, List.set_cons_zero, List.set_cons_succ])
            refine wpAnyH_take (i := 7) (oi := ?X37o) (v := ?X37v) ?X37h ?X37a ?X37b ?X37c (fun _ _ _ h => h) (Or.inl ⟨?X37e, ?X37y⟩) (by assumption) ?X37r
            case X37h => simp only [List.getElem?_toArray, List.getElem?_cons_zero, List.getElem?_cons_succ]; rfl
            case X37a => kernel_rfl
            case X37b => kernel_rfl
            case X37c => kernel_rfl
            case X37e => rfl
            case X37y => first | (intro w hSw; (try dsimp only at hSw); go_simp; done) | (intro w hSw; (try dsimp only at hSw); go_simp; with_reducible rfl)
            (try simp only [Act.put, List.setIfInBounds_toArray, List.set_cons_zero, List.set_cons_succ])
            refine wpAnyH_take (i := 8) (oi := ?X38o) (v := ?X38v) ?X38h ?X38a ?X38b ?X38c (fun _ _ _ h => h) (Or.inl ⟨?X38e, ?X38y⟩) (by assumption) ?X38r
            case X38h => simp only [List.getElem?_toArray, List.getElem?_cons_zero, List.getElem?_cons_succ]; rfl
            case X38a => kernel_rfl
            case X38b => kernel_rfl
            case X38c => kernel_rfl
            case X38e => rfl
            case X38y => first | (intro w hSw; (try dsimp only at hSw); go_simp; done) | (intro w hSw; (try dsimp only at hSw); go_simp; with_reducible rfl)
            (try simp only [Act.put, List.setIfInBounds_toArray, List.set_cons_zero, List.set_cons_succ])
            refine wpAnyH_take (i := 9) (oi := ?X39o) (v := ?X39v) ?X39h ?X39a ?X39b ?X39c (fun _ _ _ h => h) (Or.inl ⟨?X39e, ?X39y⟩) (by assumption) ?X39r
            case X39h => simp only [List.getElem?_toArray, List.getElem?_cons_zero, List.getElem?_cons_succ]; rfl
            case X39a => kernel_rfl
            case X39b => kernel_rfl
            case X39c => kernel_rfl
            case X39e => rfl
            case X39y => first | (intro w hSw; (try dsimp only at hSw); go_simp; done) | (intro w hSw; (try dsimp only at hSw); go_simp; with_reducible rfl)
            (try simp only [Act.put, List.setIfInBounds_toArray, List.set_cons_zero, List.set_cons_succ])
            refine wpAnyH_take (i := 10) (oi := ?X40o) (v := ?X40v) ?X40h ?X40a ?X40b ?X40c (fun _ _ _ h => h) (Or.inl ⟨?X40e, ?X40y⟩) (by assumption) ?X40r
            case X40h => simp only [List.getElem?_toArray, List.getElem?_cons_zero, List.getElem?_cons_succ]; rfl
            case X40a => kernel_rfl
            case X40b => kernel_rfl
            case X40c => kernel_rfl
            case X40e => rfl
            case X40y => first | (intro w hSw; (try dsimp only at hSw); go_simp; done) | (intro w hSw; (try dsimp only at hSw); go_simp; with_reducible rfl)
            (try simp only [Act.put, List.setIfInBounds_toArray, List.set_cons_zero, List.set_cons_succ])
            refine wpAnyH_take (i := 11) (oi := ?X41o) (v := ?X41v) ?X41h ?X41a ?X41b ?X41c (fun _ _ _ h => h) (Or.inl ⟨?X41e, ?X41y⟩) (by assumption) ?X41r
            case X41h => simp only [List.getElem?_toArray, List.getElem?_cons_zero, List.getElem?_cons_succ]; rfl
            case X41a => kernel_rfl
            case X41b => kernel_rfl
            case X41c => kernel_rfl
            case X41e => rfl
            case X41y => first | (intro w hSw; (try dsimp only at hSw); go_simp; done) | (intro w hSw; (try dsimp only at hSw); go_simp; with_reducible rfl)
            (try simp only [Act.put, List.setIfInBounds_toArray, List.set_cons_zero, List.set_cons_succ])
            refine wpAnyH_take (i := 12) (oi := ?X42o) (v := ?X42v) ?X42h ?X42a ?X42b ?X42c (fun _ _ _ h => h) (Or.inl ⟨?X42e, ?X42y⟩) (by assumption) ?X42r
            case X42h => simp only [List.getElem?_toArray, List.getElem?_cons_zero, List.getElem?_cons_succ]; rfl
            case X42a => kernel_rfl
            case X42b => kernel_rfl
            case X42c => kernel_rfl
            case X42e => rfl
            case X42y => first | (intro w hSw; (try dsimp only at hSw); go_simp; done) | (intro w hSw; (try dsimp only at hSw); go_simp; with_reducible rfl)
            (try simp only [Act.put, List.setIfInBounds_toArray, List.set_cons_zero, List.set_cons_succ])
            refine wpAnyH_take (i := 13) (oi := ?X43o) (v := ?X43v) ?X43h ?X43a ?X43b ?X43c (fun _ _ _ h => h) (Or.inl ⟨?X43e, ?X43y⟩) (by assumption) ?X43r
            case X43h => simp only [List.getElem?_toArray, List.getElem?_cons_zero, List.getElem?_cons_succ]; rfl
            case X43a => kernel_rfl
            case X43b => kernel_rfl
            case X43c => kernel_rfl
            case X43e => rfl
            case X43y => first | (intro w hSw; (try dsimp only at hSw); go_simp; done) | (intro w hSw; (try dsimp only at hSw); go_simp; with_reducible rfl)
            (try simp only [Act.put, List.setIfInBounds_toArray, List.set_cons_zero, List.set_cons_succ])
            refine wpAnyH_take (i := 14) (oi := ?X44o) (v := ?X44v) ?X44h ?X44a ?X44b ?X44c (fun _ _ _ h => h) (Or.inl ⟨?X44e, ?X44y⟩) (by assumption) ?X44r
            case X44h => simp only [List.getElem?_toArray, List.getElem?_cons_zero, List.getElem?_cons_succ]; rfl
            case X44a => kernel_rfl
            case X44b => kernel_rfl
            case X44c => kernel_rfl
            case X44e => rfl
            case X44y => first | (intro w hSw; (try dsimp only at hSw); go_simp; done) | (intro w hSw; (try dsimp only at hSw); go_simp; with_reducible rfl)
            (try simp only [Act.put, List.setIfInBounds_toArray, List.set_cons_zero, List.set_cons_succ])
            refine wpAnyH_take (i := 15) (oi := ?X45o) (v := ?X45v) ?X45h ?X45a ?X45b ?X45c (fun _ _ _ h => h) (Or.inl ⟨?X45e, ?X45y⟩) (by assumption) ?X45r
            case X45h => simp only [List.getElem?_toArray, List.getElem?_cons_zero, List.getElem?_cons_succ]; rfl
            case X45a => kernel_rfl
            case X45b => kernel_rfl
            case X45c => kernel_rfl
            case X45e => rfl
            case X45y => first | (intro w hSw; (try dsimp only at hSw); go_simp; done) | (intro w hSw; (try dsimp only at hSw); go_simp; with_reducible rfl)
            (try simp only [Act.put, List.setIfInBounds_toArray, List.set_cons_zero, List.set_cons_succ])
            refine wpAnyH_take (i := 16) (oi := ?X46o) (v := ?X46v) ?X46h ?X46a ?X46b ?X46c (fun _ _ _ h => h) (Or.inl ⟨?X46e, ?X46y⟩) (by assumption) ?X46r
            case X46h => simp only [List.getElem?_toArray, List.getElem?_cons_zero, List.getElem?_cons_succ]; rfl
            case X46a => kernel_rfl
            case X46b => kernel_rfl
            case X46c => kernel_rfl
            case X46e => rfl
            case X46y => first | (intro w hSw; (try dsimp only at hSw); go_simp; done) | (intro w hSw; (try dsimp only at hSw); go_simp; with_reducible rfl)
            (try simp only [Act.put, List.setIfInBounds_toArray, List.set_cons_zero, List.set_cons_succ])
            refine wpAnyH_take (i := 17) (oi := ?X47o) (v := ?X47v) ?X47h ?X47a ?X47b ?X47c (fun _ _ _ h => h) (Or.inl ⟨?X47e, ?X47y⟩) (by assumption) ?X47r
            case X47h => simp only [List.getElem?_toArray, List.getElem?_cons_zero, List.getElem?_cons_succ]; rfl
            case X47a => kernel_rfl
            case X47b => kernel_rfl
            case X47c => kernel_rfl
            case X47e => rfl
            case X47y => first | (intro w hSw; (try dsimp only at hSw); go_simp; done) | (intro w hSw; (try dsimp only at hSw); go_simp; with_reducible rfl)
            (try simp only [Act.put, List.setIfInBounds_toArray, List.set_cons_zero, List.set_cons_succ])
            refine wpAnyH_take (i := 18) (oi := ?X48o) (v := ?X48v) ?X48h ?X48a ?X48b ?X48c (fun _ _ _ h => h) (Or.inl ⟨?X48e, ?X48y⟩) (by assumption) ?X48r
            case X48h => simp only [List.getElem?_toArray, List.getElem?_cons_zero, List.getElem?_cons_succ]; rfl
            case X48a => kernel_rfl
            case X48b => kernel_rfl
            case X48c => kernel_rfl
            case X48e => rfl
            case X48y => first | (intro w hSw; (try dsimp only at hSw); go_simp; done) | (intro w hSw; (try dsimp only at hSw); go_simp; with_reducible rfl)
            (try simp only [Act.put, List.setIfInBounds_toArray, List.set_cons_zero, List.set_cons_succ])
            refine wpAnyH_take (i := 19) (oi := ?X49o) (v := ?X49v) ?X49h ?X49a ?X49b ?X49c (fun _ _ _ h => h) (Or.inl ⟨?X49e, ?X49y⟩) (by assumption) ?X49r
            case X49h => simp only [List.getElem?_toArray, List.getElem?_cons_zero, List.getElem?_cons_succ]; rfl
            case X49a => kernel_rfl
            case X49b => kernel_rfl
            case X49c => kernel_rfl
            case X49e => rfl
            case X49y => first | (intro w hSw; (try dsimp only at hSw); go_simp; done) | (intro w hSw; (try dsimp only at hSw); go_simp; with_reducible rfl)
            (try simp only [Act.put, List.setIfInBounds_toArray, List.set_cons_zero, List.set_cons_succ])
            refine wpAnyH_ready (rs := [4, 20]) (by kernel_rfl) (by simp) ?_
            refine AllReadyH.cons (o := ?X51o) ?X51h (fun K hK => ?X51r) (AllReadyH.cons (o := ?X50o) ?X50h (fun K hK => ?X50r) (AllReadyH.nil))
            case X51h => simp only [List.getElem?_toArray, List.getElem?_cons_zero, List.getElem?_cons_succ]; rfl
            case X50h => simp only [List.getElem?_toArray, List.getElem?_cons_zero, List.getElem?_cons_succ]; rfl
            case X51r =>
              go_simp
              refine hK.out _ _ ?_ (fun hHeld2 => ?_)
              · exact hHeld
              clear hK K hHeld
              have hHeld := hHeld2
              clear hHeld2
              (try simp only [Act.put, List.setIfInBounds_toArray, List.set_cons_zero, List.set_cons_succ])
              refine wpAnyH_ready (rs := [20]) (by kernel_rfl) (by simp) ?_
              refine AllReadyH.cons (o := ?X52o) ?X52h (fun K hK => ?X52r) (AllReadyH.nil)
              case X52h => simp only [List.getElem?_toArray, List.getElem?_cons_zero, List.getElem?_cons_succ]; rfl
              go_simp
              (go_at_call 30; go_loud (refine (token_Terms.calls A' _ tw (t :: tl) _ GR.out HR.out HS3.out HT.out).mono ?_; rintro e w5 ⟨v0, rfl, hR5, hb5⟩; obtain ⟨gt, ct, rfl, _, _, _⟩ := Kd.R_form hR5 (by simp); have P5 := Aside0.mk (PR.out.step hb5); have ht5 : w5.cell? ⟨gt, 0, none⟩ = some (.string t) := (Kd.R_cell (enc := Value.string) ByteArray.empty hR5 0 (by omega) (by simp)).1; have hp5 : 0 < (t :: tl).length := Nat.succ_pos _; have hp5' : (0 : Int) < ((t :: tl).length : Int) := Int.natCast_pos.mpr (Nat.succ_pos _); have q4 := P5.out.cells.2.2.2.2.1; have hgl := blk_lt P5.out.box; have P6 := Aside0.mk (P5.out.step (below_alloc (Below.refl w5.heap.size w5) (.cells #[.int .i64 0, .string t] 38))); have q4' := P6.out.cells.2.2.2.2.1; generalize (t :: tl).length = nl at *; clear hR5 hb5))
              refine hK.out _ _ ?_ (fun hHeld2 => ?_)
              · exact ⟨P5.out.cells.1, P5.out.cells.2.1⟩
              clear hK K hHeld
              have hHeld := hHeld2
              clear hHeld2
              (try simp only [Act.put, List.setIfInBounds_toArray, List.set_cons_zero, List.set_cons_succ])
              refine wpAnyH_take (i := 21) (oi := ?X53o) (v := ?X53v) ?X53h ?X53a ?X53b ?X53c (fun _ _ _ h => h) (Or.inl ⟨?X53e, ?X53y⟩) (by assumption) ?X53r
              case X53h => simp only [List.getElem?_toArray, List.getElem?_cons_zero, List.getElem?_cons_succ]; rfl
              case X53a => kernel_rfl
              case X53b => kernel_rfl
              case X53c => kernel_rfl
              case X53e => rfl
              case X53y => first | (intro w hSw; (try dsimp only at hSw); go_simp; done) | (intro w hSw; (try dsimp only at hSw); go_simp; with_reducible rfl)
              (try simp only [Act.put, List.setIfInBounds_toArray, List.set_cons_zero, List.set_cons_succ])
              refine wpAnyH_ready (rs := [22]) (by kernel_rfl) (by simp) ?_
              refine AllReadyH.cons (o := ?X54o) ?X54h (fun K hK => ?X54r) (AllReadyH.nil)
              case X54h => simp only [List.getElem?_toArray, List.getElem?_cons_zero, List.getElem?_cons_succ]; rfl
              go_simp
              refine hK.out _ _ ?_ (fun hHeld2 => ?_)
              · exact hHeld
              clear hK K hHeld
              have hHeld := hHeld2
              clear hHeld2
              (try simp only [Act.put, List.setIfInBounds_toArray, List.set_cons_zero, List.set_cons_succ])
              refine wpAnyH_take (i := 23) (oi := ?X55o) (v := ?X55v) ?X55h ?X55a ?X55b ?X55c (fun _ _ _ h => h) (Or.inl ⟨?X55e, ?X55y⟩) (by assumption) ?X55r
              case X55h => simp only [List.getElem?_toArray, List.getElem?_cons_zero, List.getElem?_cons_succ]; rfl
              case X55a => kernel_rfl
              case X55b => kernel_rfl
              case X55c => kernel_rfl
              case X55e => rfl
              case X55y => first | (intro w hSw; (try dsimp only at hSw); go_simp; done) | (intro w hSw; (try dsimp only at hSw); go_simp; with_reducible rfl)
              (try simp only [Act.put, List.setIfInBounds_toArray, List.set_cons_zero, List.set_cons_succ])
              refine wpAnyH_ready (rs := [24]) (by kernel_rfl) (by simp) ?_
              refine AllReadyH.cons (o := ?X56o) ?X56h (fun K hK => ?X56r) (AllReadyH.nil)
              case X56h => simp only [List.getElem?_toArray, List.getElem?_cons_zero, List.getElem?_cons_succ]; rfl
              go_simp
              refine hK.out _ _ ?_ (fun hHeld2 => ?_)
              · exact ⟨P6.out.cells.1, P6.out.cells.2.1⟩
              clear hK K hHeld
              have hHeld := hHeld2
              clear hHeld2
              (try simp only [Act.put, List.setIfInBounds_toArray, List.set_cons_zero, List.set_cons_succ])
              refine wpAnyH_ready (rs := [25]) (by kernel_rfl) (by simp) ?_
              refine AllReadyH.cons (o := ?X57o) ?X57h (fun K hK => ?X57r) (AllReadyH.nil)
              case X57h => simp only [List.getElem?_toArray, List.getElem?_cons_zero, List.getElem?_cons_succ]; rfl
              (refine Kd.S_append_step k38 (w0 := w0) w0.heap.size (by rfl) (.tmp 103) (.tmp 123) 22 38 (.agg #[.int .i64 0, .string ByteArray.empty]) 24 rfl Tryd.underlying22 info_Op rfl (by decide) (by decide) v4 p.out ⟨0, t⟩ [.int .i64 0, .string t] (fun k => k ≠ g) (fun _ => False) rfl rfl (k38_mkM _ _ _ ⟨0, t⟩) (fun _ h => h.elim) (fun k hk => by omega) (Kd.S_mono P5.out.out (fun k hk => ⟨hk, id⟩)) P5.out.below (below_size P5.out.below) (by have := hol; omega) ?_; intro v7 w6 hS6 hb6 hg6 hat6)
              obtain ⟨A7, c7, hv7⟩ := Kd.S_slice hS6
              rw [List.length_append, List.length_singleton] at hv7
              subst hv7
              have PN := Aside0.mk (P5.out.append hg6 hb6 hS6)
              have hB6 := blk_grown P5.out.box hg6 P5.out.away
              have e4 := (blk_cell hB6 4).trans rfl
              have f4 := blk_frozen hB6 4
              have e01 : w6.cell? ⟨g, 0, none⟩ = some (.slice A0 b.length c0) ∧ w6.cell? ⟨g, 1, none⟩ = some (.int .i64 (a : Int)) := ⟨(blk_cell hB6 0).trans rfl, (blk_cell hB6 1).trans rfl⟩
              clear hg6 hb6 hS6 hat6 hB6
              refine hK.out _ _ ?_ (fun hHeld2 => ?_)
              · exact e01
              clear hK K hHeld
              have hHeld := hHeld2
              clear hHeld2
              (try simp only [Act.put, List.setIfInBounds_toArray, List.set_cons_zero, List.set_cons_succ])
              refine wpAnyH_take (i := 26) (oi := ?X58o) (v := ?X58v) ?X58h ?X58a ?X58b ?X58c (fun _ _ _ h => h) (Or.inl ⟨?X58e, ?X58y⟩) (by assumption) ?X58r
              case X58h => simp only [List.getElem?_toArray, List.getElem?_cons_zero, List.getElem?_cons_succ]; rfl
              case X58a => kernel_rfl
              case X58b => kernel_rfl
              case X58c => kernel_rfl
              case X58e => rfl
              case X58y => first | (intro w hSw; (try dsimp only at hSw); go_simp; done) | (intro w hSw; (try dsimp only at hSw); go_simp; with_reducible rfl)
              (try simp only [Act.put, List.setIfInBounds_toArray, List.set_cons_zero, List.set_cons_succ])
              refine wpAnyH_take (i := 27) (oi := ?X59o) (v := ?X59v) ?X59h ?X59a ?X59b ?X59c (fun _ _ _ h => h) (Or.inl ⟨?X59e, ?X59y⟩) (by assumption) ?X59r
              case X59h => simp only [List.getElem?_toArray, List.getElem?_cons_zero, List.getElem?_cons_succ]; rfl
              case X59a => kernel_rfl
              case X59b => kernel_rfl
              case X59c => kernel_rfl
              case X59e => rfl
              case X59y => first | (intro w hSw; (try dsimp only at hSw); go_simp; done) | (intro w hSw; (try dsimp only at hSw); go_simp; with_reducible rfl)
              (try simp only [Act.put, List.setIfInBounds_toArray, List.set_cons_zero, List.set_cons_succ])
              refine wpAnyH_ready (rs := [28]) (by kernel_rfl) (by simp) ?_
              refine AllReadyH.cons (o := ?X60o) ?X60h (fun K hK => ?X60r) (AllReadyH.nil)
              case X60h => simp only [List.getElem?_toArray, List.getElem?_cons_zero, List.getElem?_cons_succ]; rfl
              go_simp
              refine hK.out _ _ ?_ (fun hHeld2 => ?_)
              · exact ⟨PN.out.cells.1, PN.out.cells.2.1⟩
              clear hK K hHeld
              have hHeld := hHeld2
              clear hHeld2
              (try simp only [Act.put, List.setIfInBounds_toArray, List.set_cons_zero, List.set_cons_succ])
              refine wpAnyH_done (by kernel_rfl) (NoPanic.normal ?_) _
              clear hs1 hsum
              have PF := Aside0.mk ((PN.out.set3 (p.words + 1) (by show p.words + 1 ≤ 16; omega)).set1 (a + m) hmn)
              obtain ⟨h0, h1, h2, h3, h4, h5⟩ := PN.out.cells
              dsimp only at h1 h3
              have f1 := blk_frozen PN.out.box 1
              have f3 := blk_frozen PN.out.box 3
              have hb1 : (p.words : Int) + 1 ≤ 17 := by omega
              have hb2 : (a : Int) + (m : Int) ≤ 9223372036854775807 := by omega
              clear S0 hq4 HR HS3 HT GR PR PW e01 e4 f4 P5 P6 PN hHeld
              go_wp2
              go_ret
              exact ⟨rfl, _, PF.out⟩
            case X50r =>
              go_simp
              (go_at_call 30; go_loud (refine (token_Terms.calls A' _ tw (t :: tl) _ GR.out HR.out HS3.out HT.out).mono ?_; rintro e w5 ⟨v0, rfl, hR5, hb5⟩; obtain ⟨gt, ct, rfl, _, _, _⟩ := Kd.R_form hR5 (by simp); have P5 := Aside0.mk (PR.out.step hb5); have ht5 : w5.cell? ⟨gt, 0, none⟩ = some (.string t) := (Kd.R_cell (enc := Value.string) ByteArray.empty hR5 0 (by omega) (by simp)).1; have hp5 : 0 < (t :: tl).length := Nat.succ_pos _; have hp5' : (0 : Int) < ((t :: tl).length : Int) := Int.natCast_pos.mpr (Nat.succ_pos _); have q4 := P5.out.cells.2.2.2.2.1; have hgl := blk_lt P5.out.box; have P6 := Aside0.mk (P5.out.step (below_alloc (Below.refl w5.heap.size w5) (.cells #[.int .i64 0, .string t] 38))); have q4' := P6.out.cells.2.2.2.2.1; generalize (t :: tl).length = nl at *; clear hR5 hb5))
              refine hK.out _ _ ?_ (fun hHeld2 => ?_)
              · exact ⟨P5.out.cells.1, P5.out.cells.2.1⟩
              clear hK K hHeld
              have hHeld := hHeld2
              clear hHeld2
              (try simp only [Act.put, List.setIfInBounds_toArray, List.set_cons_zero, List.set_cons_succ])
              refine wpAnyH_take (i := 21) (oi := ?X61o) (v := ?X61v) ?X61h ?X61a ?X61b ?X61c (fun _ _ _ h => h) (Or.inl ⟨?X61e, ?X61y⟩) (by assumption) ?X61r
              case X61h => simp only [List.getElem?_toArray, List.getElem?_cons_zero, List.getElem?_cons_succ]; rfl
              case X61a => kernel_rfl
              case X61b => kernel_rfl
              case X61c => kernel_rfl
              case X61e => rfl
              case X61y => first | (intro w hSw; (try dsimp only at hSw); go_simp; done) | (intro w hSw; (try dsimp only at hSw); go_simp; with_reducible rfl)
              (try simp only [Act.put, List.setIfInBounds_toArray, List.set_cons_zero, List.set_cons_succ])
              refine wpAnyH_ready (rs := [4, 22]) (by kernel_rfl) (by simp) ?_
              refine AllReadyH.cons (o := ?X63o) ?X63h (fun K hK => ?X63r) (AllReadyH.cons (o := ?X62o) ?X62h (fun K hK => ?X62r) (AllReadyH.nil))
              case X63h => simp only [List.getElem?_toArray, List.getElem?_cons_zero, List.getElem?_cons_succ]; rfl
              case X62h => simp only [List.getElem?_toArray, List.getElem?_cons_zero, List.getElem?_cons_succ]; rfl
              case X63r =>
                go_simp
                refine hK.out _ _ ?_ (fun hHeld2 => ?_)
                · exact hHeld
                clear hK K hHeld
                have hHeld := hHeld2
                clear hHeld2
                (try simp only [Act.put, List.setIfInBounds_toArray, List.set_cons_zero, List.set_cons_succ])
                refine wpAnyH_ready (rs := [22]) (by kernel_rfl) (by simp) ?_
                refine AllReadyH.cons (o := ?X64o) ?X64h (fun K hK => ?X64r) (AllReadyH.nil)
                case X64h => simp only [List.getElem?_toArray, List.getElem?_cons_zero, List.getElem?_cons_succ]; rfl
                go_simp
                refine hK.out _ _ ?_ (fun hHeld2 => ?_)
                · exact hHeld
                clear hK K hHeld
                have hHeld := hHeld2
                clear hHeld2
                (try simp only [Act.put, List.setIfInBounds_toArray, List.set_cons_zero, List.set_cons_succ])
                refine wpAnyH_take (i := 23) (oi := ?X65o) (v := ?X65v) ?X65h ?X65a ?X65b ?X65c (fun _ _ _ h => h) (Or.inl ⟨?X65e, ?X65y⟩) (by assumption) ?X65r
                case X65h => simp only [List.getElem?_toArray, List.getElem?_cons_zero, List.getElem?_cons_succ]; rfl
                case X65a => kernel_rfl
                case X65b => kernel_rfl
                case X65c => kernel_rfl
                case X65e => rfl
                case X65y => first | (intro w hSw; (try dsimp only at hSw); go_simp; done) | (intro w hSw; (try dsimp only at hSw); go_simp; with_reducible rfl)
                (try simp only [Act.put, List.setIfInBounds_toArray, List.set_cons_zero, List.set_cons_succ])
                refine wpAnyH_ready (rs := [24]) (by kernel_rfl) (by simp) ?_
                refine AllReadyH.cons (o := ?X66o) ?X66h (fun K hK => ?X66r) (AllReadyH.nil)
                case X66h => simp only [List.getElem?_toArray, List.getElem?_cons_zero, List.getElem?_cons_succ]; rfl
                go_simp
                refine hK.out _ _ ?_ (fun hHeld2 => ?_)
                · exact ⟨P6.out.cells.1, P6.out.cells.2.1⟩
                clear hK K hHeld
                have hHeld := hHeld2
                clear hHeld2
                (try simp only [Act.put, List.setIfInBounds_toArray, List.set_cons_zero, List.set_cons_succ])
                refine wpAnyH_ready (rs := [25]) (by kernel_rfl) (by simp) ?_
                refine AllReadyH.cons (o := ?X67o) ?X67h (fun K hK => ?X67r) (AllReadyH.nil)
                case X67h => simp only [List.getElem?_toArray, List.getElem?_cons_zero, List.getElem?_cons_succ]; rfl
                (refine Kd.S_append_step k38 (w0 := w0) w0.heap.size (by rfl) (.tmp 103) (.tmp 123) 22 38 (.agg #[.int .i64 0, .string ByteArray.empty]) 24 rfl Tryd.underlying22 info_Op rfl (by decide) (by decide) v4 p.out ⟨0, t⟩ [.int .i64 0, .string t] (fun k => k ≠ g) (fun _ => False) rfl rfl (k38_mkM _ _ _ ⟨0, t⟩) (fun _ h => h.elim) (fun k hk => by omega) (Kd.S_mono P5.out.out (fun k hk => ⟨hk, id⟩)) P5.out.below (below_size P5.out.below) (by have := hol; omega) ?_; intro v7 w6 hS6 hb6 hg6 hat6)
                obtain ⟨A7, c7, hv7⟩ := Kd.S_slice hS6
                rw [List.length_append, List.length_singleton] at hv7
                subst hv7
                have PN := Aside0.mk (P5.out.append hg6 hb6 hS6)
                have hB6 := blk_grown P5.out.box hg6 P5.out.away
                have e4 := (blk_cell hB6 4).trans rfl
                have f4 := blk_frozen hB6 4
                have e01 : w6.cell? ⟨g, 0, none⟩ = some (.slice A0 b.length c0) ∧ w6.cell? ⟨g, 1, none⟩ = some (.int .i64 (a : Int)) := ⟨(blk_cell hB6 0).trans rfl, (blk_cell hB6 1).trans rfl⟩
                clear hg6 hb6 hS6 hat6 hB6
                refine hK.out _ _ ?_ (fun hHeld2 => ?_)
                · exact e01
                clear hK K hHeld
                have hHeld := hHeld2
                clear hHeld2
                (try simp only [Act.put, List.setIfInBounds_toArray, List.set_cons_zero, List.set_cons_succ])
                refine wpAnyH_take (i := 26) (oi := ?X68o) (v := ?X68v) ?X68h ?X68a ?X68b ?X68c (fun _ _ _ h => h) (Or.inl ⟨?X68e, ?X68y⟩) (by assumption) ?X68r
                case X68h => simp only [List.getElem?_toArray, List.getElem?_cons_zero, List.getElem?_cons_succ]; rfl
                case X68a => kernel_rfl
                case X68b => kernel_rfl
                case X68c => kernel_rfl
                case X68e => rfl
                case X68y => first | (intro w hSw; (try dsimp only at hSw); go_simp; done) | (intro w hSw; (try dsimp only at hSw); go_simp; with_reducible rfl)
                (try simp only [Act.put, List.setIfInBounds_toArray, List.set_cons_zero, List.set_cons_succ])
                refine wpAnyH_take (i := 27) (oi := ?X69o) (v := ?X69v) ?X69h ?X69a ?X69b ?X69c (fun _ _ _ h => h) (Or.inl ⟨?X69e, ?X69y⟩) (by assumption) ?X69r
                case X69h => simp only [List.getElem?_toArray, List.getElem?_cons_zero, List.getElem?_cons_succ]; rfl
                case X69a => kernel_rfl
                case X69b => kernel_rfl
                case X69c => kernel_rfl
                case X69e => rfl
                case X69y => first | (intro w hSw; (try dsimp only at hSw); go_simp; done) | (intro w hSw; (try dsimp only at hSw); go_simp; with_reducible rfl)
                (try simp only [Act.put, List.setIfInBounds_toArray, List.set_cons_zero, List.set_cons_succ])
                refine wpAnyH_ready (rs := [28]) (by kernel_rfl) (by simp) ?_
                refine AllReadyH.cons (o := ?X70o) ?X70h (fun K hK => ?X70r) (AllReadyH.nil)
                case X70h => simp only [List.getElem?_toArray, List.getElem?_cons_zero, List.getElem?_cons_succ]; rfl
                go_simp
                refine hK.out _ _ ?_ (fun hHeld2 => ?_)
                · exact ⟨PN.out.cells.1, PN.out.cells.2.1⟩
                clear hK K hHeld
                have hHeld := hHeld2
                clear hHeld2
                (try simp only [Act.put, List.setIfInBounds_toArray, List.set_cons_zero, List.set_cons_succ])
                refine wpAnyH_done (by kernel_rfl) (NoPanic.normal ?_) _
                clear hs1 hsum
                have PF := Aside0.mk ((PN.out.set3 (p.words + 1) (by show p.words + 1 ≤ 16; omega)).set1 (a + m) hmn)
                obtain ⟨h0, h1, h2, h3, h4, h5⟩ := PN.out.cells
                dsimp only at h1 h3
                have f1 := blk_frozen PN.out.box 1
                have f3 := blk_frozen PN.out.box 3
                have hb1 : (p.words : Int) + 1 ≤ 17 := by omega
                have hb2 : (a : Int) + (m : Int) ≤ 9223372036854775807 := by omega
                clear S0 hq4 HR HS3 HT GR PR PW e01 e4 f4 P5 P6 PN hHeld
                go_wp2
                go_ret
                exact ⟨rfl, _, PF.out⟩
              case X62r =>
                go_simp
                refine hK.out _ _ ?_ (fun hHeld2 => ?_)
                · exact hHeld
                clear hK K hHeld
                have hHeld := hHeld2
                clear hHeld2
                (try simp only [Act.put, List.setIfInBounds_toArray, List.set_cons_zero, List.set_cons_succ])
                refine wpAnyH_take (i := 23) (oi := ?X71o) (v := ?X71v) ?X71h ?X71a ?X71b ?X71c (fun _ _ _ h => h) (Or.inl ⟨?X71e, ?X71y⟩) (by assumption) ?X71r
                case X71h => simp only [List.getElem?_toArray, List.getElem?_cons_zero, List.getElem?_cons_succ]; rfl
                case X71a => kernel_rfl
                case X71b => kernel_rfl
                case X71c => kernel_rfl
                case X71e => rfl
                case X71y => first | (intro w hSw; (try dsimp only at hSw); go_simp; done) | (intro w hSw; (try dsimp only at hSw); go_simp; with_reducible rfl)
                (try simp only [Act.put, List.setIfInBounds_toArray, List.set_cons_zero, List.set_cons_succ])
                refine wpAnyH_ready (rs := [4, 24]) (by kernel_rfl) (by simp) ?_
                refine AllReadyH.cons (o := ?X73o) ?X73h (fun K hK => ?X73r) (AllReadyH.cons (o := ?X72o) ?X72h (fun K hK => ?X72r) (AllReadyH.nil))
                case X73h => simp only [List.getElem?_toArray, List.getElem?_cons_zero, List.getElem?_cons_succ]; rfl
                case X72h => simp only [List.getElem?_toArray, List.getElem?_cons_zero, List.getElem?_cons_succ]; rfl
                case X73r =>
                  go_simp
                  refine hK.out _ _ ?_ (fun hHeld2 => ?_)
                  · exact hHeld
                  clear hK K hHeld
                  have hHeld := hHeld2
                  clear hHeld2
                  (try simp only [Act.put, List.setIfInBounds_toArray, List.set_cons_zero, List.set_cons_succ])
                  refine wpAnyH_ready (rs := [24]) (by kernel_rfl) (by simp) ?_
                  refine AllReadyH.cons (o := ?X74o) ?X74h (fun K hK => ?X74r) (AllReadyH.nil)
                  case X74h => simp only [List.getElem?_toArray, List.getElem?_cons_zero, List.getElem?_cons_succ]; rfl
                  go_simp
                  refine hK.out _ _ ?_ (fun hHeld2 => ?_)
                  · exact ⟨P6.out.cells.1, P6.out.cells.2.1⟩
                  clear hK K hHeld
                  have hHeld := hHeld2
                  clear hHeld2
                  (try simp only [Act.put, List.setIfInBounds_toArray, List.set_cons_zero, List.set_cons_succ])
                  refine wpAnyH_ready (rs := [25]) (by kernel_rfl) (by simp) ?_
                  refine AllReadyH.cons (o := ?X75o) ?X75h (fun K hK => ?X75r) (AllReadyH.nil)
                  case X75h => simp only [List.getElem?_toArray, List.getElem?_cons_zero, List.getElem?_cons_succ]; rfl
                  (refine Kd.S_append_step k38 (w0 := w0) w0.heap.size (by rfl) (.tmp 103) (.tmp 123) 22 38 (.agg #[.int .i64 0, .string ByteArray.empty]) 24 rfl Tryd.underlying22 info_Op rfl (by decide) (by decide) v4 p.out ⟨0, t⟩ [.int .i64 0, .string t] (fun k => k ≠ g) (fun _ => False) rfl rfl (k38_mkM _ _ _ ⟨0, t⟩) (fun _ h => h.elim) (fun k hk => by omega) (Kd.S_mono P5.out.out (fun k hk => ⟨hk, id⟩)) P5.out.below (below_size P5.out.below) (by have := hol; omega) ?_; intro v7 w6 hS6 hb6 hg6 hat6)
                  obtain ⟨A7, c7, hv7⟩ := Kd.S_slice hS6
                  rw [List.length_append, List.length_singleton] at hv7
                  subst hv7
                  have PN := Aside0.mk (P5.out.append hg6 hb6 hS6)
                  have hB6 := blk_grown P5.out.box hg6 P5.out.away
                  have e4 := (blk_cell hB6 4).trans rfl
                  have f4 := blk_frozen hB6 4
                  have e01 : w6.cell? ⟨g, 0, none⟩ = some (.slice A0 b.length c0) ∧ w6.cell? ⟨g, 1, none⟩ = some (.int .i64 (a : Int)) := ⟨(blk_cell hB6 0).trans rfl, (blk_cell hB6 1).trans rfl⟩
                  clear hg6 hb6 hS6 hat6 hB6
                  refine hK.out _ _ ?_ (fun hHeld2 => ?_)
                  · exact e01
                  clear hK K hHeld
                  have hHeld := hHeld2
                  clear hHeld2
                  (try simp only [Act.put, List.setIfInBounds_toArray, List.set_cons_zero, List.set_cons_succ])
                  refine wpAnyH_take (i := 26) (oi := ?X76o) (v := ?X76v) ?X76h ?X76a ?X76b ?X76c (fun _ _ _ h => h) (Or.inl ⟨?X76e, ?X76y⟩) (by assumption) ?X76r
                  case X76h => simp only [List.getElem?_toArray, List.getElem?_cons_zero, List.getElem?_cons_succ]; rfl
                  case X76a => kernel_rfl
                  case X76b => kernel_rfl
                  case X76c => kernel_rfl
                  case X76e => rfl
                  case X76y => first | (intro w hSw; (try dsimp only at hSw); go_simp; done) | (intro w hSw; (try dsimp only at hSw); go_simp; with_reducible rfl)
                  (try simp only [Act.put, List.setIfInBounds_toArray, List.set_cons_zero, List.set_cons_succ])
                  refine wpAnyH_take (i := 27) (oi := ?X77o) (v := ?X77v) ?X77h ?X77a ?X77b ?X77c (fun _ _ _ h => h) (Or.inl ⟨?X77e, ?X77y⟩) (by assumption) ?X77r
                  case X77h => simp only [List.getElem?_toArray, List.getElem?_cons_zero, List.getElem?_cons_succ]; rfl
                  case X77a => kernel_rfl
                  case X77b => kernel_rfl
                  case X77c => kernel_rfl
                  case X77e => rfl
                  case X77y => first | (intro w hSw; (try dsimp only at hSw); go_simp; done) | (intro w hSw; (try dsimp only at hSw); go_simp; with_reducible rfl)
                  (try simp only [Act.put, List.setIfInBounds_toArray, List.set_cons_zero, List.set_cons_succ])
                  refine wpAnyH_ready (rs := [28]) (by kernel_rfl) (by simp) ?_
                  refine AllReadyH.cons (o := ?X78o) ?X78h (fun K hK => ?X78r) (AllReadyH.nil)
                  case X78h => simp only [List.getElem?_toArray, List.getElem?_cons_zero, List.getElem?_cons_succ]; rfl
                  go_simp
                  refine hK.out _ _ ?_ (fun hHeld2 => ?_)
                  · exact ⟨PN.out.cells.1, PN.out.cells.2.1⟩
                  clear hK K hHeld
                  have hHeld := hHeld2
                  clear hHeld2
                  (try simp only [Act.put, List.setIfInBounds_toArray, List.set_cons_zero, List.set_cons_succ])
                  refine wpAnyH_done (by kernel_rfl) (NoPanic.normal ?_) _
                  clear hs1 hsum
                  have PF := Aside0.mk ((PN.out.set3 (p.words + 1) (by show p.words + 1 ≤ 16; omega)).set1 (a + m) hmn)
                  obtain ⟨h0, h1, h2, h3, h4, h5⟩ := PN.out.cells
                  dsimp only at h1 h3
                  have f1 := blk_frozen PN.out.box 1
                  have f3 := blk_frozen PN.out.box 3
                  have hb1 : (p.words : Int) + 1 ≤ 17 := by omega
                  have hb2 : (a : Int) + (m : Int) ≤ 9223372036854775807 := by omega
                  clear S0 hq4 HR HS3 HT GR PR PW e01 e4 f4 P5 P6 PN hHeld
                  go_wp2
                  go_ret
                  exact ⟨rfl, _, PF.out⟩
                case X72r =>
                  go_simp
                  refine hK.out _ _ ?_ (fun hHeld2 => ?_)
                  · exact ⟨P6.out.cells.1, P6.out.cells.2.1⟩
                  clear hK K hHeld
                  have hHeld := hHeld2
                  clear hHeld2
                  (try simp only [Act.put, List.setIfInBounds_toArray, List.set_cons_zero, List.set_cons_succ])
                  refine wpAnyH_ready (rs := [4]) (by kernel_rfl) (by simp) ?_
                  refine AllReadyH.cons (o := ?X79o) ?X79h (fun K hK => ?X79r) (AllReadyH.nil)
                  case X79h => simp only [List.getElem?_toArray, List.getElem?_cons_zero, List.getElem?_cons_succ]; rfl
                  go_simp
                  refine hK.out _ _ ?_ (fun hHeld2 => ?_)
                  · exact hHeld
                  clear hK K hHeld
                  have hHeld := hHeld2
                  clear hHeld2
                  (try simp only [Act.put, List.setIfInBounds_toArray, List.set_cons_zero, List.set_cons_succ])
                  refine wpAnyH_ready (rs := [25]) (by kernel_rfl) (by simp) ?_
                  refine AllReadyH.cons (o := ?X80o) ?X80h (fun K hK => ?X80r) (AllReadyH.nil)
                  case X80h => simp only [List.getElem?_toArray, List.getElem?_cons_zero, List.getElem?_cons_succ]; rfl
                  (refine Kd.S_append_step k38 (w0 := w0) w0.heap.size (by rfl) (.tmp 103) (.tmp 123) 22 38 (.agg #[.int .i64 0, .string ByteArray.empty]) 24 rfl Tryd.underlying22 info_Op rfl (by decide) (by decide) v4 p.out ⟨0, t⟩ [.int .i64 0, .string t] (fun k => k ≠ g) (fun _ => False) rfl rfl (k38_mkM _ _ _ ⟨0, t⟩) (fun _ h => h.elim) (fun k hk => by omega) (Kd.S_mono P5.out.out (fun k hk => ⟨hk, id⟩)) P5.out.below (below_size P5.out.below) (by have := hol; omega) ?_; intro v7 w6 hS6 hb6 hg6 hat6)
                  obtain ⟨A7, c7, hv7⟩ := Kd.S_slice hS6
                  rw [List.length_append, List.length_singleton] at hv7
                  subst hv7
                  have PN := Aside0.mk (P5.out.append hg6 hb6 hS6)
                  have hB6 := blk_grown P5.out.box hg6 P5.out.away
                  have e4 := (blk_cell hB6 4).trans rfl
                  have f4 := blk_frozen hB6 4
                  have e01 : w6.cell? ⟨g, 0, none⟩ = some (.slice A0 b.length c0) ∧ w6.cell? ⟨g, 1, none⟩ = some (.int .i64 (a : Int)) := ⟨(blk_cell hB6 0).trans rfl, (blk_cell hB6 1).trans rfl⟩
                  clear hg6 hb6 hS6 hat6 hB6
                  refine hK.out _ _ ?_ (fun hHeld2 => ?_)
                  · exact e01
                  clear hK K hHeld
                  have hHeld := hHeld2
                  clear hHeld2
                  (try simp only [Act.put, List.setIfInBounds_toArray, List.set_cons_zero, List.set_cons_succ])
                  refine wpAnyH_take (i := 26) (oi := ?X81o) (v := ?X81v) ?X81h ?X81a ?X81b ?X81c (fun _ _ _ h => h) (Or.inl ⟨?X81e, ?X81y⟩) (by assumption) ?X81r
                  case X81h => simp only [List.getElem?_toArray, List.getElem?_cons_zero, List.getElem?_cons_succ]; rfl
                  case X81a => kernel_rfl
                  case X81b => kernel_rfl
                  case X81c => kernel_rfl
                  case X81e => rfl
                  case X81y => first | (intro w hSw; (try dsimp only at hSw); go_simp; done) | (intro w hSw; (try dsimp only at hSw); go_simp; with_reducible rfl)
                  (try simp only [Act.put, List.setIfInBounds_toArray, List.set_cons_zero, List.set_cons_succ])
                  refine wpAnyH_take (i := 27) (oi := ?X82o) (v := ?X82v) ?X82h ?X82a ?X82b ?X82c (fun _ _ _ h => h) (Or.inl ⟨?X82e, ?X82y⟩) (by assumption) ?X82r
                  case X82h => simp only [List.getElem?_toArray, List.getElem?_cons_zero, List.getElem?_cons_succ]; rfl
                  case X82a => kernel_rfl
                  case X82b => kernel_rfl
                  case X82c => kernel_rfl
                  case X82e => rfl
                  case X82y => first | (intro w hSw; (try dsimp only at hSw); go_simp; done) | (intro w hSw; (try dsimp only at hSw); go_simp; with_reducible rfl)
                  (try simp only [Act.put, List.setIfInBounds_toArray, List.set_cons_zero, List.set_cons_succ])
                  refine wpAnyH_ready (rs := [28]) (by kernel_rfl) (by simp) ?_
                  refine AllReadyH.cons (o := ?X83o) ?X83h (fun K hK => ?X83r) (AllReadyH.nil)
                  case X83h => simp only [List.getElem?_toArray, List.getElem?_cons_zero, List.getElem?_cons_succ]; rfl
                  go_simp
                  refine hK.out _ _ ?_ (fun hHeld2 => ?_)
                  · exact ⟨PN.out.cells.1, PN.out.cells.2.1⟩
                  clear hK K hHeld
                  have hHeld := hHeld2
                  clear hHeld2
                  (try simp only [Act.put, List.setIfInBounds_toArray, List.set_cons_zero, List.set_cons_succ])
                  refine wpAnyH_done (by kernel_rfl) (NoPanic.normal ?_) _
                  clear hs1 hsum
                  have PF := Aside0.mk ((PN.out.set3 (p.words + 1) (by show p.words + 1 ≤ 16; omega)).set1 (a + m) hmn)
                  obtain ⟨h0, h1, h2, h3, h4, h5⟩ := PN.out.cells
                  dsimp only at h1 h3
                  have f1 := blk_frozen PN.out.box 1
                  have f3 := blk_frozen PN.out.box 3
                  have hb1 : (p.words : Int) + 1 ≤ 17 := by omega
                  have hb2 : (a : Int) + (m : Int) ≤ 9223372036854775807 := by omega
                  clear S0 hq4 HR HS3 HT GR PR PW e01 e4 f4 P5 P6 PN hHeld
                  go_wp2
                  go_ret
                  exact ⟨rfl, _, PF.out⟩
        · have hF := (if_neg c5).symm.trans HF.out
          obtain ⟨rfl, rfl⟩ := Prod.mk.inj (Option.some.inj hF)
          have hn1 : decide ((0 : Int) < n) = false := decide_eq_false c5
          clear hF HF
          go_wp2
          go_quiet (fail)
          go_wp2_with (go_at_call 38; go_loud (refine (p_fail (P3.out.step (pw_below_drewN (Below.refl _ _) nq)) 2).mono ?_; rintro e w4 ⟨rfl, hP4⟩; refine hold ?_))
          unfold Held
          go_wp2
          go_ret
          exact ⟨rfl, v4, hP4⟩
end Go.Proofs.YteofdfknemopiaaDoor.P
end
section
/- query.Parse by hand (8): unit, part and asking together; Parse walked. -/
set_option linter.unusedVariables false
set_option linter.unusedSimpArgs false
namespace Go.Proofs.YteofdfknemopiaaDoor.P
open Go.RowKit Go.Proofs.YteofdfknemopiaaDoorW.PrintWords Go.Proofs.YteofdfknemopiaaDoorW.PrintLast Go.Proofs.YteofdfknemopiaaDoorW.PrintMore
attribute [local go_sem] Go.Instr.field Go.part Go.asAgg
theorem all_of {w0 : World} {g : Nat} {A0 : Option Addr} {c0 : Nat} {b : List Int} (kw : Nat) (hG : G w0) : ∀ K : Nat,
    PCalls w0 g A0 c0 b 31 (unitF kw b K) ∧ PCalls w0 g A0 c0 b 23 (partF kw b K) ∧ PCalls w0 g A0 c0 b 17 (askF kw b K) := by
  intro K
  induction K using Nat.strongRecOn with
  | ind K ih => exact ⟨unit_of kw K hG (fun k hk => (ih k hk).2.2), part_of kw K (fun k hk => (ih k hk).1), ask_of kw K (fun k hk => (ih k hk).2.1)⟩
def query_Parse.f (b : List Int) : Option (List Qo × Int × Int) :=
  if (b.length : Int) > 2000 then some ([], 0, 8)
  else (askF (b.length + 100) b (4 * b.length + 20) ⟨0, 0, 0, [], 0⟩).bind fun r =>
    if r.1 = true then (if skipN b r.2.at_ < b.length then some ([], (skipN b r.2.at_ : Int), 2) else some (r.2.out, 0, 0))
    else some ([], (r.2.at_ : Int), r.2.e)
set_option maxHeartbeats 4000000 in
set_option maxRecDepth 100000 in
theorem query_Parse.calls (A0 : Option Addr) (c0 : Nat) (b : List Int) (l : List Qo) (i e : Int) (w : World) (hG : G w) (hr : Kd.C (Kd.int .u8) w A0 b.length b) (hc : b.length ≤ c0) (h : query_Parse.f b = some (l, i, e)) :
    Calls Tryd.prog 10 #[.slice A0 b.length c0] w fun en w' => ∃ v0_ : Value, en = .returned (.tuple #[v0_, .int .i64 i, .int .i64 e]) ∧ Kd.R k38 38 w' w.heap.size (fun _ => True) v0_ l ∧ Below w.heap.size w w' := by
  unfold query_Parse.f at h
  have hmax : b.length ≤ 9223372036854775807 := hr.2.1
  by_cases c1 : (b.length : Int) > 2000
  · rw [if_pos c1] at h
    simp only [Option.some.injEq, Prod.mk.injEq] at h
    obtain ⟨rfl, rfl, rfl⟩ := h
    have d1 : decide ((2000 : Int) < (b.length : Int)) = true := decide_eq_true c1
    go_enter Tryd.func10, Tryd.ntmps10
    go_wp2
    go_ret3
    exact ⟨_, rfl, Kd.R_nil _ _ _ _ _, Below.refl _ _⟩
  · rw [if_neg c1] at h
    obtain ⟨⟨r, q⟩, ha, h⟩ := Option.bind_eq_some_iff.1 h
    have d1 : decide ((2000 : Int) < (b.length : Int)) = false := decide_eq_false c1
    have H := Aside0.mk h
    have P0 : Aside0 (PI w w.heap.size A0 c0 b ⟨0, 0, 0, [], 0⟩ (.slice none 0 0) (w.alloc (.cells #[.slice A0 b.length c0, .int .i64 0, .int .i64 0, .int .i64 0, .slice none 0 0, .int .i64 0] 45))) :=
      ⟨⟨below_alloc (Below.refl _ _) _, Nat.le_refl _, blk_new w _, hr, hc, Kd.S_nil _ _ _ _ _, Nat.zero_le _, Nat.zero_le _, Nat.zero_le _⟩⟩
    have HA := Aside0.mk ((all_of (g := w.heap.size) (A0 := A0) (c0 := c0) (b := b) (b.length + 100) hG (4 * b.length + 20)).2.2 _ ⟨0, 0, 0, [], 0⟩ _ r q P0.out ha)
    clear h ha hG hr c1 P0
    go_enter Tryd.func10, Tryd.ntmps10
    go_wp2_with (go_at_call 17; go_loud (refine HA.out.mono ?_; rintro en w2 ⟨rfl, v4, hP⟩; refine hold ?_))
    unfold Held
    have P1 := Aside0.mk hP
    clear hP HA
    have hle := P1.out.le
    cases r with
    | false =>
      have h := H.out
      rw [if_neg (by simp)] at h
      simp only [Option.some.injEq, Prod.mk.injEq] at h
      obtain ⟨rfl, rfl, rfl⟩ := h
      obtain ⟨h0, h1, h2, h3, h4, h5⟩ := P1.out.cells
      go_wp2
      go_quiet (fail)
      go_wp2
      go_ret3
      exact ⟨_, rfl, Kd.R_nil _ _ _ _ _, (P1.out.step (pw_below_drewN (Below.refl _ _) _)).below⟩
    | true =>
      have h := (if_pos rfl).symm.trans H.out
      clear H
      have H := Aside0.mk h
      have hNx := p_next P1.out
      have hle2 := skipN_le b q.at_ hle
      clear h
      generalize skipN b q.at_ = a at hNx H hle2
      have HN := Aside0.mk hNx
      clear hNx P1
      go_wp2_with (go_at_call 18; go_loud (refine HN.out.mono ?_; rintro en w3 ⟨rfl, hP⟩; refine hold ?_))
      unfold Held
      have P2 := Aside0.mk hP
      clear hP HN
      obtain ⟨h0, h1, h2, h3, h4, h5⟩ := P2.out.cells
      dsimp only at h1
      have h := H.out
      by_cases c2 : a < b.length
      · rw [if_pos c2] at h
        simp only [Option.some.injEq, Prod.mk.injEq] at h
        obtain ⟨rfl, rfl, rfl⟩ := h
        have d2 : decide ((a : Int) < (b.length : Int)) = true := decide_eq_true (by omega)
        go_wp2
        go_quiet (fail)
        go_wp2
        go_ret3
        exact ⟨_, rfl, Kd.R_nil _ _ _ _ _, (P2.out.step (pw_below_drewN (Below.refl _ _) _)).below⟩
      · rw [if_neg c2] at h
        simp only [Option.some.injEq, Prod.mk.injEq] at h
        obtain ⟨rfl, rfl, rfl⟩ := h
        have d2 : decide ((a : Int) < (b.length : Int)) = false := decide_eq_false (by omega)
        go_wp2
        go_ret3
        exact ⟨_, rfl, Kd.R_mono (Kd.S_R P2.out.out) (fun _ _ => trivial), P2.out.below⟩
end Go.Proofs.YteofdfknemopiaaDoor.P
end
section
/- query.Print by hand: a stack of texts; append(stack[:top-1], ..). -/
set_option linter.unusedVariables false
set_option linter.unusedSimpArgs false
namespace Go.Proofs.YteofdfknemopiaaDoor.P
open Go.RowKit Go.Proofs.YteofdfknemopiaaDoorW.PrintWords Go.Proofs.YteofdfknemopiaaDoorW.PrintLast Go.Proofs.YteofdfknemopiaaDoorW.PrintMore
attribute [local go_sem] Go.Instr.field Go.part Go.asAgg
/-- The sign of a kind. -/
def signN (k : Int) : Int := if k = 1 then 38 else if k = 2 then 124 else 33
/-- Two texts and the sign between, in brackets. -/
def joinS (k : Int) (x y : ByteArray) : ByteArray := (⟨#[40]⟩ : ByteArray) ++ x ++ strOfNums [signN k] ++ y ++ (⟨#[41]⟩ : ByteArray)
/-- The stack behind steps. -/
def printS : List Qo → List ByteArray → Option (List ByteArray)
  | [], st => some st
  | o :: os, st =>
    if o.f0 = 0 then (if st.length < 100000 then printS os (st ++ [o.f1]) else none)
    else if 2 ≤ st.length ∧ st.length < 100000 ∧ 1 ≤ o.f0 ∧ o.f0 ≤ 3 ∧ (st.getD (st.length - 2) ByteArray.empty).size + (st.getD (st.length - 1) ByteArray.empty).size ≤ 1000000 then
      printS os (st.take (st.length - 2) ++ [joinS o.f0 (st.getD (st.length - 2) ByteArray.empty) (st.getD (st.length - 1) ByteArray.empty)])
    else none
def query_Print.f (l : List Qo) : Option (ByteArray × Int) :=
  (query_Right.f (4 * l.length + 20) l).bind fun ok =>
    if ok = true then (printS l []).bind fun st => (match st with | [] => none | s :: _ => some (s, 0))
    else some (⟨#[]⟩, 1)
theorem rdOf_nat (st : List ByteArray) (m : Nat) : rdOf ByteArray.empty st (m : Int) = st.getD m ByteArray.empty := by
  unfold rdOf
  rw [Int.toNat_natCast]
theorem sign_slice1 (W : World) : (Instr.sliceAt 42 (.pointer (some ⟨0, 0, none⟩)) (some (.int .i64 1)) (some (.int .i64 (1 + 1))) none).run Tryd.prog W = .ok (.slice (some ⟨0, (1 : Int).toNat, none⟩) 1 (4 - (1 : Int).toNat)) W := by kernel_rfl
theorem sign_slice2 (W : World) : (Instr.sliceAt 42 (.pointer (some ⟨0, 0, none⟩)) (some (.int .i64 2)) (some (.int .i64 (2 + 1))) none).run Tryd.prog W = .ok (.slice (some ⟨0, (2 : Int).toNat, none⟩) 1 (4 - (2 : Int).toNat)) W := by kernel_rfl
theorem sign_slice3 (W : World) : (Instr.sliceAt 42 (.pointer (some ⟨0, 0, none⟩)) (some (.int .i64 3)) (some (.int .i64 (3 + 1))) none).run Tryd.prog W = .ok (.slice (some ⟨0, (3 : Int).toNat, none⟩) 1 (4 - (3 : Int).toNat)) W := by kernel_rfl
theorem sign_slice (kd : Int) (h1 : 1 ≤ kd) (h3 : kd ≤ 3) : ∀ W : World, (Instr.sliceAt 42 (.pointer (some ⟨0, 0, none⟩)) (some (.int .i64 kd)) (some (.int .i64 (kd + 1))) none).run Tryd.prog W = .ok (.slice (some ⟨0, kd.toNat, none⟩) 1 (4 - kd.toNat)) W := by
  intro W
  have hc : kd = 1 ∨ kd = 2 ∨ kd = 3 := by omega
  rcases hc with rfl | rfl | rfl
  · exact sign_slice1 W
  · exact sign_slice2 W
  · exact sign_slice3 W
theorem sign_reads (kd : Int) (h1 : 1 ≤ kd) (h3 : kd ≤ 3) {W : World} (hG : G W) : (Kd.int .u8).C W (some ⟨0, kd.toNat, none⟩) 1 [signN kd] := by
  obtain ⟨t, fr, hb⟩ := hG.signs
  refine ⟨rfl, by decide, fun _ => ⟨_, rfl, fun j p hj => ?_⟩⟩
  cases j with
  | succ j => simp at hj
  | zero =>
    obtain rfl : signN kd = p := by simpa using hj
    refine ⟨[.int .u8 (signN kd)], rfl, rfl, fun i u hu => ?_⟩
    cases i with
    | succ i => simp at hu
    | zero =>
      obtain rfl : Value.int .u8 (signN kd) = u := by simpa using hu
      have hc : kd = 1 ∨ kd = 2 ∨ kd = 3 := by omega
      rcases hc with rfl | rfl | rfl
      · simp [World.cell?, hb, signCells, Addr.add, signN, Kd.int, Kd.scalar]
      · simp [World.cell?, hb, signCells, Addr.add, signN, Kd.int, Kd.scalar]
      · simp [World.cell?, hb, signCells, Addr.add, signN, Kd.int, Kd.scalar]
/-- What the join's region reads all the while. -/
structure PSt (gb : Nat) (kd : Int) (W : World) : Prop where
  k : W.cell? ⟨gb, 0, none⟩ = some (.int .i64 kd)
  g : G W
theorem PSt.step {gb : Nat} {kd : Int} {W W' : World} (h : PSt gb kd W) (hb : Below W.heap.size W W') : PSt gb kd W' :=
  ⟨(hb.cell (World.block_lt_of_cell? W _ h.k)).trans h.k, h.g.below hb⟩
set_option maxHeartbeats 4000000 in
set_option maxRecDepth 100000 in
theorem query_Print.calls (A0 : Option Addr) (c0 : Nat) (l : List Qo) (s : ByteArray) (e : Int) (w : World) (hG : G w) (hr : Kd.C k38 w A0 l.length l) (hc : l.length ≤ c0) (h : query_Print.f l = some (s, e)) :
    Calls Tryd.prog 9 #[.slice A0 l.length c0] w fun en w' => en = .returned (.tuple #[.string s, .int .i64 e]) ∧ Below w.heap.size w w' := by
  unfold query_Print.f at h
  have hmax : l.length ≤ 9223372036854775807 := hr.2.1
  obtain ⟨ok, hR, h⟩ := Option.bind_eq_some_iff.1 h
  have H := Aside0.mk h
  have HR := Aside0.mk hR
  have HG := Aside0.mk hG
  have HC := Aside0.mk hr
  clear h hR hG hr
  go_enter Tryd.func9, Tryd.ntmps9
  go_wp2_with (go_at_call 15; go_loud (refine (query_Right.calls _ A0 c0 l ok w HG.out HC.out hc HR.out).mono ?_; rintro en w1 ⟨rfl, hb⟩; refine hold ?_))
  unfold Held
  have B1 := Aside0.mk hb
  clear hb HR
  cases ok with
  | false =>
    have h := H.out
    rw [if_neg (by simp)] at h
    simp only [Option.some.injEq, Prod.mk.injEq] at h
    obtain ⟨rfl, rfl⟩ := h
    go_wp2
    go_ret2
    exact ⟨rfl, B1.out⟩
  | true =>
    have h := (if_pos rfl).symm.trans H.out
    obtain ⟨st', hP, h⟩ := Option.bind_eq_some_iff.1 h
    clear H
    have HP := Aside0.mk hP
    have H := Aside0.mk h
    clear hP h
    go_wp2
    go_loopw [4, 13] (fun v4 idx wr => ∃ (j : Nat) (st : List ByteArray), j ≤ l.length ∧ idx = .int .i64 (j : Int) ∧ Aside0 (printS (l.drop j) st = some st') ∧ Aside0 (Below w.heap.size w wr) ∧ Aside0 (Kd.R Kd.string 9 wr w.heap.size (fun _ => True) v4 st)) (fun _ idx _ => l.length - (intOf idx).toNat)
    case atStart => exact ⟨0, [], Nat.zero_le _, rfl, HP, B1, ⟨Kd.R_nil _ _ _ _ _⟩⟩
    case round =>
      clear B1 HP
      obtain ⟨j, st, hj, rfl, HP, HB, HS⟩ := hrel
      have hj0 : (0 : Int) ≤ (j : Int) := by omega
      by_cases hlt : j < l.length
      · have hjl : (j : Int) < (l.length : Int) := by omega
        obtain ⟨ad, e1, hx0, hx1⟩ := at_T38 HC.out (j : Int) hj0 hjl
        cases e1
        have hP := HP.out
        rw [List.drop_eq_getElem_cons hlt, printS] at hP
        have hrd : rd_T38 l (j : Int) = l[j] := by
          unfold rd_T38
          rw [Int.toNat_natCast, List.getD_eq_getElem?_getD, List.getElem?_eq_getElem hlt]; rfl
        rw [hrd] at hx0 hx1
        rw [Int.toNat_natCast] at hx0 hx1
        generalize l[j] = o at hP hx0 hx1
        obtain ⟨kd, tm⟩ := o
        dsimp only at hP hx0 hx1
        replace hx0 := (HB.out.cell (World.block_lt_of_cell? w _ hx0)).trans hx0
        replace hx1 := (HB.out.cell (World.block_lt_of_cell? w _ hx1)).trans hx1
        have HP1 := Aside0.mk hP
        clear hP hrd HP
        go_upto_region 7 with ((with_reducible refine gate_dst (N := 6) rfl ?_); refine box_event ?hg (N := 6) ?hd (cs := #[.int .i64 0, .string (⟨#[]⟩ : ByteArray)]) (t := 38) ?hr ?_; (case hd => rfl); (case hg => rfl); (case hr => first | (go_simp; done) | (go_simp; rfl)); intro gb hg w6 hbox hb6; have hz0 := (blk_cell hbox 0).trans rfl; have hz1 := (blk_cell hbox 1).trans rfl; have hf0 := blk_frozen hbox 0; have hf1 := blk_frozen hbox 1; have BX := Aside0.mk hbox; have HB6 := Aside0.mk hb6; have HG6 := Aside0.mk hg; clear hbox hb6 hg)
        have hgb : w.heap.size ≤ gb := by rw [HG6.out]; exact below_size HB.out
        have BX1 := Aside0.mk (blk_put (cs := #[.int .i64 kd, .string (⟨#[]⟩ : ByteArray)]) (blk_put BX.out 0 (.int .i64 kd) rfl) 1 (.string tm) rfl)
        have HB1 : Aside0 (Below w.heap.size w ((w6.setCell ⟨gb, 0, none⟩ (.int .i64 kd)).setCell ⟨gb, 1, none⟩ (.string tm))) := ⟨below_set (below_set (below_step HB.out HB6.out) hgb) hgb⟩
        have HSb := Aside0.mk (Kd.R_below (Kd.R_mono (ok' := fun k => k ≠ gb) (Kd.R_bound HS.out) (fun k hk => by have h1 := hk.2.2.1; have h2 := HG6.out; omega)) HB6.out)
        have HS1 : Aside0 (Kd.R Kd.string 9 ((w6.setCell ⟨gb, 0, none⟩ (.int .i64 kd)).setCell ⟨gb, 1, none⟩ (.string tm)) w.heap.size (fun k => k ≠ gb) u4 st) := ⟨Kd.R_far (p := ⟨gb, 1, none⟩) (Kd.R_far (p := ⟨gb, 0, none⟩) HSb.out (fun _ hk => hk) _) (fun _ hk => hk) _⟩
        generalize ((w6.setCell ⟨gb, 0, none⟩ (.int .i64 kd)).setCell ⟨gb, 1, none⟩ (.string tm)) = W1 at *
        clear HB HS HSb hz0 hz1 hf0 hf1 BX HB6 HG6 hx0 hx1
        have k0 : W1.cell? ⟨gb, 0, none⟩ = some (.int .i64 kd) := (blk_cell BX1.out 0).trans rfl
        have k1 : W1.cell? ⟨gb, 1, none⟩ = some (.string tm) := (blk_cell BX1.out 1).trans rfl
        by_cases c1 : kd = 0
        · subst c1
          have hP := (if_pos rfl).symm.trans HP1.out
          have hsl : st.length < 100000 := by
            rcases Nat.lt_or_ge st.length 100000 with h | h
            · exact h
            · rw [if_neg (by omega)] at hP; cases hP
          have HP2 := Aside0.mk ((if_pos hsl).symm.trans hP)
          clear hP HP1
          obtain ⟨A4, c4, rfl⟩ := Kd.R_slice HS1.out
          go_wp2_with ((refine Kd.R_append Kd.string (w0 := w) w.heap.size rfl (.tmp 20) (.tmp 23) 40 9 (.string ⟨#[]⟩) 16 rfl Tryd.underlying40 info9 rfl (by decide) (by decide) (.slice A4 st.length c4) st tm [.string tm] (fun _ => True) (fun _ => False) rfl rfl rfl (fun _ h => h.elim) (fun _ _ => trivial) (Kd.R_mono HS1.out (fun _ _ => trivial)) HB1.out (below_size HB1.out) (by have := hsl; omega) ?_; intro v5 w5 hS5 hb5 hg5 hat5; refine hold ?_))
          unfold Held
          have HB5 := Aside0.mk hb5
          have HS5 := Aside0.mk hS5
          clear hb5 hS5 hg5 hat5 HB1 HS1 k0 k1 BX1
          go_wp2
          exact ⟨⟨j + 1, st ++ [tm], by omega, by rw [Int.natCast_add]; rfl, HP2, HB5, HS5⟩, by simp [intOf]; omega⟩
        · have d1 : (kd == 0) = false := beq_eq_false_iff_ne.mpr c1
          have hP := (if_neg c1).symm.trans HP1.out
          have hcond : 2 ≤ st.length ∧ st.length < 100000 ∧ 1 ≤ kd ∧ kd ≤ 3 ∧ (st.getD (st.length - 2) ByteArray.empty).size + (st.getD (st.length - 1) ByteArray.empty).size ≤ 1000000 := by
            by_cases h : 2 ≤ st.length ∧ st.length < 100000 ∧ 1 ≤ kd ∧ kd ≤ 3 ∧ (st.getD (st.length - 2) ByteArray.empty).size + (st.getD (st.length - 1) ByteArray.empty).size ≤ 1000000
            · exact h
            · rw [if_neg h] at hP; cases hP
          have HP2 := Aside0.mk ((if_pos hcond).symm.trans hP)
          obtain ⟨hl2, hsl, hk1, hk3, hsz⟩ := hcond
          clear hP HP1
          obtain ⟨gs, c4, rfl, hgs1, hgs2, _⟩ := Kd.R_form HS1.out (by omega)
          obtain ⟨m, hm⟩ : ∃ m, st.length = m + 2 := ⟨st.length - 2, by omega⟩
          rw [hm] at HP2 hsz
          rw [show m + 2 - 2 = m by omega, show m + 2 - 1 = m + 1 by omega] at HP2 hsz
          have q1 := (Kd.R_cell (enc := Value.string) ByteArray.empty HS1.out (m : Int) (by omega) (by omega)).1
          have q2 := (Kd.R_cell (enc := Value.string) ByteArray.empty HS1.out ((m + 1 : Nat) : Int) (by omega) (by omega)).1
          rw [rdOf_nat, Int.toNat_natCast] at q1 q2
          have HT := Aside0.mk (Kd.R_take (m := m) HS1.out (by omega))
          have htl : (st.take m).length = m := by rw [List.length_take]; omega
          have hne : gb ≠ gs := fun e => (HS1.out).1 gs rfl e.symm
          generalize st.getD m ByteArray.empty = X at *
          generalize st.getD (m + 1) ByteArray.empty = Y at *
          rw [hm]
          have HTL := Aside0.mk htl
          have hsg : (strOfNums [signN kd]).size = 1 := rfl
          have HPJ : Aside0 (printS (l.drop (j + 1)) (st.take m ++ [(⟨#[40]⟩ : ByteArray) ++ X ++ strOfNums [signN kd] ++ Y ++ (⟨#[41]⟩ : ByteArray)]) = some st') := HP2
          have hcv : ∀ W : World, G W → (convert 30 9 (.slice (some ⟨0, kd.toNat, none⟩) 1 (4 - kd.toNat))).run Tryd.prog W = .ok (.string (strOfNums [signN kd])) W := fun W hg => Kd.C_string Tryd.underlying30 Tryd.underlying5 Tryd.underlying9 (sign_reads kd hk1 hk3 hg)
          have hsl0 := sign_slice kd hk1 hk3
          generalize strOfNums [signN kd] = SG at *
          have n1 : ¬ 9223372036854775807 < 1 + X.size := by omega
          have n2 : ¬ 9223372036854775807 < 1 + X.size + SG.size := by omega
          have n3 : ¬ 9223372036854775807 < 1 + X.size + SG.size + Y.size := by omega
          have n4 : ¬ 9223372036854775807 < 1 + X.size + SG.size + Y.size + 1 := by omega
          have hgW := HG.out.below HB1.out
          have S0 : PSt gb kd W1.drew := (PSt.mk k0 hgW).step (below_drew (Below.refl _ _))
          have r0 : ∀ W : World, PSt gb kd W → W.cell? ⟨gb, 0, none⟩ = some (.int .i64 kd) := fun W h => h.k
          have r1 : ∀ W : World, PSt gb kd W → (convert 30 9 (.slice (some ⟨0, kd.toNat, none⟩) 1 (4 - kd.toNat))).run Tryd.prog W = .ok (.string SG) W := fun W h => hcv W h.g
          clear hcv
          have HBD := Aside0.mk (below_drew HB1.out)
          have HTD := Aside0.mk (Kd.R_drew HT.out)
          have BXD := Aside0.mk (blk_drew BX1.out)
          have hnn : (0 : Int) ≤ (m : Int) := by omega
          have hmc : (m : Int) ≤ (c4 : Int) := by have := (Kd.R_reads' HS1.out).2.1; omega
          have i1 : (m : Int) < ((m + 2 : Nat) : Int) := by omega
          have i2 : ((m + 1 : Nat) : Int) < ((m + 2 : Nat) : Int) := by omega
          have hm1 : ((m + 2 : Nat) : Int) - 1 = ((m + 1 : Nat) : Int) := by omega
          have hm2 : ((m + 1 : Nat) : Int) - 1 = (m : Int) := by omega
          have hb2 : ((m + 2 : Nat) : Int) ≤ 100002 := by omega
          have hnn1 : (0 : Int) ≤ ((m + 1 : Nat) : Int) := by omega
          have i0 : m < m + 2 := by omega
          have i3 : m + 1 < m + 2 := by omega
          have hmcn : m ≤ c4 := by omega
          have hml : m < 100000 := by omega
          clear hsz hm HS1 HT HP2 htl hgs1 hgs2 hl2 BX1 hsg
          generalize m + 1 = m1 at *
          generalize m + 2 = m2 at *
          go_upto_region 10 with (fail)
          have hw0 : IntKind.i64.wrap (kd + 1) = kd + 1 := IntWalk.i64_in _ (by omega)
          have hw2 : IntKind.i64.wrap (m : Int) = (m : Int) := IntWalk.i64_in _ (by omega)
          refine wp_region_noPanic ?_
          refine wp_region_held_drew (S := PSt gb kd) (by kernel_rfl) S0 (fun hHeld => ?_)
          refine wpAnyH_take (i := 0) (oi := ?X1o) (v := ?X1v) ?X1h ?X1a ?X1b ?X1c (fun _ _ _ h => h) (Or.inl ⟨?X1e, ?X1y⟩) (by assumption) ?X1r
          case X1h => simp only [List.getElem?_toArray, List.getElem?_cons_zero, List.getElem?_cons_succ]; rfl
          case X1a => kernel_rfl
          case X1b => kernel_rfl
          case X1c => kernel_rfl
          case X1e => rfl
          case X1y => first | (intro w hSw; (try dsimp only at hSw); go_simp; done) | (intro w hSw; (try dsimp only at hSw); go_simp; with_reducible rfl)
          (try simp only [Act.put, List.setIfInBounds_toArray, List.set_cons_zero, List.set_cons_succ])
          refine wpAnyH_take (i := 1) (oi := ?X2o) (v := ?X2v) ?X2h ?X2a ?X2b ?X2c (fun _ _ _ h => h) (Or.inl ⟨?X2e, ?X2y⟩) (by assumption) ?X2r
          case X2h => simp only [List.getElem?_toArray, List.getElem?_cons_zero, List.getElem?_cons_succ]; rfl
          case X2a => kernel_rfl
          case X2b => kernel_rfl
          case X2c => kernel_rfl
          case X2e => rfl
          case X2y => first | (intro w hSw; (try dsimp only at hSw); go_simp; done) | (intro w hSw; (try dsimp only at hSw); go_simp; with_reducible rfl)
          (try simp only [Act.put, List.setIfInBounds_toArray, List.set_cons_zero, List.set_cons_succ])
          refine wpAnyH_take (i := 2) (oi := ?X3o) (v := ?X3v) ?X3h ?X3a ?X3b ?X3c (fun _ _ _ h => h) (Or.inl ⟨?X3e, ?X3y⟩) (by assumption) ?X3r
          case X3h => simp only [List.getElem?_toArray, List.getElem?_cons_zero, List.getElem?_cons_succ]; rfl
          case X3a => kernel_rfl
          case X3b => kernel_rfl
          case X3c => kernel_rfl
          case X3e => rfl
          case X3y => first | (intro w hSw; (try dsimp only at hSw); go_simp; done) | (intro w hSw; (try dsimp only at hSw); go_simp; with_reducible rfl)
          (try simp only [Act.put, List.setIfInBounds_toArray, List.set_cons_zero, List.set_cons_succ])
          refine wpAnyH_take (i := 3) (oi := ?X4o) (v := ?X4v) ?X4h ?X4a ?X4b ?X4c (fun _ _ _ h => h) (Or.inl ⟨?X4e, ?X4y⟩) (by assumption) ?X4r
          case X4h => simp only [List.getElem?_toArray, List.getElem?_cons_zero, List.getElem?_cons_succ]; rfl
          case X4a => kernel_rfl
          case X4b => kernel_rfl
          case X4c => kernel_rfl
          case X4e => rfl
          case X4y => first | (intro w hSw; (try dsimp only at hSw); go_simp; done) | (intro w hSw; (try dsimp only at hSw); go_simp; with_reducible rfl)
          (try simp only [Act.put, List.setIfInBounds_toArray, List.set_cons_zero, List.set_cons_succ])
          refine wpAnyH_take (i := 4) (oi := ?X5o) (v := ?X5v) ?X5h ?X5a ?X5b ?X5c (fun _ _ _ h => h) (Or.inl ⟨?X5e, ?X5y⟩) (by assumption) ?X5r
          case X5h => simp only [List.getElem?_toArray, List.getElem?_cons_zero, List.getElem?_cons_succ]; rfl
          case X5a => kernel_rfl
          case X5b => kernel_rfl
          case X5c => kernel_rfl
          case X5e => rfl
          case X5y => first | (intro w hSw; (try dsimp only at hSw); go_simp; done) | (intro w hSw; (try dsimp only at hSw); go_simp; with_reducible rfl)
          (try simp only [Act.put, List.setIfInBounds_toArray, List.set_cons_zero, List.set_cons_succ])
          refine wpAnyH_take (i := 5) (oi := ?X6o) (v := ?X6v) ?X6h ?X6a ?X6b ?X6c (fun _ _ _ h => h) (Or.inl ⟨?X6e, ?X6y⟩) (by assumption) ?X6r
          case X6h => simp only [List.getElem?_toArray, List.getElem?_cons_zero, List.getElem?_cons_succ]; rfl
          case X6a => kernel_rfl
          case X6b => kernel_rfl
          case X6c => kernel_rfl
          case X6e => rfl
          case X6y => first | (intro w hSw; (try dsimp only at hSw); go_simp; done) | (intro w hSw; (try dsimp only at hSw); go_simp; with_reducible rfl)
          (try simp only [Act.put, List.setIfInBounds_toArray, List.set_cons_zero, List.set_cons_succ])
          refine wpAnyH_take (i := 6) (oi := ?X7o) (v := ?X7v) ?X7h ?X7a ?X7b ?X7c (fun _ _ _ h => h) (Or.inl ⟨?X7e, ?X7y⟩) (by assumption) ?X7r
          case X7h => simp only [List.getElem?_toArray, List.getElem?_cons_zero, List.getElem?_cons_succ]; rfl
          case X7a => kernel_rfl
          case X7b => kernel_rfl
          case X7c => kernel_rfl
          case X7e => rfl
          case X7y => first | (intro w hSw; (try dsimp only at hSw); go_simp; done) | (intro w hSw; (try dsimp only at hSw); go_simp; with_reducible rfl)
          (try simp only [Act.put, List.setIfInBounds_toArray, List.set_cons_zero, List.set_cons_succ])
          refine wpAnyH_take (i := 7) (oi := ?X8o) (v := ?X8v) ?X8h ?X8a ?X8b ?X8c (fun _ _ _ h => h) (Or.inl ⟨?X8e, ?X8y⟩) (by assumption) ?X8r
          case X8h => simp only [List.getElem?_toArray, List.getElem?_cons_zero, List.getElem?_cons_succ]; rfl
          case X8a => kernel_rfl
          case X8b => kernel_rfl
          case X8c => kernel_rfl
          case X8e => rfl
          case X8y => first | (intro w hSw; (try dsimp only at hSw); go_simp; done) | (intro w hSw; (try dsimp only at hSw); go_simp; with_reducible rfl)
          (try simp only [Act.put, List.setIfInBounds_toArray, List.set_cons_zero, List.set_cons_succ])
          refine wpAnyH_take (i := 10) (oi := ?X9o) (v := ?X9v) ?X9h ?X9a ?X9b ?X9c (fun _ _ _ h => h) (Or.inl ⟨?X9e, ?X9y⟩) (by assumption) ?X9r
          case X9h => simp only [List.getElem?_toArray, List.getElem?_cons_zero, List.getElem?_cons_succ]; rfl
          case X9a => kernel_rfl
          case X9b => kernel_rfl
          case X9c => kernel_rfl
          case X9e => rfl
          case X9y => first | (intro w hSw; (try dsimp only at hSw); go_simp; done) | (intro w hSw; (try dsimp only at hSw); go_simp; with_reducible rfl)
          (try simp only [Act.put, List.setIfInBounds_toArray, List.set_cons_zero, List.set_cons_succ])
          refine wpAnyH_take (i := 11) (oi := ?X10o) (v := ?X10v) ?X10h ?X10a ?X10b ?X10c (fun _ _ _ h => h) (Or.inl ⟨?X10e, ?X10y⟩) (by assumption) ?X10r
          case X10h => simp only [List.getElem?_toArray, List.getElem?_cons_zero, List.getElem?_cons_succ]; rfl
          case X10a => kernel_rfl
          case X10b => kernel_rfl
          case X10c => kernel_rfl
          case X10e => rfl
          case X10y => first | (intro w hSw; (try dsimp only at hSw); go_simp; done) | (intro w hSw; (try dsimp only at hSw); go_simp; with_reducible rfl)
          (try simp only [Act.put, List.setIfInBounds_toArray, List.set_cons_zero, List.set_cons_succ])
          refine wpAnyH_take (i := 12) (oi := ?X11o) (v := ?X11v) ?X11h ?X11a ?X11b ?X11c (fun _ _ _ h => h) (Or.inl ⟨?X11e, ?X11y⟩) (by assumption) ?X11r
          case X11h => simp only [List.getElem?_toArray, List.getElem?_cons_zero, List.getElem?_cons_succ]; rfl
          case X11a => kernel_rfl
          case X11b => kernel_rfl
          case X11c => kernel_rfl
          case X11e => rfl
          case X11y => first | (intro w hSw; (try dsimp only at hSw); go_simp; done) | (intro w hSw; (try dsimp only at hSw); go_simp; with_reducible rfl)
          (try simp only [Act.put, List.setIfInBounds_toArray, List.set_cons_zero, List.set_cons_succ])
          refine wpAnyH_take (i := 13) (oi := ?X12o) (v := ?X12v) ?X12h ?X12a ?X12b ?X12c (fun _ _ _ h => h) (Or.inl ⟨?X12e, ?X12y⟩) (by assumption) ?X12r
          case X12h => simp only [List.getElem?_toArray, List.getElem?_cons_zero, List.getElem?_cons_succ]; rfl
          case X12a => kernel_rfl
          case X12b => kernel_rfl
          case X12c => kernel_rfl
          case X12e => rfl
          case X12y => first | (intro w hSw; (try dsimp only at hSw); go_simp; done) | (intro w hSw; (try dsimp only at hSw); go_simp; with_reducible rfl)
          (try simp only [Act.put, List.setIfInBounds_toArray, List.set_cons_zero, List.set_cons_succ])
          refine wpAnyH_take (i := 14) (oi := ?X13o) (v := ?X13v) ?X13h ?X13a ?X13b ?X13c (fun _ _ _ h => h) (Or.inl ⟨?X13e, ?X13y⟩) (by assumption) ?X13r
          case X13h => simp only [List.getElem?_toArray, List.getElem?_cons_zero, List.getElem?_cons_succ]; rfl
          case X13a => kernel_rfl
          case X13b => kernel_rfl
          case X13c => kernel_rfl
          case X13e => rfl
          case X13y => first | (intro w hSw; (try dsimp only at hSw); go_simp; done) | (intro w hSw; (try dsimp only at hSw); go_simp; with_reducible rfl)
          (try simp only [Act.put, List.setIfInBounds_toArray, List.set_cons_zero, List.set_cons_succ])
          refine wpAnyH_take (i := 15) (oi := ?X14o) (v := ?X14v) ?X14h ?X14a ?X14b ?X14c (fun _ _ _ h => h) (Or.inl ⟨?X14e, ?X14y⟩) (by assumption) ?X14r
          case X14h => simp only [List.getElem?_toArray, List.getElem?_cons_zero, List.getElem?_cons_succ]; rfl
          case X14a => kernel_rfl
          case X14b => kernel_rfl
          case X14c => kernel_rfl
          case X14e => rfl
          case X14y => first | (intro w hSw; (try dsimp only at hSw); go_simp; done) | (intro w hSw; (try dsimp only at hSw); go_simp; with_reducible rfl)
          (try simp only [Act.put, List.setIfInBounds_toArray, List.set_cons_zero, List.set_cons_succ])
          refine wpAnyH_take (i := 16) (oi := ?X15o) (v := ?X15v) ?X15h ?X15a ?X15b ?X15c (fun _ _ _ h => h) (Or.inl ⟨?X15e, ?X15y⟩) (by assumption) ?X15r
          case X15h => simp only [List.getElem?_toArray, List.getElem?_cons_zero, List.getElem?_cons_succ]; rfl
          case X15a => kernel_rfl
          case X15b => kernel_rfl
          case X15c => kernel_rfl
          case X15e => rfl
          case X15y => first | (intro w hSw; (try dsimp only at hSw); go_simp; done) | (intro w hSw; (try dsimp only at hSw); go_simp; with_reducible rfl)
          (try simp only [Act.put, List.setIfInBounds_toArray, List.set_cons_zero, List.set_cons_succ])
          refine wpAnyH_take (i := 18) (oi := ?X16o) (v := ?X16v) ?X16h ?X16a ?X16b ?X16c (fun _ _ _ h => h) (Or.inl ⟨?X16e, ?X16y⟩) (by assumption) ?X16r
          case X16h => simp only [List.getElem?_toArray, List.getElem?_cons_zero, List.getElem?_cons_succ]; rfl
          case X16a => kernel_rfl
          case X16b => kernel_rfl
          case X16c => kernel_rfl
          case X16e => rfl
          case X16y => first | (intro w hSw; (try dsimp only at hSw); go_simp; done) | (intro w hSw; (try dsimp only at hSw); go_simp; with_reducible rfl)
          (try simp only [Act.put, List.setIfInBounds_toArray, List.set_cons_zero, List.set_cons_succ])
          refine wpAnyH_take (i := 19) (oi := ?X17o) (v := ?X17v) ?X17h ?X17a ?X17b ?X17c (fun _ _ _ h => h) (Or.inl ⟨?X17e, ?X17y⟩) (by assumption) ?X17r
          case X17h => simp only [List.getElem?_toArray, List.getElem?_cons_zero, List.getElem?_cons_succ]; rfl
          case X17a => kernel_rfl
          case X17b => kernel_rfl
          case X17c => kernel_rfl
          case X17e => rfl
          case X17y => first | (intro w hSw; (try dsimp only at hSw); go_simp; done) | (intro w hSw; (try dsimp only at hSw); go_simp; with_reducible rfl)
          (try simp only [Act.put, List.setIfInBounds_toArray, List.set_cons_zero, List.set_cons_succ])
          refine wpAnyH_take (i := 20) (oi := ?X18o) (v := ?X18v) ?X18h ?X18a ?X18b ?X18c (fun _ _ _ h => h) (Or.inl ⟨?X18e, ?X18y⟩) (by assumption) ?X18r
          case X18h => simp only [List.getElem?_toArray, List.getElem?_cons_zero, List.getElem?_cons_succ]; rfl
          case X18a => kernel_rfl
          case X18b => kernel_rfl
          case X18c => kernel_rfl
          case X18e => rfl
          case X18y => first | (intro w hSw; (try dsimp only at hSw); go_simp; done) | (intro w hSw; (try dsimp only at hSw); go_simp; with_reducible rfl)
          (try simp only [Act.put, List.setIfInBounds_toArray, List.set_cons_zero, List.set_cons_succ])
          refine wpAnyH_ready (rs := [8, 21]) (by kernel_rfl) (by simp) ?_
          refine AllReadyH.cons (o := ?X20o) ?X20h (fun K hK => ?X20r) (AllReadyH.cons (o := ?X19o) ?X19h (fun K hK => ?X19r) (AllReadyH.nil))
          case X20h => simp only [List.getElem?_toArray, List.getElem?_cons_zero, List.getElem?_cons_succ]; rfl
          case X19h => simp only [List.getElem?_toArray, List.getElem?_cons_zero, List.getElem?_cons_succ]; rfl
          case X20r =>
            go_simp
            refine hK.out _ _ ?_ (fun hHeld2 => ?_)
            · exact hHeld
            clear hK K hHeld
            have hHeld := hHeld2
            clear hHeld2
            (try simp only [Act.put, List.setIfInBounds_toArray, List.set_cons_zero, List.set_cons_succ])
            refine wpAnyH_take (i := 9) (oi := ?X21o) (v := ?X21v) ?X21h ?X21a ?X21b ?X21c (fun _ _ _ h => h) (Or.inl ⟨?X21e, ?X21y⟩) (by assumption) ?X21r
            case X21h => simp only [List.getElem?_toArray, List.getElem?_cons_zero, List.getElem?_cons_succ]; rfl
            case X21a => kernel_rfl
            case X21b => kernel_rfl
            case X21c => kernel_rfl
            case X21e => rfl
            case X21y => first | (intro w hSw; (try dsimp only at hSw); go_simp; done) | (intro w hSw; (try dsimp only at hSw); go_simp; with_reducible rfl)
            (try simp only [Act.put, List.setIfInBounds_toArray, List.set_cons_zero, List.set_cons_succ])
            refine wpAnyH_take (i := 17) (oi := ?X22o) (v := ?X22v) ?X22h ?X22a ?X22b ?X22c (fun _ _ _ h => h) (Or.inl ⟨?X22e, ?X22y⟩) (by assumption) ?X22r
            case X22h => simp only [List.getElem?_toArray, List.getElem?_cons_zero, List.getElem?_cons_succ]; rfl
            case X22a => kernel_rfl
            case X22b => kernel_rfl
            case X22c => kernel_rfl
            case X22e => rfl
            case X22y => first | (intro w hSw; (try dsimp only at hSw); go_simp; done) | (intro w hSw; (try dsimp only at hSw); go_simp; with_reducible rfl)
            (try simp only [Act.put, List.setIfInBounds_toArray, List.set_cons_zero, List.set_cons_succ])
            refine wpAnyH_ready (rs := [21]) (by kernel_rfl) (by simp) ?_
            refine AllReadyH.cons (o := ?X23o) ?X23h (fun K hK => ?X23r) (AllReadyH.nil)
            case X23h => simp only [List.getElem?_toArray, List.getElem?_cons_zero, List.getElem?_cons_succ]; rfl
            go_simp
            refine hK.out _ _ ?_ (fun hHeld2 => ?_)
            · exact hHeld
            clear hK K hHeld
            have hHeld := hHeld2
            clear hHeld2
            (try simp only [Act.put, List.setIfInBounds_toArray, List.set_cons_zero, List.set_cons_succ])
            refine wpAnyH_take (i := 22) (oi := ?X24o) (v := ?X24v) ?X24h ?X24a ?X24b ?X24c (fun _ _ _ h => h) (Or.inl ⟨?X24e, ?X24y⟩) (by assumption) ?X24r
            case X24h => simp only [List.getElem?_toArray, List.getElem?_cons_zero, List.getElem?_cons_succ]; rfl
            case X24a => kernel_rfl
            case X24b => kernel_rfl
            case X24c => kernel_rfl
            case X24e => rfl
            case X24y => first | (intro w hSw; (try dsimp only at hSw); go_simp; done) | (intro w hSw; (try dsimp only at hSw); go_simp; with_reducible rfl)
            (try simp only [Act.put, List.setIfInBounds_toArray, List.set_cons_zero, List.set_cons_succ])
            refine wpAnyH_take (i := 23) (oi := ?X25o) (v := ?X25v) ?X25h ?X25a ?X25b ?X25c (fun _ _ _ h => h) (Or.inl ⟨?X25e, ?X25y⟩) (by assumption) ?X25r
            case X25h => simp only [List.getElem?_toArray, List.getElem?_cons_zero, List.getElem?_cons_succ]; rfl
            case X25a => kernel_rfl
            case X25b => kernel_rfl
            case X25c => kernel_rfl
            case X25e => rfl
            case X25y => first | (intro w hSw; (try dsimp only at hSw); go_simp; done) | (intro w hSw; (try dsimp only at hSw); go_simp; with_reducible rfl)
            (try simp only [Act.put, List.setIfInBounds_toArray, List.set_cons_zero, List.set_cons_succ])
            refine wpAnyH_ready (rs := [24]) (by kernel_rfl) (by simp) ?_
            refine AllReadyH.cons (o := ?X26o) ?X26h (fun K hK => ?X26r) (AllReadyH.nil)
            case X26h => simp only [List.getElem?_toArray, List.getElem?_cons_zero, List.getElem?_cons_succ]; rfl
            go_simp
            refine hK.out _ _ ?_ (fun hHeld2 => ?_)
            · exact S0.step (below_alloc (Below.refl _ _) _)
            clear hK K hHeld
            have hHeld := hHeld2
            clear hHeld2
            (try simp only [Act.put, List.setIfInBounds_toArray, List.set_cons_zero, List.set_cons_succ])
            refine wpAnyH_ready (rs := [25]) (by kernel_rfl) (by simp) ?_
            refine AllReadyH.cons (o := ?X27o) ?X27h (fun K hK => ?X27r) (AllReadyH.nil)
            case X27h => simp only [List.getElem?_toArray, List.getElem?_cons_zero, List.getElem?_cons_succ]; rfl
            (refine Kd.R_append_step Kd.string (w0 := w) w.heap.size (by rfl) (.tmp 31) (.tmp 52) 40 9 (.string ⟨#[]⟩) 16 rfl Tryd.underlying40 info9 rfl (by decide) (by decide) (.slice (some ⟨gs, 0, none⟩) m c4) (st.take m) ((⟨#[40]⟩ : ByteArray) ++ X ++ SG ++ Y ++ (⟨#[41]⟩ : ByteArray)) [.string ((⟨#[40]⟩ : ByteArray) ++ X ++ SG ++ Y ++ (⟨#[41]⟩ : ByteArray))] (fun _ => True) (fun _ => False) rfl rfl rfl (fun _ h => h.elim) (fun _ _ => trivial) (Kd.R_mono HTD.out (fun _ _ => trivial)) HBD.out (below_size HBD.out) (by rw [HTL.out]; omega) ?_; intro v5 w5 hS5 hb5 hg5 hat5)
            have S5 : PSt gb kd w5 := ⟨(blk_cell (blk_grown BXD.out hg5 (fun e => hne (Option.some.inj e))) 0).trans rfl, HG.out.below hb5⟩
            have HB5 := Aside0.mk hb5
            have HS5 := Aside0.mk hS5
            clear hb5 hS5 hg5 hat5
            refine hK.out _ _ ?_ (fun hHeld2 => ?_)
            · exact S5
            clear hK K hHeld
            have hHeld := hHeld2
            clear hHeld2
            (try simp only [Act.put, List.setIfInBounds_toArray, List.set_cons_zero, List.set_cons_succ])
            refine wpAnyH_take (i := 26) (oi := ?X28o) (v := ?X28v) ?X28h ?X28a ?X28b ?X28c (fun _ _ _ h => h) (Or.inl ⟨?X28e, ?X28y⟩) (by assumption) ?X28r
            case X28h => simp only [List.getElem?_toArray, List.getElem?_cons_zero, List.getElem?_cons_succ]; rfl
            case X28a => kernel_rfl
            case X28b => kernel_rfl
            case X28c => kernel_rfl
            case X28e => rfl
            case X28y => first | (intro w hSw; (try dsimp only at hSw); go_simp; done) | (intro w hSw; (try dsimp only at hSw); go_simp; with_reducible rfl)
            (try simp only [Act.put, List.setIfInBounds_toArray, List.set_cons_zero, List.set_cons_succ])
            refine wpAnyH_done (by kernel_rfl) (NoPanic.normal ?_) _
            clear S0 S5 hHeld hw0 hw2 n1 n2 n3 n4 q1 q2 r0 r1 hsl0 HBD HTD BXD hgW HTL hm1 hm2 k0 k1
            go_wp2
            exact ⟨⟨j + 1, _, by omega, by rw [Int.natCast_add]; rfl, HPJ, HB5, HS5⟩, by simp [intOf]; omega⟩
          case X19r =>
            go_simp
            refine hK.out _ _ ?_ (fun hHeld2 => ?_)
            · exact hHeld
            clear hK K hHeld
            have hHeld := hHeld2
            clear hHeld2
            (try simp only [Act.put, List.setIfInBounds_toArray, List.set_cons_zero, List.set_cons_succ])
            refine wpAnyH_ready (rs := [8]) (by kernel_rfl) (by simp) ?_
            refine AllReadyH.cons (o := ?X29o) ?X29h (fun K hK => ?X29r) (AllReadyH.nil)
            case X29h => simp only [List.getElem?_toArray, List.getElem?_cons_zero, List.getElem?_cons_succ]; rfl
            go_simp
            refine hK.out _ _ ?_ (fun hHeld2 => ?_)
            · exact hHeld
            clear hK K hHeld
            have hHeld := hHeld2
            clear hHeld2
            (try simp only [Act.put, List.setIfInBounds_toArray, List.set_cons_zero, List.set_cons_succ])
            refine wpAnyH_take (i := 9) (oi := ?X30o) (v := ?X30v) ?X30h ?X30a ?X30b ?X30c (fun _ _ _ h => h) (Or.inl ⟨?X30e, ?X30y⟩) (by assumption) ?X30r
            case X30h => simp only [List.getElem?_toArray, List.getElem?_cons_zero, List.getElem?_cons_succ]; rfl
            case X30a => kernel_rfl
            case X30b => kernel_rfl
            case X30c => kernel_rfl
            case X30e => rfl
            case X30y => first | (intro w hSw; (try dsimp only at hSw); go_simp; done) | (intro w hSw; (try dsimp only at hSw); go_simp; with_reducible rfl)
            (try simp only [Act.put, List.setIfInBounds_toArray, List.set_cons_zero, List.set_cons_succ])
            refine wpAnyH_take (i := 17) (oi := ?X31o) (v := ?X31v) ?X31h ?X31a ?X31b ?X31c (fun _ _ _ h => h) (Or.inl ⟨?X31e, ?X31y⟩) (by assumption) ?X31r
            case X31h => simp only [List.getElem?_toArray, List.getElem?_cons_zero, List.getElem?_cons_succ]; rfl
            case X31a => kernel_rfl
            case X31b => kernel_rfl
            case X31c => kernel_rfl
            case X31e => rfl
            case X31y => first | (intro w hSw; (try dsimp only at hSw); go_simp; done) | (intro w hSw; (try dsimp only at hSw); go_simp; with_reducible rfl)
            (try simp only [Act.put, List.setIfInBounds_toArray, List.set_cons_zero, List.set_cons_succ])
            refine wpAnyH_take (i := 22) (oi := ?X32o) (v := ?X32v) ?X32h ?X32a ?X32b ?X32c (fun _ _ _ h => h) (Or.inl ⟨?X32e, ?X32y⟩) (by assumption) ?X32r
            case X32h => simp only [List.getElem?_toArray, List.getElem?_cons_zero, List.getElem?_cons_succ]; rfl
            case X32a => kernel_rfl
            case X32b => kernel_rfl
            case X32c => kernel_rfl
            case X32e => rfl
            case X32y => first | (intro w hSw; (try dsimp only at hSw); go_simp; done) | (intro w hSw; (try dsimp only at hSw); go_simp; with_reducible rfl)
            (try simp only [Act.put, List.setIfInBounds_toArray, List.set_cons_zero, List.set_cons_succ])
            refine wpAnyH_take (i := 23) (oi := ?X33o) (v := ?X33v) ?X33h ?X33a ?X33b ?X33c (fun _ _ _ h => h) (Or.inl ⟨?X33e, ?X33y⟩) (by assumption) ?X33r
            case X33h => simp only [List.getElem?_toArray, List.getElem?_cons_zero, List.getElem?_cons_succ]; rfl
            case X33a => kernel_rfl
            case X33b => kernel_rfl
            case X33c => kernel_rfl
            case X33e => rfl
            case X33y => first | (intro w hSw; (try dsimp only at hSw); go_simp; done) | (intro w hSw; (try dsimp only at hSw); go_simp; with_reducible rfl)
            (try simp only [Act.put, List.setIfInBounds_toArray, List.set_cons_zero, List.set_cons_succ])
            refine wpAnyH_ready (rs := [24]) (by kernel_rfl) (by simp) ?_
            refine AllReadyH.cons (o := ?X34o) ?X34h (fun K hK => ?X34r) (AllReadyH.nil)
            case X34h => simp only [List.getElem?_toArray, List.getElem?_cons_zero, List.getElem?_cons_succ]; rfl
            go_simp
            refine hK.out _ _ ?_ (fun hHeld2 => ?_)
            · exact S0.step (below_alloc (Below.refl _ _) _)
            clear hK K hHeld
            have hHeld := hHeld2
            clear hHeld2
            (try simp only [Act.put, List.setIfInBounds_toArray, List.set_cons_zero, List.set_cons_succ])
            refine wpAnyH_ready (rs := [25]) (by kernel_rfl) (by simp) ?_
            refine AllReadyH.cons (o := ?X35o) ?X35h (fun K hK => ?X35r) (AllReadyH.nil)
            case X35h => simp only [List.getElem?_toArray, List.getElem?_cons_zero, List.getElem?_cons_succ]; rfl
            (refine Kd.R_append_step Kd.string (w0 := w) w.heap.size (by rfl) (.tmp 31) (.tmp 52) 40 9 (.string ⟨#[]⟩) 16 rfl Tryd.underlying40 info9 rfl (by decide) (by decide) (.slice (some ⟨gs, 0, none⟩) m c4) (st.take m) ((⟨#[40]⟩ : ByteArray) ++ X ++ SG ++ Y ++ (⟨#[41]⟩ : ByteArray)) [.string ((⟨#[40]⟩ : ByteArray) ++ X ++ SG ++ Y ++ (⟨#[41]⟩ : ByteArray))] (fun _ => True) (fun _ => False) rfl rfl rfl (fun _ h => h.elim) (fun _ _ => trivial) (Kd.R_mono HTD.out (fun _ _ => trivial)) HBD.out (below_size HBD.out) (by rw [HTL.out]; omega) ?_; intro v5 w5 hS5 hb5 hg5 hat5)
            have S5 : PSt gb kd w5 := ⟨(blk_cell (blk_grown BXD.out hg5 (fun e => hne (Option.some.inj e))) 0).trans rfl, HG.out.below hb5⟩
            have HB5 := Aside0.mk hb5
            have HS5 := Aside0.mk hS5
            clear hb5 hS5 hg5 hat5
            refine hK.out _ _ ?_ (fun hHeld2 => ?_)
            · exact S5
            clear hK K hHeld
            have hHeld := hHeld2
            clear hHeld2
            (try simp only [Act.put, List.setIfInBounds_toArray, List.set_cons_zero, List.set_cons_succ])
            refine wpAnyH_take (i := 26) (oi := ?X36o) (v := ?X36v) ?X36h ?X36a ?X36b ?X36c (fun _ _ _ h => h) (Or.inl ⟨?X36e, ?X36y⟩) (by assumption) ?X36r
            case X36h => simp only [List.getElem?_toArray, List.getElem?_cons_zero, List.getElem?_cons_succ]; rfl
            case X36a => kernel_rfl
            case X36b => kernel_rfl
            case X36c => kernel_rfl
            case X36e => rfl
            case X36y => first | (intro w hSw; (try dsimp only at hSw); go_simp; done) | (intro w hSw; (try dsimp only at hSw); go_simp; with_reducible rfl)
            (try simp only [Act.put, List.setIfInBounds_toArray, List.set_cons_zero, List.set_cons_succ])
            refine wpAnyH_done (by kernel_rfl) (NoPanic.normal ?_) _
            clear S0 S5 hHeld hw0 hw2 n1 n2 n3 n4 q1 q2 r0 r1 hsl0 HBD HTD BXD hgW HTL hm1 hm2 k0 k1
            go_wp2
            exact ⟨⟨j + 1, _, by omega, by rw [Int.natCast_add]; rfl, HPJ, HB5, HS5⟩, by simp [intOf]; omega⟩
      · obtain rfl : j = l.length := by omega
        have hP := HP.out
        rw [List.drop_length, printS] at hP
        obtain rfl := Option.some.inj hP
        have hh := H.out
        cases st with
        | nil => cases hh
        | cons s0 tl =>
          simp only [Option.some.injEq, Prod.mk.injEq] at hh
          obtain ⟨rfl, rfl⟩ := hh
          obtain ⟨gs, c4, rfl, _, _, _⟩ := Kd.R_form HS.out (by simp)
          have q0 : wr.cell? ⟨gs, 0, none⟩ = some (.string s0) := (Kd.R_cell (enc := Value.string) ByteArray.empty HS.out 0 (by omega) (by simp)).1
          have hp0 : 0 < (s0 :: tl).length := Nat.succ_pos _
          have hp1 : (0 : Int) < ((s0 :: tl).length : Int) := Int.natCast_pos.mpr (Nat.succ_pos _)
          generalize (s0 :: tl).length = nl at *
          clear HS hP H HP
          go_wp2
          go_ret2
          exact ⟨rfl, HB.out⟩
end Go.Proofs.YteofdfknemopiaaDoor.P
end
