/- Several of this session's texts in one. -/
import Derived.Test.YteofdfknemopiaaDoorHBU
import Derived.Outline
import Derived.WalkLawsBesides
import Derived.Deep.RegionHeld
import Derived.Test.YteofdfknemopiaaDoorPx0
section
/- By hand: token.Terms, with (*word).take and the closure 'end'. -/
set_option linter.unusedVariables false
set_option linter.unusedSimpArgs false
namespace Go.Proofs.YteofdfknemopiaaDoor.P
open Go.RowKit Go.Proofs.YteofdfknemopiaaDoorW.PrintWords Go.Proofs.YteofdfknemopiaaDoorW.PrintLast Go.Proofs.YteofdfknemopiaaDoorW.PrintMore

/-- Where the cutting of terms stands: the terms so far; the word that goes on. -/
structure TS where
  out : List ByteArray
  op : Bool
  fu : Bool
  b : List Int
def takeT (s : TS) (c : Int) : Option TS := (utf_Small.f c).bind fun m => (utf_Encode.f 50 m).bind fun x => if x.1.length ≤ 64 then some (if s.fu = true ∨ x.2 ≠ 0 ∨ 64 < s.b.length + x.1.length then { s with op := true, fu := true } else { s with op := true, b := s.b ++ x.1 }) else none
def endT (s : TS) : TS := ⟨if s.op = true then s.out ++ [strOfNums s.b] else s.out, false, false, []⟩
def stepT (s : TS) (c : Int) : Option TS := (utf_Letter.f c).bind fun le => (if le = true then some true else utf_Digit.f c).bind fun g => if g = true then takeT s c else some (endT s)
def runT : List Int → TS → Option TS
  | [], s => some s
  | c :: l, s => (stepT s c).bind (runT l)
def token_Terms.f (l0 : List Int) : Option (List ByteArray) := if l0.length ≤ 1099511627776 then (utf_Decode.f (l0.length + 100) l0).bind fun l => if l.length ≤ 1099511627776 then (runT l ⟨[], false, false, []⟩).map fun s => (endT s).out else none else none

/-- What the two captured variables hold. -/
structure TI (n : Nat) (w0 w : World) (s : TS) : Prop where
  below : Below w0.heap.size w0 w
  base : w0.heap.size ≤ n
  out : ∃ v, w.heap[n]? = some (.cells #[v] 40 (0, 0)) ∧ Kd.R Kd.string 9 w w0.heap.size (fun _ => True) v s.out
  wd : ∃ v, w.heap[n + 1]? = some (.cells #[.bool s.op, .bool s.fu, v] 58 (0, 0)) ∧ Kd.R (Kd.int .u8) 5 w w0.heap.size (fun _ => True) v s.b
  len : s.b.length ≤ 64

/-- A goal that the walk leaves as it is. -/
def Held (p : Prop) : Prop := p
theorem hold {p : Prop} (h : Held p) : p := h
/-- What is a row of ints stays. -/
def KT (w w' : World) : Prop := ∀ (g : Nat) (cells : Array Value), w.heap[g]? = some (Obj.cells cells 3 (0, 0)) → w'.heap[g]? = w.heap[g]?
theorem KT.refl (w : World) : KT w w := fun _ _ _ => rfl
theorem KT.trans {w w1 w2 : World} (h : KT w w1) (k : KT w1 w2) : KT w w2 := fun g cells hg => (k g cells ((h g cells hg).trans hg)).trans (h g cells hg)
theorem KT.below {w w1 : World} (h : Below w.heap.size w w1) : KT w w1 := fun g _ hg => h.block g (blk_lt hg)
theorem KT.set {w : World} {g t : Nat} {cs : Array Value} (hc : w.heap[g]? = some (.cells cs t (0, 0))) (ht : t ≠ 3) (j : Nat) (v : Value) : KT w (w.setCell ⟨g, j, none⟩ v) := fun g' cells hg => Below.heap_setCell _ _ _ _ (fun e => by
  have e : g' = g := e
  subst e
  rw [hg] at hc
  injection hc with hc
  injection hc with _ hc
  exact ht hc.symm)
theorem KT.grown {α : Type} {d : Kd α} {e base : Nat} {ok : Nat → Prop} {w w1 : World} {v : Value} {xs : List α} (hr : d.R e w base ok v xs) (ht : e ≠ 3) (hg : w.grownBy w1 v.ownBlock) : KT w w1 := fun g _ hc => hg.block g (blk_lt hc) (Kd.R_ne hr hc ht)
theorem KT.row {w w1 : World} {base : Nat} {ok : Nat → Prop} {v : Value} {xs : List Int} (h : KT w w1) (hr : Kd.R (Kd.int .i64) 3 w base ok v xs) : Kd.R (Kd.int .i64) 3 w1 base ok v xs :=
  Kd.R_mono (Kd.R_move (Kd.R_bound hr) (fun k hk => by
    obtain ⟨_, _, _, q, hq, cells, hc⟩ := hk
    obtain rfl : q = 3 := by
      rcases List.mem_cons.1 hq with hq | hq
      · exact hq
      · cases hq
    exact h k cells hc)) (fun _ hk => hk.1)
theorem TI.wiped {n : Nat} {w0 W : World} {out : List ByteArray} {x y : Bool} {v vb : Value} (hb : Below w0.heap.size w0 W) (hn : w0.heap.size ≤ n)
    (ho : W.heap[n]? = some (.cells #[v] 40 (0, 0))) (hr : Kd.R Kd.string 9 W w0.heap.size (fun _ => True) v out)
    (hw : W.heap[n + 1]? = some (.cells #[.bool x, .bool y, vb] 58 (0, 0))) :
    TI n w0 (((W.setCell ⟨n + 1, 0, none⟩ (.bool false)).setCell ⟨n + 1, 1, none⟩ (.bool false)).setCell ⟨n + 1, 2, none⟩ (.slice none 0 0)) ⟨out, false, false, []⟩ ∧ KT W (((W.setCell ⟨n + 1, 0, none⟩ (.bool false)).setCell ⟨n + 1, 1, none⟩ (.bool false)).setCell ⟨n + 1, 2, none⟩ (.slice none 0 0)) := by
  have h1 := blk_put (cs' := #[.bool false, .bool y, vb]) hw 0 (.bool false) rfl
  have h2 := blk_put (cs' := #[.bool false, .bool false, vb]) h1 1 (.bool false) rfl
  have h3 := blk_put (cs' := #[.bool false, .bool false, .slice none 0 0]) h2 2 (.slice none 0 0) rfl
  have hne : ∀ j, n ≠ (⟨n + 1, j, none⟩ : Addr).block := fun j => by show n ≠ n + 1; omega
  refine ⟨⟨below_set (below_set (below_set hb (Nat.le_succ_of_le hn)) (Nat.le_succ_of_le hn)) (Nat.le_succ_of_le hn), hn, ⟨v, ?_, ?_⟩, ⟨_, h3, Kd.R_nil _ _ _ _ _⟩, by simp⟩, ((KT.set hw (by decide) _ _).trans (KT.set h1 (by decide) _ _)).trans (KT.set h2 (by decide) _ _)⟩
  · exact (Below.heap_setCell _ _ _ _ (hne _)).trans ((Below.heap_setCell _ _ _ _ (hne _)).trans ((Below.heap_setCell _ _ _ _ (hne _)).trans ho))
  · exact Kd.R_set (Kd.R_set (Kd.R_set hr hw (by decide) _ _) h1 (by decide) _ _) h2 (by decide) _ _

set_option maxHeartbeats 1000000 in
set_option maxRecDepth 100000 in
theorem end_calls (n : Nat) (w0 w : World) (s : TS) (h : TI n w0 w s) (hl : s.out.length < 8796093022208) :
    Calls Tryd.prog 32 #[.pointer (some ⟨n + 1, 0, none⟩), .pointer (some ⟨n, 0, none⟩)] w fun e w' => e = .returned (.tuple #[]) ∧ TI n w0 w' (endT s) ∧ KT w w' := by
  obtain ⟨hb, hn, ⟨vo, ho, hro⟩, ⟨vw, hw, hrw⟩, hlen⟩ := h
  obtain ⟨out, op, fu, b⟩ := s
  dsimp only at *
  obtain ⟨Ab, cb, rfl⟩ := Kd.R_slice hrw
  obtain ⟨Ao, co, rfl⟩ := Kd.R_slice hro
  have cO := blk_cell ho 0
  have c0 := blk_cell hw 0
  have c1 := blk_cell hw 1
  have c2 := blk_cell hw 2
  have f0 := blk_frozen hw 0
  have f1 := blk_frozen hw 1
  have f2 := blk_frozen hw 2
  have fo := blk_frozen ho 0
  simp only [List.getElem?_toArray, List.getElem?_cons_zero, List.getElem?_cons_succ] at cO c0 c1 c2
  have hcv := Kd.C_string (P := Tryd.prog) (c := cb) (src := 30) (dst := 9) Tryd.underlying30 Tryd.underlying5 Tryd.underlying9 (Kd.R_reads' hrw).2.2
  cases op
  · have fin := TI.wiped hb hn ho hro hw
    clear hro hrw hw ho
    go_enter Tryd.func32, Tryd.ntmps32
    go_wp2
    go_end0
    exact ⟨rfl, fin⟩
  · go_enter Tryd.func32, Tryd.ntmps32
    go_wp2_with (with_reducible refine gate_builtin (b := .append) (xs := #[.tmp 4, .tmp 8]) rfl ?_; at_builtin; refine hold ?_)
    unfold Held
    refine Kd.R_append Kd.string (w0 := w0) w0.heap.size rfl _ _ 40 9 (.string ⟨#[]⟩) 16 rfl Tryd.underlying40 info9 rfl (by decide) (by omega) (.slice Ao out.length co) out (strOfNums b) [.string (strOfNums b)] (fun _ => True) (fun _ => False) rfl rfl rfl (fun _ hk => hk.elim) (fun _ _ => trivial) hro hb hb.size (by omega) ?_
    intro v1 w1 ho1 hb1 hg1 hat1
    obtain ⟨A1, c1', rfl⟩ := Kd.R_slice ho1
    have hn1 := (hg1.block n (blk_lt ho) (Kd.R_ne hro ho (by decide))).trans ho
    have hn2 := (hg1.block (n + 1) (blk_lt hw) (Kd.R_ne hro hw (by decide))).trans hw
    have hn3 := one_setCell (u := .slice A1 (out ++ [strOfNums b]).length c1') hn1
    have hn4 := (Below.heap_setCell w1 ⟨n, 0, none⟩ (.slice A1 (out ++ [strOfNums b]).length c1') (n + 1) (by show n + 1 ≠ n; omega)).trans hn2
    have fin := TI.wiped (below_set hb1 hn) hn hn3 (Kd.R_set ho1 hn1 (by decide) 0 _) hn4
    have d0 := cell_of_one hn1
    have g0 := free_of_one hn1
    have d1 := blk_cell hn2 0
    have d2 := blk_cell hn2 1
    have d3 := blk_cell hn2 2
    have g1 := blk_frozen hn2 0
    have g2 := blk_frozen hn2 1
    have g3 := blk_frozen hn2 2
    simp only [List.getElem?_toArray, List.getElem?_cons_zero, List.getElem?_cons_succ] at d1 d2 d3
    go_wp2
    go_end0
    rw [show out.length + 1 = (out ++ [strOfNums b]).length by simp]
    exact ⟨rfl, fin.1, ((KT.grown hro (by decide) hg1).trans (KT.set hn1 (by decide) _ _)).trans fin.2⟩

set_option maxHeartbeats 1000000 in
set_option maxRecDepth 100000 in
theorem take_calls (n : Nat) (w0 w : World) (s r : TS) (c : Int) (hG : G w0) (h : TI n w0 w s) (hr : takeT s c = some r) :
    Calls Tryd.prog 36 #[.pointer (some ⟨n + 1, 0, none⟩), .int .i64 c] w fun e w' => e = .returned (.tuple #[]) ∧ TI n w0 w' r ∧ KT w w' := by
  obtain ⟨hb, hn, ⟨vo, ho, hro⟩, ⟨vw, hw, hrw⟩, hlen⟩ := h
  obtain ⟨out, op, fu, b⟩ := s
  dsimp only at *
  obtain ⟨Ab, cb, rfl⟩ := Kd.R_slice hrw
  unfold takeT at hr
  cases hm : utf_Small.f c with
  | none => rw [hm] at hr; cases hr
  | some m =>
  rw [hm, Option.bind_some] at hr
  cases hx : utf_Encode.f 50 m with
  | none => rw [hx] at hr; cases hr
  | some x =>
  rw [hx, Option.bind_some] at hr
  obtain ⟨x, e⟩ := x
  dsimp only at hr
  by_cases hxl : x.length ≤ 64
  case neg => rw [if_neg hxl] at hr; cases hr
  rw [if_pos hxl] at hr
  have hr := Option.some.inj hr
  have c0 := blk_cell hw 0
  have f0 := blk_frozen hw 0
  have h1 := blk_put (cs' := #[.bool true, .bool fu, .slice Ab b.length cb]) hw 0 (.bool true) rfl
  have hb1 := below_set (j := 0) (v := .bool true) hb (Nat.le_succ_of_le hn)
  have hn1 := (Below.heap_setCell w ⟨n + 1, 0, none⟩ (.bool true) n (by show n ≠ n + 1; omega)).trans ho
  have hro1 := Kd.R_set hro hw (by decide) 0 (.bool true)
  have hrw1 := Kd.R_set hrw hw (by decide) 0 (.bool true)
  have HG1 := hG.below hb1
  simp only [List.getElem?_toArray, List.getElem?_cons_zero, List.getElem?_cons_succ] at c0
  go_enter Tryd.func36, Tryd.ntmps36
  go_wp2_with (first | (go_at_call 42; (with_reducible refine (utf_Small.calls c m _ ?side1 hm).mono ?_); (case side1 => exact HG1); rintro e w1 ⟨rfl, hb2⟩) | (go_at_call 41; (with_reducible refine (utf_Encode.calls 50 m x e _ hx).mono ?_); rintro e w2 ⟨v, rfl, hv2, hb3⟩; refine hold ?_))
  unfold Held
  have hb12 := below_step hb2 hb3
  have hb0 := below_step hb1 hb12
  have kn := (hb12.block n (blk_lt hn1)).trans hn1
  have kw := (hb12.block (n + 1) (blk_lt h1)).trans h1
  have kro := Kd.R_below hro1 hb12
  have krw := Kd.R_below hrw1 hb12
  obtain ⟨Ax, cx, rfl⟩ := Kd.R_slice hv2
  have krx := (Kd.R_reads' hv2).2.2
  have d1 := blk_cell kw 1
  have d2 := blk_cell kw 2
  have g1 := blk_frozen kw 1
  have g2 := blk_frozen kw 2
  simp only [List.getElem?_toArray, List.getElem?_cons_zero, List.getElem?_cons_succ] at d1 d2
  have kwA := blk_put (cs' := #[.bool true, .bool true, .slice Ab b.length cb]) kw 1 (.bool true) rfl
  have finA : TI n w0 (w2.setCell ⟨n + 1, 1, none⟩ (.bool true)) ⟨out, true, true, b⟩ := by
    refine ⟨below_set hb0 (Nat.le_succ_of_le hn), hn, ⟨_, (Below.heap_setCell _ _ _ _ (by show n ≠ n + 1; omega)).trans kn, Kd.R_set kro kw (by decide) _ _⟩, ⟨_, kwA, Kd.R_set krw kw (by decide) _ _⟩, hlen⟩
  have hwr : wrap64 ((b.length : Int) + (x.length : Int)) = (b.length : Int) + (x.length : Int) := by unfold wrap64; omega
  have ktA : KT w (w2.setCell ⟨n + 1, 1, none⟩ (.bool true)) := ((KT.set hw (by decide) _ _).trans (KT.below hb12)).trans (KT.set kw (by decide) _ _)
  have kt2 : KT w w2 := (KT.set hw (by decide) _ _).trans (KT.below hb12)
  clear hb2 hb3 hb12 hro1 hrw1 hb1 HG1 hro hrw hb h1 hn1 hm hx
  by_cases hfu : fu = true
  · subst hfu
    rw [if_pos (.inl rfl)] at hr
    subst hr
    go_wp2
    exact bodyPost_ret (results_none rfl _ _ _) rfl ⟨rfl, finA, ktA⟩
  · have hfu2 : fu = false := by simpa using hfu
    subst hfu2
    by_cases he : e = 0
    · by_cases hle : (64 : Int) < (b.length : Int) + (x.length : Int)
      · rw [if_pos (.inr (.inr (by omega)))] at hr
        subst hr
        go_wp2
        exact bodyPost_ret (results_none rfl _ _ _) rfl ⟨rfl, finA, ktA⟩
      · rw [if_neg (by simp [he]; omega)] at hr
        subst hr
        go_wp2_with (with_reducible refine gate_builtin (b := .append) (xs := #[.tmp 41, .tmp 42]) rfl ?_; at_builtin; refine hold ?_)
        unfold Held
        refine Kd.R_append_rows (Kd.int .u8) (w0 := w0) w0.heap.size rfl (.tmp 41) (.tmp 42) 30 5 (.int .u8 0) 1 rfl Tryd.underlying30 info5 rfl (by decide) (by omega) (.slice Ab b.length cb) b x Ax x.length cx (fun _ => True) (fun _ => False) rfl rfl krw krx (fun _ _ h => h) (fun _ h => h.elim) (fun _ _ => trivial) hb0 hb0.size (by omega) ?_
        intro v3 w3 hr3 hb3 hg3 hat3
        obtain ⟨A3, c3, rfl⟩ := Kd.R_slice hr3
        have m1 := (hg3.block n (blk_lt kn) (Kd.R_ne krw kn (by decide))).trans kn
        have m2 := (hg3.block (n + 1) (blk_lt kw) (Kd.R_ne krw kw (by decide))).trans kw
        have mro := Kd.R_over' kro (Kd.R_typed krw) (by decide) hg3
        have q2 := blk_cell m2 2
        have q3 := blk_frozen m2 2
        simp only [List.getElem?_toArray, List.getElem?_cons_zero, List.getElem?_cons_succ] at q2
        have kt3 := (kt2.trans (KT.grown krw (by decide) hg3)).trans (KT.set m2 (by decide) 2 (.slice A3 (b ++ x).length c3))
        have m3 := blk_put (cs' := #[.bool true, .bool false, .slice A3 (b ++ x).length c3]) m2 2 (.slice A3 (b ++ x).length c3) rfl
        have finB : TI n w0 (w3.setCell ⟨n + 1, 2, none⟩ (.slice A3 (b ++ x).length c3)) ⟨out, true, false, b ++ x⟩ := by
          refine ⟨below_set hb3 (Nat.le_succ_of_le hn), hn, ⟨_, (Below.heap_setCell _ _ _ _ (by show n ≠ n + 1; omega)).trans m1, Kd.R_set mro m2 (by decide) _ _⟩, ⟨_, m3, Kd.R_set hr3 m2 (by decide) _ _⟩, by simp; omega⟩
        rw [List.length_append] at finB kt3
        go_wp2
        go_end0
        exact ⟨rfl, finB, kt3⟩
    · rw [if_pos (.inr (.inl he))] at hr
      subst hr
      go_wp2
      exact bodyPost_ret (results_none rfl _ _ _) rfl ⟨rfl, finA, ktA⟩

theorem runT_cons (l : List Int) (k : Nat) (h : k < l.length) (s : TS) : runT (l.drop k) s = (stepT s (l.getD k 0)).bind (runT (l.drop (k + 1))) := by
  rw [List.drop_eq_getElem_cons h, List.getD_eq_getElem?_getD, List.getElem?_eq_getElem h]
  rfl
theorem takeT_out {s r : TS} {c : Int} (h : takeT s c = some r) : r.out = s.out := by
  unfold takeT at h
  obtain ⟨m, _, h⟩ := Option.bind_eq_some_iff.1 h
  obtain ⟨x, _, h⟩ := Option.bind_eq_some_iff.1 h
  split at h
  · have h := Option.some.inj h
    subst h
    split <;> rfl
  · cases h
theorem endT_out (s : TS) : (endT s).out.length ≤ s.out.length + 1 := by
  unfold endT
  dsimp only
  split
  · simp
  · omega
theorem TI.step {n : Nat} {w0 w w' : World} {s : TS} (h : TI n w0 w s) (hb : Below w.heap.size w w') : TI n w0 w' s := by
  obtain ⟨h1, h2, ⟨v, h3, h4⟩, ⟨vb, h5, h6⟩, h7⟩ := h
  exact ⟨below_step h1 hb, h2, ⟨v, (hb.block _ (blk_lt h3)).trans h3, Kd.R_below h4 hb⟩, ⟨vb, (hb.block _ (blk_lt h5)).trans h5, Kd.R_below h6 hb⟩, h7⟩
set_option maxHeartbeats 1000000 in
set_option maxRecDepth 100000 in
theorem token_Terms.calls (A0 : Option Addr) (c0 : Nat) (l0 : List Int) (r : List ByteArray) (w : World) (hG : G w) (hr0 : Kd.C (Kd.int .u8) w A0 l0.length l0) (hc0 : l0.length ≤ c0) (h : token_Terms.f l0 = some r) : 
    Calls Tryd.prog 30 #[.slice A0 l0.length c0] w fun e w' => ∃ v0_ : Value, e = .returned (v0_) ∧ Kd.R Kd.string 9 w' w.heap.size (fun _ => True) v0_ r ∧ Below w.heap.size w w' := by
  unfold token_Terms.f at h
  by_cases hl0 : l0.length ≤ 1099511627776
  case neg => rw [if_neg hl0] at h; cases h
  rw [if_pos hl0] at h
  cases hd : utf_Decode.f (l0.length + 100) l0 with
  | none => rw [hd] at h; cases h
  | some l =>
  rw [hd, Option.bind_some] at h
  by_cases hl1 : l.length ≤ 1099511627776
  case neg => rw [if_neg hl1] at h; cases h
  rw [if_pos hl1] at h
  obtain ⟨sf, hsf, hrf⟩ := Option.map_eq_some_iff.1 h
  have HRF := Aside0.mk hrf
  have HSF := Aside0.mk hsf
  clear h hrf hsf
  let W1 : World := w.alloc (.cells #[.slice none 0 0] 40)
  let W2 : World := W1.alloc (.cells #[.bool false, .bool false, .slice none 0 0] 58)
  have hbW : Below w.heap.size w W2 := below_alloc (below_alloc (Below.refl _ _) _) _
  have hbn : W2.heap[w.heap.size]? = some (.cells #[.slice none 0 0] 40 (0, 0)) := blk_alloc (blk_new w _) _
  have hbn1 : W2.heap[w.heap.size + 1]? = some (.cells #[.bool false, .bool false, .slice none 0 0] 58 (0, 0)) := by
    have := blk_new W1 (.cells #[.bool false, .bool false, .slice none 0 0] 58)
    rwa [show W1.heap.size = w.heap.size + 1 by simp [W1]] at this
  have hV : Kd.V (Kd.int .u8) 5 W2 W2.heap.size (fun k_ => k_ < W2.heap.size) (.slice A0 l0.length c0) l0 := Kd.V_mk hc0 (Kd.C_F (Kd.heap_int _) (Kd.C_below hr0 hbW))
  have HBW := Aside0.mk hbW
  have HBN := Aside0.mk hbn
  have HBN1 := Aside0.mk hbn1
  have HV := Aside0.mk hV
  clear hbW hbn hbn1 hV
  go_enter Tryd.func30, Tryd.ntmps30
  go_wp2_with (first | (go_at_call 33; refine (utf_Decode.calls (l0.length + 100) (fun k_ => k_ < W2.heap.size) A0 c0 l0 l W2 HV.out hd).mono ?_; rintro e w3 ⟨vl, rfl, hvl, hb3⟩; refine hold ?_))
  unfold Held
  obtain ⟨Al, cl, rfl⟩ := Kd.R_slice hvl
  have hTI : TI w.heap.size w w3 ⟨[], false, false, []⟩ := by
    have e1 := (hb3.block _ (blk_lt HBN.out)).trans HBN.out
    have e2 := (hb3.block _ (blk_lt HBN1.out)).trans HBN1.out
    exact ⟨below_step HBW.out hb3, Nat.le_refl _, ⟨_, e1, Kd.R_nil _ _ _ _ _⟩, ⟨_, e2, Kd.R_nil _ _ _ _ _⟩, by simp⟩
  have HVL := Aside0.mk (Kd.R_mono (ok' := fun _ => True) (Kd.R_lower hvl (Nat.zero_le _)) (fun _ _ => trivial))
  have HTI := Aside0.mk hTI
  clear hTI hvl hb3 hd
  go_wp2
  go_loopw [7, 12] (fun _ i wr => ∃ k : Nat, ∃ s : TS, k ≤ l.length ∧ i = .int .i64 k ∧ Aside0 (TI w.heap.size w wr s) ∧ Aside0 (runT (l.drop k) s = some sf) ∧ Aside0 (s.out.length ≤ k) ∧ Aside0 (Kd.R (Kd.int .i64) 3 wr 0 (fun _ => True) (.slice Al l.length cl) l)) (fun _ i _ => l.length - (intOf i).toNat)
  case atStart => exact ⟨0, _, by omega, rfl, HTI, ⟨HSF.out⟩, ⟨by simp⟩, HVL⟩
  case round =>
    obtain ⟨k, s, hk, rfl, HT, HE, HO, HV2⟩ := hrel
    by_cases hkl : k < l.length
    · have hst := HE.out
      rw [runT_cons l k hkl s] at hst
      obtain ⟨s', hs', hrest⟩ := Option.bind_eq_some_iff.1 hst
      obtain ⟨ad, rfl, hcell⟩ := Kd.at_int (Kd.R_reads' HV2.out).2.2 (k : Int) (by omega) (by omega)
      have hcd : rd l (k : Int) = l.getD k 0 := rfl
      rw [hcd, Int.toNat_natCast] at hcell
      generalize hc : l.getD k 0 = c at hs' hcell
      have HREST := Aside0.mk hrest
      have HWG := Aside0.mk (hG.below HT.out.below)
      unfold stepT at hs'
      obtain ⟨le, hle, hs'⟩ := Option.bind_eq_some_iff.1 hs'
      clear hst hrest hc hcd
      cases le with
      | true =>
        rw [if_pos rfl, Option.bind_some, if_pos rfl] at hs'
        have HS := Aside0.mk hs'
        clear hs'
        go_wp2_with (first | (go_at_call 34; refine (utf_Letter.calls c true wr HWG.out hle).mono ?_; rintro e w4 ⟨rfl, hb4⟩) | (go_at_call 36; refine (take_calls w.heap.size w w4 s s' c hG (HT.out.step hb4) HS.out).mono ?_; rintro e w5 ⟨rfl, hti, hkt⟩; refine hold ?_))
        unfold Held
        have HN := Aside0.mk hti
        have HNV := Aside0.mk (((KT.below hb4).trans hkt).row HV2.out)
        have HNO := Aside0.mk (show s'.out.length ≤ k + 1 by rw [takeT_out HS.out]; have := HO.out; omega)
        clear hti hkt HT HV2 hcell HO
        go_wp2
        exact ⟨⟨k + 1, s', by omega, by rw [Int.natCast_add]; rfl, HN, HREST, HNO, HNV⟩, by simp [intOf]; omega⟩
      | false =>
        rw [if_neg (by simp)] at hs'
        obtain ⟨g, hg, hs'⟩ := Option.bind_eq_some_iff.1 hs'
        cases g with
        | true =>
          rw [if_pos rfl] at hs'
          have HS := Aside0.mk hs'
          clear hs'
          go_wp2_with (first | (go_at_call 34; refine (utf_Letter.calls c false wr HWG.out hle).mono ?_; rintro e w4 ⟨rfl, hb4⟩) | (go_at_call 35; refine (utf_Digit.calls c true w4 hg).mono ?_; rintro e w5 ⟨rfl, hb5⟩) | (go_at_call 36; refine (take_calls w.heap.size w w5 s s' c hG ((HT.out.step hb4).step hb5.below) HS.out).mono ?_; rintro e w6 ⟨rfl, hti, hkt⟩; refine hold ?_))
          unfold Held
          have HN := Aside0.mk hti
          have HNV := Aside0.mk ((((KT.below hb4).trans (KT.below hb5.below)).trans hkt).row HV2.out)
          have HNO := Aside0.mk (show s'.out.length ≤ k + 1 by rw [takeT_out HS.out]; have := HO.out; omega)
          clear hti hkt HT HV2 hcell HO
          go_wp2
          exact ⟨⟨k + 1, s', by omega, by rw [Int.natCast_add]; rfl, HN, HREST, HNO, HNV⟩, by simp [intOf]; omega⟩
        | false =>
          rw [if_neg (by simp)] at hs'
          obtain rfl := Option.some.inj hs'
          go_wp2_with (first | (go_at_call 34; refine (utf_Letter.calls c false wr HWG.out hle).mono ?_; rintro e w4 ⟨rfl, hb4⟩) | (go_at_call 35; refine (utf_Digit.calls c false w4 hg).mono ?_; rintro e w5 ⟨rfl, hb5⟩) | (go_at_call 32; refine (end_calls w.heap.size w w5 s ((HT.out.step hb4).step hb5.below) (by have := HO.out; omega)).mono ?_; rintro e w6 ⟨rfl, hti, hkt⟩; refine hold ?_))
          unfold Held
          have HN := Aside0.mk hti
          have HNV := Aside0.mk ((((KT.below hb4).trans (KT.below hb5.below)).trans hkt).row HV2.out)
          have HNO := Aside0.mk (show (endT s).out.length ≤ k + 1 by have := endT_out s; have := HO.out; omega)
          clear hti hkt HT HV2 hcell HO
          go_wp2
          exact ⟨⟨k + 1, _, by omega, by rw [Int.natCast_add]; rfl, HN, HREST, HNO, HNV⟩, by simp [intOf]; omega⟩
    · have e : k = l.length := by omega
      subst e
      have hfin : s = sf := by have := HE.out; rw [List.drop_length] at this; exact Option.some.inj this
      subst hfin
      have hrf := HRF.out
      subst hrf
      go_wp2_with (first | (go_at_call 32; refine (end_calls w.heap.size w wr s HT.out (by have := HO.out; omega)).mono ?_; rintro e w4 ⟨rfl, hti, hkt⟩; obtain ⟨v, hv1, hv2⟩ := hti.out; have hb := hti.below; have d0 := cell_of_one hv1; obtain ⟨Av, cv, rfl⟩ := Kd.R_slice hv2))
      go_ret
      exact ⟨_, rfl, hv2, hb⟩
end Go.Proofs.YteofdfknemopiaaDoor.P
end
section
/- By hand: rubrickref04.Decode. -/
set_option linter.unusedVariables false
set_option linter.unusedSimpArgs false
namespace Go.Proofs.YteofdfknemopiaaDoor.P
open Go.RowKit Go.Proofs.YteofdfknemopiaaDoorW.PrintWords Go.Proofs.YteofdfknemopiaaDoorW.PrintLast Go.Proofs.YteofdfknemopiaaDoorW.PrintMore
def Held2 (p : Prop) : Prop := p
theorem hold2 {p : Prop} (h : Held2 p) : p := h
/-- One try: do the bytes from i on begin with a character of k bytes? -/
def rdTry (b : List Int) (i k : Nat) (cn : Int × Int) : Option (Int × Int) := (rubrickref04_begins.f 20 (b.drop i) k).bind fun x => (rubrickref04_Right.f x).bind fun g => if g = true then (rubrickref04_Encode.f x).bind fun e => if (strOfNums e).toList = (strOfNums ((b.take (min (i + k) b.length)).drop i)).toList then some (x, (k : Int)) else some cn else some cn
/-- The tries from k on (d of them). -/
def rdTries (b : List Int) (i : Nat) : Nat → Nat → Int × Int → Option (Int × Int)
  | 0, _, cn => some cn
  | d + 1, k, cn => (rdTry b i k cn).bind fun cn' => rdTries b i d (k + 1) cn'
def rdGo (b : List Int) : Nat → Nat → List Int → Option (List Int)
  | 0, _, _ => none
  | f + 1, i, out => if i < b.length then (rdTries b i 4 1 (65533, 1)).bind fun cn => if 1 ≤ cn.2 ∧ cn.2 ≤ 4 then rdGo b f (i + cn.2.toNat) (out ++ [cn.1]) else none else some out
def rubrickref04_Decode.f (l0 : List Int) : Option (List Int) := if l0.length ≤ 1099511627776 then rdGo l0 (l0.length + 1) 0 [] else none
/-- The bytes still lie there. -/
def SB (l : List Int) (ad : Addr) (w : World) : Prop := Kd.C (Kd.int .u8) w (some ad) l.length l
theorem SB.below {l : List Int} {ad : Addr} {w w' : World} (h : SB l ad w) (hb : Below w.heap.size w w') : SB l ad w' := Kd.C_below h hb
theorem row_string {l : List Int} {w : World} {base c : Nat} {ok : Nat → Prop} {A : Option Addr} (h : Kd.R (Kd.int .u8) 5 w base ok (.slice A l.length c) l) (m : Nat) : (convert 30 9 (.slice A l.length c)).run Tryd.prog (w.drewN m) = .ok (.string (strOfNums l)) (w.drewN m) :=
  Kd.C_string Tryd.underlying30 Tryd.underlying5 Tryd.underlying9 (Kd.R_reads' (Kd.R_drewN h m)).2.2
theorem least_min (n k m : Nat) : rubrickref04_least.f ((n : Int) + (k : Int)) (m : Int) = some ((min (n + k) m : Nat) : Int) := by
  unfold rubrickref04_least.f
  by_cases h : (n : Int) + (k : Int) < (m : Int)
  · rw [if_pos h]; congr 1; omega
  · rw [if_neg h]; congr 1; omega
theorem cut_string (l : List Int) (ad : Addr) (n m c : Nat) (w : World) (h : SB l ad w) (hnm : n ≤ m) (hm : m ≤ l.length) (hc : l.length ≤ c) (hnc : n < c) :
    (convert 30 9 (.slice (some (ad.add n)) (m - n) (c - n))).run Tryd.prog w = .ok (.string (strOfNums ((l.take m).drop n))) w := by
  have h1 := Kd.C_mid (lo := n) (hi := m) (c := c) h hnm hm hc
  rw [if_neg (by omega), Option.map_some, show n * (Kd.int .u8).sz = n from Nat.mul_one n] at h1
  have h2 : ((l.take m).drop n).length = m - n := by rw [List.length_drop, List.length_take]; omega
  rw [h2] at h1
  exact Kd.C_string Tryd.underlying30 Tryd.underlying5 Tryd.underlying9 h1
set_option maxHeartbeats 2000000 in
set_option maxRecDepth 100000 in
theorem rubrickref04_Decode.calls (A0 : Option Addr) (c0 : Nat) (l0 : List Int) (r : List Int) (w : World) (hr0 : Kd.C (Kd.int .u8) w A0 l0.length l0) (hc0 : l0.length ≤ c0) (h : rubrickref04_Decode.f l0 = some r) : 
    Calls Tryd.prog 19 #[.slice A0 l0.length c0] w fun e w' => ∃ v0_ : Value, e = .returned (v0_) ∧ Kd.R (Kd.int .i64) 3 w' w.heap.size (fun _ => True) v0_ r ∧ Below w.heap.size w w' := by
  unfold rubrickref04_Decode.f at h
  by_cases hl0 : l0.length ≤ 1099511627776
  case neg => rw [if_neg hl0] at h; cases h
  rw [if_pos hl0] at h
  have HR := Aside0.mk hr0
  have HC := Aside0.mk hc0
  have HH := Aside0.mk h
  clear hr0 h hc0
  go_enter Tryd.func19, Tryd.ntmps19
  go_wp2
  go_loopw [3, 4, 5, 6, 7, 8] (fun acc i _ _ _ _ wr => ∃ f : Nat, ∃ n : Nat, ∃ v : Value, ∃ out : List Int, acc = v ∧ i = .int .i64 n ∧ Aside0 (rdGo l0 f n out = some r) ∧ Aside0 (Kd.R (Kd.int .i64) 3 wr w.heap.size (fun _ => True) v out) ∧ Aside0 (out.length ≤ n ∧ n ≤ l0.length + 4) ∧ Aside0 (Below w.heap.size w wr)) (fun _ i _ _ _ _ _ => l0.length + 10 - (intOf i).toNat)
  case atStart => exact ⟨_, 0, _, [], rfl, rfl, HH, ⟨Kd.R_nil _ _ _ _ _⟩, ⟨by simp, by omega⟩, ⟨Below.refl _ _⟩⟩
  case round =>
    obtain ⟨f, n, v, out, rfl, rfl, HG, HV, HL, HB⟩ := hrel
    cases f with
    | zero => exact absurd HG.out (by simp [rdGo])
    | succ f =>
      have hg := HG.out
      simp only [rdGo] at hg
      by_cases hnl : n < l0.length
      · rw [if_pos hnl] at hg
        obtain ⟨cn, htr, hg⟩ := Option.bind_eq_some_iff.1 hg
        by_cases hcn : 1 ≤ cn.2 ∧ cn.2 ≤ 4
        case neg => rw [if_neg hcn] at hg; cases hg
        rw [if_pos hcn] at hg
        have HG2 := Aside0.mk hg
        have HTR := Aside0.mk htr
        have HCN := Aside0.mk hcn
        clear hg HG htr hcn
        go_wp2
        go_loopw [5, 6, 7, 8] (fun c m kk _ wq => ∃ d k : Nat, ∃ cn1 : Int × Int, d + k = 5 ∧ c = .int .i64 cn1.1 ∧ m = .int .i64 cn1.2 ∧ kk = .int .i64 (k : Int) ∧ Aside0 (rdTries l0 n d k cn1 = some cn) ∧ Aside0 (Kd.R (Kd.int .i64) 3 wq w.heap.size (fun _ => True) u3 out) ∧ Aside0 (Below w.heap.size w wq)) (fun _ _ kk _ _ => 5 - (intOf kk).toNat)
        case atStart => exact ⟨4, 1, (65533, 1), rfl, rfl, rfl, rfl, HTR, HV, HB⟩
        case round =>
          obtain ⟨d, k, cn1, hdk, rfl, rfl, rfl, HT, HV2, HB2⟩ := hrel
          have hC := Kd.C_below HR.out HB2.out
          obtain ⟨ad, hA0, _⟩ := hC.2.2 (by omega)
          subst hA0
          have hcc := HC.out
          cases d with
          | zero =>
            obtain rfl : k = 5 := by omega
            have ht := HT.out
            simp only [rdTries] at ht
            obtain rfl := Option.some.inj ht
            have hlen := HL.out
            obtain ⟨Ao, co, rfl⟩ := Kd.R_slice HV2.out
            obtain ⟨c1, n1⟩ := cn1
            have hcn := HCN.out
            dsimp only at hcn
            obtain ⟨m, rfl⟩ : ∃ m : Nat, n1 = (m : Int) := ⟨n1.toNat, by omega⟩
            have hw1 : wrap64 ((n : Int) + (m : Int)) = (n : Int) + (m : Int) := by unfold wrap64; omega
            have HG3 := HG2.out
            dsimp only at HG3
            rw [Int.toNat_natCast] at HG3
            have HG4 := Aside0.mk HG3
            clear HG3 HG2 HT ht
            go_wp2_with (with_reducible refine gate_builtin (b := .append) (xs := #[.tmp 42, .tmp 44]) rfl ?_; at_builtin; refine hold2 ?_)
            unfold Held2
            refine Kd.R_append (Kd.int .i64) (w0 := w) w.heap.size rfl (.tmp 42) (.tmp 44) 48 3 (.int .i64 0) 8 rfl Tryd.underlying48 info3 rfl (by decide) (by omega) (.slice Ao out.length co) out c1 [.int .i64 c1] (fun _ => True) (fun _ => False) rfl rfl rfl (fun _ hk => hk.elim) (fun _ _ => trivial) HV2.out HB2.out HB2.out.size (by omega) ?_
            intro v2 w2 hr2 hb2 hg2 hat2
            have N1 := Aside0.mk hr2
            have N2 := Aside0.mk hb2
            clear hr2 hb2 hg2 hat2 HV2 HB2
            go_wp2
            exact ⟨⟨f, n + m, v2, out ++ [c1], rfl, by rw [Int.natCast_add], HG4, N1, ⟨by rw [List.length_append, List.length_singleton]; omega, by omega⟩, N2⟩, by simp [intOf]; omega⟩
          | succ d =>
            have ht := HT.out
            simp only [rdTries] at ht
            obtain ⟨cn2, htry, ht⟩ := Option.bind_eq_some_iff.1 ht
            have HT2 := Aside0.mk ht
            clear HT ht
            unfold rdTry at htry
            obtain ⟨x, hx, htry⟩ := Option.bind_eq_some_iff.1 htry
            obtain ⟨g, hg, htry⟩ := Option.bind_eq_some_iff.1 htry
            have hCd : Kd.C (Kd.int .u8) wr (some (ad.add n)) (l0.drop n).length (l0.drop n) := by
              have := Kd.C_drop (m := n) (c := c0) hC (by omega) hcc
              rwa [if_neg (by omega), Option.map_some, show n * (Kd.int .u8).sz = n from Nat.mul_one n] at this
            have hbeg := rubrickref04_begins.calls 20 (some (ad.add n)) (c0 - n) (l0.drop n) (k : Int) x wr hCd (by rw [List.length_drop]; omega) hx
            rw [List.length_drop] at hbeg
            have HBEG := Aside0.mk hbeg
            clear hbeg hCd hx
            have hcn : ¬ c0 = n := by omega
            have hk5 : (k : Int) ≤ 4 := by omega
            have hq1 : (n : Int) ≤ (l0.length : Int) := by omega
            have hks : wrap64 ((k : Int) + 1) = (k : Int) + 1 := by unfold wrap64; omega
            cases g with
            | false =>
              rw [if_neg (by simp)] at htry
              obtain rfl := Option.some.inj htry
              go_wp2_with (go_at_call 24; refine HBEG.out.mono ?_; rintro e w4 ⟨rfl, hb4⟩; have HQ := Aside0.mk hb4; have S0 := (SB.below hC hb4).below (below_drew (Below.refl _ _)))
              go_quiet (first | (go_at_call 25; refine (rubrickref04_Right.calls x false _ hg).mono ?_; rintro e w' ⟨rfl, ⟨nd, rfl⟩⟩; first | exact ⟨rfl, _, World.drewN_drewN _ _ _⟩ | exact ⟨rfl, _, Eq.trans (World.drewN_drewN _ _ _) (congrArg (World.drewN _) (Nat.add_assoc _ _ _))⟩))
              have HQ5 := below_step HQ.out (pw_below_drewN (Below.refl w4.heap.size w4) nq)
              have N1 := Aside0.mk (Kd.R_below HV2.out HQ5)
              have N2 := Aside0.mk (below_step HB2.out HQ5)
              clear HV2 HQ HQ5
              go_wp2
              exact ⟨⟨d, k + 1, cn1, by omega, rfl, rfl, by rw [Int.natCast_add]; rfl, HT2, N1, N2⟩, by simp [intOf]; omega⟩
            | true =>
              rw [if_pos rfl] at htry
              obtain ⟨e, he, htry⟩ := Option.bind_eq_some_iff.1 htry
              obtain ⟨mm, hmm⟩ : ∃ mm, mm = min (n + k) l0.length := ⟨_, rfl⟩
              have hle := least_min n k l0.length
              rw [← hmm] at hle htry
              have hm1 : n ≤ mm := by omega
              have hm2 : mm ≤ l0.length := by omega
              have hcv : ∀ W, SB l0 ad W → (convert 30 9 (.slice (some (ad.add n)) (mm - n) (c0 - n))).run Tryd.prog W = .ok (.string (strOfNums ((l0.take mm).drop n))) W := fun W hW => cut_string l0 ad n mm c0 W hW hm1 hm2 hcc (by omega)
              have hwk : IntKind.i64.wrap ((n : Int) + (k : Int)) = (n : Int) + (k : Int) := by rw [IntKind.wrap_i64]; omega
              have hz1 : (0 : Int) ≤ (n : Int) := by omega
              have hz2 : (n : Int) ≤ (mm : Int) := by omega
              have hz3 : (mm : Int) ≤ (c0 : Int) := by omega
              generalize hs1 : strOfNums ((l0.take mm).drop n) = s1 at hcv htry
              have HMM := Aside0.mk hmm
              have HS1 := Aside0.mk hs1
              clear hmm hs1
              by_cases heq : (strOfNums e).toList = s1.toList
              · rw [if_pos heq] at htry
                obtain rfl := Option.some.inj htry
                go_wp2_with (go_at_call 24; refine HBEG.out.mono ?_; rintro e w4 ⟨rfl, hb4⟩; have HQ := Aside0.mk (below_step hb4 (below_drew (Below.refl _ _))); have S0 := (SB.below hC hb4).below (below_drew (Below.refl _ _)))
                go_region_held (SB l0 ad) (first | assumption | exact S0) (first
                  | (go_at_call 25; refine (rubrickref04_Right.calls x true _ hg).mono ?_; rintro e w5 ⟨rfl, hb5⟩; have SQ5 := S0.below hb5.below; have HQn := Aside0.mk (below_step HQ.out hb5.below); clear HQ; have HQ := HQn; clear HQn)
                  | (go_at_call 26; refine (rubrickref04_Encode.calls x e _ he).mono ?_; rintro e w6 ⟨v, rfl, hv, hb6⟩; obtain ⟨Ae, ce, rfl⟩ := Kd.R_slice hv; have SQ6 := SQ5.below hb6; have HQn := Aside0.mk (below_step HQ.out hb6); clear HQ; have HQ := HQn; clear HQn; have hcve := row_string hv; have hcve0 : (convert 30 9 (.slice Ae e.length ce)).run Tryd.prog w6 = .ok (.string (strOfNums e)) w6 := hcve 0; clear hv)
                  | (go_at_call 27; refine (rubrickref04_least.calls _ _ _ _ hle).mono ?_; rintro e w7 ⟨rfl, ⟨nd, rfl⟩⟩; have SQ7 := (show SB l0 ad _ from by assumption).below (pw_below_drewN (Below.refl _ _) nd); have HQn := Aside0.mk (below_step HQ.out (pw_below_drewN (Below.refl _ _) nd)); clear HQ; have HQ := HQn; clear HQn))
                all_goals have N1 := Aside0.mk (Kd.R_below HV2.out HQ.out)
                all_goals have N2 := Aside0.mk (below_step HB2.out HQ.out)
                all_goals clear HV2 HQ
                all_goals go_wp2
                all_goals exact ⟨⟨d, k + 1, (x, (k : Int)), by omega, rfl, rfl, by rw [Int.natCast_add]; rfl, HT2, N1, N2⟩, by simp [intOf]; omega⟩
              · rw [if_neg heq] at htry
                obtain rfl := Option.some.inj htry
                go_wp2_with (go_at_call 24; refine HBEG.out.mono ?_; rintro e w4 ⟨rfl, hb4⟩; have HQ := Aside0.mk (below_step hb4 (below_drew (Below.refl _ _))); have S0 := (SB.below hC hb4).below (below_drew (Below.refl _ _)))
                go_region_held (SB l0 ad) (first | assumption | exact S0) (first
                  | (go_at_call 25; refine (rubrickref04_Right.calls x true _ hg).mono ?_; rintro e w5 ⟨rfl, hb5⟩; have SQ5 := S0.below hb5.below; have HQn := Aside0.mk (below_step HQ.out hb5.below); clear HQ; have HQ := HQn; clear HQn)
                  | (go_at_call 26; refine (rubrickref04_Encode.calls x e _ he).mono ?_; rintro e w6 ⟨v, rfl, hv, hb6⟩; obtain ⟨Ae, ce, rfl⟩ := Kd.R_slice hv; have SQ6 := SQ5.below hb6; have HQn := Aside0.mk (below_step HQ.out hb6); clear HQ; have HQ := HQn; clear HQn; have hcve := row_string hv; have hcve0 : (convert 30 9 (.slice Ae e.length ce)).run Tryd.prog w6 = .ok (.string (strOfNums e)) w6 := hcve 0; clear hv)
                  | (go_at_call 27; refine (rubrickref04_least.calls _ _ _ _ hle).mono ?_; rintro e w7 ⟨rfl, ⟨nd, rfl⟩⟩; have SQ7 := (show SB l0 ad _ from by assumption).below (pw_below_drewN (Below.refl _ _) nd); have HQn := Aside0.mk (below_step HQ.out (pw_below_drewN (Below.refl _ _) nd)); clear HQ; have HQ := HQn; clear HQn))
                all_goals have N1 := Aside0.mk (Kd.R_below HV2.out HQ.out)
                all_goals have N2 := Aside0.mk (below_step HB2.out HQ.out)
                all_goals clear HV2 HQ
                all_goals go_wp2
                all_goals first | exact absurd (eq_of_beq (show ((strOfNums e).toList == s1.toList) = true by assumption)) heq | exact ⟨⟨d, k + 1, cn1, by omega, rfl, rfl, by rw [Int.natCast_add]; rfl, HT2, N1, N2⟩, by simp [intOf]; omega⟩
      · rw [if_neg hnl] at hg
        obtain rfl := Option.some.inj hg
        obtain ⟨Ao, co, rfl⟩ := Kd.R_slice HV.out
        go_wp2
        go_ret
        exact ⟨_, rfl, HV.out, HB.out⟩
end Go.Proofs.YteofdfknemopiaaDoor.P
end
section
-- Printed by this session's patched printer.
namespace Go.Proofs.YteofdfknemopiaaDoor.P
open Go.RowKit Go.Proofs.YteofdfknemopiaaDoorW.PrintWords Go.Proofs.YteofdfknemopiaaDoorW.PrintLast Go.Proofs.YteofdfknemopiaaDoorW.PrintMore
attribute [local go_sem] Go.Instr.field Go.part Go.asAgg max2_int min2_int max_two min_two max_three min_three max_four min_four   -- for this text's walks alone
set_option linter.unusedVariables false
set_option linter.unusedSimpArgs false

/-! ### token_Right: function 22 -/
def token_Right.f (a0 : ByteArray) : Option (Bool) := (bytesO a0).bind fun t141 => ((token_Terms.f t141).bind fun t144 => (if (t144.length : Int) = 1 then (if 0 < (t144.length : Int) then (some ((rdOf ByteArray.empty t144 0).toList == a0.toList)) else (none)) else (some false)))
set_option maxHeartbeats 8000000 in
set_option maxRecDepth 100000 in
theorem token_Right.calls (a0 : ByteArray) (r : Bool) (w : World) (hG : G w) (h : token_Right.f a0 = some r) :
    Calls Tryd.prog 22 #[.string a0] w fun e w' => e = .returned (.bool r) ∧ Below w.heap.size w w' := by
  have HG := Aside0.mk hG
  clear hG
  have HB := Aside0.mk (Below.refl w.heap.size w)
  have H : ((bytesO a0).bind fun t141 => ((token_Terms.f t141).bind fun t144 => (if (t144.length : Int) = 1 then (if 0 < (t144.length : Int) then (some ((rdOf ByteArray.empty t144 0).toList == a0.toList)) else (none)) else (some false)))) = some r := h
  clear h
  replace H := Option.bind_eq_some_iff.mp H
  obtain ⟨t141, A20, H⟩ := H
  replace H : ((token_Terms.f t141).bind fun t144 => (if (t144.length : Int) = 1 then (if 0 < (t144.length : Int) then (some ((rdOf ByteArray.empty t144 0).toList == a0.toList)) else (none)) else (some false))) = some r := H
  have A2 := Aside0.mk A20
  clear A20
  replace H := Option.bind_eq_some_iff.mp H
  obtain ⟨t144, A30, H⟩ := H
  replace H : (if (t144.length : Int) = 1 then (if 0 < (t144.length : Int) then (some ((rdOf ByteArray.empty t144 0).toList == a0.toList)) else (none)) else (some false)) = some r := H
  have A3 := Aside0.mk A30
  clear A30
  by_cases c4 : (t144.length : Int) = 1
  · rw [if_pos c4] at H
    have c4b0 : ((t144.length : Int) == 1) = true := beq_iff_eq.mpr c4
    have c4b1 : ((t144.length : Int) != 1) = false := bne_eq_false_iff_eq.mpr c4
    clear c4
    by_cases c5 : 0 < (t144.length : Int)
    · rw [if_pos c5] at H
      have c5b0 : decide (0 < (t144.length : Int)) = true := decide_eq_true c5
      have c5b1 : decide (0 < t144.length) = true := decide_eq_true (by omega)
      clear c5
      obtain rfl := Option.some.inj H
      go_enter Tryd.func22, Tryd.ntmps22
      go_wp2_with (first | ((with_reducible refine gate_dst (N := 5) rfl ?_); refine bytes_event rfl (N := 5) rfl 9 30 5 _ a0 rfl ?hx Tryd.underlying9 Tryd.underlying30 Tryd.underlying5 A2.out ?_; (case hx => first | rfl | (go_simp; done) | (go_simp; rfl)); intro v142 w6 ho0 hb; have n0_ := Aside0.mk (Kd.V_lower (Kd.V_mono (ok' := fun k_ => True) ho0 (fun k_ hk_ => trivial)) (below_size (by repeat (first | (with_reducible first | exact HB.out | apply below_alloc | apply pw_below_drewN | apply below_drew1) | exact HB.out)))); have n1_ := Aside0.mk (below_step (by repeat (first | (with_reducible first | exact HB.out | apply below_alloc | apply pw_below_drewN | apply below_drew1) | exact HB.out)) hb); clear HB; have HO143 := n0_; have HB := n1_; clear n0_ n1_; (try clear hb); (try clear hb2); (try clear hk); (try clear hi); (try clear ho0); obtain ⟨Ao7, co7, eo7⟩ := Kd.V_slice HO143.out; subst eo7) | ((with_reducible refine gate_callee (f := 30) rfl ?_); refine goesL_ (some 6) rfl rfl Tryd.func30 (by kernel_rfl) rfl #[.slice Ao7 t141.length co7] rfl (by (try simp only [List.map_toArray, List.map_cons, List.map_nil]); first | done | rfl | (simp only [List.length_drop, List.length_take]; rfl)) ?_; (with_reducible refine (token_Terms.calls _ _ t141 t144 _ ?side1 ?side2 ?side3 A3.out).mono ?_); (case side1 => first | exact HG.out | exact G.below HG.out (by repeat (first | (with_reducible first | exact HB.out | apply below_alloc | apply pw_below_drewN | apply below_drew1) | exact HB.out)) | (repeat (first | exact HG.out | apply G.drewN | apply G.drew | apply G.alloc))); (case side2 => repeat (first | exact (Kd.V_reads' HO143.out).2.2 | (with_reducible refine Kd.C_alloc ?_ _) | (with_reducible refine Kd.C_drewN ?_ _) | (with_reducible refine Kd.C_drew ?_))); (case side3 => exact (Kd.V_reads' HO143.out).2.1); rintro e w8 ⟨v145, rfl, ho0, hb⟩; refine ⟨_, rfl, ?_⟩; have n0_ := Aside0.mk (Kd.V_elder' (by (with_reducible repeat (first | apply Kd.V_alloc | apply Kd.V_drewN | apply Kd.V_drew)); exact HO143.out) (Kd.R_base ho0) hb); have n1_ := Aside0.mk (Kd.R_lower ho0 (below_size (by repeat (first | (with_reducible first | exact HB.out | apply below_alloc | apply pw_below_drewN | apply below_drew1) | exact HB.out)))); have n2_ := Aside0.mk (below_step (by repeat (first | (with_reducible first | exact HB.out | apply below_alloc | apply pw_below_drewN | apply below_drew1) | exact HB.out)) hb); clear HO143; clear HB; have HO143 := n0_; have HO146 := n1_; have HB := n2_; clear n0_ n1_ n2_; (try clear hb); (try clear hb2); (try clear hk); (try clear hi); (try clear ho0); obtain ⟨Ao9, co9, eo9⟩ := Kd.R_slice HO146.out; subst eo9; have p147 : 0 ≤ (0 : Int) := (by omega); have q147 : 0 < (t144.length : Int) := of_decide_eq_true (by first | (with_reducible assumption) | assumption); obtain ⟨ad147, e147, hx147_0⟩ := Kd.at_string (Kd.R_reads' HO146.out).2.2 0 p147 q147; cases e147; have qi147 : (0 < t144.length) = True := eq_true (by omega); (try rw [show ((0 : Int)).toNat = 0 from rfl] at hx147_0); (try rw [Addr.add_zero'] at hx147_0); replace p147 := eq_true p147; replace q147 := eq_true q147))
      go_ret
      exact ⟨by first | rfl | (simp [errW_none, errW_some] <;> rfl) | (simp [*, errW_none, errW_some] <;> rfl), by repeat (first | (with_reducible first | exact HB.out | apply below_alloc | apply pw_below_drewN | apply below_drew1) | exact HB.out)⟩
    · rw [if_neg c5] at H
      exact absurd H (by simp)
  · rw [if_neg c4] at H
    have c4b0 : ((t144.length : Int) == 1) = false := beq_eq_false_iff_ne.mpr c4
    have c4b1 : ((t144.length : Int) != 1) = true := bne_iff_ne.mpr c4
    obtain rfl := Option.some.inj H
    go_enter Tryd.func22, Tryd.ntmps22
    go_wp2_with (first | ((with_reducible refine gate_dst (N := 5) rfl ?_); refine bytes_event rfl (N := 5) rfl 9 30 5 _ a0 rfl ?hx Tryd.underlying9 Tryd.underlying30 Tryd.underlying5 A2.out ?_; (case hx => first | rfl | (go_simp; done) | (go_simp; rfl)); intro v142 w10 ho0 hb; have n0_ := Aside0.mk (Kd.V_lower (Kd.V_mono (ok' := fun k_ => True) ho0 (fun k_ hk_ => trivial)) (below_size (by repeat (first | (with_reducible first | exact HB.out | apply below_alloc | apply pw_below_drewN | apply below_drew1) | exact HB.out)))); have n1_ := Aside0.mk (below_step (by repeat (first | (with_reducible first | exact HB.out | apply below_alloc | apply pw_below_drewN | apply below_drew1) | exact HB.out)) hb); clear HB; have HO143 := n0_; have HB := n1_; clear n0_ n1_; (try clear hb); (try clear hb2); (try clear hk); (try clear hi); (try clear ho0); obtain ⟨Ao11, co11, eo11⟩ := Kd.V_slice HO143.out; subst eo11) | ((with_reducible refine gate_callee (f := 30) rfl ?_); refine goesL_ (some 6) rfl rfl Tryd.func30 (by kernel_rfl) rfl #[.slice Ao11 t141.length co11] rfl (by (try simp only [List.map_toArray, List.map_cons, List.map_nil]); first | done | rfl | (simp only [List.length_drop, List.length_take]; rfl)) ?_; (with_reducible refine (token_Terms.calls _ _ t141 t144 _ ?side1 ?side2 ?side3 A3.out).mono ?_); (case side1 => first | exact HG.out | exact G.below HG.out (by repeat (first | (with_reducible first | exact HB.out | apply below_alloc | apply pw_below_drewN | apply below_drew1) | exact HB.out)) | (repeat (first | exact HG.out | apply G.drewN | apply G.drew | apply G.alloc))); (case side2 => repeat (first | exact (Kd.V_reads' HO143.out).2.2 | (with_reducible refine Kd.C_alloc ?_ _) | (with_reducible refine Kd.C_drewN ?_ _) | (with_reducible refine Kd.C_drew ?_))); (case side3 => exact (Kd.V_reads' HO143.out).2.1); rintro e w12 ⟨v145, rfl, ho0, hb⟩; refine ⟨_, rfl, ?_⟩; have n0_ := Aside0.mk (Kd.V_elder' (by (with_reducible repeat (first | apply Kd.V_alloc | apply Kd.V_drewN | apply Kd.V_drew)); exact HO143.out) (Kd.R_base ho0) hb); have n1_ := Aside0.mk (Kd.R_lower ho0 (below_size (by repeat (first | (with_reducible first | exact HB.out | apply below_alloc | apply pw_below_drewN | apply below_drew1) | exact HB.out)))); have n2_ := Aside0.mk (below_step (by repeat (first | (with_reducible first | exact HB.out | apply below_alloc | apply pw_below_drewN | apply below_drew1) | exact HB.out)) hb); clear HO143; clear HB; have HO143 := n0_; have HO146 := n1_; have HB := n2_; clear n0_ n1_ n2_; (try clear hb); (try clear hb2); (try clear hk); (try clear hi); (try clear ho0); obtain ⟨Ao13, co13, eo13⟩ := Kd.R_slice HO146.out; subst eo13))
    go_ret
    exact ⟨by first | rfl | (simp [errW_none, errW_some] <;> rfl) | (simp [*, errW_none, errW_some] <;> rfl), by repeat (first | (with_reducible first | exact HB.out | apply below_alloc | apply pw_below_drewN | apply below_drew1) | exact HB.out)⟩

end Go.Proofs.YteofdfknemopiaaDoor.P
end
section
-- Printed by this session's patched printer.
namespace Go.Proofs.YteofdfknemopiaaDoor.P
open Go.RowKit Go.Proofs.YteofdfknemopiaaDoorW.PrintWords Go.Proofs.YteofdfknemopiaaDoorW.PrintLast Go.Proofs.YteofdfknemopiaaDoorW.PrintMore
attribute [local go_sem] Go.Instr.field Go.part Go.asAgg max2_int min2_int max_two min_two max_three min_three max_four min_four   -- for this text's walks alone
set_option linter.unusedVariables false
set_option linter.unusedSimpArgs false

/-! ### rubrickref05_In: function 20 -/
def rubrickref05_In.f (a0 : Int) : Option (Bool) := (rubrickref04_Letter.f a0).bind fun t351 => (if t351 = true then (some true) else (if a0 ≥ 48 then (some (decide (a0 ≤ 57))) else (some false)))
set_option maxHeartbeats 8000000 in
set_option maxRecDepth 100000 in
theorem rubrickref05_In.calls (a0 : Int) (r : Bool) (w : World) (h : rubrickref05_In.f a0 = some r) :
    Calls Tryd.prog 20 #[.int .i64 a0] w fun e w' => e = .returned (.bool r) ∧ Drawn0 w w' := by
  have H : ((rubrickref04_Letter.f a0).bind fun t351 => (if t351 = true then (some true) else (if a0 ≥ 48 then (some (decide (a0 ≤ 57))) else (some false)))) = some r := h
  clear h
  replace H := Option.bind_eq_some_iff.mp H
  obtain ⟨t351, A20, H⟩ := H
  replace H : (if t351 = true then (some true) else (if a0 ≥ 48 then (some (decide (a0 ≤ 57))) else (some false))) = some r := H
  have A2 := Aside0.mk A20
  clear A20
  by_cases c3 : t351 = true
  · subst c3
    have H1 : (some true) = some r := by rw [if_pos rfl] at H; exact H
    clear H
    have H := H1
    clear H1
    obtain rfl := Option.some.inj H
    go_enter Tryd.func20, Tryd.ntmps20
    go_wp2_with (first | ((with_reducible refine gate_callee (f := 28) rfl ?_); refine goesL_ (some 4) rfl rfl Tryd.func28 (by kernel_rfl) rfl #[.int .i64 a0] rfl (by (try simp only [List.map_toArray, List.map_cons, List.map_nil]); first | done | rfl | (simp only [List.length_drop, List.length_take]; rfl)) ?_; (with_reducible refine (rubrickref04_Letter.calls a0 true _ A2.out).mono ?_); rintro e w' ⟨rfl, ⟨nd, rfl⟩⟩; refine ⟨_, rfl, ?_⟩))
    go_ret
    exact ⟨by first | rfl | (simp; done) | (simp [*]; done), by repeat (first | exact Drawn0.refl _ | apply Drawn0.step)⟩
  · replace c3 := Bool.eq_false_iff.mpr c3
    subst c3
    have H1 : (if a0 ≥ 48 then (some (decide (a0 ≤ 57))) else (some false)) = some r := by rw [if_neg (show ¬ (false = true) by decide)] at H; exact H
    clear H
    have H := H1
    clear H1
    by_cases c4 : a0 ≥ 48
    · rw [if_pos c4] at H
      have c4b0 : decide (48 ≤ a0) = true := decide_eq_true c4
      clear c4
      obtain rfl := Option.some.inj H
      go_enter Tryd.func20, Tryd.ntmps20
      go_wp2_with (first | ((with_reducible refine gate_callee (f := 28) rfl ?_); refine goesL_ (some 4) rfl rfl Tryd.func28 (by kernel_rfl) rfl #[.int .i64 a0] rfl (by (try simp only [List.map_toArray, List.map_cons, List.map_nil]); first | done | rfl | (simp only [List.length_drop, List.length_take]; rfl)) ?_; (with_reducible refine (rubrickref04_Letter.calls a0 false _ A2.out).mono ?_); rintro e w' ⟨rfl, ⟨nd, rfl⟩⟩; refine ⟨_, rfl, ?_⟩))
      go_ret
      exact ⟨by first | rfl | (simp; done) | (simp [*]; done), by repeat (first | exact Drawn0.refl _ | apply Drawn0.step)⟩
    · rw [if_neg c4] at H
      have c4b0 : decide (48 ≤ a0) = false := decide_eq_false c4
      clear c4
      obtain rfl := Option.some.inj H
      go_enter Tryd.func20, Tryd.ntmps20
      go_wp2_with (first | ((with_reducible refine gate_callee (f := 28) rfl ?_); refine goesL_ (some 4) rfl rfl Tryd.func28 (by kernel_rfl) rfl #[.int .i64 a0] rfl (by (try simp only [List.map_toArray, List.map_cons, List.map_nil]); first | done | rfl | (simp only [List.length_drop, List.length_take]; rfl)) ?_; (with_reducible refine (rubrickref04_Letter.calls a0 false _ A2.out).mono ?_); rintro e w' ⟨rfl, ⟨nd, rfl⟩⟩; refine ⟨_, rfl, ?_⟩))
      go_ret
      exact ⟨by first | rfl | (simp; done) | (simp [*]; done), by repeat (first | exact Drawn0.refl _ | apply Drawn0.step)⟩

end Go.Proofs.YteofdfknemopiaaDoor.P
end
section
-- Printed by this session's patched printer.
namespace Go.Proofs.YteofdfknemopiaaDoor.P
open Go.RowKit Go.Proofs.YteofdfknemopiaaDoorW.PrintWords Go.Proofs.YteofdfknemopiaaDoorW.PrintLast Go.Proofs.YteofdfknemopiaaDoorW.PrintMore
attribute [local go_sem] Go.Instr.field Go.part Go.asAgg max2_int min2_int max_two min_two max_three min_three max_four min_four   -- for this text's walks alone
set_option linter.unusedVariables false
set_option linter.unusedSimpArgs false

/-! ### rubrickref05_Right: function 14 -/
def rubrickref05_Right.l0 : Nat → ByteArray → List Int → Int → Option (Bool)
  | 0, _, _, _ => none
  | k + 1, x0, x3, x4 => if x4 < (x3.length : Int) then (if 0 ≤ x4 then ((rubrickref05_In.f (rd x3 x4)).bind fun t366 => (if t366 = true then ((rubrickref04_Small.f (rd x3 x4)).bind fun t368 => (if t368 = (rd x3 x4) then (rubrickref05_Right.l0 k x0 x3 (wrap64 (x4 + 1))) else (some false))) else (some false))) else (none)) else (if (x3.length : Int) > 0 then (some (decide ((x0.size : Int) ≤ 64))) else (some false))
def rubrickref05_Right.f (k : Nat) (a0 : ByteArray) : Option (Bool) := (bytesO a0).bind fun t359 => ((rubrickref04_Decode.f t359).bind fun t362 => (rubrickref05_Right.l0 k a0 t362 0))
theorem rubrickref05_Right.mono_l : ∀ k, (∀ y0 y1 y2, LeO (rubrickref05_Right.l0 k y0 y1 y2) (rubrickref05_Right.l0 (k + 1) y0 y1 y2))
  | 0 => fun _ _ _ r h => by simp [rubrickref05_Right.l0] at h
  | k + 1 => by
    have ih0 := rubrickref05_Right.mono_l k
    · intro y0 y1 y2
      unfold rubrickref05_Right.l0
      repeat' first
      | (with_reducible exact ih0 _ _ _)
      | (with_reducible exact LeO.refl _)
      | (with_reducible exact LeO.none _)
      | (with_reducible refine LeO.ite ?_ ?_)
      | (with_reducible refine LeO.bind ?_ (fun _ => ?_))
      | exact ih0 _ _ _
      | exact LeO.none _
      | refine LeO.ite ?_ ?_
      | refine LeO.bind ?_ (fun _ => ?_)
theorem rubrickref05_Right.mono : ∀ a0 k, LeO (rubrickref05_Right.f k a0) (rubrickref05_Right.f (k + 1) a0) := by
  intro a0 k
  have ih0 := rubrickref05_Right.mono_l k
  unfold rubrickref05_Right.f
  repeat' first
      | (with_reducible exact ih0 _ _ _)
      | (with_reducible exact LeO.refl _)
      | (with_reducible exact LeO.none _)
      | (with_reducible refine LeO.ite ?_ ?_)
      | (with_reducible refine LeO.bind ?_ (fun _ => ?_))
      | exact ih0 _ _ _
      | exact LeO.none _
      | refine LeO.ite ?_ ?_
      | refine LeO.bind ?_ (fun _ => ?_)
set_option maxHeartbeats 8000000 in
set_option maxRecDepth 100000 in
theorem rubrickref05_Right.calls (k : Nat) (a0 : ByteArray) (r : Bool) (w : World) (h : rubrickref05_Right.f k a0 = some r) :
    Calls Tryd.prog 14 #[.string a0] w fun e w' => e = .returned (.bool r) ∧ Below w.heap.size w w' := by
  have HB := Aside0.mk (Below.refl w.heap.size w)
  have H : ((bytesO a0).bind fun t359 => ((rubrickref04_Decode.f t359).bind fun t362 => (rubrickref05_Right.l0 k a0 t362 0))) = some r := h
  clear h
  replace H := Option.bind_eq_some_iff.mp H
  obtain ⟨t359, A20, H⟩ := H
  replace H : ((rubrickref04_Decode.f t359).bind fun t362 => (rubrickref05_Right.l0 k a0 t362 0)) = some r := H
  have A2 := Aside0.mk A20
  clear A20
  replace H := Option.bind_eq_some_iff.mp H
  obtain ⟨t362, A30, H⟩ := H
  replace H : (rubrickref05_Right.l0 k a0 t362 0) = some r := H
  have A3 := Aside0.mk A30
  clear A30
  have H' := Aside0.mk H
  clear H
  go_enter Tryd.func14, Tryd.ntmps14
  go_wp2_with (first | ((with_reducible refine gate_dst (N := 6) rfl ?_); refine bytes_event rfl (N := 6) rfl 9 30 5 _ a0 rfl ?hx Tryd.underlying9 Tryd.underlying30 Tryd.underlying5 A2.out ?_; (case hx => first | rfl | (go_simp; done) | (go_simp; rfl)); (try (refine gate_guard (by rfl) ?_; dsimp only)); intro v360 w4 ho0 hb; have n0_ := Aside0.mk (Kd.V_lower (Kd.V_mono (ok' := fun k_ => True) ho0 (fun k_ hk_ => trivial)) (below_size (by repeat (first | (with_reducible first | exact HB.out | apply below_alloc | apply pw_below_drewN | apply below_drew1) | exact HB.out)))); have n1_ := Aside0.mk (below_step (by repeat (first | (with_reducible first | exact HB.out | apply below_alloc | apply pw_below_drewN | apply below_drew1) | exact HB.out)) hb); clear HB; have HO361 := n0_; have HB := n1_; clear n0_ n1_; (try clear hb); (try clear hb2); (try clear hk); (try clear hi); (try clear ho0); obtain ⟨Ao5, co5, eo5⟩ := Kd.V_slice HO361.out; subst eo5) | (go_at_call 19; (with_reducible refine (rubrickref04_Decode.calls _ _ t359 t362 _ ?side1 ?side2 A3.out).mono ?_); (case side1 => repeat (first | exact (Kd.V_reads' HO361.out).2.2 | (with_reducible refine Kd.C_alloc ?_ _) | (with_reducible refine Kd.C_drewN ?_ _) | (with_reducible refine Kd.C_drew ?_))); (case side2 => exact (Kd.V_reads' HO361.out).2.1); rintro e w6 ⟨v363, rfl, ho0, hb⟩; have n0_ := Aside0.mk (Kd.V_elder' (by (with_reducible repeat (first | apply Kd.V_alloc | apply Kd.V_drewN | apply Kd.V_drew)); exact HO361.out) (Kd.R_base ho0) hb); have n1_ := Aside0.mk (Kd.R_lower ho0 (below_size (by repeat (first | (with_reducible first | exact HB.out | apply below_alloc | apply pw_below_drewN | apply below_drew1) | exact HB.out)))); have n2_ := Aside0.mk (below_step (by repeat (first | (with_reducible first | exact HB.out | apply below_alloc | apply pw_below_drewN | apply below_drew1) | exact HB.out)) hb); clear HO361; clear HB; have HO361 := n0_; have HO364 := n1_; have HB := n2_; clear n0_ n1_ n2_; (try clear hb); (try clear hb2); (try clear hk); (try clear hi); (try clear ho0)))
  repeat (go_quiet (first | ((with_reducible refine gate_dst (N := 6) rfl ?_); refine bytes_event rfl (N := 6) rfl 9 30 5 _ a0 rfl ?hx Tryd.underlying9 Tryd.underlying30 Tryd.underlying5 A2.out ?_; (case hx => first | rfl | (go_simp; done) | (go_simp; rfl)); (try (refine gate_guard (by rfl) ?_; dsimp only)); intro v360 w4 ho0 hb; have n0_ := Aside0.mk (Kd.V_lower (Kd.V_mono (ok' := fun k_ => True) ho0 (fun k_ hk_ => trivial)) (below_size (by repeat (first | (with_reducible first | exact HB.out | apply below_alloc | apply pw_below_drewN | apply below_drew1) | exact HB.out)))); have n1_ := Aside0.mk (below_step (by repeat (first | (with_reducible first | exact HB.out | apply below_alloc | apply pw_below_drewN | apply below_drew1) | exact HB.out)) hb); clear HB; have HO361 := n0_; have HB := n1_; clear n0_ n1_; (try clear hb); (try clear hb2); (try clear hk); (try clear hi); (try clear ho0); obtain ⟨Ao5, co5, eo5⟩ := Kd.V_slice HO361.out; subst eo5) | (go_at_call 19; (with_reducible refine (rubrickref04_Decode.calls _ _ t359 t362 _ ?side1 ?side2 A3.out).mono ?_); (case side1 => repeat (first | exact (Kd.V_reads' HO361.out).2.2 | (with_reducible refine Kd.C_alloc ?_ _) | (with_reducible refine Kd.C_drewN ?_ _) | (with_reducible refine Kd.C_drew ?_))); (case side2 => exact (Kd.V_reads' HO361.out).2.1); rintro e w6 ⟨v363, rfl, ho0, hb⟩; have n0_ := Aside0.mk (Kd.V_elder' (by (with_reducible repeat (first | apply Kd.V_alloc | apply Kd.V_drewN | apply Kd.V_drew)); exact HO361.out) (Kd.R_base ho0) hb); have n1_ := Aside0.mk (Kd.R_lower ho0 (below_size (by repeat (first | (with_reducible first | exact HB.out | apply below_alloc | apply pw_below_drewN | apply below_drew1) | exact HB.out)))); have n2_ := Aside0.mk (below_step (by repeat (first | (with_reducible first | exact HB.out | apply below_alloc | apply pw_below_drewN | apply below_drew1) | exact HB.out)) hb); clear HO361; clear HB; have HO361 := n0_; have HO364 := n1_; have HB := n2_; clear n0_ n1_ n2_; (try clear hb); (try clear hb2); (try clear hk); (try clear hi); (try clear ho0))); try go_wp2_with (first | ((with_reducible refine gate_dst (N := 6) rfl ?_); refine bytes_event rfl (N := 6) rfl 9 30 5 _ a0 rfl ?hx Tryd.underlying9 Tryd.underlying30 Tryd.underlying5 A2.out ?_; (case hx => first | rfl | (go_simp; done) | (go_simp; rfl)); (try (refine gate_guard (by rfl) ?_; dsimp only)); intro v360 w4 ho0 hb; have n0_ := Aside0.mk (Kd.V_lower (Kd.V_mono (ok' := fun k_ => True) ho0 (fun k_ hk_ => trivial)) (below_size (by repeat (first | (with_reducible first | exact HB.out | apply below_alloc | apply pw_below_drewN | apply below_drew1) | exact HB.out)))); have n1_ := Aside0.mk (below_step (by repeat (first | (with_reducible first | exact HB.out | apply below_alloc | apply pw_below_drewN | apply below_drew1) | exact HB.out)) hb); clear HB; have HO361 := n0_; have HB := n1_; clear n0_ n1_; (try clear hb); (try clear hb2); (try clear hk); (try clear hi); (try clear ho0); obtain ⟨Ao5, co5, eo5⟩ := Kd.V_slice HO361.out; subst eo5) | (go_at_call 19; (with_reducible refine (rubrickref04_Decode.calls _ _ t359 t362 _ ?side1 ?side2 A3.out).mono ?_); (case side1 => repeat (first | exact (Kd.V_reads' HO361.out).2.2 | (with_reducible refine Kd.C_alloc ?_ _) | (with_reducible refine Kd.C_drewN ?_ _) | (with_reducible refine Kd.C_drew ?_))); (case side2 => exact (Kd.V_reads' HO361.out).2.1); rintro e w6 ⟨v363, rfl, ho0, hb⟩; have n0_ := Aside0.mk (Kd.V_elder' (by (with_reducible repeat (first | apply Kd.V_alloc | apply Kd.V_drewN | apply Kd.V_drew)); exact HO361.out) (Kd.R_base ho0) hb); have n1_ := Aside0.mk (Kd.R_lower ho0 (below_size (by repeat (first | (with_reducible first | exact HB.out | apply below_alloc | apply pw_below_drewN | apply below_drew1) | exact HB.out)))); have n2_ := Aside0.mk (below_step (by repeat (first | (with_reducible first | exact HB.out | apply below_alloc | apply pw_below_drewN | apply below_drew1) | exact HB.out)) hb); clear HO361; clear HB; have HO361 := n0_; have HO364 := n1_; have HB := n2_; clear n0_ n1_ n2_; (try clear hb); (try clear hb2); (try clear hk); (try clear hi); (try clear ho0))))
  go_loopg [4] k (fun kq v4 w' => ∃ (x4_1 : Int), v4 = .int .i64 x4_1 ∧ Aside0 (rubrickref05_Right.l0 kq a0 t362 x4_1 = some r) ∧ Aside0 (kq ≤ k) ∧ Aside0 (Kd.R (Kd.int .i64) 3 w' w.heap.size (fun _ => True) v363 t362) ∧ Aside0 (Below w.heap.size w w'))
  case atStart => exact ⟨(0), (by first | rfl | (simp; done) | (simp [*]; done)), H', ⟨Nat.le_refl _⟩, ⟨by (with_reducible repeat (first | apply Kd.R_alloc | apply Kd.R_drewN | apply Kd.R_drew)); exact HO364.out⟩, ⟨by repeat (first | (with_reducible first | exact HB.out | apply below_alloc | apply pw_below_drewN | apply below_drew1) | exact HB.out)⟩⟩
  case round =>
    clear H'
    try clear c1
    try clear p2
    obtain ⟨x4_1, rfl, HA, HK1, HO_3, HB⟩ := hrel
    cases gk with
    | zero => exact absurd HA.out (by simp [rubrickref05_Right.l0])
    | succ k1 =>
      have H := HA.out
      clear HA
      simp only [rubrickref05_Right.l0] at H
      by_cases c7 : x4_1 < (t362.length : Int)
      · rw [if_pos c7] at H
        have c7b0 : decide (x4_1 < (t362.length : Int)) = true := decide_eq_true c7
        clear c7
        by_cases c8 : 0 ≤ x4_1
        · rw [if_pos c8] at H
          have c8b0 : decide (0 ≤ x4_1) = true := decide_eq_true c8
          clear c8
          replace H := Option.bind_eq_some_iff.mp H
          obtain ⟨t366, A90, H⟩ := H
          replace H : (if t366 = true then ((rubrickref04_Small.f (rd t362 x4_1)).bind fun t368 => (if t368 = (rd t362 x4_1) then (rubrickref05_Right.l0 k1 a0 t362 (wrap64 (x4_1 + 1))) else (some false))) else (some false)) = some r := H
          have A9 := Aside0.mk A90
          clear A90
          by_cases c10 : t366 = true
          · subst c10
            have H1 : ((rubrickref04_Small.f (rd t362 x4_1)).bind fun t368 => (if t368 = (rd t362 x4_1) then (rubrickref05_Right.l0 k1 a0 t362 (wrap64 (x4_1 + 1))) else (some false))) = some r := by rw [if_pos rfl] at H; exact H
            clear H
            have H := H1
            clear H1
            replace H := Option.bind_eq_some_iff.mp H
            obtain ⟨t368, A110, H⟩ := H
            replace H : (if t368 = (rd t362 x4_1) then (rubrickref05_Right.l0 k1 a0 t362 (wrap64 (x4_1 + 1))) else (some false)) = some r := H
            have A11 := Aside0.mk A110
            clear A110
            by_cases c12 : t368 = (rd t362 x4_1)
            · rw [if_pos c12] at H
              have c12b0 : (t368 == (rd t362 x4_1)) = true := beq_iff_eq.mpr c12
              have c12b1 : (t368 != (rd t362 x4_1)) = false := bne_eq_false_iff_eq.mpr c12
              clear c12
              have H' := Aside0.mk H
              clear H
              obtain ⟨Ao13, co13, eo13⟩ := Kd.R_slice HO_3.out
              subst eo13
              have p365 : 0 ≤ (x4_1 : Int) := of_decide_eq_true (by first | (with_reducible assumption) | assumption)
              have q365 : x4_1 < (t362.length : Int) := of_decide_eq_true (by first | (with_reducible assumption) | assumption)
              obtain ⟨ad365, e365, hx365_0⟩ := Kd.at_int (Kd.R_reads' HO_3.out).2.2 x4_1 p365 q365
              cases e365
              replace p365 := eq_true p365
              replace q365 := eq_true q365
              go_wp2_with (first | (go_at_call 20; (with_reducible refine (rubrickref05_In.calls (rd t362 x4_1) true _ A9.out).mono ?_); rintro e w' ⟨rfl, ⟨nd, rfl⟩⟩; (try first | exact ⟨rfl, _, World.drewN_drewN _ _ _⟩ | exact ⟨rfl, _, Eq.trans (World.drewN_drewN _ _ _) (congrArg (World.drewN _) (Nat.add_assoc _ _ _))⟩); have p367 : 0 ≤ (x4_1 : Int) := of_decide_eq_true (by first | (with_reducible assumption) | assumption); have q367 : x4_1 < (t362.length : Int) := of_decide_eq_true (by first | (with_reducible assumption) | assumption); obtain ⟨ad367, e367, hx367_0⟩ := Kd.at_int (Kd.R_reads' HO_3.out).2.2 x4_1 p367 q367; obtain rfl : ad365 = ad367 := (by injection e367); replace p367 := eq_true p367; replace q367 := eq_true q367) | (go_at_call 21; (with_reducible refine (rubrickref04_Small.calls (rd t362 x4_1) t368 _ A11.out).mono ?_); rintro e w' ⟨rfl, ⟨nd, rfl⟩⟩; (try first | exact ⟨rfl, _, World.drewN_drewN _ _ _⟩ | exact ⟨rfl, _, Eq.trans (World.drewN_drewN _ _ _) (congrArg (World.drewN _) (Nat.add_assoc _ _ _))⟩); have p369 : 0 ≤ (x4_1 : Int) := of_decide_eq_true (by first | (with_reducible assumption) | assumption); have q369 : x4_1 < (t362.length : Int) := of_decide_eq_true (by first | (with_reducible assumption) | assumption); obtain ⟨ad369, e369, hx369_0⟩ := Kd.at_int (Kd.R_reads' HO_3.out).2.2 x4_1 p369 q369; obtain rfl : ad365 = ad369 := (by injection e369); replace p369 := eq_true p369; replace q369 := eq_true q369))
              repeat (go_quiet (first | (go_at_call 20; (with_reducible refine (rubrickref05_In.calls (rd t362 x4_1) true _ A9.out).mono ?_); rintro e w' ⟨rfl, ⟨nd, rfl⟩⟩; (try first | exact ⟨rfl, _, World.drewN_drewN _ _ _⟩ | exact ⟨rfl, _, Eq.trans (World.drewN_drewN _ _ _) (congrArg (World.drewN _) (Nat.add_assoc _ _ _))⟩); have p367 : 0 ≤ (x4_1 : Int) := of_decide_eq_true (by first | (with_reducible assumption) | assumption); have q367 : x4_1 < (t362.length : Int) := of_decide_eq_true (by first | (with_reducible assumption) | assumption); obtain ⟨ad367, e367, hx367_0⟩ := Kd.at_int (Kd.R_reads' HO_3.out).2.2 x4_1 p367 q367; obtain rfl : ad365 = ad367 := (by injection e367); replace p367 := eq_true p367; replace q367 := eq_true q367) | (go_at_call 21; (with_reducible refine (rubrickref04_Small.calls (rd t362 x4_1) t368 _ A11.out).mono ?_); rintro e w' ⟨rfl, ⟨nd, rfl⟩⟩; (try first | exact ⟨rfl, _, World.drewN_drewN _ _ _⟩ | exact ⟨rfl, _, Eq.trans (World.drewN_drewN _ _ _) (congrArg (World.drewN _) (Nat.add_assoc _ _ _))⟩); have p369 : 0 ≤ (x4_1 : Int) := of_decide_eq_true (by first | (with_reducible assumption) | assumption); have q369 : x4_1 < (t362.length : Int) := of_decide_eq_true (by first | (with_reducible assumption) | assumption); obtain ⟨ad369, e369, hx369_0⟩ := Kd.at_int (Kd.R_reads' HO_3.out).2.2 x4_1 p369 q369; obtain rfl : ad365 = ad369 := (by injection e369); replace p369 := eq_true p369; replace q369 := eq_true q369)); try go_wp2_with (first | (go_at_call 20; (with_reducible refine (rubrickref05_In.calls (rd t362 x4_1) true _ A9.out).mono ?_); rintro e w' ⟨rfl, ⟨nd, rfl⟩⟩; (try first | exact ⟨rfl, _, World.drewN_drewN _ _ _⟩ | exact ⟨rfl, _, Eq.trans (World.drewN_drewN _ _ _) (congrArg (World.drewN _) (Nat.add_assoc _ _ _))⟩); have p367 : 0 ≤ (x4_1 : Int) := of_decide_eq_true (by first | (with_reducible assumption) | assumption); have q367 : x4_1 < (t362.length : Int) := of_decide_eq_true (by first | (with_reducible assumption) | assumption); obtain ⟨ad367, e367, hx367_0⟩ := Kd.at_int (Kd.R_reads' HO_3.out).2.2 x4_1 p367 q367; obtain rfl : ad365 = ad367 := (by injection e367); replace p367 := eq_true p367; replace q367 := eq_true q367) | (go_at_call 21; (with_reducible refine (rubrickref04_Small.calls (rd t362 x4_1) t368 _ A11.out).mono ?_); rintro e w' ⟨rfl, ⟨nd, rfl⟩⟩; (try first | exact ⟨rfl, _, World.drewN_drewN _ _ _⟩ | exact ⟨rfl, _, Eq.trans (World.drewN_drewN _ _ _) (congrArg (World.drewN _) (Nat.add_assoc _ _ _))⟩); have p369 : 0 ≤ (x4_1 : Int) := of_decide_eq_true (by first | (with_reducible assumption) | assumption); have q369 : x4_1 < (t362.length : Int) := of_decide_eq_true (by first | (with_reducible assumption) | assumption); obtain ⟨ad369, e369, hx369_0⟩ := Kd.at_int (Kd.R_reads' HO_3.out).2.2 x4_1 p369 q369; obtain rfl : ad365 = ad369 := (by injection e369); replace p369 := eq_true p369; replace q369 := eq_true q369)))
              go_roundg k1
              case measure => have := HK1.out; omega
              case rel => exact ⟨(wrap64 (x4_1 + 1)), (by first | rfl | (simp; done) | (simp [*]; done)), H', ⟨by have := HK1.out; omega⟩, ⟨by (with_reducible repeat (first | apply Kd.R_alloc | apply Kd.R_drewN | apply Kd.R_drew)); exact HO_3.out⟩, ⟨by repeat (first | (with_reducible first | exact HB.out | apply below_alloc | apply pw_below_drewN | apply below_drew1) | exact HB.out)⟩⟩
            · rw [if_neg c12] at H
              have c12b0 : (t368 == (rd t362 x4_1)) = false := beq_eq_false_iff_ne.mpr c12
              have c12b1 : (t368 != (rd t362 x4_1)) = true := bne_iff_ne.mpr c12
              obtain rfl := Option.some.inj H
              obtain ⟨Ao14, co14, eo14⟩ := Kd.R_slice HO_3.out
              subst eo14
              have p365 : 0 ≤ (x4_1 : Int) := of_decide_eq_true (by first | (with_reducible assumption) | assumption)
              have q365 : x4_1 < (t362.length : Int) := of_decide_eq_true (by first | (with_reducible assumption) | assumption)
              obtain ⟨ad365, e365, hx365_0⟩ := Kd.at_int (Kd.R_reads' HO_3.out).2.2 x4_1 p365 q365
              cases e365
              replace p365 := eq_true p365
              replace q365 := eq_true q365
              go_wp2_with (first | (go_at_call 20; (with_reducible refine (rubrickref05_In.calls (rd t362 x4_1) true _ A9.out).mono ?_); rintro e w' ⟨rfl, ⟨nd, rfl⟩⟩; (try first | exact ⟨rfl, _, World.drewN_drewN _ _ _⟩ | exact ⟨rfl, _, Eq.trans (World.drewN_drewN _ _ _) (congrArg (World.drewN _) (Nat.add_assoc _ _ _))⟩); have p367 : 0 ≤ (x4_1 : Int) := of_decide_eq_true (by first | (with_reducible assumption) | assumption); have q367 : x4_1 < (t362.length : Int) := of_decide_eq_true (by first | (with_reducible assumption) | assumption); obtain ⟨ad367, e367, hx367_0⟩ := Kd.at_int (Kd.R_reads' HO_3.out).2.2 x4_1 p367 q367; obtain rfl : ad365 = ad367 := (by injection e367); replace p367 := eq_true p367; replace q367 := eq_true q367) | (go_at_call 21; (with_reducible refine (rubrickref04_Small.calls (rd t362 x4_1) t368 _ A11.out).mono ?_); rintro e w' ⟨rfl, ⟨nd, rfl⟩⟩; (try first | exact ⟨rfl, _, World.drewN_drewN _ _ _⟩ | exact ⟨rfl, _, Eq.trans (World.drewN_drewN _ _ _) (congrArg (World.drewN _) (Nat.add_assoc _ _ _))⟩); have p369 : 0 ≤ (x4_1 : Int) := of_decide_eq_true (by first | (with_reducible assumption) | assumption); have q369 : x4_1 < (t362.length : Int) := of_decide_eq_true (by first | (with_reducible assumption) | assumption); obtain ⟨ad369, e369, hx369_0⟩ := Kd.at_int (Kd.R_reads' HO_3.out).2.2 x4_1 p369 q369; obtain rfl : ad365 = ad369 := (by injection e369); replace p369 := eq_true p369; replace q369 := eq_true q369))
              repeat (go_quiet (first | (go_at_call 20; (with_reducible refine (rubrickref05_In.calls (rd t362 x4_1) true _ A9.out).mono ?_); rintro e w' ⟨rfl, ⟨nd, rfl⟩⟩; (try first | exact ⟨rfl, _, World.drewN_drewN _ _ _⟩ | exact ⟨rfl, _, Eq.trans (World.drewN_drewN _ _ _) (congrArg (World.drewN _) (Nat.add_assoc _ _ _))⟩); have p367 : 0 ≤ (x4_1 : Int) := of_decide_eq_true (by first | (with_reducible assumption) | assumption); have q367 : x4_1 < (t362.length : Int) := of_decide_eq_true (by first | (with_reducible assumption) | assumption); obtain ⟨ad367, e367, hx367_0⟩ := Kd.at_int (Kd.R_reads' HO_3.out).2.2 x4_1 p367 q367; obtain rfl : ad365 = ad367 := (by injection e367); replace p367 := eq_true p367; replace q367 := eq_true q367) | (go_at_call 21; (with_reducible refine (rubrickref04_Small.calls (rd t362 x4_1) t368 _ A11.out).mono ?_); rintro e w' ⟨rfl, ⟨nd, rfl⟩⟩; (try first | exact ⟨rfl, _, World.drewN_drewN _ _ _⟩ | exact ⟨rfl, _, Eq.trans (World.drewN_drewN _ _ _) (congrArg (World.drewN _) (Nat.add_assoc _ _ _))⟩); have p369 : 0 ≤ (x4_1 : Int) := of_decide_eq_true (by first | (with_reducible assumption) | assumption); have q369 : x4_1 < (t362.length : Int) := of_decide_eq_true (by first | (with_reducible assumption) | assumption); obtain ⟨ad369, e369, hx369_0⟩ := Kd.at_int (Kd.R_reads' HO_3.out).2.2 x4_1 p369 q369; obtain rfl : ad365 = ad369 := (by injection e369); replace p369 := eq_true p369; replace q369 := eq_true q369)); try go_wp2_with (first | (go_at_call 20; (with_reducible refine (rubrickref05_In.calls (rd t362 x4_1) true _ A9.out).mono ?_); rintro e w' ⟨rfl, ⟨nd, rfl⟩⟩; (try first | exact ⟨rfl, _, World.drewN_drewN _ _ _⟩ | exact ⟨rfl, _, Eq.trans (World.drewN_drewN _ _ _) (congrArg (World.drewN _) (Nat.add_assoc _ _ _))⟩); have p367 : 0 ≤ (x4_1 : Int) := of_decide_eq_true (by first | (with_reducible assumption) | assumption); have q367 : x4_1 < (t362.length : Int) := of_decide_eq_true (by first | (with_reducible assumption) | assumption); obtain ⟨ad367, e367, hx367_0⟩ := Kd.at_int (Kd.R_reads' HO_3.out).2.2 x4_1 p367 q367; obtain rfl : ad365 = ad367 := (by injection e367); replace p367 := eq_true p367; replace q367 := eq_true q367) | (go_at_call 21; (with_reducible refine (rubrickref04_Small.calls (rd t362 x4_1) t368 _ A11.out).mono ?_); rintro e w' ⟨rfl, ⟨nd, rfl⟩⟩; (try first | exact ⟨rfl, _, World.drewN_drewN _ _ _⟩ | exact ⟨rfl, _, Eq.trans (World.drewN_drewN _ _ _) (congrArg (World.drewN _) (Nat.add_assoc _ _ _))⟩); have p369 : 0 ≤ (x4_1 : Int) := of_decide_eq_true (by first | (with_reducible assumption) | assumption); have q369 : x4_1 < (t362.length : Int) := of_decide_eq_true (by first | (with_reducible assumption) | assumption); obtain ⟨ad369, e369, hx369_0⟩ := Kd.at_int (Kd.R_reads' HO_3.out).2.2 x4_1 p369 q369; obtain rfl : ad365 = ad369 := (by injection e369); replace p369 := eq_true p369; replace q369 := eq_true q369)))
              go_ret
              exact ⟨by first | rfl | (simp [errW_none, errW_some] <;> rfl) | (simp [*, errW_none, errW_some] <;> rfl), by repeat (first | (with_reducible first | exact HB.out | apply below_alloc | apply pw_below_drewN | apply below_drew1) | exact HB.out)⟩
          · replace c10 := Bool.eq_false_iff.mpr c10
            subst c10
            have H1 : (some false) = some r := by rw [if_neg (show ¬ (false = true) by decide)] at H; exact H
            clear H
            have H := H1
            clear H1
            obtain rfl := Option.some.inj H
            obtain ⟨Ao15, co15, eo15⟩ := Kd.R_slice HO_3.out
            subst eo15
            have p365 : 0 ≤ (x4_1 : Int) := of_decide_eq_true (by first | (with_reducible assumption) | assumption)
            have q365 : x4_1 < (t362.length : Int) := of_decide_eq_true (by first | (with_reducible assumption) | assumption)
            obtain ⟨ad365, e365, hx365_0⟩ := Kd.at_int (Kd.R_reads' HO_3.out).2.2 x4_1 p365 q365
            cases e365
            replace p365 := eq_true p365
            replace q365 := eq_true q365
            go_wp2_with (first | (go_at_call 20; (with_reducible refine (rubrickref05_In.calls (rd t362 x4_1) false _ A9.out).mono ?_); rintro e w' ⟨rfl, ⟨nd, rfl⟩⟩; (try first | exact ⟨rfl, _, World.drewN_drewN _ _ _⟩ | exact ⟨rfl, _, Eq.trans (World.drewN_drewN _ _ _) (congrArg (World.drewN _) (Nat.add_assoc _ _ _))⟩)))
            repeat (go_quiet (first | (go_at_call 20; (with_reducible refine (rubrickref05_In.calls (rd t362 x4_1) false _ A9.out).mono ?_); rintro e w' ⟨rfl, ⟨nd, rfl⟩⟩; (try first | exact ⟨rfl, _, World.drewN_drewN _ _ _⟩ | exact ⟨rfl, _, Eq.trans (World.drewN_drewN _ _ _) (congrArg (World.drewN _) (Nat.add_assoc _ _ _))⟩))); try go_wp2_with (first | (go_at_call 20; (with_reducible refine (rubrickref05_In.calls (rd t362 x4_1) false _ A9.out).mono ?_); rintro e w' ⟨rfl, ⟨nd, rfl⟩⟩; (try first | exact ⟨rfl, _, World.drewN_drewN _ _ _⟩ | exact ⟨rfl, _, Eq.trans (World.drewN_drewN _ _ _) (congrArg (World.drewN _) (Nat.add_assoc _ _ _))⟩))))
            go_ret
            exact ⟨by first | rfl | (simp [errW_none, errW_some] <;> rfl) | (simp [*, errW_none, errW_some] <;> rfl), by repeat (first | (with_reducible first | exact HB.out | apply below_alloc | apply pw_below_drewN | apply below_drew1) | exact HB.out)⟩
        · rw [if_neg c8] at H
          exact absurd H (by simp)
      · rw [if_neg c7] at H
        have c7b0 : decide (x4_1 < (t362.length : Int)) = false := decide_eq_false c7
        clear c7
        by_cases c16 : (t362.length : Int) > 0
        · rw [if_pos c16] at H
          have c16b0 : decide (0 < (t362.length : Int)) = true := decide_eq_true c16
          have c16b1 : decide (0 < t362.length) = true := decide_eq_true (by omega)
          clear c16
          obtain rfl := Option.some.inj H
          obtain ⟨Ao17, co17, eo17⟩ := Kd.R_slice HO_3.out
          subst eo17
          go_wp2
          repeat (go_quiet (fail); try go_wp2)
          go_ret
          exact ⟨by first | rfl | (simp [errW_none, errW_some] <;> rfl) | (simp [*, errW_none, errW_some] <;> rfl), by repeat (first | (with_reducible first | exact HB.out | apply below_alloc | apply pw_below_drewN | apply below_drew1) | exact HB.out)⟩
        · rw [if_neg c16] at H
          have c16b0 : decide (0 < (t362.length : Int)) = false := decide_eq_false c16
          have c16b1 : decide (0 < t362.length) = false := decide_eq_false (by omega)
          clear c16
          obtain rfl := Option.some.inj H
          obtain ⟨Ao18, co18, eo18⟩ := Kd.R_slice HO_3.out
          subst eo18
          go_wp2
          repeat (go_quiet (fail); try go_wp2)
          go_ret
          exact ⟨by first | rfl | (simp [errW_none, errW_some] <;> rfl) | (simp [*, errW_none, errW_some] <;> rfl), by repeat (first | (with_reducible first | exact HB.out | apply below_alloc | apply pw_below_drewN | apply below_drew1) | exact HB.out)⟩

end Go.Proofs.YteofdfknemopiaaDoor.P
end
