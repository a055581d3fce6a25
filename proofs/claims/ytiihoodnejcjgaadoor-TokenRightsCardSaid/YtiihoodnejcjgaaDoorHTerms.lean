/- By hand: token.Terms, with (*word).take and the closure 'end'. -/
import Derived.Test.YtiihoodnejcjgaaDoorHBU
import Derived.Outline
set_option linter.unusedVariables false
set_option linter.unusedSimpArgs false
namespace Go.Proofs.YtiihoodnejcjgaaDoor.P
open Go.RowKit Go.Proofs.YtiihoodnejcjgaaDoorW.PrintWords Go.Proofs.YtiihoodnejcjgaaDoorW.PrintLast Go.Proofs.YtiihoodnejcjgaaDoorW.PrintMore

/-- Where the cutting of terms stands: the terms so far; the word that goes on. -/
structure TS where
  out : List ByteArray
  op : Bool
  fu : Bool
  b : List Int
def takeT (s : TS) (c : Int) : Option TS := (utf_Small.f c).bind fun m => (utf_Encode.f 50 m).bind fun x => if x.1.length ≤ 64 then some (if s.fu = true ∨ x.2 ≠ 0 ∨ 64 < s.b.length + x.1.length then { s with op := true, fu := true } else { s with op := true, b := s.b ++ x.1 }) else none
def endT (s : TS) : TS := ⟨if s.op = true then s.out ++ [strOfNums s.b] else s.out, false, false, []⟩
def stepT (s : TS) (c : Int) : Option TS := (utf_Letter.f c).bind fun le => (if le = true then some true else utf_Digit.f c).bind fun g => if g = true then takeT s c else some (endT s)
def runT : List Int → TS → Option TS
  | [], s => some s
  | c :: l, s => (stepT s c).bind (runT l)
def token_Terms.f (l0 : List Int) : Option (List ByteArray) := if l0.length ≤ 1099511627776 then (utf_Decode.f (l0.length + 100) l0).bind fun l => if l.length ≤ 1099511627776 then (runT l ⟨[], false, false, []⟩).map fun s => (endT s).out else none else none

/-- What the two captured variables hold. -/
structure TI (n : Nat) (w0 w : World) (s : TS) : Prop where
  below : Below w0.heap.size w0 w
  base : w0.heap.size ≤ n
  out : ∃ v, w.heap[n]? = some (.cells #[v] 36 (0, 0)) ∧ Kd.R Kd.string 9 w w0.heap.size (fun _ => True) v s.out
  wd : ∃ v, w.heap[n + 1]? = some (.cells #[.bool s.op, .bool s.fu, v] 101 (0, 0)) ∧ Kd.R (Kd.int .u8) 5 w w0.heap.size (fun _ => True) v s.b
  len : s.b.length ≤ 64

/-- A goal that the walk leaves as it is. -/
def Held (p : Prop) : Prop := p
theorem hold {p : Prop} (h : Held p) : p := h
/-- What is a row of ints stays. -/
def KT (w w' : World) : Prop := ∀ (g : Nat) (cells : Array Value), w.heap[g]? = some (Obj.cells cells 3 (0, 0)) → w'.heap[g]? = w.heap[g]?
theorem KT.refl (w : World) : KT w w := fun _ _ _ => rfl
theorem KT.trans {w w1 w2 : World} (h : KT w w1) (k : KT w1 w2) : KT w w2 := fun g cells hg => (k g cells ((h g cells hg).trans hg)).trans (h g cells hg)
theorem KT.below {w w1 : World} (h : Below w.heap.size w w1) : KT w w1 := fun g _ hg => h.block g (blk_lt hg)
theorem KT.set {w : World} {g t : Nat} {cs : Array Value} (hc : w.heap[g]? = some (.cells cs t (0, 0))) (ht : t ≠ 3) (j : Nat) (v : Value) : KT w (w.setCell ⟨g, j, none⟩ v) := fun g' cells hg => Below.heap_setCell _ _ _ _ (fun e => by
  have e : g' = g := e
  subst e
  rw [hg] at hc
  injection hc with hc
  injection hc with _ hc
  exact ht hc.symm)
theorem KT.grown {α : Type} {d : Kd α} {e base : Nat} {ok : Nat → Prop} {w w1 : World} {v : Value} {xs : List α} (hr : d.R e w base ok v xs) (ht : e ≠ 3) (hg : w.grownBy w1 v.ownBlock) : KT w w1 := fun g _ hc => hg.block g (blk_lt hc) (Kd.R_ne hr hc ht)
theorem KT.row {w w1 : World} {base : Nat} {ok : Nat → Prop} {v : Value} {xs : List Int} (h : KT w w1) (hr : Kd.R (Kd.int .i64) 3 w base ok v xs) : Kd.R (Kd.int .i64) 3 w1 base ok v xs :=
  Kd.R_mono (Kd.R_move (Kd.R_bound hr) (fun k hk => by
    obtain ⟨_, _, _, q, hq, cells, hc⟩ := hk
    obtain rfl : q = 3 := by
      rcases List.mem_cons.1 hq with hq | hq
      · exact hq
      · cases hq
    exact h k cells hc)) (fun _ hk => hk.1)
theorem TI.wiped {n : Nat} {w0 W : World} {out : List ByteArray} {x y : Bool} {v vb : Value} (hb : Below w0.heap.size w0 W) (hn : w0.heap.size ≤ n)
    (ho : W.heap[n]? = some (.cells #[v] 36 (0, 0))) (hr : Kd.R Kd.string 9 W w0.heap.size (fun _ => True) v out)
    (hw : W.heap[n + 1]? = some (.cells #[.bool x, .bool y, vb] 101 (0, 0))) :
    TI n w0 (((W.setCell ⟨n + 1, 0, none⟩ (.bool false)).setCell ⟨n + 1, 1, none⟩ (.bool false)).setCell ⟨n + 1, 2, none⟩ (.slice none 0 0)) ⟨out, false, false, []⟩ ∧ KT W (((W.setCell ⟨n + 1, 0, none⟩ (.bool false)).setCell ⟨n + 1, 1, none⟩ (.bool false)).setCell ⟨n + 1, 2, none⟩ (.slice none 0 0)) := by
  have h1 := blk_put (cs' := #[.bool false, .bool y, vb]) hw 0 (.bool false) rfl
  have h2 := blk_put (cs' := #[.bool false, .bool false, vb]) h1 1 (.bool false) rfl
  have h3 := blk_put (cs' := #[.bool false, .bool false, .slice none 0 0]) h2 2 (.slice none 0 0) rfl
  have hne : ∀ j, n ≠ (⟨n + 1, j, none⟩ : Addr).block := fun j => by show n ≠ n + 1; omega
  refine ⟨⟨below_set (below_set (below_set hb (Nat.le_succ_of_le hn)) (Nat.le_succ_of_le hn)) (Nat.le_succ_of_le hn), hn, ⟨v, ?_, ?_⟩, ⟨_, h3, Kd.R_nil _ _ _ _ _⟩, by simp⟩, ((KT.set hw (by decide) _ _).trans (KT.set h1 (by decide) _ _)).trans (KT.set h2 (by decide) _ _)⟩
  · exact (Below.heap_setCell _ _ _ _ (hne _)).trans ((Below.heap_setCell _ _ _ _ (hne _)).trans ((Below.heap_setCell _ _ _ _ (hne _)).trans ho))
  · exact Kd.R_set (Kd.R_set (Kd.R_set hr hw (by decide) _ _) h1 (by decide) _ _) h2 (by decide) _ _

set_option maxHeartbeats 1000000 in
set_option maxRecDepth 100000 in
theorem end_calls (n : Nat) (w0 w : World) (s : TS) (h : TI n w0 w s) (hl : s.out.length < 8796093022208) :
    Calls Tryd.prog 75 #[.pointer (some ⟨n + 1, 0, none⟩), .pointer (some ⟨n, 0, none⟩)] w fun e w' => e = .returned (.tuple #[]) ∧ TI n w0 w' (endT s) ∧ KT w w' := by
  obtain ⟨hb, hn, ⟨vo, ho, hro⟩, ⟨vw, hw, hrw⟩, hlen⟩ := h
  obtain ⟨out, op, fu, b⟩ := s
  dsimp only at *
  obtain ⟨Ab, cb, rfl⟩ := Kd.R_slice hrw
  obtain ⟨Ao, co, rfl⟩ := Kd.R_slice hro
  have cO := blk_cell ho 0
  have c0 := blk_cell hw 0
  have c1 := blk_cell hw 1
  have c2 := blk_cell hw 2
  have f0 := blk_frozen hw 0
  have f1 := blk_frozen hw 1
  have f2 := blk_frozen hw 2
  have fo := blk_frozen ho 0
  simp only [List.getElem?_toArray, List.getElem?_cons_zero, List.getElem?_cons_succ] at cO c0 c1 c2
  have hcv := Kd.C_string (P := Tryd.prog) (c := cb) (src := 22) (dst := 9) Tryd.underlying22 Tryd.underlying5 Tryd.underlying9 (Kd.R_reads' hrw).2.2
  cases op
  · have fin := TI.wiped hb hn ho hro hw
    clear hro hrw hw ho
    go_enter Tryd.func75, Tryd.ntmps75
    go_wp2
    go_end0
    exact ⟨rfl, fin⟩
  · go_enter Tryd.func75, Tryd.ntmps75
    go_wp2_with (with_reducible refine gate_builtin (b := .append) (xs := #[.tmp 4, .tmp 8]) rfl ?_; at_builtin; refine hold ?_)
    unfold Held
    refine Kd.R_append Kd.string (w0 := w0) w0.heap.size rfl _ _ 36 9 (.string ⟨#[]⟩) 16 rfl Tryd.underlying36 info9 rfl (by decide) (by omega) (.slice Ao out.length co) out (strOfNums b) [.string (strOfNums b)] (fun _ => True) (fun _ => False) rfl rfl rfl (fun _ hk => hk.elim) (fun _ _ => trivial) hro hb hb.size (by omega) ?_
    intro v1 w1 ho1 hb1 hg1 hat1
    obtain ⟨A1, c1', rfl⟩ := Kd.R_slice ho1
    have hn1 := (hg1.block n (blk_lt ho) (Kd.R_ne hro ho (by decide))).trans ho
    have hn2 := (hg1.block (n + 1) (blk_lt hw) (Kd.R_ne hro hw (by decide))).trans hw
    have hn3 := one_setCell (u := .slice A1 (out ++ [strOfNums b]).length c1') hn1
    have hn4 := (Below.heap_setCell w1 ⟨n, 0, none⟩ (.slice A1 (out ++ [strOfNums b]).length c1') (n + 1) (by show n + 1 ≠ n; omega)).trans hn2
    have fin := TI.wiped (below_set hb1 hn) hn hn3 (Kd.R_set ho1 hn1 (by decide) 0 _) hn4
    have d0 := cell_of_one hn1
    have g0 := free_of_one hn1
    have d1 := blk_cell hn2 0
    have d2 := blk_cell hn2 1
    have d3 := blk_cell hn2 2
    have g1 := blk_frozen hn2 0
    have g2 := blk_frozen hn2 1
    have g3 := blk_frozen hn2 2
    simp only [List.getElem?_toArray, List.getElem?_cons_zero, List.getElem?_cons_succ] at d1 d2 d3
    go_wp2
    go_end0
    rw [show out.length + 1 = (out ++ [strOfNums b]).length by simp]
    exact ⟨rfl, fin.1, ((KT.grown hro (by decide) hg1).trans (KT.set hn1 (by decide) _ _)).trans fin.2⟩

set_option maxHeartbeats 1000000 in
set_option maxRecDepth 100000 in
theorem take_calls (n : Nat) (w0 w : World) (s r : TS) (c : Int) (hG : G w0) (h : TI n w0 w s) (hr : takeT s c = some r) :
    Calls Tryd.prog 76 #[.pointer (some ⟨n + 1, 0, none⟩), .int .i64 c] w fun e w' => e = .returned (.tuple #[]) ∧ TI n w0 w' r ∧ KT w w' := by
  obtain ⟨hb, hn, ⟨vo, ho, hro⟩, ⟨vw, hw, hrw⟩, hlen⟩ := h
  obtain ⟨out, op, fu, b⟩ := s
  dsimp only at *
  obtain ⟨Ab, cb, rfl⟩ := Kd.R_slice hrw
  unfold takeT at hr
  cases hm : utf_Small.f c with
  | none => rw [hm] at hr; cases hr
  | some m =>
  rw [hm, Option.bind_some] at hr
  cases hx : utf_Encode.f 50 m with
  | none => rw [hx] at hr; cases hr
  | some x =>
  rw [hx, Option.bind_some] at hr
  obtain ⟨x, e⟩ := x
  dsimp only at hr
  by_cases hxl : x.length ≤ 64
  case neg => rw [if_neg hxl] at hr; cases hr
  rw [if_pos hxl] at hr
  have hr := Option.some.inj hr
  have c0 := blk_cell hw 0
  have f0 := blk_frozen hw 0
  have h1 := blk_put (cs' := #[.bool true, .bool fu, .slice Ab b.length cb]) hw 0 (.bool true) rfl
  have hb1 := below_set (j := 0) (v := .bool true) hb (Nat.le_succ_of_le hn)
  have hn1 := (Below.heap_setCell w ⟨n + 1, 0, none⟩ (.bool true) n (by show n ≠ n + 1; omega)).trans ho
  have hro1 := Kd.R_set hro hw (by decide) 0 (.bool true)
  have hrw1 := Kd.R_set hrw hw (by decide) 0 (.bool true)
  have HG1 := hG.below hb1
  simp only [List.getElem?_toArray, List.getElem?_cons_zero, List.getElem?_cons_succ] at c0
  go_enter Tryd.func76, Tryd.ntmps76
  go_wp2_with (first | (go_at_call 29; (with_reducible refine (utf_Small.calls c m _ ?side1 hm).mono ?_); (case side1 => exact HG1); rintro e w1 ⟨rfl, hb2⟩) | (go_at_call 32; (with_reducible refine (utf_Encode.calls 50 m x e _ hx).mono ?_); rintro e w2 ⟨v, rfl, hv2, hb3⟩; refine hold ?_))
  unfold Held
  have hb12 := below_step hb2 hb3
  have hb0 := below_step hb1 hb12
  have kn := (hb12.block n (blk_lt hn1)).trans hn1
  have kw := (hb12.block (n + 1) (blk_lt h1)).trans h1
  have kro := Kd.R_below hro1 hb12
  have krw := Kd.R_below hrw1 hb12
  obtain ⟨Ax, cx, rfl⟩ := Kd.R_slice hv2
  have krx := (Kd.R_reads' hv2).2.2
  have d1 := blk_cell kw 1
  have d2 := blk_cell kw 2
  have g1 := blk_frozen kw 1
  have g2 := blk_frozen kw 2
  simp only [List.getElem?_toArray, List.getElem?_cons_zero, List.getElem?_cons_succ] at d1 d2
  have kwA := blk_put (cs' := #[.bool true, .bool true, .slice Ab b.length cb]) kw 1 (.bool true) rfl
  have finA : TI n w0 (w2.setCell ⟨n + 1, 1, none⟩ (.bool true)) ⟨out, true, true, b⟩ := by
    refine ⟨below_set hb0 (Nat.le_succ_of_le hn), hn, ⟨_, (Below.heap_setCell _ _ _ _ (by show n ≠ n + 1; omega)).trans kn, Kd.R_set kro kw (by decide) _ _⟩, ⟨_, kwA, Kd.R_set krw kw (by decide) _ _⟩, hlen⟩
  have hwr : wrap64 ((b.length : Int) + (x.length : Int)) = (b.length : Int) + (x.length : Int) := by unfold wrap64; omega
  have ktA : KT w (w2.setCell ⟨n + 1, 1, none⟩ (.bool true)) := ((KT.set hw (by decide) _ _).trans (KT.below hb12)).trans (KT.set kw (by decide) _ _)
  have kt2 : KT w w2 := (KT.set hw (by decide) _ _).trans (KT.below hb12)
  clear hb2 hb3 hb12 hro1 hrw1 hb1 HG1 hro hrw hb h1 hn1 hm hx
  by_cases hfu : fu = true
  · subst hfu
    rw [if_pos (.inl rfl)] at hr
    subst hr
    go_wp2
    exact bodyPost_ret (results_none rfl _ _ _) rfl ⟨rfl, finA, ktA⟩
  · have hfu2 : fu = false := by simpa using hfu
    subst hfu2
    by_cases he : e = 0
    · by_cases hle : (64 : Int) < (b.length : Int) + (x.length : Int)
      · rw [if_pos (.inr (.inr (by omega)))] at hr
        subst hr
        go_wp2
        exact bodyPost_ret (results_none rfl _ _ _) rfl ⟨rfl, finA, ktA⟩
      · rw [if_neg (by simp [he]; omega)] at hr
        subst hr
        go_wp2_with (with_reducible refine gate_builtin (b := .append) (xs := #[.tmp 41, .tmp 42]) rfl ?_; at_builtin; refine hold ?_)
        unfold Held
        refine Kd.R_append_rows (Kd.int .u8) (w0 := w0) w0.heap.size rfl (.tmp 41) (.tmp 42) 22 5 (.int .u8 0) 1 rfl Tryd.underlying22 info5 rfl (by decide) (by omega) (.slice Ab b.length cb) b x Ax x.length cx (fun _ => True) (fun _ => False) rfl rfl krw krx (fun _ _ h => h) (fun _ h => h.elim) (fun _ _ => trivial) hb0 hb0.size (by omega) ?_
        intro v3 w3 hr3 hb3 hg3 hat3
        obtain ⟨A3, c3, rfl⟩ := Kd.R_slice hr3
        have m1 := (hg3.block n (blk_lt kn) (Kd.R_ne krw kn (by decide))).trans kn
        have m2 := (hg3.block (n + 1) (blk_lt kw) (Kd.R_ne krw kw (by decide))).trans kw
        have mro := Kd.R_over' kro (Kd.R_typed krw) (by decide) hg3
        have q2 := blk_cell m2 2
        have q3 := blk_frozen m2 2
        simp only [List.getElem?_toArray, List.getElem?_cons_zero, List.getElem?_cons_succ] at q2
        have kt3 := (kt2.trans (KT.grown krw (by decide) hg3)).trans (KT.set m2 (by decide) 2 (.slice A3 (b ++ x).length c3))
        have m3 := blk_put (cs' := #[.bool true, .bool false, .slice A3 (b ++ x).length c3]) m2 2 (.slice A3 (b ++ x).length c3) rfl
        have finB : TI n w0 (w3.setCell ⟨n + 1, 2, none⟩ (.slice A3 (b ++ x).length c3)) ⟨out, true, false, b ++ x⟩ := by
          refine ⟨below_set hb3 (Nat.le_succ_of_le hn), hn, ⟨_, (Below.heap_setCell _ _ _ _ (by show n ≠ n + 1; omega)).trans m1, Kd.R_set mro m2 (by decide) _ _⟩, ⟨_, m3, Kd.R_set hr3 m2 (by decide) _ _⟩, by simp; omega⟩
        rw [List.length_append] at finB kt3
        go_wp2
        go_end0
        exact ⟨rfl, finB, kt3⟩
    · rw [if_pos (.inr (.inl he))] at hr
      subst hr
      go_wp2
      exact bodyPost_ret (results_none rfl _ _ _) rfl ⟨rfl, finA, ktA⟩

theorem runT_cons (l : List Int) (k : Nat) (h : k < l.length) (s : TS) : runT (l.drop k) s = (stepT s (l.getD k 0)).bind (runT (l.drop (k + 1))) := by
  rw [List.drop_eq_getElem_cons h, List.getD_eq_getElem?_getD, List.getElem?_eq_getElem h]
  rfl
theorem takeT_out {s r : TS} {c : Int} (h : takeT s c = some r) : r.out = s.out := by
  unfold takeT at h
  obtain ⟨m, _, h⟩ := Option.bind_eq_some_iff.1 h
  obtain ⟨x, _, h⟩ := Option.bind_eq_some_iff.1 h
  split at h
  · have h := Option.some.inj h
    subst h
    split <;> rfl
  · cases h
theorem endT_out (s : TS) : (endT s).out.length ≤ s.out.length + 1 := by
  unfold endT
  dsimp only
  split
  · simp
  · omega
theorem TI.step {n : Nat} {w0 w w' : World} {s : TS} (h : TI n w0 w s) (hb : Below w.heap.size w w') : TI n w0 w' s := by
  obtain ⟨h1, h2, ⟨v, h3, h4⟩, ⟨vb, h5, h6⟩, h7⟩ := h
  exact ⟨below_step h1 hb, h2, ⟨v, (hb.block _ (blk_lt h3)).trans h3, Kd.R_below h4 hb⟩, ⟨vb, (hb.block _ (blk_lt h5)).trans h5, Kd.R_below h6 hb⟩, h7⟩
set_option maxHeartbeats 1000000 in
set_option maxRecDepth 100000 in
theorem token_Terms.calls (A0 : Option Addr) (c0 : Nat) (l0 : List Int) (r : List ByteArray) (w : World) (hG : G w) (hr0 : Kd.C (Kd.int .u8) w A0 l0.length l0) (hc0 : l0.length ≤ c0) (h : token_Terms.f l0 = some r) : 
    Calls Tryd.prog 38 #[.slice A0 l0.length c0] w fun e w' => ∃ v0_ : Value, e = .returned (v0_) ∧ Kd.R Kd.string 9 w' w.heap.size (fun _ => True) v0_ r ∧ Below w.heap.size w w' := by
  unfold token_Terms.f at h
  by_cases hl0 : l0.length ≤ 1099511627776
  case neg => rw [if_neg hl0] at h; cases h
  rw [if_pos hl0] at h
  cases hd : utf_Decode.f (l0.length + 100) l0 with
  | none => rw [hd] at h; cases h
  | some l =>
  rw [hd, Option.bind_some] at h
  by_cases hl1 : l.length ≤ 1099511627776
  case neg => rw [if_neg hl1] at h; cases h
  rw [if_pos hl1] at h
  obtain ⟨sf, hsf, hrf⟩ := Option.map_eq_some_iff.1 h
  have HRF := Aside0.mk hrf
  have HSF := Aside0.mk hsf
  clear h hrf hsf
  let W1 : World := w.alloc (.cells #[.slice none 0 0] 36)
  let W2 : World := W1.alloc (.cells #[.bool false, .bool false, .slice none 0 0] 101)
  have hbW : Below w.heap.size w W2 := below_alloc (below_alloc (Below.refl _ _) _) _
  have hbn : W2.heap[w.heap.size]? = some (.cells #[.slice none 0 0] 36 (0, 0)) := blk_alloc (blk_new w _) _
  have hbn1 : W2.heap[w.heap.size + 1]? = some (.cells #[.bool false, .bool false, .slice none 0 0] 101 (0, 0)) := by
    have := blk_new W1 (.cells #[.bool false, .bool false, .slice none 0 0] 101)
    rwa [show W1.heap.size = w.heap.size + 1 by simp [W1]] at this
  have hV : Kd.V (Kd.int .u8) 5 W2 W2.heap.size (fun k_ => k_ < W2.heap.size) (.slice A0 l0.length c0) l0 := Kd.V_mk hc0 (Kd.C_F (Kd.heap_int _) (Kd.C_below hr0 hbW))
  have HBW := Aside0.mk hbW
  have HBN := Aside0.mk hbn
  have HBN1 := Aside0.mk hbn1
  have HV := Aside0.mk hV
  clear hbW hbn hbn1 hV
  go_enter Tryd.func38, Tryd.ntmps38
  go_wp2_with (first | (go_at_call 24; refine (utf_Decode.calls (l0.length + 100) (fun k_ => k_ < W2.heap.size) A0 c0 l0 l W2 HV.out hd).mono ?_; rintro e w3 ⟨vl, rfl, hvl, hb3⟩; refine hold ?_))
  unfold Held
  obtain ⟨Al, cl, rfl⟩ := Kd.R_slice hvl
  have hTI : TI w.heap.size w w3 ⟨[], false, false, []⟩ := by
    have e1 := (hb3.block _ (blk_lt HBN.out)).trans HBN.out
    have e2 := (hb3.block _ (blk_lt HBN1.out)).trans HBN1.out
    exact ⟨below_step HBW.out hb3, Nat.le_refl _, ⟨_, e1, Kd.R_nil _ _ _ _ _⟩, ⟨_, e2, Kd.R_nil _ _ _ _ _⟩, by simp⟩
  have HVL := Aside0.mk (Kd.R_mono (ok' := fun _ => True) (Kd.R_lower hvl (Nat.zero_le _)) (fun _ _ => trivial))
  have HTI := Aside0.mk hTI
  clear hTI hvl hb3 hd
  go_wp2
  go_loopw [7, 12] (fun _ i wr => ∃ k : Nat, ∃ s : TS, k ≤ l.length ∧ i = .int .i64 k ∧ Aside0 (TI w.heap.size w wr s) ∧ Aside0 (runT (l.drop k) s = some sf) ∧ Aside0 (s.out.length ≤ k) ∧ Aside0 (Kd.R (Kd.int .i64) 3 wr 0 (fun _ => True) (.slice Al l.length cl) l)) (fun _ i _ => l.length - (intOf i).toNat)
  case atStart => exact ⟨0, _, by omega, rfl, HTI, ⟨HSF.out⟩, ⟨by simp⟩, HVL⟩
  case round =>
    obtain ⟨k, s, hk, rfl, HT, HE, HO, HV2⟩ := hrel
    by_cases hkl : k < l.length
    · have hst := HE.out
      rw [runT_cons l k hkl s] at hst
      obtain ⟨s', hs', hrest⟩ := Option.bind_eq_some_iff.1 hst
      obtain ⟨ad, rfl, hcell⟩ := Kd.at_int (Kd.R_reads' HV2.out).2.2 (k : Int) (by omega) (by omega)
      have hcd : rd l (k : Int) = l.getD k 0 := rfl
      rw [hcd, Int.toNat_natCast] at hcell
      generalize hc : l.getD k 0 = c at hs' hcell
      have HREST := Aside0.mk hrest
      have HWG := Aside0.mk (hG.below HT.out.below)
      unfold stepT at hs'
      obtain ⟨le, hle, hs'⟩ := Option.bind_eq_some_iff.1 hs'
      clear hst hrest hc hcd
      cases le with
      | true =>
        rw [if_pos rfl, Option.bind_some, if_pos rfl] at hs'
        have HS := Aside0.mk hs'
        clear hs'
        go_wp2_with (first | (go_at_call 26; refine (utf_Letter.calls c true wr HWG.out hle).mono ?_; rintro e w4 ⟨rfl, hb4⟩) | (go_at_call 76; refine (take_calls w.heap.size w w4 s s' c hG (HT.out.step hb4) HS.out).mono ?_; rintro e w5 ⟨rfl, hti, hkt⟩; refine hold ?_))
        unfold Held
        have HN := Aside0.mk hti
        have HNV := Aside0.mk (((KT.below hb4).trans hkt).row HV2.out)
        have HNO := Aside0.mk (show s'.out.length ≤ k + 1 by rw [takeT_out HS.out]; have := HO.out; omega)
        clear hti hkt HT HV2 hcell HO
        go_wp2
        exact ⟨⟨k + 1, s', by omega, by rw [Int.natCast_add]; rfl, HN, HREST, HNO, HNV⟩, by simp [intOf]; omega⟩
      | false =>
        rw [if_neg (by simp)] at hs'
        obtain ⟨g, hg, hs'⟩ := Option.bind_eq_some_iff.1 hs'
        cases g with
        | true =>
          rw [if_pos rfl] at hs'
          have HS := Aside0.mk hs'
          clear hs'
          go_wp2_with (first | (go_at_call 26; refine (utf_Letter.calls c false wr HWG.out hle).mono ?_; rintro e w4 ⟨rfl, hb4⟩) | (go_at_call 28; refine (utf_Digit.calls c true w4 hg).mono ?_; rintro e w5 ⟨rfl, hb5⟩) | (go_at_call 76; refine (take_calls w.heap.size w w5 s s' c hG ((HT.out.step hb4).step hb5.below) HS.out).mono ?_; rintro e w6 ⟨rfl, hti, hkt⟩; refine hold ?_))
          unfold Held
          have HN := Aside0.mk hti
          have HNV := Aside0.mk ((((KT.below hb4).trans (KT.below hb5.below)).trans hkt).row HV2.out)
          have HNO := Aside0.mk (show s'.out.length ≤ k + 1 by rw [takeT_out HS.out]; have := HO.out; omega)
          clear hti hkt HT HV2 hcell HO
          go_wp2
          exact ⟨⟨k + 1, s', by omega, by rw [Int.natCast_add]; rfl, HN, HREST, HNO, HNV⟩, by simp [intOf]; omega⟩
        | false =>
          rw [if_neg (by simp)] at hs'
          obtain rfl := Option.some.inj hs'
          go_wp2_with (first | (go_at_call 26; refine (utf_Letter.calls c false wr HWG.out hle).mono ?_; rintro e w4 ⟨rfl, hb4⟩) | (go_at_call 28; refine (utf_Digit.calls c false w4 hg).mono ?_; rintro e w5 ⟨rfl, hb5⟩) | (go_at_call 75; refine (end_calls w.heap.size w w5 s ((HT.out.step hb4).step hb5.below) (by have := HO.out; omega)).mono ?_; rintro e w6 ⟨rfl, hti, hkt⟩; refine hold ?_))
          unfold Held
          have HN := Aside0.mk hti
          have HNV := Aside0.mk ((((KT.below hb4).trans (KT.below hb5.below)).trans hkt).row HV2.out)
          have HNO := Aside0.mk (show (endT s).out.length ≤ k + 1 by have := endT_out s; have := HO.out; omega)
          clear hti hkt HT HV2 hcell HO
          go_wp2
          exact ⟨⟨k + 1, _, by omega, by rw [Int.natCast_add]; rfl, HN, HREST, HNO, HNV⟩, by simp [intOf]; omega⟩
    · have e : k = l.length := by omega
      subst e
      have hfin : s = sf := by have := HE.out; rw [List.drop_length] at this; exact Option.some.inj this
      subst hfin
      have hrf := HRF.out
      subst hrf
      go_wp2_with (first | (go_at_call 75; refine (end_calls w.heap.size w wr s HT.out (by have := HO.out; omega)).mono ?_; rintro e w4 ⟨rfl, hti, hkt⟩; obtain ⟨v, hv1, hv2⟩ := hti.out; have hb := hti.below; have d0 := cell_of_one hv1; obtain ⟨Av, cv, rfl⟩ := Kd.R_slice hv2))
      go_ret
      exact ⟨_, rfl, hv2, hb⟩
end Go.Proofs.YtiihoodnejcjgaaDoor.P
