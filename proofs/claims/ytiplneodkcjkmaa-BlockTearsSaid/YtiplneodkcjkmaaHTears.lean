/- By hand: rubricklaw22.BlockTears: the call returns true for every disk, every list of acts, every block and every keeping. -/
import Derived.Test.YtiplneodkcjkmaaHKnows
import Derived.Test.YtiplneodkcjkmaaZBlkB
import Derived.Lib.Bytes
set_option linter.unusedVariables false
set_option linter.unusedSimpArgs false
namespace Go.Proofs.Ytiplneodkcjkmaa.P
open Go.RowKit Go.Proofs.YtiplneodkcjkmaaW.PrintWords Go.Proofs.YtiplneodkcjkmaaW.PrintLast Go.Proofs.YtiplneodkcjkmaaW.PrintMore
attribute [local go_sem] Go.Instr.field Go.part Go.asAgg
abbrev VBk (g : Nat) (W : World) (v : Value) (l : List (List Int)) : Prop := Kd.V (Kd.slice 5 (Kd.int .u8)) 28 W 0 (fun k => k ≠ g) v l
abbrev VWt (g : Nat) (W : World) (v : Value) (l : List S57) : Prop := Kd.V k57 57 W 0 (fun k => k ≠ g) v l
abbrev VU (g : Nat) (W : World) (v : Value) (l : List Int) : Prop := Kd.V (Kd.int .u8) 5 W 0 (fun k => k ≠ g) v l
/-- The disk's variable, and what it leads to. -/
structure DK (w : World) (g : Nat) (u0 u1 : Value) (bs : List (List Int)) (ws : List S57) (W : World) : Prop where
  below : Below w.heap.size w W
  box : W.heap[g]? = some (.cells #[u0, u1] 25 (0, 0))
  d0 : VBk g W u0 bs
  d1 : VWt g W u1 ws
theorem DK.step {w W W' : World} {g : Nat} {u0 u1 : Value} {bs : List (List Int)} {ws : List S57} (h : DK w g u0 u1 bs ws W) (hb : Below W.heap.size W W') : DK w g u0 u1 bs ws W' :=
  ⟨below_step h.below hb, (hb.block _ (blk_lt h.box)).trans h.box, Kd.V_below h.d0 hb, Kd.V_below h.d1 hb⟩
theorem DK.cells {w W : World} {g : Nat} {u0 u1 : Value} {bs : List (List Int)} {ws : List S57} (h : DK w g u0 u1 bs ws W) : (W.cell? ⟨g, 0, none⟩ = some u0 ∧ W.cell? ⟨g, 1, none⟩ = some u1) ∧ W.frozen? ⟨g, 0, none⟩ = false ∧ W.frozen? ⟨g, 1, none⟩ = false := by
  have h1 := blk_cell h.box 0
  have h2 := blk_cell h.box 1
  simp only [List.getElem?_toArray, List.getElem?_cons_zero, List.getElem?_cons_succ] at h1 h2
  exact ⟨⟨h1, h2⟩, blk_frozen h.box 0, blk_frozen h.box 1⟩
/-- A call has made a disk, and it is stored into the variable. -/
theorem DK.store {w W W' : World} {g base base' : Nat} {u0 u1 v0 v1 : Value} {bs' : List (List Int)} {ws' : List S57} {ok0 ok1 : Nat → Prop} (hbx : W.heap[g]? = some (.cells #[u0, u1] 25 (0, 0))) (hbw : Below w.heap.size w W) (hg : w.heap.size ≤ g) (hb : Below W.heap.size W W')
    (h0 : Kd.V (Kd.slice 5 (Kd.int .u8)) 28 W' base ok0 v0 bs') (k0 : ∀ k, ok0 k → W.heap.size ≤ k) (h1 : Kd.V k57 57 W' base' ok1 v1 ws') (k1 : ∀ k, ok1 k → W.heap.size ≤ k) :
    DK w g v0 v1 bs' ws' ((W'.setCell ⟨g, 0, none⟩ v0).setCell ⟨g, 1, none⟩ v1) := by
  have hlt : g < W.heap.size := blk_lt hbx
  refine ⟨below_set (below_set (below_step hbw hb) hg) hg, blk_put (cs := #[v0, u1]) (blk_put (cs := #[u0, u1]) ((hb.block _ hlt).trans hbx) 0 _ rfl) 1 _ rfl, ?_, ?_⟩
  · exact Kd.V_far (p := ⟨g, 1, none⟩) (Kd.V_far (p := ⟨g, 0, none⟩) (show VBk g W' v0 bs' from Kd.V_map h0 (fun _ hf => Kd.F_mono hf (fun k hk => by have := k0 k hk; omega))) (fun _ hk => hk) _) (fun _ hk => hk) _
  · exact Kd.V_far (p := ⟨g, 1, none⟩) (Kd.V_far (p := ⟨g, 0, none⟩) (show VWt g W' v1 ws' from Kd.V_map h1 (fun _ hf => Kd.F_mono hf (fun k hk => by have := k1 k hk; omega))) (fun _ hk => hk) _) (fun _ hk => hk) _
theorem vu_store {W : World} {g : Nat} {v u0 u1 : Value} {l : List Int} (h : VU g W v l) : VU g ((W.setCell ⟨g, 0, none⟩ u0).setCell ⟨g, 1, none⟩ u1) v l :=
  Kd.V_far (p := ⟨g, 1, none⟩) (Kd.V_far (p := ⟨g, 0, none⟩) h (fun _ hk => hk) _) (fun _ hk => hk) _
/-- The waits behind the first write: it, and others of other blocks. -/
def TW (X : List (List Int)) (i : Int) (b : List Int) (q : Nat) (ws : List S57) : Prop :=
  OKD X ws ∧ ws.length ≤ q + 1 ∧ ∃ ws', ws = ⟨i, b⟩ :: ws' ∧ ∀ x ∈ ws', x.f0 ≠ i
theorem TW.next {X : List (List Int)} {i : Int} {b : List Int} {q : Nat} {ws : List S57} (h : TW X i b q ws) : TW X i b (q + 1) ws := ⟨h.1, by have := h.2.1; omega, h.2.2⟩
theorem TW.write {X : List (List Int)} {i : Int} {b : List Int} {q : Nat} {ws : List S57} (h : TW X i b q ws) (j : Int) (c : List Int) (hj : j ≠ i) : ∃ ws' e, block_Write.f 3 X ws j c = some (X, ws', e) ∧ TW X i b (q + 1) ws' := by
  obtain ⟨ws', e, h1, h2, h3, h4, h5, h6⟩ := write_f X ws h.1 j c 3 (Nat.le_refl _)
  refine ⟨ws', e, h1, h2, by have := h.2.1; omega, ?_⟩
  obtain ⟨l, rfl, hl⟩ := h.2.2
  rcases h4 with rfl | rfl
  · exact ⟨l, rfl, hl⟩
  · refine ⟨l ++ [⟨j, c⟩], rfl, fun x hx => ?_⟩
    rcases List.mem_append.1 hx with hx | hx
    · exact hl x hx
    · rw [List.mem_singleton.1 hx]; exact hj
theorem torn (m : Nat → Int) {X : List (List Int)} {i : Int} {b : List Int} {q : Nat} {ws : List S57} (h : TW X i b q ws) (h0 : 0 ≤ i) (h1 : i < (X.length : Int)) :
    (doneF m 0 X ws).getD i.toNat [] = b.take (cutN (m 0)) ++ (X.getD i.toNat []).drop (cutN (m 0)) := by
  obtain ⟨hd, _, l, rfl, hl⟩ := h
  have e : ((i.toNat : Nat) : Int) = i := by omega
  rw [doneF, doneF_far m l 1 _ i.toNat (fun x hx => by rw [putB_len]; exact hd.2.2.2 x (List.mem_cons_of_mem _ hx)) (fun x hx => by rw [e]; exact hl x hx)]
  unfold putB
  rw [getD_set _ _ _ _ (by show i.toNat < X.length; omega), if_pos rfl]
theorem tear_bytes {a b : ByteArray} (h : a.toList = b.toList) : a = b := by
  rw [Lib.toList_data, Lib.toList_data] at h
  cases a; cases b
  congr 1
  exact Array.toList_inj.1 h
theorem tear_append (a b : List Int) : strOfNums a ++ strOfNums b = strOfNums (a ++ b) := by
  apply tear_bytes
  rw [Lib.toList_data, Lib.toList_data]
  simp [strOfNums]
theorem tear_size (a : List Int) : (strOfNums a).size = a.length := by
  show ((a.map fun n => UInt8.ofNat n.toNat).toArray).size = _
  simp
/-- What the second loop reads. -/
structure TE (w : World) (vi vw : Value) (Ab : Option Addr) (is was b : List Int) (W : World) : Prop where
  below : Below w.heap.size w W
  wi : Kd.V (Kd.int .u8) 5 W 0 (fun _ => True) vi is
  ww : Kd.V (Kd.int .u8) 5 W 0 (fun _ => True) vw was
  wb : (Kd.int .u8).C W Ab b.length b
theorem TE.step {w W W' : World} {vi vw : Value} {Ab : Option Addr} {is was b : List Int} (h : TE w vi vw Ab is was b W) (hb : Below W.heap.size W W') : TE w vi vw Ab is was b W' :=
  ⟨below_step h.below hb, Kd.V_below h.wi hb, Kd.V_below h.ww hb, Kd.C_below h.wb hb⟩
end Go.Proofs.Ytiplneodkcjkmaa.P
