/- By hand: block.own, its walk: a disk with memory of its own: its blocks lie one behind the other in one row of bytes. -/
import Derived.Test.YtiplneodkcjkmaaHOwnD
import Derived.Test.YtiplneodkcjkmaaHCopy
set_option linter.unusedVariables false
set_option linter.unusedSimpArgs false
namespace Go.Proofs.Ytiplneodkcjkmaa.P
open Go.RowKit Go.Proofs.YtiplneodkcjkmaaW.PrintWords Go.Proofs.YtiplneodkcjkmaaW.PrintLast Go.Proofs.YtiplneodkcjkmaaW.PrintMore
/-- Where block i lies. -/
abbrev slA (gA i : Nat) : Value := .slice (some ⟨gA, i * 64, none⟩) 64 64
/-- The row of blocks, the first k of them laid. -/
def rowB (gA n k : Nat) : List Value := (List.range k).map (slA gA) ++ List.replicate (n - k) (.slice none 0 0)
def u8s (l : List Int) : List Value := l.map (Value.int .u8)
/-- Their bytes, those of the first k laid. -/
def rowA (bs : List (List Int)) (k : Nat) : List Value := u8s (bs.take k).flatten ++ List.replicate ((bs.length - k) * 64) (.int .u8 0)
theorem rowB_len (gA n k : Nat) (h : k ≤ n) : (rowB gA n k).length = n := by simp [rowB]; omega
theorem rowB_at (gA n k : Nat) (h : k < n) : (rowB gA n k).toArray[k]? = some (.slice none 0 0) := by
  have e : n - k = (n - (k + 1)) + 1 := by omega
  unfold rowB
  rw [e, List.replicate_succ]
  simp
theorem rowB_set (gA n k : Nat) (h : k < n) : (rowB gA n k).toArray.setIfInBounds k (slA gA k) = (rowB gA n (k + 1)).toArray := by
  have e : n - k = (n - (k + 1)) + 1 := by omega
  unfold rowB
  rw [e, List.replicate_succ, List.range_succ, List.map_append, List.setIfInBounds_toArray, List.set_append_right _ _ (by simp)]
  simp
theorem flat_len : ∀ (bs : List (List Int)), (∀ b ∈ bs, b.length = 64) → bs.flatten.length = bs.length * 64
  | [], _ => rfl
  | b :: bs, h => by
    have h1 := h b (List.mem_cons_self ..)
    have h2 := flat_len bs (fun x hx => h x (List.mem_cons_of_mem _ hx))
    rw [List.flatten_cons, List.length_append, h1, h2, List.length_cons]; omega
theorem flat_take (bs : List (List Int)) (h : ∀ b ∈ bs, b.length = 64) (k : Nat) (hk : k ≤ bs.length) : (bs.take k).flatten.length = k * 64 := by
  rw [flat_len _ (fun b hb => h b (List.mem_of_mem_take hb)), List.length_take, Nat.min_eq_left hk]
theorem rowA_len (bs : List (List Int)) (h : ∀ b ∈ bs, b.length = 64) (k : Nat) (hk : k ≤ bs.length) : (rowA bs k).length = bs.length * 64 := by
  unfold rowA u8s
  rw [List.length_append, List.length_map, flat_take bs h k hk, List.length_replicate, Nat.sub_mul]
  have := Nat.mul_le_mul_right 64 hk
  omega
theorem info_sl : (Try.prog.info? 28).map (fun i => (i.zero, i.size, i.bytes)) = some (some (.slice none 0 0), 1, 24) := by kernel_rfl
theorem info_u8 : (Try.prog.info? 5).map (fun i => (i.zero, i.size, i.bytes)) = some (some (.int .u8 0), 1, 1) := by kernel_rfl
section
variable {P : Program} {ops : Array Oper} {rest : List Oper} {o : Oper} {a : Act} {Q : Exit → Act → World → Prop}
theorem madeCells_one (u : Value) (n : Nat) : madeCells #[u] n = (List.replicate n u).toArray := by
  apply Array.ext
  · simp [size_madeCells]
  · intro i h1 h2
    simp [madeCells, Nat.mod_one]
/-- make([]T, n), T of one cell: the new block, written out. -/
theorem make_raw {W : World} (e : Nat) (hgd : o.guard = none) {N : Tmp} (hd : o.dst = some N) (t : TypeId) (x y : Operand) (ho : o.op = .makeSlice t x y) (n : Nat) (hx : a.eval x = .int .i64 n) (hy : a.eval y = .int .i64 n)
    (ht : P.underlying t = some (.slice e)) (u : Value) (z : Value) (bytes : Nat) (hinfo : (P.info? e).map (fun i => (i.zero, i.size, i.bytes)) = some (some z, 1, bytes)) (hz : z.cells = #[u]) (hb : 0 < bytes) (hl : n * bytes ≤ 281474976710656)
    (h : wpList P ops Q rest (a.put o.dst (.slice (some ⟨W.heap.size, 0, none⟩) n n)) (W.alloc (.cells (List.replicate n u).toArray e))) : wpList P ops Q (o :: rest) a W := by
  obtain ⟨i0, hi, hzz⟩ := Option.map_eq_some_iff.1 hinfo
  simp only [Prod.mk.injEq] at hzz
  obtain ⟨hz0, hz1, hz2⟩ := hzz
  have hn : n ≤ 281474976710656 := Nat.le_trans (Nat.le_mul_of_pos_right _ hb) hl
  have hr := run_make (P := P) W t e i0 z ht hi hz0 .i64 .i64 (n : Int) (n : Int) (by omega) (by omega)
    (by
      have h3 : ((i0.bytes * n : Nat) : Int) ≤ 281474976710656 := by rw [hz2, Nat.mul_comm]; omega
      rwa [Int.natCast_mul] at h3) (by omega)
  simp only [Int.toNat_natCast] at hr
  rw [hz1, hz, Nat.mul_one, madeCells_one] at hr
  refine Kd.event_run hgd (w1 := W.alloc (.cells (List.replicate n u).toArray e)) (v := .slice (some ⟨W.heap.size, 0, none⟩) n n) ?_ h
  simp [execOp, ho, hx, hy, hr]
end
/-- How the memory stands: the first j blocks are laid; v: the waits so far. -/
structure OI (w : World) (bs : List (List Int)) (ws : List S57) (A0 : Option Addr) (c0 : Nat) (A1 : Option Addr) (c1 : Nat) (gB j : Nat) (v : Value) (wr : World) : Prop where
  below : Below w.heap.size w wr
  d : wr.heap[w.heap.size]? = some (.cells #[.slice A0 bs.length c0, .slice A1 ws.length c1] 25 (0, 0))
  r : wr.heap[w.heap.size + 1]? = some (.cells #[.slice none 0 0, .slice none 0 0] 25 (0, 0))
  gb : w.heap.size + 2 ≤ gB
  lt : gB + 2 < wr.heap.size
  b : wr.heap[gB]? = some (.cells (rowB (gB + 2) bs.length j).toArray 28 (0, 0))
  a : wr.heap[gB + 2]? = some (.cells (rowA bs j).toArray 5 (0, 0))
  o : wr.heap[gB + 1]? = some (.cells #[.slice (some ⟨gB, 0, none⟩) bs.length bs.length, v] 25 (0, 0))
theorem OI.start {w w3 : World} {bs : List (List Int)} {ws : List S57} {A0 A1 : Option Addr} {c0 c1 : Nat} (hB : Below w.heap.size w w3) (hs : w.heap.size + 2 ≤ w3.heap.size)
    (hd : w3.heap[w.heap.size]? = some (.cells #[.slice A0 bs.length c0, .slice A1 ws.length c1] 25 (0, 0))) (hr : w3.heap[w.heap.size + 1]? = some (.cells #[.slice none 0 0, .slice none 0 0] 25 (0, 0))) :
    OI w bs ws A0 c0 A1 c1 w3.heap.size 0 (.slice none 0 0) (((w3.alloc (.cells (Array.replicate bs.length (.slice none 0 0)) 28)).alloc (.cells #[.slice (some ⟨w3.heap.size, 0, none⟩) bs.length bs.length, .slice none 0 0] 25)).alloc (.cells (Array.replicate (bs.length * 64) (.int .u8 0)) 5)) := by
  refine ⟨?_, ?_, ?_, hs, ?_, ?_, ?_, ?_⟩
  · exact below_alloc (below_alloc (below_alloc hB _) _) _
  · exact blk_alloc (blk_alloc (blk_alloc hd _) _) _
  · exact blk_alloc (blk_alloc (blk_alloc hr _) _) _
  · simp
  · have := blk_new w3 (.cells (Array.replicate bs.length (.slice none 0 0)) 28)
    refine blk_alloc (blk_alloc ?_ _) _
    simpa [rowB] using this
  · have := blk_new ((w3.alloc (.cells (Array.replicate bs.length (.slice none 0 0)) 28)).alloc (.cells #[.slice (some ⟨w3.heap.size, 0, none⟩) bs.length bs.length, .slice none 0 0] 25)) (.cells (Array.replicate (bs.length * 64) (.int .u8 0)) 5)
    simpa [rowA, u8s] using this
  · have := blk_new (w3.alloc (.cells (Array.replicate bs.length (.slice none 0 0)) 28)) (.cells #[.slice (some ⟨w3.heap.size, 0, none⟩) bs.length bs.length, .slice none 0 0] 25)
    refine blk_alloc ?_ _
    simpa using this
section
variable {P : Program} {ops : Array Oper} {rest : List Oper} {o : Oper} {a : Act} {Q : Exit → Act → World → Prop}
/-- copy(d, s): elements of one cell. -/
theorem copy_event {W : World} (hgd : o.guard = none) (s x : Operand) (t e : TypeId) (ho : o.op = .call { callee := .builtin .copy, args := #[s, x], argTypes := #[t, t] })
    (ht : P.underlying t = some (.slice e)) (hinfo : (P.info? e).map (·.size) = some 1) {b off dLen dCap sLen sCap n : Nat} {ad : Addr} {cs : List Value} (hs : a.eval s = .slice (some ⟨b, off, none⟩) dLen dCap) (hx : a.eval x = .slice (some ad) sLen sCap)
    (hn : Nat.min sLen dLen = n) (hcs : cs.length = n) (hsrc : ∀ j v, cs[j]? = some v → W.cell? (ad.add j) = some v) (hc : ∀ j, j < cs.length → (W.cell? ⟨b, off + j, none⟩).isSome = true) (hf : ∀ j, j < cs.length → W.frozen? ⟨b, off + j, none⟩ = false) (h1 : ∀ v ∈ cs, v.oneCell' = true)
    (h : wpList P ops Q rest (a.put o.dst (goInt n)) (W.setCells b off cs)) : wpList P ops Q (o :: rest) a W := by
  obtain ⟨i0, hi, hsz⟩ := Option.map_eq_some_iff.1 hinfo
  have hr := run_copy_any (P := P) W t o.type e i0 ht hi b off dLen dCap ad sLen sCap n cs hn (by rw [hsz, Nat.mul_one]; exact hcs) hsrc hc hf h1
  refine Kd.event_run hgd (w1 := W.setCells b off cs) (v := goInt n) ?_ h
  simp only [execOp, ho, resolve, invoke, builtin, Sem.run_bind, Sem.run_pure, Result.andThen_ok, List.map_toArray, List.map_cons, List.map_nil, hs, hx, hr]
end
theorem u8s_one {l : List Int} : ∀ v ∈ u8s l, v.oneCell' = true := fun v hv => by
  obtain ⟨x, _, rfl⟩ := List.mem_map.1 hv
  rfl
theorem rowA_next (bs : List (List Int)) (h : ∀ b ∈ bs, b.length = 64) (j : Nat) (hj : j < bs.length) : (rowA bs j).take (j * 64) ++ u8s (bs.getD j []) ++ (rowA bs j).drop (j * 64 + 64) = rowA bs (j + 1) := by
  have hl := flat_take bs h j (by omega)
  have hl' : (u8s (bs.take j).flatten).length = j * 64 := by unfold u8s; rw [List.length_map, hl]
  have e : (bs.length - j) * 64 = 64 + (bs.length - (j + 1)) * 64 := by omega
  unfold rowA
  rw [List.take_left' hl', List.drop_append, List.drop_eq_nil_of_le (by omega), List.nil_append, hl', show j * 64 + 64 - j * 64 = 64 by omega, e, List.drop_replicate, show 64 + (bs.length - (j + 1)) * 64 - 64 = (bs.length - (j + 1)) * 64 by omega, List.take_succ_eq_append_getElem hj, List.flatten_append, List.flatten_singleton]
  have e2 : bs.getD j [] = bs[j] := by rw [List.getD_eq_getElem?_getD, List.getElem?_eq_getElem hj]; rfl
  rw [e2]
  unfold u8s
  rw [List.map_append]
theorem u8_cells {W : World} {ad : Addr} {n : Nat} {l : List Int} (h : (Kd.int .u8).C W (some ad) n l) : ∀ j v, (u8s l)[j]? = some v → W.cell? (ad.add j) = some v := fun j v hv => by
  have hl : l.length = n := h.1
  have hj : j < l.length := by have := (List.getElem?_eq_some_iff.1 hv).1; unfold u8s at this; rwa [List.length_map] at this
  have h1 := Kd.foot_int h (j : Int) (by omega) (by omega)
  rw [Int.toNat_natCast] at h1
  rw [h1, ← hv]
  unfold u8s rd
  rw [List.getElem?_map, List.getElem?_eq_getElem hj, Int.toNat_natCast, List.getD_eq_getElem?_getD, List.getElem?_eq_getElem hj]
  rfl
theorem OI.next {w wr : World} {bs : List (List Int)} {ws : List S57} {A0 A1 : Option Addr} {c0 c1 gB j : Nat} {v : Value} (h : OI w bs ws A0 c0 A1 c1 gB j v wr) (h64 : ∀ b ∈ bs, b.length = 64) (hj : j < bs.length) :
    OI w bs ws A0 c0 A1 c1 gB (j + 1) v (((wr.setCell ⟨gB, j, none⟩ (slA (gB + 2) j)).drew).setCells (gB + 2) (j * 64) (u8s (bs.getD j []))) := by
  have hbl : (bs.getD j []).length = 64 := h64 _ (by rw [List.getD_eq_getElem?_getD, List.getElem?_eq_getElem hj]; exact List.getElem_mem hj)
  have hul : (u8s (bs.getD j [])).length = 64 := by unfold u8s; rw [List.length_map, hbl]
  have hnb : ∀ j' : Nat, gB + 2 ≠ (⟨gB, j', none⟩ : Addr).block := fun _ => by show gB + 2 ≠ gB; omega
  have ha := blk_far h.a (p := ⟨gB, j, none⟩) (hnb j) (slA (gB + 2) j)
  have hA := rowA_len bs h64 j (by omega)
  have hmul : j * 64 + 64 ≤ bs.length * 64 := by omega
  obtain ⟨cur', h3, h4, h5⟩ := setCells_row (u8s (bs.getD j [])) (j * 64) (wr.setCell ⟨gB, j, none⟩ (slA (gB + 2) j)).drew _ (blk_drew ha) (by rw [hul, List.size_toArray, hA]; exact hmul)
  obtain ⟨s1, s2, s3, s4⟩ := setCells_same (gB + 2) (u8s (bs.getD j [])) (j * 64) (wr.setCell ⟨gB, j, none⟩ (slA (gB + 2) j)).drew
  have hfar : ∀ (k : Nat), k ≠ gB + 2 → k ≠ gB → ∀ o, wr.heap[k]? = some o → ((((wr.setCell ⟨gB, j, none⟩ (slA (gB + 2) j)).drew).setCells (gB + 2) (j * 64) (u8s (bs.getD j []))).heap[k]? = some o) := fun k h1 h2 o ho =>
    (setCells_far _ _ k h1).trans ((Below.heap_setCell wr ⟨gB, j, none⟩ _ k h2).trans ho)
  have hw := h.gb
  refine ⟨?_, hfar _ (by omega) (by omega) _ h.d, hfar _ (by omega) (by omega) _ h.r, h.gb, ?_, ?_, ?_, hfar _ (by omega) (by omega) _ h.o⟩
  · have hb := below_drew (below_set h.below (g := gB) (j := j) (v := slA (gB + 2) j) (by omega))
    exact hb.trans ⟨s1, s2, s3, by rw [s4]; exact Nat.le_refl _, fun k hk => setCells_far _ _ k (by omega)⟩
  · rw [s4]
    show gB + 2 < (wr.setCell _ _).heap.size
    have := h.lt
    simpa [World.setCell] using this
  · rw [← rowB_set _ _ _ hj]
    exact (setCells_far _ _ _ (by omega)).trans (blk_set h.b j _)
  · rw [h3]
    have : cur' = (rowA bs (j + 1)).toArray := by
      rw [← rowA_next bs h64 j hj, ← Array.toList_inj, h5, hul]
    rw [this]
theorem OI.grown {w wr w2 w3 : World} {bs : List (List Int)} {ws : List S57} {A0 A1 : Option Addr} {c0 c1 gB j : Nat} {v : Value} (h : OI w bs ws A0 c0 A1 c1 gB j v wr) (hb : Below wr.heap.size wr w2) (hg : w2.grownBy w3 v.ownBlock)
    (hv : ∀ k, v.ownBlock = some k → w.heap.size + 2 ≤ k ∧ k ≠ gB ∧ k ≠ gB + 1 ∧ k ≠ gB + 2) (hB : Below w.heap.size w w3) : OI w bs ws A0 c0 A1 c1 gB j v w3 := by
  have hlt := h.lt
  have hgb := h.gb
  have key : ∀ k o, k < wr.heap.size → (w.heap.size + 2 ≤ k ∧ k ≠ gB ∧ k ≠ gB + 1 ∧ k ≠ gB + 2 → False) → wr.heap[k]? = some o → w3.heap[k]? = some o := fun k o hk hn ho =>
    (hg.block k (Nat.lt_of_lt_of_le hk hb.size) (fun e => hn (hv k e.symm))).trans ((hb.block k hk).trans ho)
  exact ⟨hB, key _ _ (by omega) (by omega) h.d, key _ _ (by omega) (by omega) h.r, h.gb, Nat.lt_of_lt_of_le (Nat.lt_of_lt_of_le h.lt hb.size) hg.size, key _ _ (by omega) (by omega) h.b, key _ _ (by omega) (by omega) h.a, key _ _ (by omega) (by omega) h.o⟩
theorem OI.below_grown {w wr w2 w3 : World} {bs : List (List Int)} {ws : List S57} {A0 A1 : Option Addr} {c0 c1 gB j : Nat} {v : Value} (h : OI w bs ws A0 c0 A1 c1 gB j v wr) (hb : Below wr.heap.size wr w2) (hg : w2.grownBy w3 v.ownBlock)
    (hv : ∀ k, v.ownBlock = some k → w.heap.size + 2 ≤ k ∧ k ≠ gB ∧ k ≠ gB + 1 ∧ k ≠ gB + 2) (hB : Below w.heap.size w w3) : OI w bs ws A0 c0 A1 c1 gB j v w3 := h.grown hb hg hv hB
theorem OI.put {w w3 : World} {bs : List (List Int)} {ws : List S57} {A0 A1 : Option Addr} {c0 c1 gB j : Nat} {v : Value} (h : OI w bs ws A0 c0 A1 c1 gB j v w3) (u : Value) : OI w bs ws A0 c0 A1 c1 gB j u (w3.setCell ⟨gB + 1, 1, none⟩ u) := by
  have hgb := h.gb
  refine ⟨below_set h.below (by omega), blk_far h.d (by show _ ≠ gB + 1; omega) _, blk_far h.r (by show _ ≠ gB + 1; omega) _, h.gb, ?_, blk_far h.b (by show _ ≠ gB + 1; omega) _, blk_far h.a (by show _ ≠ gB + 1; omega) _, blk_put h.o 1 u rfl⟩
  have := h.lt
  simpa [World.setCell] using this
/-- The cells that the region reads. -/
def SQ (gB N : Nat) (v : Value) (x : Int) (u : Value) (w' : World) : Prop := w'.cell? ⟨gB + 1, 1, none⟩ = some v ∧ w'.cell? ⟨N, 0, none⟩ = some (.int .i64 x) ∧ w'.cell? ⟨N, 1, none⟩ = some u
theorem SQ.of {gB N t : Nat} {s v u : Value} {x : Int} {W : World} (ho : W.heap[gB + 1]? = some (.cells #[s, v] t (0, 0))) {t' : Nat} (hk : W.heap[N]? = some (.cells #[.int .i64 x, u] t' (0, 0))) : SQ gB N v x u W := by
  have h1 := blk_cell ho 1
  have h2 := blk_cell hk 0
  have h3 := blk_cell hk 1
  simp only [List.getElem?_toArray, List.getElem?_cons_zero, List.getElem?_cons_succ] at h1 h2 h3
  exact ⟨h1, h2, h3⟩
theorem SQ.below {gB N : Nat} {v u : Value} {x : Int} {W W' : World} (h : SQ gB N v x u W) (hb : Below W.heap.size W W') : SQ gB N v x u W' :=
  ⟨(hb.cell (World.block_lt_of_cell? _ _ h.1)).trans h.1, (hb.cell (World.block_lt_of_cell? _ _ h.2.1)).trans h.2.1, (hb.cell (World.block_lt_of_cell? _ _ h.2.2)).trans h.2.2⟩
theorem SQ.grown {gB N : Nat} {v u : Value} {x : Int} {W W' : World} {r : Option Nat} (h : SQ gB N v x u W) (hg : W.grownBy W' r) (h1 : some (gB + 1) ≠ r) (h2 : some N ≠ r) : SQ gB N v x u W' := by
  have k : ∀ (a : Addr) (y : Value), a.block = gB + 1 ∨ a.block = N → W.cell? a = some y → W'.cell? a = some y := fun a y ha hc => by
    have := hg.block a.block (World.block_lt_of_cell? W a hc) (by rcases ha with e | e <;> rw [e] <;> assumption)
    simpa [World.cell?, this] using hc
  exact ⟨k _ _ (.inl rfl) h.1, k _ _ (.inr rfl) h.2.1, k _ _ (.inr rfl) h.2.2⟩
theorem info_Wait : (Try.prog.info? 57).map (fun i => (i.zero, i.size, i.bytes)) = some (some (.agg #[(.int .i64 0), (.slice none 0 0)]), 2, 32) := by kernel_rfl
theorem own_empty (W : World) (base : Nat) (hb : base ≤ W.heap.size) (e : Nat) (ok : Nat → Prop) (hok : ok W.heap.size) : (Kd.int .u8).R e (W.alloc (.cells #[] e)) base ok (.slice (some ⟨W.heap.size, 0, none⟩) 0 0) [] :=
  ⟨fun k hk => by have : W.heap.size = k := by simpa [Value.ownBlock] using hk
                  subst this; exact hok, [], World.ownsRow_lit (base := base) (e := e) (size := 1) W #[] 0 hb (by simp) (by simp), Reps.none _ _⟩
set_option maxHeartbeats 2000000 in
set_option maxRecDepth 100000 in
theorem own_core (k : Nat) (A0 : Option Addr) (c0 : Nat) (bs : List (List Int)) (A1 : Option Addr) (c1 : Nat) (ws : List S57) (w : World) (hr0 : Kd.C (Kd.slice 5 (Kd.int .u8)) w A0 bs.length bs) (hc0 : bs.length ≤ c0) (hr1 : Kd.C k57 w A1 ws.length ws) (hc1 : ws.length ≤ c1)
    (hright : block_Right.f k bs ws = some true) (hok : OKD bs ws) :
    Calls Try.prog 25 #[.agg #[.slice A0 bs.length c0, .slice A1 ws.length c1]] w fun e w' => ∃ (gB gA : Nat) (v1 : Value), e = .returned (.agg #[.slice (some ⟨gB, 0, none⟩) bs.length bs.length, v1]) ∧ w.heap.size ≤ gA ∧ w.heap.size ≤ gB ∧ gA ≠ gB ∧
      w'.heap[gB]? = some (.cells (rowB gA bs.length bs.length).toArray 28 (0, 0)) ∧ w'.heap[gA]? = some (.cells (rowA bs bs.length).toArray 5 (0, 0)) ∧
      Kd.S k57 57 w' w.heap.size (fun k => w.heap.size ≤ k ∧ k ≠ gA ∧ k ≠ gB) v1 ws ∧ Below w.heap.size w w' := by
  obtain ⟨hn, hm, hb64, hw64⟩ := hok
  have HB64 := Aside0.mk hb64
  have HW64 := Aside0.mk hw64
  have HR0 := Aside0.mk hr0
  have HR1 := Aside0.mk hr1
  have HRT := Aside0.mk hright
  clear hb64 hw64 hr0 hr1 hright
  go_enter Try.func25, Try.ntmps25
  have hb0 : Below w.heap.size w ((w.alloc (.cells #[.slice A0 bs.length c0, .slice A1 ws.length c1] 25)).alloc (.cells #[.slice none 0 0, .slice none 0 0] 25)) := below_alloc (below_alloc (Below.refl _ _) _) _
  have HBW := Aside0.mk hb0
  clear hb0
  go_wp2_with (go_at_call 13; refine (block_Right.calls k _ _ bs _ _ ws true _ (Kd.C_below HR0.out HBW.out) hc0 (Kd.C_below HR1.out HBW.out) hc1 HRT.out).mono ?_; rintro e w3 ⟨rfl, hb3⟩; refine hold ?_)
  unfold Held
  have hB3 := below_step HBW.out hb3
  have hs3 : w.heap.size + 2 ≤ w3.heap.size := by have := hb3.size; simp at this; omega
  have hd3 : w3.heap[w.heap.size]? = some (.cells #[.slice A0 bs.length c0, .slice A1 ws.length c1] 25 (0, 0)) := (hb3.block _ (by simp; omega)).trans (blk_alloc (blk_new w _) _)
  have hr3 : w3.heap[w.heap.size + 1]? = some (.cells #[.slice none 0 0, .slice none 0 0] 25 (0, 0)) := (hb3.block _ (by simp)).trans (by simpa using blk_new (w.alloc (.cells #[.slice A0 bs.length c0, .slice A1 ws.length c1] 25)) (.cells #[.slice none 0 0, .slice none 0 0] 25))
  have HOI := Aside0.mk (OI.start hB3 hs3 hd3 hr3)
  have hc0' := blk_cell hd3 0
  have hc1' := blk_cell hd3 1
  simp only [List.getElem?_toArray, List.getElem?_cons_zero, List.getElem?_cons_succ] at hc0' hc1'
  clear hb3 hB3 hd3 hr3 HBW
  have hne1 : w.heap.size ≠ w3.heap.size + 1 := by omega
  have hne2 : w3.heap.size + 1 ≠ w.heap.size := by omega
  have hne3 : w.heap.size ≠ w3.heap.size := by omega
  have hne4 : w3.heap.size ≠ w.heap.size := by omega
  have hne5 : w.heap.size < w3.heap.size := by omega
  go_wp2_with (first | (at_make; refine make_raw 28 rfl rfl 22 _ _ rfl bs.length rfl rfl Try.underlying22 (.slice none 0 0) (.slice none 0 0) 24 info_sl rfl (by decide) (by omega) ?_) | (at_make; refine make_raw 5 rfl rfl 28 _ _ rfl (bs.length * 64) (by show Value.int .i64 ((bs.length : Int) * 64) = _; rw [Int.natCast_mul]; rfl) (by show Value.int .i64 ((bs.length : Int) * 64) = _; rw [Int.natCast_mul]; rfl) Try.underlying28 (.int .u8 0) (.int .u8 0) 1 info_u8 rfl (by decide) (by omega) ?_; refine hold ?_))
  unfold Held
  generalize hW : ((w3.alloc (.cells (Array.replicate bs.length (.slice none 0 0)) 28)).alloc (.cells #[.slice (some ⟨w3.heap.size, 0, none⟩) bs.length bs.length, .slice none 0 0] 25)).alloc (.cells (Array.replicate (bs.length * 64) (.int .u8 0)) 5) = W at *
  clear hW
  have hz3 : w3.heap.size + 1 + 1 = w3.heap.size + 2 := rfl
  rw [hz3]
  generalize hgB : w3.heap.size = gB at *
  clear hz3 hgB hc0' hc1' hne1 hne2 hne3 hne4 hne5 hs3 w3
  have hd0 := blk_cell HOI.out.d 0
  simp only [List.getElem?_toArray, List.getElem?_cons_zero, List.getElem?_cons_succ] at hd0
  go_wp2
  go_loopw [28] (fun i wr => ∃ j : Nat, j ≤ bs.length ∧ i = .int .i64 (j : Int) ∧ Aside0 (OI w bs ws A0 c0 A1 c1 gB j (.slice none 0 0) wr)) (fun i _ => bs.length - (intOf i).toNat)
  case atStart => exact ⟨0, by omega, rfl, HOI⟩
  case round =>
    clear HOI hd0
    obtain ⟨j, hj, rfl, HO⟩ := hrel
    by_cases hlt : j < bs.length
    · obtain ⟨ad, A', c', rfl, hx, hl', hi'⟩ := at_L1 HR0.out (j : Int) (by omega) (by omega)
      rw [Int.toNat_natCast] at hx
      replace hx := (HO.out.below.cell (World.block_lt_of_cell? w _ hx)).trans hx
      have hrd : rd_L1 bs (j : Int) = bs.getD j [] := by unfold rd_L1; rw [Int.toNat_natCast]
      rw [hrd] at hx hl' hi'
      have hb64 : (bs.getD j []).length = 64 := HB64.out _ (by rw [List.getD_eq_getElem?_getD, List.getElem?_eq_getElem hlt]; exact List.getElem_mem hlt)
      generalize hb : bs.getD j [] = b at hx hl' hi' hb64
      rw [hb64] at hx hl' hi'
      have HB := Aside0.mk hb
      have HI := Aside0.mk hi'
      have HB6 := Aside0.mk hb64
      clear hb hi' hb64 hrd
      have ho0 := blk_cell HO.out.o 0
      have ho1 := blk_cell HO.out.o 1
      simp only [List.getElem?_toArray, List.getElem?_cons_zero, List.getElem?_cons_succ] at ho0 ho1
      have hbc := blk_cell HO.out.b j
      have hbf := blk_frozen HO.out.b j
      have hj1 : (0 : Int) ≤ (j : Int) := by omega
      have hj2 : (j : Int) < (bs.length : Int) := by omega
      have hj3 : (j : Int) < 4096 := by omega
      have hs1 : (0 : Int) ≤ (j : Int) * 64 := by omega
      have hs2 : (j : Int) * 64 ≤ ((j : Int) + 1) * 64 := by omega
      have hs3 : ((j : Int) + 1) * 64 ≤ ((bs.length * 64 : Nat) : Int) := by omega
      have hs4 : ((j : Int) * 64).toNat = j * 64 := by omega
      have hs5 : (((j : Int) + 1) * 64).toNat = j * 64 + 64 := by omega
      have mixed : Try.prog.follows .mixedOrders = true := by kernel_rfl
      rw [rowB_at _ _ _ hlt] at hbc
      have hne1 : gB ≠ gB + 1 := by omega
      have hne2 : gB + 1 ≠ gB := by omega
      go_wp2
      go_region
      go_wp2_with (with_reducible refine gate_dst (N := 53) rfl ?_; refine hold ?_)
      unfold Held
      obtain ⟨ad2, rfl, hcells⟩ := HI.out.2.2 (by omega)
      have hba := blk_far HO.out.a (p := ⟨gB, j, none⟩) (by show gB + 2 ≠ gB; omega) (slA (gB + 2) j)
      refine copy_event rfl (.tmp 51) (.tmp 52) 28 5 rfl Try.underlying28 (by kernel_rfl) (b := gB + 2) (off := j * 64) (dLen := 64) (dCap := 64) (sLen := 64) (sCap := c') (n := 64) (ad := ad2) (cs := u8s b) rfl rfl rfl (by unfold u8s; rw [List.length_map, HB6.out]) ?hs ?hc ?hf u8s_one ?_
      case hs => exact u8_cells (Kd.C_below HI.out (below_drew (below_set HO.out.below (by have := HO.out.gb; omega))))
      case hc =>
        intro q hq
        have hbq := blk_cell hba (j * 64 + q)
        rw [World.cell?_drew, hbq, List.getElem?_toArray, List.getElem?_eq_getElem (by rw [rowA_len bs HB64.out j hj]; unfold u8s at hq; rw [List.length_map, HB6.out] at hq; omega)]
        rfl
      case hf =>
        intro q hq
        exact blk_frozen (blk_drew hba) _
      have HN := Aside0.mk (OI.next HO.out HB64.out hlt)
      rw [HB.out] at HN
      clear HO HI HB HB6 hbc hbf ho0 ho1 hba hcells hx
      go_wp2
      exact ⟨⟨j + 1, by omega, by rw [Int.natCast_add]; rfl, HN⟩, by simp [intOf]; omega⟩
    · obtain rfl : j = bs.length := by omega
      have hd1 := blk_cell HO.out.d 1
      simp only [List.getElem?_toArray, List.getElem?_cons_zero, List.getElem?_cons_succ] at hd1
      go_wp2
      go_loopw [58] (fun i wq => ∃ (q : Nat) (v : Value), q ≤ ws.length ∧ i = .int .i64 (q : Int) ∧ Aside0 (OI w bs ws A0 c0 A1 c1 gB bs.length v wq) ∧ Aside0 (Kd.S k57 57 wq w.heap.size (fun k => w.heap.size + 2 ≤ k ∧ k ≠ gB ∧ k ≠ gB + 1 ∧ k ≠ gB + 2) v (ws.take q))) (fun i _ => ws.length - (intOf i).toNat)
      case atStart => exact ⟨0, .slice none 0 0, by omega, rfl, HO, ⟨Kd.S_nil _ _ _ _ _⟩⟩
      case round =>
        clear HO hd1
        obtain ⟨q, v, hq, rfl, HO, HS⟩ := hrel
        by_cases hlt : q < ws.length
        · obtain ⟨ad, Aq, cq, rfl, hx0, hx1, hl', hi'⟩ := at_T57 HR1.out (q : Int) (by omega) (by omega)
          rw [Int.toNat_natCast] at hx0 hx1
          replace hx0 := (HO.out.below.cell (World.block_lt_of_cell? w _ hx0)).trans hx0
          replace hx1 := (HO.out.below.cell (World.block_lt_of_cell? w _ hx1)).trans hx1
          have hrd : rd_T57 ws (q : Int) = ws.getD q z57 := by unfold rd_T57; rw [Int.toNat_natCast]
          rw [hrd] at hx0 hx1 hl' hi'
          have hb64 : (ws.getD q z57).f1.length = 64 := (HW64.out _ (by rw [List.getD_eq_getElem?_getD, List.getElem?_eq_getElem hlt]; exact List.getElem_mem hlt)).2.2
          generalize hb : ws.getD q z57 = x at hx0 hx1 hl' hi' hb64
          rw [hb64] at hx1 hl' hi'
          have HB := Aside0.mk hb
          have HI := Aside0.mk hi'
          have HB6 := Aside0.mk hb64
          clear hb hi' hb64 hrd
          have ho1 := blk_cell HO.out.o 1
          have hf1 := blk_frozen HO.out.o 1
          simp only [List.getElem?_toArray, List.getElem?_cons_zero, List.getElem?_cons_succ] at ho1
          have hj1 : (0 : Int) ≤ (q : Int) := by omega
          have hj2 : (q : Int) < (ws.length : Int) := by omega
          have hj3 : (q : Int) < 1000 := by omega
          have mixed : Try.prog.follows .mixedOrders = true := by kernel_rfl
          have hN0 : wr.heap.size ≠ gB + 1 := by have := HO.out.lt; omega
          have hN1 : gB + 1 ≠ wr.heap.size := by omega
          have hN2 : gB + 1 < wr.heap.size := by have := HO.out.lt; omega
          have hBw := Aside0.mk HO.out.below
          have hnb : Aside0 (∀ k, v.ownBlock = some k → k < wr.heap.size) := ⟨Kd.S_lt HS.out⟩
          have hok : Aside0 (∀ k, v.ownBlock = some k → w.heap.size + 2 ≤ k ∧ k ≠ gB ∧ k ≠ gB + 1 ∧ k ≠ gB + 2) := ⟨(Kd.S_R HS.out).1⟩
          have hHS : Aside0 (Kd.S k57 57 wr w.heap.size (fun k => (w.heap.size + 2 ≤ k ∧ k ≠ gB ∧ k ≠ gB + 1 ∧ k ≠ gB + 2) ∧ ¬ wr.heap.size ≤ k) v (ws.take q)) := ⟨Kd.S_mono (Kd.S_bound HS.out) (fun k hk => ⟨hk.1, Nat.not_le.2 hk.2.2.1⟩)⟩
          have htk : (ws.take q).length = q := by rw [List.length_take]; omega
          have hHT := Aside0.mk htk
          have hsz1 : Aside0 (wr.heap.size + 1 ≤ (wr.alloc (.cells #[.int .i64 x.f0, .slice Aq 64 cq] 57)).drew.heap.size) := ⟨by simp⟩
          clear htk
          go_wp2
          have HW1 := Aside0.mk (below_drew (below_alloc (Below.refl wr.heap.size wr) (.cells #[.int .i64 x.f0, .slice Aq 64 cq] 57)))
          have HBK := Aside0.mk (blk_drew (blk_new wr (.cells #[.int .i64 x.f0, .slice Aq 64 cq] 57)))
          have HOd := Aside0.mk (HO.out.grown HW1.out (World.grownBy.refl _ _) hok.out (below_step HO.out.below HW1.out))
          have hzW : Aside0 (wr.heap.size + 1 ≤ (wr.alloc (.cells #[.int .i64 x.f0, .slice Aq 64 cq] 57)).drew.heap.size) := ⟨by simp⟩
          generalize (wr.alloc (.cells #[.int .i64 x.f0, .slice Aq 64 cq] 57)) = W0 at *
          have HSQ := Aside0.mk (SQ.of HOd.out.o HBK.out)
          have hop : Aside0 (∀ k, wr.heap.size + 1 ≤ k → (w.heap.size + 2 ≤ k ∧ k ≠ gB ∧ k ≠ gB + 1 ∧ k ≠ gB + 2) ∧ some k ≠ v.ownBlock) := ⟨fun k hk => ⟨by have := HO.out.lt; have := HO.out.gb; omega, fun e => by have := hnb.out k e.symm; omega⟩⟩
          have hfr : Aside0 (∀ k, W0.drew.heap.size ≤ k → (w.heap.size + 2 ≤ k ∧ k ≠ gB ∧ k ≠ gB + 1 ∧ k ≠ gB + 2)) := ⟨fun k hk => by have := HO.out.lt; have := HO.out.gb; have := hzW.out; omega⟩
          have hvo : Aside0 (some (gB + 1) ≠ v.ownBlock) := ⟨fun e => (hok.out _ e.symm).2.2.1 rfl⟩
          have hvn : Aside0 (some wr.heap.size ≠ v.ownBlock) := ⟨fun e => by have := hnb.out _ e.symm; omega⟩
          have HM2 : ∀ (w2 : World) {A2 : Option Addr} {c2 : Nat}, (Kd.int .u8).R 5 w2 W0.drew.heap.size (fun k => W0.drew.heap.size ≤ k) (.slice A2 x.f1.length c2) x.f1 → k57.M w2 w.heap.size (fun k => wr.heap.size + 1 ≤ k) x [.int .i64 x.f0, .slice A2 x.f1.length c2] := fun w2 A2 c2 h => k57_mkM _ _ _ x (Kd.R_lower (Kd.R_mono h (fun k hk => Nat.le_trans hzW.out hk)) (below_step hBw.out HW1.out).size)
          have SQ0 := HSQ.out
          have HB1 := Aside0.mk (show Below W0.drew.heap.size W0.drew (W0.alloc (.cells #[] 5)).drew from below_alloc (Below.refl _ _) _)
          have SQ1 := HSQ.out.below HB1.out
          unfold SQ at SQ0 SQ1
          have cc0 := SQ0.1
          have cc1 := SQ1.1
          have cd0 := SQ0.2.1
          have ce0 := SQ0.2.2
          have cd1 := SQ1.2.1
          have ce1 := SQ1.2.2
          clear SQ0 SQ1
          go_region_law
            (first
              | ((refine Kd.R_append_rows_step (Kd.int .u8) (Rr := (Kd.int .u8).K w) (w0 := W0.drew) W0.drew.heap.size rfl (.tmp 66) (.tmp 68) 28 5 (.int .u8 0) 1 rfl Try.underlying28 info_u8 rfl (by decide) (by decide) _ [] x.f1 Aq 64 cq (fun k => W0.drew.heap.size ≤ k) (fun _ => False) rfl rfl (Kd.R_drew (own_empty W0 W0.drew.heap.size (Nat.le_refl _) _ _ (Nat.le_refl _))) (ReadsRow.imp_ HI.out (below_step hBw.out (below_step HW1.out HB1.out)) (fun _ _ hp => hp)) (fun _ _ hx => hx) (fun _ hk => hk.elim) (fun k hk => Nat.le_trans HB1.out.size hk) HB1.out HB1.out.size (by decide) ?_; intro v2 w2 hr2 hb2 hg2 hat2; obtain ⟨A2, c2, rfl⟩ := Kd.R_slice hr2; have HR2 := Aside0.mk hr2; have HB2 := Aside0.mk hb2; have SQ2 := HSQ.out.below hb2; clear hr2 hb2 hg2 hat2; unfold SQ at SQ2; have cc2 := SQ2.1; have cd2 := SQ2.2.1; have ce2 := SQ2.2.2; have hwl := World.block_lt_of_cell? _ _ cc2; have hwn1 := Nat.ne_of_lt hwl; have hwn2 := Ne.symm hwn1; have hwm := World.block_lt_of_cell? _ _ SQ2.2.1; have hwm1 := Nat.ne_of_lt hwm; have hwm2 := Ne.symm hwm1))
              | ((refine Kd.S_append_step k57 (w0 := w) w.heap.size rfl (.tmp 63) (.tmp 71) 23 57 (.agg #[(.int .i64 0), (.slice none 0 0)]) 32 rfl Try.underlying23 info_Wait rfl (by decide) (by decide) v (ws.take q) x [.int .i64 x.f0, .slice A2 x.f1.length c2] (fun k => w.heap.size + 2 ≤ k ∧ k ≠ gB ∧ k ≠ gB + 1 ∧ k ≠ gB + 2) (fun k => wr.heap.size + 1 ≤ k) rfl rfl (HM2 _ HR2.out) hop.out (fun k hk => hfr.out k (Nat.le_trans HB2.out.size hk)) (Kd.S_below (Kd.S_below (Kd.S_mono hHS.out (fun k hk => ⟨hk.1, fun h => hk.2 (by omega)⟩)) HW1.out) HB2.out) (below_step hBw.out (below_step HW1.out HB2.out)) (below_step hBw.out (below_step HW1.out HB2.out)).size (by rw [hHT.out]; omega) ?_; intro v3 w3 hs3 hb3 hg3 hat3; obtain ⟨A3, c3, rfl⟩ := Kd.S_slice hs3; have HS3 := Aside0.mk hs3; have HB3 := Aside0.mk hb3; have HG3 := Aside0.mk hg3; have SQ3 := (SQ.below HSQ.out HB2.out).grown hg3 hvo.out hvn.out; have hf3 := blk_frozen ((HOd.out.below_grown HB2.out hg3 hok.out hb3).o) 1; clear hs3 hb3 hg3 hat3; unfold SQ at SQ3; have cc3 := SQ3.1; have cd3 := SQ3.2.1; have ce3 := SQ3.2.2)))
          all_goals
            have htq : ws.take (q + 1) = ws.take q ++ [x] := by
              rw [List.take_succ_eq_append_getElem hlt, ← HB.out, List.getD_eq_getElem?_getD, List.getElem?_eq_getElem hlt]; rfl
            have hlq : (ws.take q ++ [x]).length = q + 1 := by rw [← htq, List.length_take]; omega
            have hs4 := HS3.out
            rw [hlq, ← htq] at hs4
            have N1 := Aside0.mk ((HOd.out.below_grown HB2.out HG3.out hok.out HB3.out).put (.slice A3 (q + 1) c3))
            have N2 := Aside0.mk (Kd.S_far hs4 (p := ⟨gB + 1, 1, none⟩) (fun k hk => hk.2.2.1) (.slice A3 (q + 1) c3))
            clear htq hlq hs4 HS3 HB3 HG3 SQ3 HR2 HB2 SQ2 cc0 cc1 cc2 cc3 cd0 cd1 cd2 cd3 ce0 ce1 ce2 ce3 HM2 hx0 hx1 ho1 hf1 hf3
            go_wp2
            exact ⟨⟨q + 1, .slice A3 (q + 1) c3, by omega, by rw [Int.natCast_add]; rfl, N1, N2⟩, by simp [intOf]; omega⟩
        · obtain rfl : q = ws.length := by omega
          have HS := Aside0.mk (show Kd.S k57 57 wr w.heap.size (fun k => w.heap.size + 2 ≤ k ∧ k ≠ gB ∧ k ≠ gB + 1 ∧ k ≠ gB + 2) v ws from by have := HS.out; rwa [List.take_length] at this)
          obtain ⟨A3, c3, rfl⟩ := Kd.S_slice HS.out
          have ho0 := blk_cell HO.out.o 0
          have ho1 := blk_cell HO.out.o 1
          have hr0 := blk_cell HO.out.r 0
          have hr1 := blk_cell HO.out.r 1
          have hg0 := blk_frozen HO.out.r 0
          have hg1 := blk_frozen HO.out.r 1
          simp only [List.getElem?_toArray, List.getElem?_cons_zero, List.getElem?_cons_succ] at ho0 ho1 hr0 hr1
          have hgb := HO.out.gb
          go_wp2
          refine bodyPost_ret (results_cell_row rfl _ _ (w.heap.size + 1) 25 #[.slice (some ⟨gB, 0, none⟩) bs.length bs.length, .slice A3 ws.length c3] (0, 0) _ rfl (blk_put (cs := #[.slice (some ⟨gB, 0, none⟩) bs.length bs.length, .slice none 0 0]) (blk_put (cs := #[.slice none 0 0, .slice none 0 0]) HO.out.r 0 _ rfl) 1 _ rfl) Try.underlying25 rfl (by kernel_rfl)) rfl ?_
          refine ⟨gB, gB + 2, .slice A3 ws.length c3, rfl, by omega, by omega, by omega, ?_, ?_, ?_, ?_⟩
          · exact blk_far (blk_far HO.out.b (by show gB ≠ w.heap.size + 1; omega) _) (by show gB ≠ w.heap.size + 1; omega) _
          · exact blk_far (blk_far HO.out.a (by show gB + 2 ≠ w.heap.size + 1; omega) _) (by show gB + 2 ≠ w.heap.size + 1; omega) _
          · exact Kd.S_mono (Kd.S_far (p := ⟨w.heap.size + 1, 1, none⟩) (Kd.S_far (p := ⟨w.heap.size + 1, 0, none⟩) HS.out (fun k hk => by show k ≠ w.heap.size + 1; omega) _) (fun k hk => by show k ≠ w.heap.size + 1; omega) _) (fun k hk => ⟨by omega, hk.2.2.2, hk.2.1⟩)
          · exact below_set (below_set HO.out.below (by omega)) (by omega)
end Go.Proofs.Ytiplneodkcjkmaa.P
