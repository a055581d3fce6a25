/- By hand: block.done (written by gen_done.py, once for each closure), block.Sync, block.Crash. -/
import Derived.Test.YtiplneodkcjkmaaHDoneA
set_option linter.unusedVariables false
set_option linter.unusedSimpArgs false
namespace Go.Proofs.Ytiplneodkcjkmaa.P
open Go.RowKit Go.Proofs.YtiplneodkcjkmaaW.PrintWords Go.Proofs.YtiplneodkcjkmaaW.PrintLast Go.Proofs.YtiplneodkcjkmaaW.PrintMore
attribute [local go_sem] max2_int min2_int max_two min_two
/-- How the memory stands in done's loop: the blocks' bytes are bs'. -/
structure DI (w : World) (n gB gA : Nat) (Av : Option Addr) (cv : Nat) (ws : List S57) (bs : List (List Int)) (wr : World) : Prop where
  below : Below w.heap.size w wr
  len : bs.length = n
  l64 : ∀ b ∈ bs, b.length = 64
  d : wr.heap[w.heap.size]? = some (.cells #[.slice (some ⟨gB, 0, none⟩) n n, .slice Av ws.length cv] 25 (0, 0))
  r : wr.heap[w.heap.size + 1]? = some (.cells #[.slice none 0 0, .slice none 0 0] 25 (0, 0))
  b : wr.heap[gB]? = some (.cells (rowB gA n n).toArray 28 (0, 0))
  a : wr.heap[gA]? = some (.cells (rowA bs bs.length).toArray 5 (0, 0))
  gb : w.heap.size + 2 ≤ gB
  ga : w.heap.size + 2 ≤ gA
  ne : gA ≠ gB
  s : Kd.S k57 57 wr w.heap.size (fun k => w.heap.size + 2 ≤ k ∧ k ≠ gA ∧ k ≠ gB) (.slice Av ws.length cv) ws
theorem DI.step {w wr w2 : World} {n gB gA cv : Nat} {Av : Option Addr} {ws : List S57} {bs : List (List Int)} (h : DI w n gB gA Av cv ws bs wr) (hb : Below wr.heap.size wr w2) : DI w n gB gA Av cv ws bs w2 :=
  ⟨below_step h.below hb, h.len, h.l64, (hb.block _ (blk_lt h.d)).trans h.d, (hb.block _ (blk_lt h.r)).trans h.r, (hb.block _ (blk_lt h.b)).trans h.b, (hb.block _ (blk_lt h.a)).trans h.a, h.gb, h.ga, h.ne, Kd.S_below h.s hb⟩
theorem DI.put {w wr : World} {n gB gA cv : Nat} {Av : Option Addr} {ws : List S57} {bs : List (List Int)} (h : DI w n gB gA Av cv ws bs wr) (x : S57) (j m : Nat) (hj : j < n) (hx : x.f0 = (j : Int)) (hxl : x.f1.length = 64) (hm : m ≤ 64) :
    DI w n gB gA Av cv ws (putB bs x m) (wr.setCells gA (j * 64) (u8s (x.f1.take m))) := by
  have hul : (u8s (x.f1.take m)).length = m := by unfold u8s; rw [List.length_map, List.length_take]; omega
  have hA : (rowA bs bs.length).length = n * 64 := by rw [rowA_len bs h.l64 bs.length (Nat.le_refl _), h.len]
  have hmul : j * 64 + 64 ≤ n * 64 := by omega
  obtain ⟨cur', h3, h4, h5⟩ := setCells_row (u8s (x.f1.take m)) (j * 64) wr _ h.a (by rw [hul, List.size_toArray, hA]; omega)
  obtain ⟨s1, s2, s3, s4⟩ := setCells_same gA (u8s (x.f1.take m)) (j * 64) wr
  have hfar : ∀ (k : Nat), k ≠ gA → (wr.setCells gA (j * 64) (u8s (x.f1.take m))).heap[k]? = wr.heap[k]? := fun k h1 => setCells_far _ _ k h1
  have hga := h.ga
  refine ⟨h.below.trans ⟨s1, s2, s3, by rw [s4]; exact Nat.le_refl _, fun k hk => hfar k (by omega)⟩, by rw [putB_len]; exact h.len, putB_64 bs h.l64 x m (by rw [hx, Int.toNat_natCast, h.len]; exact hj) hxl hm, (hfar _ (by omega)).trans h.d, (hfar _ (by omega)).trans h.r, (hfar _ (Ne.symm h.ne)).trans h.b, ?_, h.gb, h.ga, h.ne, Kd.S_step h.s (fun k hk _ => hfar k hk.2.1)⟩
  rw [h3]
  have : cur' = (rowA (putB bs x m) (putB bs x m).length).toArray := by
    rw [← rowA_put bs h.l64 x j m (by rw [h.len]; exact hj) hx hxl hm, ← Array.toList_inj, h5, hul]
  rw [this]
/-- The cells that the region reads. -/
def DQ (N K gB gA n j : Nat) (u : Value) (w' : World) : Prop := w'.cell? ⟨N, 0, none⟩ = some (.slice (some ⟨gB, 0, none⟩) n n) ∧ w'.cell? ⟨K, 0, none⟩ = some (.int .i64 (j : Int)) ∧ w'.cell? ⟨K, 1, none⟩ = some u ∧ w'.cell? ⟨gB, j, none⟩ = some (.slice (some ⟨gA, j * 64, none⟩) 64 64)
theorem DQ.of {N K gB gA n j t t' t'' : Nat} {u v : Value} {W : World} (hd : W.heap[N]? = some (.cells #[.slice (some ⟨gB, 0, none⟩) n n, v] t (0, 0))) (hk : W.heap[K]? = some (.cells #[.int .i64 (j : Int), u] t' (0, 0))) (hb : W.heap[gB]? = some (.cells (rowB gA n n).toArray t'' (0, 0))) (hj : j < n) : DQ N K gB gA n j u W := by
  have h1 := blk_cell hd 0
  have h2 := blk_cell hk 0
  have h3 := blk_cell hk 1
  have h4 := blk_cell hb j
  simp only [List.getElem?_toArray, List.getElem?_cons_zero, List.getElem?_cons_succ] at h1 h2 h3 h4
  refine ⟨h1, h2, h3, ?_⟩
  rw [h4]
  unfold rowB
  rw [Nat.sub_self, List.replicate_zero, List.append_nil, List.getElem?_map, List.getElem?_range hj]
  rfl
theorem DQ.far {N K gB gA n j g : Nat} {u : Value} {W : World} (h : DQ N K gB gA n j u W) (h1 : N ≠ g) (h2 : K ≠ g) (h3 : gB ≠ g) (o : Nat) (cs : List Value) : DQ N K gB gA n j u (W.setCells g o cs) := by
  have k : ∀ (a : Addr) (y : Value), a.block ≠ g → W.cell? a = some y → (W.setCells g o cs).cell? a = some y := fun a y ha hc => by
    have := setCells_far (g := g) cs o (w := W) a.block ha
    simpa [World.cell?, this] using hc
  exact ⟨k _ _ h1 h.1, k _ _ h2 h.2.1, k _ _ h2 h.2.2.1, k _ _ h3 h.2.2.2⟩
theorem size_u8 : (Try.prog.info? 5).map (·.size) = some 1 := by kernel_rfl
set_option maxHeartbeats 4000000 in
set_option maxRecDepth 100000 in
theorem done_sync  (k : Nat) (A0 : Option Addr) (c0 : Nat) (bs : List (List Int)) (A1 : Option Addr) (c1 : Nat) (ws : List S57) (w : World) (hr0 : Kd.C (Kd.slice 5 (Kd.int .u8)) w A0 bs.length bs) (hc0 : bs.length ≤ c0) (hr1 : Kd.C k57 w A1 ws.length ws) (hc1 : ws.length ≤ c1)
    (hright : block_Right.f k bs ws = some true) (hok : OKD bs ws)  :
    Calls Try.prog 26 #[.agg #[.slice A0 bs.length c0, .slice A1 ws.length c1], .func (.func 27) #[] #[]] w fun e w' => ∃ gB gA bs', e = .returned (.agg #[.slice (some ⟨gB, 0, none⟩) bs.length bs.length, .slice none 0 0]) ∧ w.heap.size ≤ gA ∧ w.heap.size ≤ gB ∧
      bs' = doneF (fun _ => (64 : Int)) 0 bs ws ∧ bs'.length = bs.length ∧ (∀ b ∈ bs', b.length = 64) ∧ w'.heap[gB]? = some (.cells (rowB gA bs'.length bs'.length).toArray 28 (0, 0)) ∧ w'.heap[gA]? = some (.cells (rowA bs' bs'.length).toArray 5 (0, 0)) ∧ Below w.heap.size w w' := by
  skip
  have HOK := Aside0.mk hok
  have hn := hok.1
  have hm := hok.2.1
  have HR0 := Aside0.mk hr0
  have HR1 := Aside0.mk hr1
  have HRT := Aside0.mk hright
  clear hr0 hr1 hright hok
  have HBW := Aside0.mk (show Below w.heap.size w ((w.alloc (.cells #[.slice A0 bs.length c0, .slice A1 ws.length c1] 25)).alloc (.cells #[.slice none 0 0, .slice none 0 0] 25)) from below_alloc (below_alloc (Below.refl _ _) _) _)
  have HDW := Aside0.mk (show ((w.alloc (.cells #[.slice A0 bs.length c0, .slice A1 ws.length c1] 25)).alloc (.cells #[.slice none 0 0, .slice none 0 0] 25)).heap[w.heap.size]? = some (.cells #[.slice A0 bs.length c0, .slice A1 ws.length c1] 25 (0, 0)) from blk_alloc (blk_new w _) _)
  have HNW := Aside0.mk (show ((w.alloc (.cells #[.slice A0 bs.length c0, .slice A1 ws.length c1] 25)).alloc (.cells #[.slice none 0 0, .slice none 0 0] 25)).heap[w.heap.size + 1]? = some (.cells #[.slice none 0 0, .slice none 0 0] 25 (0, 0)) from by simpa using blk_new (w.alloc (.cells #[.slice A0 bs.length c0, .slice A1 ws.length c1] 25)) (.cells #[.slice none 0 0, .slice none 0 0] 25))
  have HZW := Aside0.mk (show ((w.alloc (.cells #[.slice A0 bs.length c0, .slice A1 ws.length c1] 25)).alloc (.cells #[.slice none 0 0, .slice none 0 0] 25)).heap.size = w.heap.size + 2 from by simp)
  go_enter Try.func26, Try.ntmps26
  go_wp2_with (go_at_call 25; refine (own_core k _ _ bs _ _ ws _ (Kd.C_below HR0.out HBW.out) hc0 (Kd.C_below HR1.out HBW.out) hc1 HRT.out HOK.out).mono ?_; rintro e w3 ⟨gB, gA, v1, rfl, g1, g2, g3, g4, g5, g6, g7⟩; refine hold ?_)
  unfold Held
  obtain ⟨Av, cv, rfl⟩ := Kd.S_slice g6
  rw [HZW.out] at g1 g2
  have e1 : w3.heap[w.heap.size]? = some (.cells #[.slice A0 bs.length c0, .slice A1 ws.length c1] 25 (0, 0)) := (g7.block _ (blk_lt HDW.out)).trans HDW.out
  have e2 : w3.heap[w.heap.size + 1]? = some (.cells #[.slice none 0 0, .slice none 0 0] 25 (0, 0)) := (g7.block _ (blk_lt HNW.out)).trans HNW.out
  have HDI : Aside0 (DI w bs.length gB gA Av cv ws bs ((w3.setCell ⟨w.heap.size, 0, none⟩ (.slice (some ⟨gB, 0, none⟩) bs.length bs.length)).setCell ⟨w.heap.size, 1, none⟩ (.slice Av ws.length cv))) := ⟨by
    refine ⟨below_set (below_set (below_step HBW.out g7) (Nat.le_refl _)) (Nat.le_refl _), rfl, HOK.out.2.2.1, blk_put (cs := #[.slice (some ⟨gB, 0, none⟩) bs.length bs.length, .slice A1 ws.length c1]) (blk_put (cs := #[.slice A0 bs.length c0, .slice A1 ws.length c1]) e1 0 _ rfl) 1 _ rfl, blk_far (blk_far e2 (by show _ ≠ w.heap.size; omega) _) (by show _ ≠ w.heap.size; omega) _, blk_far (blk_far g4 (by show _ ≠ w.heap.size; omega) _) (by show _ ≠ w.heap.size; omega) _, blk_far (blk_far g5 (by show _ ≠ w.heap.size; omega) _) (by show _ ≠ w.heap.size; omega) _, g2, g1, g3, ?_⟩
    exact Kd.S_far (p := ⟨w.heap.size, 1, none⟩) (Kd.S_far (p := ⟨w.heap.size, 0, none⟩) (Kd.S_lower (Kd.S_mono g6 (fun k hk => by rw [HZW.out] at hk; exact hk)) (by rw [HZW.out]; omega)) (fun k hk => by show k ≠ w.heap.size; omega) _) (fun k hk => by show k ≠ w.heap.size; omega) _⟩
  have hc0' := blk_cell e1 0
  have hc1' := blk_cell e1 1
  have hf0' := blk_frozen e1 0
  have hf1' := blk_frozen e1 1
  simp only [List.getElem?_toArray, List.getElem?_cons_zero, List.getElem?_cons_succ] at hc0' hc1'
  clear g1 g2 g3 g4 g5 g6 g7 e1 e2
  go_wp2
  go_loopw [13] (fun i wr => ∃ (q : Nat) (bs' : List (List Int)), q ≤ ws.length ∧ i = .int .i64 (q : Int) ∧ Aside0 (doneF (fun _ => (64 : Int)) q bs' (ws.drop q) = doneF (fun _ => (64 : Int)) 0 bs ws) ∧ Aside0 (DI w bs.length gB gA Av cv ws bs' wr)) (fun i _ => ws.length - (intOf i).toNat)
  case atStart => exact ⟨0, bs, by omega, rfl, ⟨rfl⟩, HDI⟩
  case round =>
    clear HDI hc0' hc1' hf0' hf1'
    obtain ⟨q, bs', hq, rfl, HF, HD⟩ := hrel
    by_cases hlt : q < ws.length
    · obtain ⟨ad, Aq, cq, rfl, hx0, hx1, hl', hi'⟩ := at_T57 (Kd.R_reads' (Kd.S_R HD.out.s)).2.2 (q : Int) (by omega) (by omega)
      rw [Int.toNat_natCast] at hx0 hx1
      have hrd : rd_T57 ws (q : Int) = ws.getD q z57 := by unfold rd_T57; rw [Int.toNat_natCast]
      rw [hrd] at hx0 hx1 hl' hi'
      have hx64 := HOK.out.2.2.2 (ws.getD q z57) (by rw [List.getD_eq_getElem?_getD, List.getElem?_eq_getElem hlt]; exact List.getElem_mem hlt)
      have hdq : ws.drop q = ws.getD q z57 :: ws.drop (q + 1) := by rw [List.drop_eq_getElem_cons hlt, List.getD_eq_getElem?_getD, List.getElem?_eq_getElem hlt]; rfl
      have hF := HF.out
      rw [hdq] at hF
      generalize hb : ws.getD q z57 = x at hx0 hx1 hl' hi' hx64 hF
      obtain ⟨p1, p2, p3⟩ := hx64
      rw [p3] at hx1 hl' hi'
      obtain ⟨j, hj⟩ := Int.eq_ofNat_of_zero_le p1
      rw [hj] at hx0
      have hjn : j < bs.length := by omega
      have HJ := Aside0.mk hj
      have HX := Aside0.mk p3
      have HI := Aside0.mk hi'
      have HF2 := Aside0.mk hF
      clear hb hi' hrd p1 p2 p3 hj hF hdq HF
      have hd0 := blk_cell HD.out.d 0
      have hd1 := blk_cell HD.out.d 1
      simp only [List.getElem?_toArray, List.getElem?_cons_zero, List.getElem?_cons_succ] at hd0 hd1
      have hq1 : (0 : Int) ≤ (q : Int) := by omega
      have hq2 : (q : Int) < (ws.length : Int) := by omega
      have hq3 : (q : Int) < 1000 := by omega
      have hN1 : Aside0 (w.heap.size < wr.heap.size) := ⟨blk_lt HD.out.d⟩
      skip
      obtain ⟨cn, hcn⟩ : ∃ cn : Int, (fun _ => (64 : Int)) q = cn := ⟨_, rfl⟩
      have HCN := Aside0.mk hcn
      clear hcn
      obtain ⟨c1', hc1'⟩ : ∃ z : Int, (if 64 < cn then 64 else cn) = z := ⟨_, rfl⟩
      obtain ⟨m, hm2⟩ : ∃ m : Nat, m = cutN cn := ⟨_, rfl⟩
      have hcm : (if 0 < c1' then c1' else 0) = (m : Int) := by rw [hm2]; unfold cutN; rw [hc1']; split <;> omega
      have hm64 : m ≤ 64 := by rw [hm2]; exact cutN_le _
      have HM := Aside0.mk hm2
      clear hm2
      go_wp2_with (go_at_call 27; refine (sync_fn _ _).mono ?_; rintro e w' ⟨rfl, rfl⟩; rw [show (64 : Int) = cn from HCN.out])
      have HI2 := Aside0.mk (Kd.C_below HI.out (below_drew (below_alloc (Below.refl wr.heap.size wr) (.cells #[.int .i64 (j : Int), .slice Aq 64 cq] 57))))
      have HD2 := Aside0.mk (HD.out.step (below_drew (below_alloc (Below.refl wr.heap.size wr) (.cells #[.int .i64 (j : Int), .slice Aq 64 cq] 57))))
      have HK2 := Aside0.mk (blk_drew (blk_new wr (.cells #[.int .i64 (j : Int), .slice Aq 64 cq] 57)))
      have HNW2 := Aside0.mk (blk_lt HD.out.a)
      have HNW3 := Aside0.mk (blk_lt HD.out.b)
      show Code.wp _ _ _ _ (wr.alloc (.cells #[.int .i64 (j : Int), .slice Aq 64 cq] 57))
      generalize (wr.alloc (.cells #[.int .i64 (j : Int), .slice Aq 64 cq] 57)) = W0 at *
      obtain ⟨ad2, rfl, _⟩ := HI2.out.2.2 (by omega)
      have SQ0 : DQ w.heap.size wr.heap.size gB gA bs.length j (.slice (some ad2) 64 cq) W0.drew := DQ.of HD2.out.d HK2.out HD2.out.b hjn
      have HSQ := Aside0.mk SQ0
      have N1 := Aside0.mk (HD2.out.put x j m hjn HJ.out HX.out hm64)
      have SQ1 := HSQ.out.far (g := gA) (Nat.ne_of_lt (by have := HD2.out.ga; omega)) (Ne.symm (Nat.ne_of_lt HNW2.out)) (Ne.symm HD2.out.ne) (j * 64) (u8s (x.f1.take m))
      unfold DQ at SQ0 SQ1
      have mixed : Try.prog.follows .mixedOrders = true := by kernel_rfl
      have hj1 : (0 : Int) ≤ (j : Int) := by omega
      have hj2 : (j : Int) < (bs.length : Int) := by omega
      have hm1 : (0 : Int) ≤ (m : Int) := by omega
      have hm2 : (m : Int) ≤ (cq : Int) := by omega
      have hul : (u8s (x.f1.take m)).length = m := by unfold u8s; rw [List.length_map, List.length_take, HX.out]; omega
      have HUL := Aside0.mk hul
      have HSRC : Aside0 (∀ i v, (u8s (x.f1.take m))[i]? = some v → W0.drew.cell? (ad2.add i) = some v) := ⟨fun i v hv => u8_cells HI2.out i v (by
        unfold u8s at hv ⊢
        rw [List.map_take, List.getElem?_take] at hv
        split at hv
        · exact hv
        · cases hv)⟩
      have HCC : Aside0 (∀ i, i < (u8s (x.f1.take m)).length → (W0.drew.cell? ⟨gA, j * 64 + i, none⟩).isSome = true) := ⟨fun i hi => by
        rw [HUL.out] at hi
        have h9 := rowA_len bs' HD2.out.l64 bs'.length (Nat.le_refl _)
        rw [HD2.out.len] at h9
        rw [blk_cell HD2.out.a, HD2.out.len, List.getElem?_toArray, List.getElem?_eq_getElem (by rw [h9]; omega)]
        rfl⟩
      have HCF : Aside0 (∀ i, i < (u8s (x.f1.take m)).length → W0.drew.frozen? ⟨gA, j * 64 + i, none⟩ = false) := ⟨fun i _ => blk_frozen HD2.out.a _⟩
      clear hul hc1' hcm hx0 hx1 hd0 hd1
      go_region_held3 (fun w' => w'.cell? ⟨w.heap.size, 0, none⟩ = some (.slice (some ⟨gB, 0, none⟩) bs.length bs.length) ∧ w'.cell? ⟨wr.heap.size, 0, none⟩ = some (.int .i64 (j : Int)) ∧ w'.cell? ⟨wr.heap.size, 1, none⟩ = some (.slice (some ad2) 64 cq) ∧ w'.cell? ⟨gB, j, none⟩ = some (.slice (some ⟨gA, j * 64, none⟩) 64 64)) (first | exact SQ0 | exact SQ1)
        ((refine copy_step rfl (.tmp 28) (.tmp 32) 28 5 rfl Try.underlying28 size_u8 (b := gA) (off := j * 64) (dLen := 64) (dCap := 64) (sLen := m) (sCap := cq) (n := m) (ad := ad2) (cs := u8s (x.f1.take m)) rfl rfl (Nat.min_eq_left hm64) HUL.out HSRC.out HCC.out HCF.out u8s_one ?_))
      all_goals
        have HF3 : Aside0 (doneF (fun _ => (64 : Int)) (q + 1) (putB bs' x m) (ws.drop (q + 1)) = doneF (fun _ => (64 : Int)) 0 bs ws) := ⟨by
          have := HF2.out
          rw [doneF] at this
          rw [HM.out, ← HCN.out]
          exact this⟩
        clear SQ0 SQ1
        go_wp2
        exact ⟨⟨q + 1, putB bs' x m, by omega, by rw [Int.natCast_add]; rfl, HF3, N1⟩, by simp [intOf]; omega⟩
    · obtain rfl : q = ws.length := by omega
      have hF := HF.out
      rw [List.drop_length, doneF] at hF
      have HF2 := Aside0.mk hF
      have hd0 := blk_cell HD.out.d 0
      have hd1 := blk_cell HD.out.d 1
      have hf0 := blk_frozen HD.out.d 0
      have hf1 := blk_frozen HD.out.d 1
      have hr0 := blk_cell HD.out.r 0
      have hr1 := blk_cell HD.out.r 1
      have hg0 := blk_frozen HD.out.r 0
      have hg1 := blk_frozen HD.out.r 1
      simp only [List.getElem?_toArray, List.getElem?_cons_zero, List.getElem?_cons_succ] at hd0 hd1 hr0 hr1
      have hgb := HD.out.gb
      have hga := HD.out.ga
      clear hF HF
      go_wp2
      refine bodyPost_ret (results_cell_row rfl _ _ (w.heap.size + 1) 25 #[.slice (some ⟨gB, 0, none⟩) bs.length bs.length, .slice none 0 0] (0, 0) _ rfl (blk_put (cs := #[.slice (some ⟨gB, 0, none⟩) bs.length bs.length, .slice none 0 0]) (blk_put (cs := #[.slice none 0 0, .slice none 0 0]) (blk_far HD.out.r (by show w.heap.size + 1 ≠ w.heap.size; omega) _) 0 _ rfl) 1 _ rfl) Try.underlying25 rfl (by kernel_rfl)) rfl ?_
      refine ⟨gB, gA, bs', rfl, by omega, by omega, HF2.out, HD.out.len, HD.out.l64, ?_, ?_, ?_⟩
      · rw [HD.out.len]
        exact blk_far (blk_far (blk_far HD.out.b (by show gB ≠ w.heap.size; omega) _) (by show gB ≠ w.heap.size + 1; omega) _) (by show gB ≠ w.heap.size + 1; omega) _
      · exact blk_far (blk_far (blk_far HD.out.a (by show gA ≠ w.heap.size; omega) _) (by show gA ≠ w.heap.size + 1; omega) _) (by show gA ≠ w.heap.size + 1; omega) _
      · exact below_set (below_set (below_set HD.out.below (Nat.le_refl _)) (by omega)) (by omega)
set_option maxHeartbeats 4000000 in
set_option maxRecDepth 100000 in
theorem done_crash (l2 : List Int) (b3 : Nat) (A2 : Option Addr) (c2 : Nat) (k : Nat) (A0 : Option Addr) (c0 : Nat) (bs : List (List Int)) (A1 : Option Addr) (c1 : Nat) (ws : List S57) (w : World) (hr0 : Kd.C (Kd.slice 5 (Kd.int .u8)) w A0 bs.length bs) (hc0 : bs.length ≤ c0) (hr1 : Kd.C k57 w A1 ws.length ws) (hc1 : ws.length ≤ c1)
    (hright : block_Right.f k bs ws = some true) (hok : OKD bs ws) (hb3 : w.heap[b3]? = some (.cells #[.slice A2 l2.length c2] 47 (0, 0))) (hC2 : (Kd.int .i64).C w A2 l2.length l2) :
    Calls Try.prog 26 #[.agg #[.slice A0 bs.length c0, .slice A1 ws.length c1], .func (.func 28) #[] #[.pointer (some ⟨b3, 0, none⟩)]] w fun e w' => ∃ gB gA bs', e = .returned (.agg #[.slice (some ⟨gB, 0, none⟩) bs.length bs.length, .slice none 0 0]) ∧ w.heap.size ≤ gA ∧ w.heap.size ≤ gB ∧
      bs' = doneF (keepF l2) 0 bs ws ∧ bs'.length = bs.length ∧ (∀ b ∈ bs', b.length = 64) ∧ w'.heap[gB]? = some (.cells (rowB gA bs'.length bs'.length).toArray 28 (0, 0)) ∧ w'.heap[gA]? = some (.cells (rowA bs' bs'.length).toArray 5 (0, 0)) ∧ Below w.heap.size w w' := by
  have HB3 := Aside0.mk hb3
  have HC2 := Aside0.mk hC2
  clear hb3 hC2
  have HOK := Aside0.mk hok
  have hn := hok.1
  have hm := hok.2.1
  have HR0 := Aside0.mk hr0
  have HR1 := Aside0.mk hr1
  have HRT := Aside0.mk hright
  clear hr0 hr1 hright hok
  have HBW := Aside0.mk (show Below w.heap.size w ((w.alloc (.cells #[.slice A0 bs.length c0, .slice A1 ws.length c1] 25)).alloc (.cells #[.slice none 0 0, .slice none 0 0] 25)) from below_alloc (below_alloc (Below.refl _ _) _) _)
  have HDW := Aside0.mk (show ((w.alloc (.cells #[.slice A0 bs.length c0, .slice A1 ws.length c1] 25)).alloc (.cells #[.slice none 0 0, .slice none 0 0] 25)).heap[w.heap.size]? = some (.cells #[.slice A0 bs.length c0, .slice A1 ws.length c1] 25 (0, 0)) from blk_alloc (blk_new w _) _)
  have HNW := Aside0.mk (show ((w.alloc (.cells #[.slice A0 bs.length c0, .slice A1 ws.length c1] 25)).alloc (.cells #[.slice none 0 0, .slice none 0 0] 25)).heap[w.heap.size + 1]? = some (.cells #[.slice none 0 0, .slice none 0 0] 25 (0, 0)) from by simpa using blk_new (w.alloc (.cells #[.slice A0 bs.length c0, .slice A1 ws.length c1] 25)) (.cells #[.slice none 0 0, .slice none 0 0] 25))
  have HZW := Aside0.mk (show ((w.alloc (.cells #[.slice A0 bs.length c0, .slice A1 ws.length c1] 25)).alloc (.cells #[.slice none 0 0, .slice none 0 0] 25)).heap.size = w.heap.size + 2 from by simp)
  go_enter Try.func26, Try.ntmps26
  go_wp2_with (go_at_call 25; refine (own_core k _ _ bs _ _ ws _ (Kd.C_below HR0.out HBW.out) hc0 (Kd.C_below HR1.out HBW.out) hc1 HRT.out HOK.out).mono ?_; rintro e w3 ⟨gB, gA, v1, rfl, g1, g2, g3, g4, g5, g6, g7⟩; refine hold ?_)
  unfold Held
  obtain ⟨Av, cv, rfl⟩ := Kd.S_slice g6
  rw [HZW.out] at g1 g2
  have e1 : w3.heap[w.heap.size]? = some (.cells #[.slice A0 bs.length c0, .slice A1 ws.length c1] 25 (0, 0)) := (g7.block _ (blk_lt HDW.out)).trans HDW.out
  have e2 : w3.heap[w.heap.size + 1]? = some (.cells #[.slice none 0 0, .slice none 0 0] 25 (0, 0)) := (g7.block _ (blk_lt HNW.out)).trans HNW.out
  have HDI : Aside0 (DI w bs.length gB gA Av cv ws bs ((w3.setCell ⟨w.heap.size, 0, none⟩ (.slice (some ⟨gB, 0, none⟩) bs.length bs.length)).setCell ⟨w.heap.size, 1, none⟩ (.slice Av ws.length cv))) := ⟨by
    refine ⟨below_set (below_set (below_step HBW.out g7) (Nat.le_refl _)) (Nat.le_refl _), rfl, HOK.out.2.2.1, blk_put (cs := #[.slice (some ⟨gB, 0, none⟩) bs.length bs.length, .slice A1 ws.length c1]) (blk_put (cs := #[.slice A0 bs.length c0, .slice A1 ws.length c1]) e1 0 _ rfl) 1 _ rfl, blk_far (blk_far e2 (by show _ ≠ w.heap.size; omega) _) (by show _ ≠ w.heap.size; omega) _, blk_far (blk_far g4 (by show _ ≠ w.heap.size; omega) _) (by show _ ≠ w.heap.size; omega) _, blk_far (blk_far g5 (by show _ ≠ w.heap.size; omega) _) (by show _ ≠ w.heap.size; omega) _, g2, g1, g3, ?_⟩
    exact Kd.S_far (p := ⟨w.heap.size, 1, none⟩) (Kd.S_far (p := ⟨w.heap.size, 0, none⟩) (Kd.S_lower (Kd.S_mono g6 (fun k hk => by rw [HZW.out] at hk; exact hk)) (by rw [HZW.out]; omega)) (fun k hk => by show k ≠ w.heap.size; omega) _) (fun k hk => by show k ≠ w.heap.size; omega) _⟩
  have hc0' := blk_cell e1 0
  have hc1' := blk_cell e1 1
  have hf0' := blk_frozen e1 0
  have hf1' := blk_frozen e1 1
  simp only [List.getElem?_toArray, List.getElem?_cons_zero, List.getElem?_cons_succ] at hc0' hc1'
  clear g1 g2 g3 g4 g5 g6 g7 e1 e2
  go_wp2
  go_loopw [13] (fun i wr => ∃ (q : Nat) (bs' : List (List Int)), q ≤ ws.length ∧ i = .int .i64 (q : Int) ∧ Aside0 (doneF (keepF l2) q bs' (ws.drop q) = doneF (keepF l2) 0 bs ws) ∧ Aside0 (DI w bs.length gB gA Av cv ws bs' wr)) (fun i _ => ws.length - (intOf i).toNat)
  case atStart => exact ⟨0, bs, by omega, rfl, ⟨rfl⟩, HDI⟩
  case round =>
    clear HDI hc0' hc1' hf0' hf1'
    obtain ⟨q, bs', hq, rfl, HF, HD⟩ := hrel
    by_cases hlt : q < ws.length
    · obtain ⟨ad, Aq, cq, rfl, hx0, hx1, hl', hi'⟩ := at_T57 (Kd.R_reads' (Kd.S_R HD.out.s)).2.2 (q : Int) (by omega) (by omega)
      rw [Int.toNat_natCast] at hx0 hx1
      have hrd : rd_T57 ws (q : Int) = ws.getD q z57 := by unfold rd_T57; rw [Int.toNat_natCast]
      rw [hrd] at hx0 hx1 hl' hi'
      have hx64 := HOK.out.2.2.2 (ws.getD q z57) (by rw [List.getD_eq_getElem?_getD, List.getElem?_eq_getElem hlt]; exact List.getElem_mem hlt)
      have hdq : ws.drop q = ws.getD q z57 :: ws.drop (q + 1) := by rw [List.drop_eq_getElem_cons hlt, List.getD_eq_getElem?_getD, List.getElem?_eq_getElem hlt]; rfl
      have hF := HF.out
      rw [hdq] at hF
      generalize hb : ws.getD q z57 = x at hx0 hx1 hl' hi' hx64 hF
      obtain ⟨p1, p2, p3⟩ := hx64
      rw [p3] at hx1 hl' hi'
      obtain ⟨j, hj⟩ := Int.eq_ofNat_of_zero_le p1
      rw [hj] at hx0
      have hjn : j < bs.length := by omega
      have HJ := Aside0.mk hj
      have HX := Aside0.mk p3
      have HI := Aside0.mk hi'
      have HF2 := Aside0.mk hF
      clear hb hi' hrd p1 p2 p3 hj hF hdq HF
      have hd0 := blk_cell HD.out.d 0
      have hd1 := blk_cell HD.out.d 1
      simp only [List.getElem?_toArray, List.getElem?_cons_zero, List.getElem?_cons_succ] at hd0 hd1
      have hq1 : (0 : Int) ≤ (q : Int) := by omega
      have hq2 : (q : Int) < (ws.length : Int) := by omega
      have hq3 : (q : Int) < 1000 := by omega
      have hN1 : Aside0 (w.heap.size < wr.heap.size) := ⟨blk_lt HD.out.d⟩
      have HBA := Aside0.mk (below_alloc HD.out.below (.cells #[.int .i64 (j : Int), .slice Aq 64 cq] 57))
      obtain ⟨cn, hcn⟩ : ∃ cn : Int, (keepF l2) q = cn := ⟨_, rfl⟩
      have HCN := Aside0.mk hcn
      clear hcn
      obtain ⟨c1', hc1'⟩ : ∃ z : Int, (if 64 < cn then 64 else cn) = z := ⟨_, rfl⟩
      obtain ⟨m, hm2⟩ : ∃ m : Nat, m = cutN cn := ⟨_, rfl⟩
      have hcm : (if 0 < c1' then c1' else 0) = (m : Int) := by rw [hm2]; unfold cutN; rw [hc1']; split <;> omega
      have hm64 : m ≤ 64 := by rw [hm2]; exact cutN_le _
      have HM := Aside0.mk hm2
      clear hm2
      go_wp2_with (go_at_call 28; refine (crash_fn l2 _ b3 A2 c2 q ((HBA.out.block b3 (blk_lt HB3.out)).trans HB3.out) (Kd.C_below HC2.out HBA.out)).mono ?_; rintro e w' ⟨rfl, rfl⟩; rw [HCN.out])
      have HI2 := Aside0.mk (Kd.C_below HI.out (below_drew (below_alloc (Below.refl wr.heap.size wr) (.cells #[.int .i64 (j : Int), .slice Aq 64 cq] 57))))
      have HD2 := Aside0.mk (HD.out.step (below_drew (below_alloc (Below.refl wr.heap.size wr) (.cells #[.int .i64 (j : Int), .slice Aq 64 cq] 57))))
      have HK2 := Aside0.mk (blk_drew (blk_new wr (.cells #[.int .i64 (j : Int), .slice Aq 64 cq] 57)))
      have HNW2 := Aside0.mk (blk_lt HD.out.a)
      have HNW3 := Aside0.mk (blk_lt HD.out.b)
      show Code.wp _ _ _ _ (wr.alloc (.cells #[.int .i64 (j : Int), .slice Aq 64 cq] 57))
      generalize (wr.alloc (.cells #[.int .i64 (j : Int), .slice Aq 64 cq] 57)) = W0 at *
      obtain ⟨ad2, rfl, _⟩ := HI2.out.2.2 (by omega)
      have SQ0 : DQ w.heap.size wr.heap.size gB gA bs.length j (.slice (some ad2) 64 cq) W0.drew := DQ.of HD2.out.d HK2.out HD2.out.b hjn
      have HSQ := Aside0.mk SQ0
      have N1 := Aside0.mk (HD2.out.put x j m hjn HJ.out HX.out hm64)
      have SQ1 := HSQ.out.far (g := gA) (Nat.ne_of_lt (by have := HD2.out.ga; omega)) (Ne.symm (Nat.ne_of_lt HNW2.out)) (Ne.symm HD2.out.ne) (j * 64) (u8s (x.f1.take m))
      unfold DQ at SQ0 SQ1
      have mixed : Try.prog.follows .mixedOrders = true := by kernel_rfl
      have hj1 : (0 : Int) ≤ (j : Int) := by omega
      have hj2 : (j : Int) < (bs.length : Int) := by omega
      have hm1 : (0 : Int) ≤ (m : Int) := by omega
      have hm2 : (m : Int) ≤ (cq : Int) := by omega
      have hul : (u8s (x.f1.take m)).length = m := by unfold u8s; rw [List.length_map, List.length_take, HX.out]; omega
      have HUL := Aside0.mk hul
      have HSRC : Aside0 (∀ i v, (u8s (x.f1.take m))[i]? = some v → W0.drew.cell? (ad2.add i) = some v) := ⟨fun i v hv => u8_cells HI2.out i v (by
        unfold u8s at hv ⊢
        rw [List.map_take, List.getElem?_take] at hv
        split at hv
        · exact hv
        · cases hv)⟩
      have HCC : Aside0 (∀ i, i < (u8s (x.f1.take m)).length → (W0.drew.cell? ⟨gA, j * 64 + i, none⟩).isSome = true) := ⟨fun i hi => by
        rw [HUL.out] at hi
        have h9 := rowA_len bs' HD2.out.l64 bs'.length (Nat.le_refl _)
        rw [HD2.out.len] at h9
        rw [blk_cell HD2.out.a, HD2.out.len, List.getElem?_toArray, List.getElem?_eq_getElem (by rw [h9]; omega)]
        rfl⟩
      have HCF : Aside0 (∀ i, i < (u8s (x.f1.take m)).length → W0.drew.frozen? ⟨gA, j * 64 + i, none⟩ = false) := ⟨fun i _ => blk_frozen HD2.out.a _⟩
      clear hul hc1' hcm hx0 hx1 hd0 hd1
      go_region_held3 (fun w' => w'.cell? ⟨w.heap.size, 0, none⟩ = some (.slice (some ⟨gB, 0, none⟩) bs.length bs.length) ∧ w'.cell? ⟨wr.heap.size, 0, none⟩ = some (.int .i64 (j : Int)) ∧ w'.cell? ⟨wr.heap.size, 1, none⟩ = some (.slice (some ad2) 64 cq) ∧ w'.cell? ⟨gB, j, none⟩ = some (.slice (some ⟨gA, j * 64, none⟩) 64 64)) (first | exact SQ0 | exact SQ1)
        ((refine copy_step rfl (.tmp 28) (.tmp 32) 28 5 rfl Try.underlying28 size_u8 (b := gA) (off := j * 64) (dLen := 64) (dCap := 64) (sLen := m) (sCap := cq) (n := m) (ad := ad2) (cs := u8s (x.f1.take m)) rfl rfl (Nat.min_eq_left hm64) HUL.out HSRC.out HCC.out HCF.out u8s_one ?_))
      all_goals
        have HF3 : Aside0 (doneF (keepF l2) (q + 1) (putB bs' x m) (ws.drop (q + 1)) = doneF (keepF l2) 0 bs ws) := ⟨by
          have := HF2.out
          rw [doneF] at this
          rw [HM.out, ← HCN.out]
          exact this⟩
        clear SQ0 SQ1
        go_wp2
        exact ⟨⟨q + 1, putB bs' x m, by omega, by rw [Int.natCast_add]; rfl, HF3, N1⟩, by simp [intOf]; omega⟩
    · obtain rfl : q = ws.length := by omega
      have hF := HF.out
      rw [List.drop_length, doneF] at hF
      have HF2 := Aside0.mk hF
      have hd0 := blk_cell HD.out.d 0
      have hd1 := blk_cell HD.out.d 1
      have hf0 := blk_frozen HD.out.d 0
      have hf1 := blk_frozen HD.out.d 1
      have hr0 := blk_cell HD.out.r 0
      have hr1 := blk_cell HD.out.r 1
      have hg0 := blk_frozen HD.out.r 0
      have hg1 := blk_frozen HD.out.r 1
      simp only [List.getElem?_toArray, List.getElem?_cons_zero, List.getElem?_cons_succ] at hd0 hd1 hr0 hr1
      have hgb := HD.out.gb
      have hga := HD.out.ga
      clear hF HF
      go_wp2
      refine bodyPost_ret (results_cell_row rfl _ _ (w.heap.size + 1) 25 #[.slice (some ⟨gB, 0, none⟩) bs.length bs.length, .slice none 0 0] (0, 0) _ rfl (blk_put (cs := #[.slice (some ⟨gB, 0, none⟩) bs.length bs.length, .slice none 0 0]) (blk_put (cs := #[.slice none 0 0, .slice none 0 0]) (blk_far HD.out.r (by show w.heap.size + 1 ≠ w.heap.size; omega) _) 0 _ rfl) 1 _ rfl) Try.underlying25 rfl (by kernel_rfl)) rfl ?_
      refine ⟨gB, gA, bs', rfl, by omega, by omega, HF2.out, HD.out.len, HD.out.l64, ?_, ?_, ?_⟩
      · rw [HD.out.len]
        exact blk_far (blk_far (blk_far HD.out.b (by show gB ≠ w.heap.size; omega) _) (by show gB ≠ w.heap.size + 1; omega) _) (by show gB ≠ w.heap.size + 1; omega) _
      · exact blk_far (blk_far (blk_far HD.out.a (by show gA ≠ w.heap.size; omega) _) (by show gA ≠ w.heap.size + 1; omega) _) (by show gA ≠ w.heap.size + 1; omega) _
      · exact below_set (below_set (below_set HD.out.below (Nat.le_refl _)) (by omega)) (by omega)
set_option maxHeartbeats 4000000 in
set_option maxRecDepth 100000 in
theorem done_none (fv : Value) (A0 : Option Addr) (c0 : Nat) (bs : List (List Int)) (A1 : Option Addr) (c1 : Nat) (ws : List S57) (w : World) (hr0 : Kd.C (Kd.slice 5 (Kd.int .u8)) w A0 bs.length bs) (hc0 : bs.length ≤ c0) (hr1 : Kd.C k57 w A1 ws.length ws) (hc1 : ws.length ≤ c1)
    (hown : block_own.f bs ws = some ([], [])) :
    Calls Try.prog 26 #[.agg #[.slice A0 bs.length c0, .slice A1 ws.length c1], fv] w fun e w' => ∃ (A : Option Addr) (c : Nat), e = .returned (.agg #[.slice A 0 c, .slice none 0 0]) ∧ Below w.heap.size w w' := by
  have HR0 := Aside0.mk hr0
  have HR1 := Aside0.mk hr1
  have HOW := Aside0.mk hown
  clear hr0 hr1 hown
  have HBW := Aside0.mk (show Below w.heap.size w ((w.alloc (.cells #[.slice A0 bs.length c0, .slice A1 ws.length c1] 25)).alloc (.cells #[.slice none 0 0, .slice none 0 0] 25)) from below_alloc (below_alloc (Below.refl _ _) _) _)
  have HDW := Aside0.mk (show ((w.alloc (.cells #[.slice A0 bs.length c0, .slice A1 ws.length c1] 25)).alloc (.cells #[.slice none 0 0, .slice none 0 0] 25)).heap[w.heap.size]? = some (.cells #[.slice A0 bs.length c0, .slice A1 ws.length c1] 25 (0, 0)) from blk_alloc (blk_new w _) _)
  have HNW := Aside0.mk (show ((w.alloc (.cells #[.slice A0 bs.length c0, .slice A1 ws.length c1] 25)).alloc (.cells #[.slice none 0 0, .slice none 0 0] 25)).heap[w.heap.size + 1]? = some (.cells #[.slice none 0 0, .slice none 0 0] 25 (0, 0)) from by simpa using blk_new (w.alloc (.cells #[.slice A0 bs.length c0, .slice A1 ws.length c1] 25)) (.cells #[.slice none 0 0, .slice none 0 0] 25))
  go_enter Try.func26, Try.ntmps26
  go_wp2_with (go_at_call 25; refine (block_own.calls _ _ bs _ _ ws [] [] _ (Kd.C_below HR0.out HBW.out) hc0 (Kd.C_below HR1.out HBW.out) hc1 HOW.out).mono ?_; rintro e w3 ⟨v0, v1, rfl, g4, g6, g7⟩; refine hold ?_)
  unfold Held
  obtain ⟨Av, cv, rfl⟩ := Kd.S_slice g6
  obtain ⟨Au, cu, rfl⟩ := Kd.V_slice g4
  have e1 := Aside0.mk ((g7.block _ (blk_lt HDW.out)).trans HDW.out)
  have e2 := Aside0.mk ((g7.block _ (blk_lt HNW.out)).trans HNW.out)
  have HB3 := Aside0.mk (below_step HBW.out g7)
  have hc0' := blk_cell e1.out 0
  have hc1' := blk_cell e1.out 1
  have hf0' := blk_frozen e1.out 0
  have hf1' := blk_frozen e1.out 1
  have hr0 := blk_cell e2.out 0
  have hr1 := blk_cell e2.out 1
  have hg0 := blk_frozen e2.out 0
  have hg1 := blk_frozen e2.out 1
  simp only [List.getElem?_toArray, List.getElem?_cons_zero, List.getElem?_cons_succ] at hc0' hc1' hr0 hr1
  have D1 := Aside0.mk (blk_put (cs' := #[.slice Au 0 cu, .slice Av 0 cv]) (blk_put (cs' := #[.slice Au 0 cu, .slice A1 ws.length c1]) e1.out 0 (.slice Au 0 cu) rfl) 1 (.slice Av 0 cv) rfl)
  have D2 := Aside0.mk (blk_far (blk_far e2.out (p := ⟨w.heap.size, 0, none⟩) (by show w.heap.size + 1 ≠ w.heap.size; omega) (.slice Au 0 cu)) (p := ⟨w.heap.size, 1, none⟩) (by show w.heap.size + 1 ≠ w.heap.size; omega) (.slice Av 0 cv))
  have D3 := Aside0.mk (below_set (g := w.heap.size) (j := 1) (v := .slice Av 0 cv) (below_set (g := w.heap.size) (j := 0) (v := .slice Au 0 cu) HB3.out (Nat.le_refl _)) (Nat.le_refl _))
  clear g4 g6 g7
  go_wp2
  go_loopw [13] (fun i wr => i = .int .i64 (0 : Int) ∧ Aside0 (wr.heap[w.heap.size]? = some (.cells #[.slice Au 0 cu, .slice Av 0 cv] 25 (0, 0))) ∧ Aside0 (wr.heap[w.heap.size + 1]? = some (.cells #[.slice none 0 0, .slice none 0 0] 25 (0, 0))) ∧ Aside0 (Below w.heap.size w wr)) (fun _ _ => 0)
  case atStart => exact ⟨rfl, D1, D2, D3⟩
  case round =>
    clear hc0' hc1' hf0' hf1' hr0 hr1 hg0 hg1 D1 D2 D3
    obtain ⟨rfl, E1, E2, E3⟩ := hrel
    have hd0 := blk_cell E1.out 0
    have hd1 := blk_cell E1.out 1
    have hf0 := blk_frozen E1.out 0
    have hf1 := blk_frozen E1.out 1
    have hr0 := blk_cell E2.out 0
    have hr1 := blk_cell E2.out 1
    have hg0 := blk_frozen E2.out 0
    have hg1 := blk_frozen E2.out 1
    simp only [List.getElem?_toArray, List.getElem?_cons_zero, List.getElem?_cons_succ] at hd0 hd1 hr0 hr1
    go_wp2
    refine bodyPost_ret (results_cell_row rfl _ _ (w.heap.size + 1) 25 #[.slice Au 0 cu, .slice none 0 0] (0, 0) _ rfl (blk_put (cs := #[.slice Au 0 cu, .slice none 0 0]) (blk_put (cs := #[.slice none 0 0, .slice none 0 0]) (blk_far E2.out (by show w.heap.size + 1 ≠ w.heap.size; omega) _) 0 _ rfl) 1 _ rfl) Try.underlying25 rfl (by kernel_rfl)) rfl ?_
    exact ⟨Au, cu, rfl, below_set (below_set (below_set E3.out (Nat.le_refl _)) (by omega)) (by omega)⟩
theorem V_none {α : Type} (d : Kd α) (e : Nat) (W : World) (base : Nat) (ok : Nat → Prop) (A : Option Addr) (c : Nat) : Kd.V d e W base ok (.slice A 0 c) [] := ⟨A, c, rfl, Nat.zero_le _, fun W' _ => ⟨rfl, by simp, fun h => absurd h (by simp)⟩⟩
theorem own_cases {bs : List (List Int)} {ws : List S57} {d : List (List Int) × List S57} (h : block_own.f bs ws = some d) : (d = (bs, ws) ∧ OKD bs ws ∧ block_Right.f (bs.length + ws.length + 10) bs ws = some true) ∨ d = ([], []) := by
  unfold block_own.f at h
  obtain ⟨b, hb, h⟩ := Option.bind_eq_some_iff.1 h
  cases b with
  | true =>
    rw [if_pos rfl] at h
    by_cases hok : OKD bs ws
    · rw [if_pos hok] at h
      exact .inl ⟨(Option.some.inj h).symm, hok, hb⟩
    · rw [if_neg hok] at h; cases h
  | false =>
    rw [if_neg (by simp)] at h
    exact .inr (Option.some.inj h).symm
set_option maxHeartbeats 4000000 in
set_option maxRecDepth 100000 in
theorem block_Sync.calls (A0 : Option Addr) (c0 : Nat) (bs : List (List Int)) (A1 : Option Addr) (c1 : Nat) (ws : List S57) (r1 : List (List Int)) (r2 : List S57) (w : World) (hr0 : Kd.C (Kd.slice 5 (Kd.int .u8)) w A0 bs.length bs) (hc0 : bs.length ≤ c0) (hr1 : Kd.C k57 w A1 ws.length ws) (hc1 : ws.length ≤ c1) (h : block_Sync.f bs ws = some (r1, r2)) :
    Calls Try.prog 21 #[.agg #[.slice A0 bs.length c0, .slice A1 ws.length c1]] w fun e w' => ∃ v0_ v1_ : Value, e = .returned (.agg #[v0_, v1_]) ∧ Kd.V (Kd.slice 5 (Kd.int .u8)) 28 w' w.heap.size (fun k_ => (w.heap.size ≤ k_)) v0_ r1 ∧ Kd.V k57 57 w' w.heap.size (fun k_ => (w.heap.size ≤ k_)) v1_ r2 ∧ Below w.heap.size w w' := by
  unfold block_Sync.f at h
  obtain ⟨d, hd, h⟩ := Option.map_eq_some_iff.1 h
  obtain ⟨rfl, rfl⟩ := Prod.mk.inj h
  have HR0 := Aside0.mk hr0
  have HR1 := Aside0.mk hr1
  have HBW := Aside0.mk (show Below w.heap.size w ((w.alloc (.cells #[.slice A0 bs.length c0, .slice A1 ws.length c1] 25)).alloc (.cells #[.slice none 0 0, .slice none 0 0] 25)) from below_alloc (below_alloc (Below.refl _ _) _) _)
  have HNW := Aside0.mk (show ((w.alloc (.cells #[.slice A0 bs.length c0, .slice A1 ws.length c1] 25)).alloc (.cells #[.slice none 0 0, .slice none 0 0] 25)).heap[w.heap.size + 1]? = some (.cells #[.slice none 0 0, .slice none 0 0] 25 (0, 0)) from by simpa using blk_new (w.alloc (.cells #[.slice A0 bs.length c0, .slice A1 ws.length c1] 25)) (.cells #[.slice none 0 0, .slice none 0 0] 25))
  have HZW := Aside0.mk (show ((w.alloc (.cells #[.slice A0 bs.length c0, .slice A1 ws.length c1] 25)).alloc (.cells #[.slice none 0 0, .slice none 0 0] 25)).heap.size = w.heap.size + 2 from by simp)
  clear hr0 hr1 h
  rcases own_cases hd with ⟨rfl, hok, hb⟩ | rfl
  · have HOK := Aside0.mk hok
    have HRT := Aside0.mk hb
    clear hok hb hd
    go_enter Try.func21, Try.ntmps21
    go_wp2_with (go_at_call 26; refine (done_sync _ _ _ bs _ _ ws _ (Kd.C_below HR0.out HBW.out) hc0 (Kd.C_below HR1.out HBW.out) hc1 HRT.out HOK.out).mono ?_; rintro e w3 ⟨gB, gA, bs', rfl, g1, g2, g3, g3', g64, g4, g5, g7⟩; rw [HZW.out] at g1 g2; have HB3 := Aside0.mk (below_step HBW.out g7); have HN3 := Aside0.mk ((g7.block _ (blk_lt HNW.out)).trans HNW.out); have hr0 := blk_cell HN3.out 0; have hr1 := blk_cell HN3.out 1; have hg0 := blk_frozen HN3.out 0; have hg1 := blk_frozen HN3.out 1; simp only [List.getElem?_toArray, List.getElem?_cons_zero, List.getElem?_cons_succ] at hr0 hr1; have G3 := Aside0.mk g3; have G3' := Aside0.mk g3'; have G64 := Aside0.mk g64; have G4 := Aside0.mk g4; have G5 := Aside0.mk g5; clear g3 g3' g64 g4 g5 g7)
    refine bodyPost_ret (results_cell_row rfl _ _ (w.heap.size + 1) 25 #[.slice (some ⟨gB, 0, none⟩) bs.length bs.length, .slice none 0 0] (0, 0) _ rfl (blk_put (cs := #[.slice (some ⟨gB, 0, none⟩) bs.length bs.length, .slice none 0 0]) (blk_put (cs := #[.slice none 0 0, .slice none 0 0]) HN3.out 0 _ rfl) 1 _ rfl) Try.underlying25 rfl (by kernel_rfl)) rfl ?_
    refine ⟨_, _, rfl, ?_, V_none _ _ _ _ _ _ _, below_set (below_set HB3.out (by omega)) (by omega)⟩
    show Kd.V _ _ _ _ _ (.slice (some ⟨gB, 0, none⟩) bs.length bs.length) (doneF _ 0 bs ws)
    rw [← G3.out, ← G3'.out]
    exact disk_V G64.out (by rw [G3'.out]; exact HOK.out.1) (blk_far (blk_far G4.out (by show gB ≠ w.heap.size + 1; omega) _) (by show gB ≠ w.heap.size + 1; omega) _) (blk_far (blk_far G5.out (by show gA ≠ w.heap.size + 1; omega) _) (by show gA ≠ w.heap.size + 1; omega) _) (by omega) (by omega)
  · have HOW := Aside0.mk hd
    clear hd
    go_enter Try.func21, Try.ntmps21
    go_wp2_with (go_at_call 26; refine (done_none _ _ _ bs _ _ ws _ (Kd.C_below HR0.out HBW.out) hc0 (Kd.C_below HR1.out HBW.out) hc1 HOW.out).mono ?_; rintro e w3 ⟨Au, cu, rfl, g7⟩; have HB3 := Aside0.mk (below_step HBW.out g7); have HN3 := Aside0.mk ((g7.block _ (blk_lt HNW.out)).trans HNW.out); have hr0 := blk_cell HN3.out 0; have hr1 := blk_cell HN3.out 1; have hg0 := blk_frozen HN3.out 0; have hg1 := blk_frozen HN3.out 1; simp only [List.getElem?_toArray, List.getElem?_cons_zero, List.getElem?_cons_succ] at hr0 hr1; clear g7)
    refine bodyPost_ret (results_cell_row rfl _ _ (w.heap.size + 1) 25 #[.slice Au 0 cu, .slice none 0 0] (0, 0) _ rfl (blk_put (cs := #[.slice Au 0 cu, .slice none 0 0]) (blk_put (cs := #[.slice none 0 0, .slice none 0 0]) HN3.out 0 _ rfl) 1 _ rfl) Try.underlying25 rfl (by kernel_rfl)) rfl ?_
    exact ⟨_, _, rfl, V_none _ _ _ _ _ _ _, V_none _ _ _ _ _ _ _, below_set (below_set HB3.out (by omega)) (by omega)⟩
set_option maxHeartbeats 4000000 in
set_option maxRecDepth 100000 in
theorem block_Crash.calls (A0 : Option Addr) (c0 : Nat) (bs : List (List Int)) (A1 : Option Addr) (c1 : Nat) (ws : List S57) (A2 : Option Addr) (c2 : Nat) (l2 : List Int) (r1 : List (List Int)) (r2 : List S57) (w : World) (hr0 : Kd.C (Kd.slice 5 (Kd.int .u8)) w A0 bs.length bs) (hc0 : bs.length ≤ c0) (hr1 : Kd.C k57 w A1 ws.length ws) (hc1 : ws.length ≤ c1) (hr2 : Kd.C (Kd.int .i64) w A2 l2.length l2) (hc2 : l2.length ≤ c2) (h : block_Crash.f bs ws l2 = some (r1, r2)) :
    Calls Try.prog 23 #[.agg #[.slice A0 bs.length c0, .slice A1 ws.length c1], .slice A2 l2.length c2] w fun e w' => ∃ v0_ v1_ : Value, e = .returned (.agg #[v0_, v1_]) ∧ Kd.V (Kd.slice 5 (Kd.int .u8)) 28 w' w.heap.size (fun k_ => (w.heap.size ≤ k_)) v0_ r1 ∧ Kd.V k57 57 w' w.heap.size (fun k_ => (w.heap.size ≤ k_)) v1_ r2 ∧ Below w.heap.size w w' := by
  unfold block_Crash.f at h
  obtain ⟨d, hd, h⟩ := Option.map_eq_some_iff.1 h
  obtain ⟨rfl, rfl⟩ := Prod.mk.inj h
  have HR0 := Aside0.mk hr0
  have HR1 := Aside0.mk hr1
  have HBW := Aside0.mk (show Below w.heap.size w (((w.alloc (.cells #[.slice A0 bs.length c0, .slice A1 ws.length c1] 25)).alloc (.cells #[.slice A2 l2.length c2] 47)).alloc (.cells #[.slice none 0 0, .slice none 0 0] 25)) from below_alloc (below_alloc (below_alloc (Below.refl _ _) _) _) _)
  have HNW := Aside0.mk (show (((w.alloc (.cells #[.slice A0 bs.length c0, .slice A1 ws.length c1] 25)).alloc (.cells #[.slice A2 l2.length c2] 47)).alloc (.cells #[.slice none 0 0, .slice none 0 0] 25)).heap[w.heap.size + 2]? = some (.cells #[.slice none 0 0, .slice none 0 0] 25 (0, 0)) from by simpa using blk_new ((w.alloc (.cells #[.slice A0 bs.length c0, .slice A1 ws.length c1] 25)).alloc (.cells #[.slice A2 l2.length c2] 47)) (.cells #[.slice none 0 0, .slice none 0 0] 25))
  have HZW := Aside0.mk (show (((w.alloc (.cells #[.slice A0 bs.length c0, .slice A1 ws.length c1] 25)).alloc (.cells #[.slice A2 l2.length c2] 47)).alloc (.cells #[.slice none 0 0, .slice none 0 0] 25)).heap.size = w.heap.size + 3 from by simp)
  have HLW := Aside0.mk (show (((w.alloc (.cells #[.slice A0 bs.length c0, .slice A1 ws.length c1] 25)).alloc (.cells #[.slice A2 l2.length c2] 47)).alloc (.cells #[.slice none 0 0, .slice none 0 0] 25)).heap[w.heap.size + 1]? = some (.cells #[.slice A2 l2.length c2] 47 (0, 0)) from blk_alloc (by simpa using blk_new (w.alloc (.cells #[.slice A0 bs.length c0, .slice A1 ws.length c1] 25)) (.cells #[.slice A2 l2.length c2] 47)) _)
  have HR2 := Aside0.mk hr2
  clear hr0 hr1 hr2 h
  rcases own_cases hd with ⟨rfl, hok, hb⟩ | rfl
  · have HOK := Aside0.mk hok
    have HRT := Aside0.mk hb
    clear hok hb hd
    go_enter Try.func23, Try.ntmps23
    go_wp2_with (go_at_call 26; refine (done_crash l2 (w.heap.size + 1) A2 c2 _ _ _ bs _ _ ws _ (Kd.C_below HR0.out HBW.out) hc0 (Kd.C_below HR1.out HBW.out) hc1 HRT.out HOK.out HLW.out (Kd.C_below HR2.out HBW.out)).mono ?_; rintro e w3 ⟨gB, gA, bs', rfl, g1, g2, g3, g3', g64, g4, g5, g7⟩; rw [HZW.out] at g1 g2; have HB3 := Aside0.mk (below_step HBW.out g7); have HN3 := Aside0.mk ((g7.block _ (blk_lt HNW.out)).trans HNW.out); have hr0 := blk_cell HN3.out 0; have hr1 := blk_cell HN3.out 1; have hg0 := blk_frozen HN3.out 0; have hg1 := blk_frozen HN3.out 1; simp only [List.getElem?_toArray, List.getElem?_cons_zero, List.getElem?_cons_succ] at hr0 hr1; have G3 := Aside0.mk g3; have G3' := Aside0.mk g3'; have G64 := Aside0.mk g64; have G4 := Aside0.mk g4; have G5 := Aside0.mk g5; clear g3 g3' g64 g4 g5 g7)
    refine bodyPost_ret (results_cell_row rfl _ _ (w.heap.size + 2) 25 #[.slice (some ⟨gB, 0, none⟩) bs.length bs.length, .slice none 0 0] (0, 0) _ rfl (blk_put (cs := #[.slice (some ⟨gB, 0, none⟩) bs.length bs.length, .slice none 0 0]) (blk_put (cs := #[.slice none 0 0, .slice none 0 0]) HN3.out 0 _ rfl) 1 _ rfl) Try.underlying25 rfl (by kernel_rfl)) rfl ?_
    refine ⟨_, _, rfl, ?_, V_none _ _ _ _ _ _ _, below_set (below_set HB3.out (by omega)) (by omega)⟩
    show Kd.V _ _ _ _ _ (.slice (some ⟨gB, 0, none⟩) bs.length bs.length) (doneF _ 0 bs ws)
    rw [← G3.out, ← G3'.out]
    exact disk_V G64.out (by rw [G3'.out]; exact HOK.out.1) (blk_far (blk_far G4.out (by show gB ≠ w.heap.size + 2; omega) _) (by show gB ≠ w.heap.size + 2; omega) _) (blk_far (blk_far G5.out (by show gA ≠ w.heap.size + 2; omega) _) (by show gA ≠ w.heap.size + 2; omega) _) (by omega) (by omega)
  · have HOW := Aside0.mk hd
    clear hd
    go_enter Try.func23, Try.ntmps23
    go_wp2_with (go_at_call 26; refine (done_none _ _ _ bs _ _ ws _ (Kd.C_below HR0.out HBW.out) hc0 (Kd.C_below HR1.out HBW.out) hc1 HOW.out).mono ?_; rintro e w3 ⟨Au, cu, rfl, g7⟩; have HB3 := Aside0.mk (below_step HBW.out g7); have HN3 := Aside0.mk ((g7.block _ (blk_lt HNW.out)).trans HNW.out); have hr0 := blk_cell HN3.out 0; have hr1 := blk_cell HN3.out 1; have hg0 := blk_frozen HN3.out 0; have hg1 := blk_frozen HN3.out 1; simp only [List.getElem?_toArray, List.getElem?_cons_zero, List.getElem?_cons_succ] at hr0 hr1; clear g7)
    refine bodyPost_ret (results_cell_row rfl _ _ (w.heap.size + 2) 25 #[.slice Au 0 cu, .slice none 0 0] (0, 0) _ rfl (blk_put (cs := #[.slice Au 0 cu, .slice none 0 0]) (blk_put (cs := #[.slice none 0 0, .slice none 0 0]) HN3.out 0 _ rfl) 1 _ rfl) Try.underlying25 rfl (by kernel_rfl)) rfl ?_
    exact ⟨_, _, rfl, V_none _ _ _ _ _ _ _, V_none _ _ _ _ _ _ _, below_set (below_set HB3.out (by omega)) (by omega)⟩
end Go.Proofs.Ytiplneodkcjkmaa.P
