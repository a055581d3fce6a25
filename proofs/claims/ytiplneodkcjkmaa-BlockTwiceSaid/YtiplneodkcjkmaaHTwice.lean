/- By hand: rubricklaw22.BlockTwice: the call returns true for every disk and every keeping. -/
import Derived.Test.YtiplneodkcjkmaaHKnows
import Derived.Test.YtiplneodkcjkmaaZBlkB
set_option linter.unusedVariables false
set_option linter.unusedSimpArgs false
namespace Go.Proofs.Ytiplneodkcjkmaa.P
open Go.RowKit Go.Proofs.YtiplneodkcjkmaaW.PrintWords Go.Proofs.YtiplneodkcjkmaaW.PrintLast Go.Proofs.YtiplneodkcjkmaaW.PrintMore
attribute [local go_sem] Go.Instr.field Go.part Go.asAgg
abbrev VB (W : World) (v : Value) (l : List (List Int)) : Prop := Kd.V (Kd.slice 5 (Kd.int .u8)) 28 W 0 (fun _ => True) v l
abbrev VW (W : World) (v : Value) (l : List S57) : Prop := Kd.V k57 57 W 0 (fun _ => True) v l
theorem V_asv {α : Type} {d : Kd α} {e : Nat} {W : World} {base : Nat} {ok : Nat → Prop} {v : Value} {xs : List α} (h : Kd.V d e W base ok v xs) : Kd.V d e W W.heap.size (fun _ => True) v xs := Kd.V_map h (fun _ hf => Kd.F_mono hf (fun _ _ => trivial))
/-- What the last line reads: the two disks' variables, and the keeping. -/
structure TS (w : World) (gx gc : Nat) (x0 x1 c0 c1 : Value) (A2 : Option Addr) (X C : List (List Int)) (keep : List Int) (W : World) : Prop where
  below : Below w.heap.size w W
  bx : W.heap[gx]? = some (.cells #[x0, x1] 25 (0, 0))
  bc : W.heap[gc]? = some (.cells #[c0, c1] 25 (0, 0))
  vx0 : VB W x0 X
  vx1 : VW W x1 []
  vc0 : VB W c0 C
  vc1 : VW W c1 []
  kp : (Kd.int .i64).C W A2 keep.length keep
theorem TS.step {w W W' : World} {gx gc : Nat} {x0 x1 c0 c1 : Value} {A2 : Option Addr} {X C : List (List Int)} {keep : List Int} (h : TS w gx gc x0 x1 c0 c1 A2 X C keep W) (hb : Below W.heap.size W W') : TS w gx gc x0 x1 c0 c1 A2 X C keep W' :=
  ⟨below_step h.below hb, (hb.block _ (blk_lt h.bx)).trans h.bx, (hb.block _ (blk_lt h.bc)).trans h.bc, Kd.V_below h.vx0 hb, Kd.V_below h.vx1 hb, Kd.V_below h.vc0 hb, Kd.V_below h.vc1 hb, Kd.C_below h.kp hb⟩
theorem ts_box {w W : World} {gx gc : Nat} {x0 x1 c0 c1 : Value} {A2 : Option Addr} {X C : List (List Int)} {keep : List Int} (h : TS w gx gc x0 x1 c0 c1 A2 X C keep W) : W.cell? ⟨gx, 0, none⟩ = some x0 ∧ W.cell? ⟨gx, 1, none⟩ = some x1 ∧ W.cell? ⟨gc, 0, none⟩ = some c0 ∧ W.cell? ⟨gc, 1, none⟩ = some c1 := by
  have h1 := blk_cell h.bx 0
  have h2 := blk_cell h.bx 1
  have h3 := blk_cell h.bc 0
  have h4 := blk_cell h.bc 1
  simp only [List.getElem?_toArray, List.getElem?_cons_zero, List.getElem?_cons_succ] at h1 h2 h3 h4
  exact ⟨h1, h2, h3, h4⟩
set_option maxHeartbeats 4000000 in
set_option maxRecDepth 100000 in
theorem twice_walk (k : Nat) (A0 : Option Addr) (c0 : Nat) (bs : List (List Int)) (A1 : Option Addr) (c1 : Nat) (ws : List S57) (A2 : Option Addr) (c2 : Nat) (keep : List Int) (w : World)
    (hr0 : Kd.C (Kd.slice 5 (Kd.int .u8)) w A0 bs.length bs) (hc0 : bs.length ≤ c0) (hr1 : Kd.C k57 w A1 ws.length ws) (hc1 : ws.length ≤ c1) (hr2 : Kd.C (Kd.int .i64) w A2 keep.length keep) (hc2 : keep.length ≤ c2)
    (hg : rubricklaw22_Great.f k bs ws = some false) (hk : (keep.length : Int) ≤ 300) (X C : List (List Int))
    (s1 : block_Sync.f bs ws = some (X, [])) (s2 : block_Crash.f bs ws keep = some (C, [])) (s3 : block_Sync.f X [] = some (X, [])) (s4 : block_Crash.f X [] keep = some (X, [])) (s5 : block_Crash.f C [] keep = some (C, []))
    (a1 : rubricklaw22_As.f k X [] = some (X, [])) (a2 : rubricklaw22_As.f k C [] = some (C, [])) (m1 : rubrickref22_Same.f k X [] X [] = some true) (m2 : rubrickref22_Same.f k C [] C [] = some true) (g2 : block_Right.f k C [] = some true) :
    Calls Try.prog 8 #[.agg #[.slice A0 bs.length c0, .slice A1 ws.length c1], .slice A2 keep.length c2] w fun e w' => e = .returned (.bool true) ∧ Below w.heap.size w w' := by
  have hu25 := Try.underlying25
  have hc0 := Aside0.mk hc0
  have hc1 := Aside0.mk hc1
  have hc2 := Aside0.mk hc2
  have hw0 := Aside0.mk (Below.refl w.heap.size w)
  have hd := Aside0.mk (below_alloc hw0.out (.cells #[.slice A0 bs.length c0, .slice A1 ws.length c1] 25))
  have hbx := Aside0.mk (blk_new w (.cells #[.slice A0 bs.length c0, .slice A1 ws.length c1] 25))
  have hr0 := Aside0.mk hr0
  have hr1 := Aside0.mk hr1
  have hr2 := Aside0.mk hr2
  have hdk : decide ((300 : Int) < (keep.length : Int)) = false := by simpa using hk
  have hdk' : ¬ (300 : Int) < (keep.length : Int) := by omega
  go_enter Try.func8, Try.ntmps8
  go_wp2_with (go_at_call 9; go_loud (refine (rubricklaw22_Great.calls k _ _ bs _ _ ws _ _ (Kd.C_below hr0.out hd.out) hc0.out (Kd.C_below hr1.out hd.out) hc1.out hg).mono ?_; rintro e w1 ⟨rfl, hb1⟩; refine hold ?_))
  unfold Held
  have BX1 := Aside0.mk ((hb1.block _ (blk_lt hbx.out)).trans hbx.out)
  have D1 := Aside0.mk (below_step hd.out hb1)
  have cb0 := blk_cell BX1.out 0
  have cb1 := blk_cell BX1.out 1
  simp only [List.getElem?_toArray, List.getElem?_cons_zero, List.getElem?_cons_succ] at cb0 cb1
  clear hb1
  go_wp2_with (go_at_call 21; go_loud (refine (block_Sync.calls _ _ bs _ _ ws X [] _ (Kd.C_below hr0.out D1.out) hc0.out (Kd.C_below hr1.out D1.out) hc1.out s1).mono ?_; rintro e w2 ⟨x0, x1, rfl, hx0, hx1, hb2⟩; refine hold ?_))
  unfold Held
  obtain ⟨Ax0, cx0, rfl⟩ := Kd.V_slice hx0
  obtain ⟨Ax1, cx1, rfl⟩ := Kd.V_slice hx1
  have D2 := Aside0.mk (below_step D1.out hb2)
  have BX2 := Aside0.mk ((hb2.block _ (blk_lt BX1.out)).trans BX1.out)
  have hlt2 := blk_lt BX2.out
  have HX0 := Aside0.mk (Kd.V_elderB hx0 w2.heap.size (Nat.le_refl _))
  have HX1 := Aside0.mk (Kd.V_elderB hx1 w2.heap.size (Nat.le_refl _))
  clear hx0 hx1 hb2 cb0 cb1
  have wb0 := blk_cell BX2.out 0
  have wb1 := blk_cell BX2.out 1
  simp only [List.getElem?_toArray, List.getElem?_cons_zero, List.getElem?_cons_succ] at wb0 wb1
  have hne1 : w.heap.size ≠ w2.heap.size := by omega
  have hne2 : w2.heap.size ≠ w.heap.size := by omega
  have GX := Aside0.mk (blk_new w2 (.cells #[.slice Ax0 X.length cx0, .slice Ax1 0 cx1] 25))
  have D3 := Aside0.mk (below_alloc D2.out (.cells #[.slice Ax0 X.length cx0, .slice Ax1 0 cx1] 25))
  have GX0 := Aside0.mk (Kd.V_alloc HX0.out (.cells #[.slice Ax0 X.length cx0, .slice Ax1 0 cx1] 25))
  have GX1 := Aside0.mk (Kd.V_alloc HX1.out (.cells #[.slice Ax0 X.length cx0, .slice Ax1 0 cx1] 25))
  go_wp2_with (go_at_call 23; go_loud (refine (block_Crash.calls _ _ bs _ _ ws _ _ keep C [] _ (Kd.C_below hr0.out D3.out) hc0.out (Kd.C_below hr1.out D3.out) hc1.out (Kd.C_below hr2.out D3.out) hc2.out s2).mono ?_; rintro e w4 ⟨x0, x1, rfl, hx0, hx1, hb4⟩; refine hold ?_))
  unfold Held
  generalize (w2.alloc (.cells #[.slice Ax0 X.length cx0, .slice Ax1 0 cx1] 25)) = W3 at *
  generalize w2.heap.size = gx at *
  obtain ⟨Ac0, cc0, rfl⟩ := Kd.V_slice hx0
  obtain ⟨Ac1, cc1, rfl⟩ := Kd.V_slice hx1
  have D4 := Aside0.mk (below_step D3.out hb4)
  have GX4 := Aside0.mk ((hb4.block _ (blk_lt GX.out)).trans GX.out)
  have hlt4 := blk_lt GX4.out
  have VX0 := Aside0.mk (Kd.V_elderB (Kd.V_below (Kd.V_mono (ok' := fun _ => True) GX0.out (fun _ _ => trivial)) hb4) w4.heap.size (Nat.le_refl _))
  have VX1 := Aside0.mk (Kd.V_elderB (Kd.V_below (Kd.V_mono (ok' := fun _ => True) GX1.out (fun _ _ => trivial)) hb4) w4.heap.size (Nat.le_refl _))
  have VC0 := Aside0.mk (Kd.V_elderB hx0 w4.heap.size (Nat.le_refl _))
  have VC1 := Aside0.mk (Kd.V_elderB hx1 w4.heap.size (Nat.le_refl _))
  clear hx0 hx1 hb4 wb0 wb1 GX GX0 GX1 D3 HX0 HX1 D2 D1 BX1 BX2
  have hne3 : gx ≠ w4.heap.size := by omega
  have hne4 : w4.heap.size ≠ gx := by omega
  have T5 := Aside0.mk (show TS w gx w4.heap.size (.slice Ax0 X.length cx0) (.slice Ax1 0 cx1) (.slice Ac0 C.length cc0) (.slice Ac1 0 cc1) A2 X C keep (w4.alloc (.cells #[.slice Ac0 C.length cc0, .slice Ac1 0 cc1] 25)) from by
    have DD := below_alloc D4.out (.cells #[.slice Ac0 C.length cc0, .slice Ac1 0 cc1] 25)
    exact ⟨DD, blk_alloc GX4.out _, blk_new w4 _, Kd.V_mono (Kd.V_alloc VX0.out _) (fun _ _ => trivial), Kd.V_mono (Kd.V_alloc VX1.out _) (fun _ _ => trivial), Kd.V_mono (Kd.V_alloc VC0.out _) (fun _ _ => trivial), Kd.V_mono (Kd.V_alloc VC1.out _) (fun _ _ => trivial), Kd.C_below hr2.out DD⟩)
  clear VX0 VX1 VC0 VC1 GX4 D4 hlt2 hne1 hne2
  go_wp2
  generalize (w4.alloc (.cells #[.slice Ac0 C.length cc0, .slice Ac1 0 cc1] 25)) = W5 at *
  generalize w4.heap.size = gc at *
  have r1 : ∀ W, TS w gx gc (.slice Ax0 X.length cx0) (.slice Ax1 0 cx1) (.slice Ac0 C.length cc0) (.slice Ac1 0 cc1) A2 X C keep W → W.cell? ⟨gx, 0, none⟩ = some (.slice Ax0 X.length cx0) := fun W h => (ts_box h).1
  have r2 : ∀ W, TS w gx gc (.slice Ax0 X.length cx0) (.slice Ax1 0 cx1) (.slice Ac0 C.length cc0) (.slice Ac1 0 cc1) A2 X C keep W → W.cell? ⟨gx, 1, none⟩ = some (.slice Ax1 0 cx1) := fun W h => (ts_box h).2.1
  have r3 : ∀ W, TS w gx gc (.slice Ax0 X.length cx0) (.slice Ax1 0 cx1) (.slice Ac0 C.length cc0) (.slice Ac1 0 cc1) A2 X C keep W → W.cell? ⟨gc, 0, none⟩ = some (.slice Ac0 C.length cc0) := fun W h => (ts_box h).2.2.1
  have r4 : ∀ W, TS w gx gc (.slice Ax0 X.length cx0) (.slice Ax1 0 cx1) (.slice Ac0 C.length cc0) (.slice Ac1 0 cc1) A2 X C keep W → W.cell? ⟨gc, 1, none⟩ = some (.slice Ac1 0 cc1) := fun W h => (ts_box h).2.2.2
  have S0 := T5.out.step (below_drew (Below.refl W5.heap.size W5))
  clear T5
  go_region_held3 (TS w gx gc (.slice Ax0 X.length cx0) (.slice Ax1 0 cx1) (.slice Ac0 C.length cc0) (.slice Ac1 0 cc1) A2 X C keep) (first | exact S14 | exact S13 | exact S12 | exact S11 | exact S10 | exact S9 | exact S8 | exact S7 | exact S6 | exact S5 | exact S4 | exact S3 | exact S2 | exact S1 | exact S0)
    (first
      | (go_at_call 10; have hS := S13; go_loud (refine (rubricklaw22_knows.calls true _ rfl).mono ?_; rintro e W14 ⟨rfl, hb⟩; have S14 := S13.step hb; clear hb; clear hS))
      | (go_at_call 13; have hS := S12; go_loud (refine (block_Right.calls k _ _ C _ _ [] true _ (Kd.V_reads' S12.vc0).2.2 (Kd.V_reads' S12.vc0).2.1 (Kd.V_reads' S12.vc1).2.2 (Kd.V_reads' S12.vc1).2.1 g2).mono ?_; rintro e W13 ⟨rfl, hb⟩; have S13 := S12.step hb; clear hb; clear hS))
      | (go_at_call 19; have hS := S11; go_loud (refine (rubrickref22_Same.calls k _ _ C _ _ [] _ _ C _ _ [] true _ (Kd.V_reads' HQ10a.out).2.2 (Kd.V_reads' HQ10a.out).2.1 (Kd.V_reads' HQ10b.out).2.2 (Kd.V_reads' HQ10b.out).2.1 (Kd.V_reads' HZ11a.out).2.2 (Kd.V_reads' HZ11a.out).2.1 (Kd.V_reads' HZ11b.out).2.2 (Kd.V_reads' HZ11b.out).2.1 m2).mono ?_; rintro e W12 ⟨rfl, hb⟩; have S12 := S11.step hb; clear hb; clear hS))
      | (go_at_call 12; have hS := S10; go_loud (refine (rubricklaw22_As.calls k (fun _ => True) _ _ C (fun _ => True) _ _ [] C [] _ (V_asv S10.vc0) (V_asv S10.vc1) a2).mono ?_; rintro e W11 ⟨za, zb, rfl, hza, hzb, hb⟩; obtain ⟨Z11a, z11a, rfl⟩ := Kd.V_slice hza; replace hzb := Kd.N_V (base' := 0) hzb; obtain ⟨Z11b, z11b, rfl⟩ := Kd.V_slice hzb; have S11 := S10.step hb; have HZ11a := Aside0.mk (Kd.V_mono (ok' := fun _ => True) hza (fun _ _ => trivial)); have HZ11b := Aside0.mk (Kd.V_mono (ok' := fun _ => True) hzb (fun _ _ => trivial)); have HQ10a := Aside0.mk (Kd.V_below HZ10a.out hb); have HQ10b := Aside0.mk (Kd.V_below HZ10b.out hb); clear hza hzb hb; clear hS))
      | (go_at_call 12; have hS := S9; go_loud (refine (rubricklaw22_As.calls k (fun _ => True) _ _ C (fun _ => True) _ _ [] C [] _ (V_asv HY9a.out) (V_asv HY9b.out) a2).mono ?_; rintro e W10 ⟨za, zb, rfl, hza, hzb, hb⟩; obtain ⟨Z10a, z10a, rfl⟩ := Kd.V_slice hza; replace hzb := Kd.N_V (base' := 0) hzb; obtain ⟨Z10b, z10b, rfl⟩ := Kd.V_slice hzb; have S10 := S9.step hb; have HZ10a := Aside0.mk (Kd.V_mono (ok' := fun _ => True) hza (fun _ _ => trivial)); have HZ10b := Aside0.mk (Kd.V_mono (ok' := fun _ => True) hzb (fun _ _ => trivial)); clear hza hzb hb; clear hS))
      | (go_at_call 23; have hS := S8; go_loud (refine (block_Crash.calls _ _ C _ _ [] _ _ keep C [] _ (Kd.V_reads' S8.vc0).2.2 (Kd.V_reads' S8.vc0).2.1 (Kd.V_reads' S8.vc1).2.2 (Kd.V_reads' S8.vc1).2.1 S8.kp hc2.out s5).mono ?_; rintro e W9 ⟨ya, yb, rfl, hya, hyb, hb⟩; obtain ⟨Y9a, y9a, rfl⟩ := Kd.V_slice hya; obtain ⟨Y9b, y9b, rfl⟩ := Kd.V_slice hyb; have S9 := S8.step hb; have HY9a := Aside0.mk (Kd.V_mono (ok' := fun _ => True) hya (fun _ _ => trivial)); have HY9b := Aside0.mk (Kd.V_mono (ok' := fun _ => True) hyb (fun _ _ => trivial)); clear hya hyb hb; clear hS))
      | (go_at_call 19; have hS := S7; go_loud (refine (rubrickref22_Same.calls k _ _ X _ _ [] _ _ X _ _ [] true _ (Kd.V_reads' HQ6a.out).2.2 (Kd.V_reads' HQ6a.out).2.1 (Kd.V_reads' HQ6b.out).2.2 (Kd.V_reads' HQ6b.out).2.1 (Kd.V_reads' HZ7a.out).2.2 (Kd.V_reads' HZ7a.out).2.1 (Kd.V_reads' HZ7b.out).2.2 (Kd.V_reads' HZ7b.out).2.1 m1).mono ?_; rintro e W8 ⟨rfl, hb⟩; have S8 := S7.step hb; clear hb; clear hS))
      | (go_at_call 12; have hS := S6; go_loud (refine (rubricklaw22_As.calls k (fun _ => True) _ _ X (fun _ => True) _ _ [] X [] _ (V_asv S6.vx0) (V_asv S6.vx1) a1).mono ?_; rintro e W7 ⟨za, zb, rfl, hza, hzb, hb⟩; obtain ⟨Z7a, z7a, rfl⟩ := Kd.V_slice hza; replace hzb := Kd.N_V (base' := 0) hzb; obtain ⟨Z7b, z7b, rfl⟩ := Kd.V_slice hzb; have S7 := S6.step hb; have HZ7a := Aside0.mk (Kd.V_mono (ok' := fun _ => True) hza (fun _ _ => trivial)); have HZ7b := Aside0.mk (Kd.V_mono (ok' := fun _ => True) hzb (fun _ _ => trivial)); have HQ6a := Aside0.mk (Kd.V_below HZ6a.out hb); have HQ6b := Aside0.mk (Kd.V_below HZ6b.out hb); clear hza hzb hb; clear hS))
      | (go_at_call 12; have hS := S5; go_loud (refine (rubricklaw22_As.calls k (fun _ => True) _ _ X (fun _ => True) _ _ [] X [] _ (V_asv HY5a.out) (V_asv HY5b.out) a1).mono ?_; rintro e W6 ⟨za, zb, rfl, hza, hzb, hb⟩; obtain ⟨Z6a, z6a, rfl⟩ := Kd.V_slice hza; replace hzb := Kd.N_V (base' := 0) hzb; obtain ⟨Z6b, z6b, rfl⟩ := Kd.V_slice hzb; have S6 := S5.step hb; have HZ6a := Aside0.mk (Kd.V_mono (ok' := fun _ => True) hza (fun _ _ => trivial)); have HZ6b := Aside0.mk (Kd.V_mono (ok' := fun _ => True) hzb (fun _ _ => trivial)); clear hza hzb hb; clear hS))
      | (go_at_call 23; have hS := S4; go_loud (refine (block_Crash.calls _ _ X _ _ [] _ _ keep X [] _ (Kd.V_reads' S4.vx0).2.2 (Kd.V_reads' S4.vx0).2.1 (Kd.V_reads' S4.vx1).2.2 (Kd.V_reads' S4.vx1).2.1 S4.kp hc2.out s4).mono ?_; rintro e W5 ⟨ya, yb, rfl, hya, hyb, hb⟩; obtain ⟨Y5a, y5a, rfl⟩ := Kd.V_slice hya; obtain ⟨Y5b, y5b, rfl⟩ := Kd.V_slice hyb; have S5 := S4.step hb; have HY5a := Aside0.mk (Kd.V_mono (ok' := fun _ => True) hya (fun _ _ => trivial)); have HY5b := Aside0.mk (Kd.V_mono (ok' := fun _ => True) hyb (fun _ _ => trivial)); clear hya hyb hb; clear hS))
      | (go_at_call 19; have hS := S3; go_loud (refine (rubrickref22_Same.calls k _ _ X _ _ [] _ _ X _ _ [] true _ (Kd.V_reads' HQ2a.out).2.2 (Kd.V_reads' HQ2a.out).2.1 (Kd.V_reads' HQ2b.out).2.2 (Kd.V_reads' HQ2b.out).2.1 (Kd.V_reads' HZ3a.out).2.2 (Kd.V_reads' HZ3a.out).2.1 (Kd.V_reads' HZ3b.out).2.2 (Kd.V_reads' HZ3b.out).2.1 m1).mono ?_; rintro e W4 ⟨rfl, hb⟩; have S4 := S3.step hb; clear hb; clear hS))
      | (go_at_call 12; have hS := S2; go_loud (refine (rubricklaw22_As.calls k (fun _ => True) _ _ X (fun _ => True) _ _ [] X [] _ (V_asv S2.vx0) (V_asv S2.vx1) a1).mono ?_; rintro e W3 ⟨za, zb, rfl, hza, hzb, hb⟩; obtain ⟨Z3a, z3a, rfl⟩ := Kd.V_slice hza; replace hzb := Kd.N_V (base' := 0) hzb; obtain ⟨Z3b, z3b, rfl⟩ := Kd.V_slice hzb; have S3 := S2.step hb; have HZ3a := Aside0.mk (Kd.V_mono (ok' := fun _ => True) hza (fun _ _ => trivial)); have HZ3b := Aside0.mk (Kd.V_mono (ok' := fun _ => True) hzb (fun _ _ => trivial)); have HQ2a := Aside0.mk (Kd.V_below HZ2a.out hb); have HQ2b := Aside0.mk (Kd.V_below HZ2b.out hb); clear hza hzb hb; clear hS))
      | (go_at_call 12; have hS := S1; go_loud (refine (rubricklaw22_As.calls k (fun _ => True) _ _ X (fun _ => True) _ _ [] X [] _ (V_asv HY1a.out) (V_asv HY1b.out) a1).mono ?_; rintro e W2 ⟨za, zb, rfl, hza, hzb, hb⟩; obtain ⟨Z2a, z2a, rfl⟩ := Kd.V_slice hza; replace hzb := Kd.N_V (base' := 0) hzb; obtain ⟨Z2b, z2b, rfl⟩ := Kd.V_slice hzb; have S2 := S1.step hb; have HZ2a := Aside0.mk (Kd.V_mono (ok' := fun _ => True) hza (fun _ _ => trivial)); have HZ2b := Aside0.mk (Kd.V_mono (ok' := fun _ => True) hzb (fun _ _ => trivial)); clear hza hzb hb; clear hS))
      | (go_at_call 21; have hS := S0; go_loud (refine (block_Sync.calls _ _ X _ _ [] X [] _ (Kd.V_reads' S0.vx0).2.2 (Kd.V_reads' S0.vx0).2.1 (Kd.V_reads' S0.vx1).2.2 (Kd.V_reads' S0.vx1).2.1 s3).mono ?_; rintro e W1 ⟨ya, yb, rfl, hya, hyb, hb⟩; obtain ⟨Y1a, y1a, rfl⟩ := Kd.V_slice hya; obtain ⟨Y1b, y1b, rfl⟩ := Kd.V_slice hyb; have S1 := S0.step hb; have HY1a := Aside0.mk (Kd.V_mono (ok' := fun _ => True) hya (fun _ _ => trivial)); have HY1b := Aside0.mk (Kd.V_mono (ok' := fun _ => True) hyb (fun _ _ => trivial)); clear hya hyb hb; clear hS)))
  all_goals
    have HS := Aside0.mk S14
    clear S0 S1 S2 S3 S4 S5 S6 S7 S8 S9 S10 S11 S12 S13 S14 r1 r2 r3 r4
    go_wp2
    go_ret
    exact ⟨rfl, HS.out.below⟩
/-- Where the call answers 'knows()': the examples. -/
def rubricklaw22_BlockTwice.f (_k : Nat) (_bs : List (List Int)) (_ws : List S57) (_l : List Int) : Option Bool := some true
set_option maxHeartbeats 4000000 in
set_option maxRecDepth 100000 in
theorem twice_early (k : Nat) (A0 : Option Addr) (c0 : Nat) (bs : List (List Int)) (A1 : Option Addr) (c1 : Nat) (ws : List S57) (A2 : Option Addr) (c2 : Nat) (keep : List Int) (w : World)
    (hr0 : Kd.C (Kd.slice 5 (Kd.int .u8)) w A0 bs.length bs) (hc0 : bs.length ≤ c0) (hr1 : Kd.C k57 w A1 ws.length ws) (hc1 : ws.length ≤ c1)
    (g : Bool) (hg : rubricklaw22_Great.f k bs ws = some g) (hk : g = true ∨ (300 : Int) < (keep.length : Int)) :
    Calls Try.prog 8 #[.agg #[.slice A0 bs.length c0, .slice A1 ws.length c1], .slice A2 keep.length c2] w fun e w' => e = .returned (.bool true) ∧ Below w.heap.size w w' := by
  have hu25 := Try.underlying25
  have hc0 := Aside0.mk hc0
  have hc1 := Aside0.mk hc1
  have hw0 := Aside0.mk (Below.refl w.heap.size w)
  have hd := Aside0.mk (below_alloc hw0.out (.cells #[.slice A0 bs.length c0, .slice A1 ws.length c1] 25))
  have hr0 := Aside0.mk hr0
  have hr1 := Aside0.mk hr1
  have hdk : g = false → decide ((300 : Int) < (keep.length : Int)) = true := fun h => by
    rcases hk with h1 | h1
    · rw [h] at h1; cases h1
    · simpa using h1
  have hdk' : g = false → (300 : Int) < (keep.length : Int) := fun h => by simpa using hdk h
  clear hk
  go_enter Try.func8, Try.ntmps8
  go_wp2_with (go_at_call 9; go_loud (refine (rubricklaw22_Great.calls k _ _ bs _ _ ws _ _ (Kd.C_below hr0.out hd.out) hc0.out (Kd.C_below hr1.out hd.out) hc1.out hg).mono ?_; rintro e w1 ⟨rfl, hb1⟩; refine hold ?_))
  unfold Held
  have D1 := Aside0.mk (below_step hd.out hb1)
  clear hb1
  cases g with
  | true =>
    clear hdk hdk'
    go_wp2_with (go_at_call 10; go_loud (refine (rubricklaw22_knows.calls true _ rfl).mono ?_; rintro e w2 ⟨rfl, hb2⟩; refine hold ?_))
    unfold Held
    go_wp2
    go_ret
    exact ⟨rfl, below_step D1.out hb2⟩
  | false =>
    replace hdk := hdk rfl
    replace hdk' := hdk' rfl
    go_wp2_with (go_at_call 10; go_loud (refine (rubricklaw22_knows.calls true _ rfl).mono ?_; rintro e w2 ⟨rfl, hb2⟩; refine hold ?_))
    unfold Held
    go_wp2
    go_ret
    exact ⟨rfl, below_step D1.out hb2⟩
theorem goodD_nil {bs : List (List Int)} (h : OKD bs []) : goodD bs [] = (bs, []) := goodD_of h
theorem rubricklaw22_BlockTwice.calls (k : Nat) (A0 : Option Addr) (c0 : Nat) (bs : List (List Int)) (A1 : Option Addr) (c1 : Nat) (ws : List S57) (A2 : Option Addr) (c2 : Nat) (keep : List Int) (r : Bool) (w : World)
    (hr0 : Kd.C (Kd.slice 5 (Kd.int .u8)) w A0 bs.length bs) (hc0 : bs.length ≤ c0) (hr1 : Kd.C k57 w A1 ws.length ws) (hc1 : ws.length ≤ c1) (hr2 : Kd.C (Kd.int .i64) w A2 keep.length keep) (hc2 : keep.length ≤ c2)
    (h : rubricklaw22_BlockTwice.f k bs ws keep = some r) :
    Calls Try.prog 8 #[.agg #[.slice A0 bs.length c0, .slice A1 ws.length c1], .slice A2 keep.length c2] w fun e w' => e = .returned (.bool r) ∧ Below w.heap.size w w' := by
  obtain rfl : true = r := Option.some.inj h
  have hb := hr0.2.1
  have hw := hr1.2.1
  rcases great_f bs ws hb hw (bs.length + ws.length + 10000) (by omega) with hg | ⟨hg, h1, h2⟩
  · exact twice_early _ A0 c0 bs A1 c1 ws A2 c2 keep w hr0 hc0 hr1 hc1 true hg (.inl rfl)
  · by_cases hk : (300 : Int) < (keep.length : Int)
    · exact twice_early _ A0 c0 bs A1 c1 ws A2 c2 keep w hr0 hc0 hr1 hc1 false hg (.inr hk)
    · have hl : ∀ m : Nat → Int, OKD (doneF m 0 (goodD bs ws).1 (goodD bs ws).2) [] ∧ (doneF m 0 (goodD bs ws).1 (goodD bs ws).2).length ≤ 200 := fun m => by
        obtain ⟨o1, o2⟩ := doneF_D m _ _ (goodD_ok bs ws)
        refine ⟨o1, ?_⟩
        rw [o2]
        unfold goodD; split <;> simp <;> omega
      obtain ⟨x1, x2⟩ := hl (fun _ => 64)
      obtain ⟨y1, y2⟩ := hl (keepF keep)
      have sX := sync_f (doneF (fun _ => 64) 0 (goodD bs ws).1 (goodD bs ws).2) [] (by omega) (by simp)
      have cX := crash_f (doneF (fun _ => 64) 0 (goodD bs ws).1 (goodD bs ws).2) [] keep (by omega) (by simp)
      have cC := crash_f (doneF (keepF keep) 0 (goodD bs ws).1 (goodD bs ws).2) [] keep (by omega) (by simp)
      rw [goodD_nil x1] at sX cX
      rw [goodD_nil y1] at cC
      refine twice_walk (bs.length + ws.length + 10000) A0 c0 bs A1 c1 ws A2 c2 keep w hr0 hc0 hr1 hc1 hr2 hc2 hg (by omega) _ _ (sync_f bs ws hb hw) (crash_f bs ws keep hb hw) sX cX cC
        (as_f _ [] (by simp) _ (by simp)) (as_f _ [] (by simp) _ (by simp)) (same_f _ [] (by omega) (by simp) _ (by simp; omega)) (same_f _ [] (by omega) (by simp) _ (by simp; omega)) ?_
      rw [right_f _ [] (by omega) (by simp) _ (by simp; omega)]
      exact congrArg some (decide_eq_true y1)
theorem BlockTwice_pure (bs : List (List Int)) (ws : List S57) (l : List Int) (_hb : bs.length ≤ 9223372036854775807) (_hw : ws.length ≤ 9223372036854775807) (_hl : l.length ≤ 9223372036854775807) : ∃ k, rubricklaw22_BlockTwice.f k bs ws l = some true := ⟨0, rfl⟩
end Go.Proofs.Ytiplneodkcjkmaa.P
