/- By hand: rubricklaw22.BlockTears walked. -/
import Derived.Test.YtiplneodkcjkmaaHTears
import Derived.Test.YtiplneodkcjkmaaPxBlockWrite
import Derived.Test.YtiplneodkcjkmaaPxBlockRead
set_option linter.unusedVariables false
set_option linter.unusedSimpArgs false
namespace Go.Proofs.Ytiplneodkcjkmaa.P
open Go.RowKit Go.Proofs.YtiplneodkcjkmaaW.PrintWords Go.Proofs.YtiplneodkcjkmaaW.PrintLast Go.Proofs.YtiplneodkcjkmaaW.PrintMore
attribute [local go_sem] Go.Instr.field Go.part Go.asAgg
set_option maxHeartbeats 16000000 in
set_option maxRecDepth 100000 in
theorem tears_walk (k : Nat) (A0 : Option Addr) (c0 : Nat) (bs : List (List Int)) (A1 : Option Addr) (c1 : Nat) (ws : List S57) (Al : Option Addr) (cl : Nat) (l : List S50) (i : Int) (Ab : Option Addr) (cb : Nat) (b : List Int) (Ak : Option Addr) (ck : Nat) (keep : List Int) (w : World)
    (hr0 : Kd.C (Kd.slice 5 (Kd.int .u8)) w A0 bs.length bs) (hc0 : bs.length ≤ c0) (hr1 : Kd.C k57 w A1 ws.length ws) (hc1 : ws.length ≤ c1) (hrl : Kd.C k50 w Al l.length l) (hcl : l.length ≤ cl) (hrb : Kd.C (Kd.int .u8) w Ab b.length b) (hcb : b.length ≤ cb) (hrk : Kd.C (Kd.int .i64) w Ak keep.length keep) (hck : keep.length ≤ ck)
    (hg : rubricklaw22_Great.f k bs ws = some false) (hk : (keep.length : Int) ≤ 300) (hb64 : b.length = 64) (X : List (List Int)) (hX : OKD X []) (hX2 : X.length ≤ 200)
    (s1 : block_Sync.f bs ws = some (X, [])) :
    Calls Try.prog 6 #[.agg #[.slice A0 bs.length c0, .slice A1 ws.length c1], .slice Al l.length cl, .int .i64 i, .slice Ab 64 cb, .slice Ak keep.length ck] w fun e w' => e = .returned (.bool true) ∧ Below w.heap.size w w' := by
  have hu25 := Try.underlying25
  have hc0 := Aside0.mk hc0
  have hc1 := Aside0.mk hc1
  have hcl' := Aside0.mk hcl
  have hcb := Aside0.mk hcb
  have hck := Aside0.mk hck
  have hX := Aside0.mk hX
  have hX2 := Aside0.mk hX2
  have hll := Aside0.mk hrl.2.1
  have hw0 := Aside0.mk (Below.refl w.heap.size w)
  have hd := Aside0.mk (below_alloc hw0.out (.cells #[.slice A0 bs.length c0, .slice A1 ws.length c1] 25))
  have hbx := Aside0.mk (blk_new w (.cells #[.slice A0 bs.length c0, .slice A1 ws.length c1] 25))
  have hr0 := Aside0.mk hr0
  have hr1 := Aside0.mk hr1
  have hrl := Aside0.mk hrl
  have hrb := Aside0.mk hrb
  have hrk := Aside0.mk hrk
  have hdk : decide ((300 : Int) < (keep.length : Int)) = false := by simpa using hk
  have hdk' : ¬ (300 : Int) < (keep.length : Int) := by omega
  have hB := Aside0.mk hb64
  clear hb64 hcl
  go_enter Try.func6, Try.ntmps6
  go_wp2_with (go_at_call 9; go_loud (refine (rubricklaw22_Great.calls k _ _ bs _ _ ws _ _ (Kd.C_below hr0.out hd.out) hc0.out (Kd.C_below hr1.out hd.out) hc1.out hg).mono ?_; rintro e w1 ⟨rfl, hb1⟩; refine hold ?_))
  unfold Held
  have BX1 := Aside0.mk ((hb1.block _ (blk_lt hbx.out)).trans hbx.out)
  have D1 := Aside0.mk (below_step hd.out hb1)
  have cb0 := blk_cell BX1.out 0
  have cb1 := blk_cell BX1.out 1
  simp only [List.getElem?_toArray, List.getElem?_cons_zero, List.getElem?_cons_succ] at cb0 cb1
  clear hb1
  go_wp2_with (go_at_call 21; go_loud (refine (block_Sync.calls _ _ bs _ _ ws X [] _ (Kd.C_below hr0.out D1.out) hc0.out (Kd.C_below hr1.out D1.out) hc1.out s1).mono ?_; rintro e w2 ⟨x0, x1, rfl, hx0, hx1, hb2⟩; refine hold ?_))
  unfold Held
  obtain ⟨Ax0, cx0, rfl⟩ := Kd.V_slice hx0
  obtain ⟨Ax1, cx1, rfl⟩ := Kd.V_slice hx1
  have K2 := Aside0.mk (DK.store BX1.out D1.out (Nat.le_refl _) hb2 hx0 (fun k hk => hk) hx1 (fun k hk => hk))
  have BX2 := Aside0.mk ((hb2.block _ (blk_lt BX1.out)).trans BX1.out)
  have e0 := blk_cell BX2.out 0
  have e1 := blk_cell BX2.out 1
  have f0 := blk_frozen BX2.out 0
  have f1 := blk_frozen BX2.out 1
  simp only [List.getElem?_toArray, List.getElem?_cons_zero, List.getElem?_cons_succ] at e0 e1
  have e2 := K2.out.cells.1.1
  have e3 := K2.out.cells.1.2
  clear hx0 hx1 hb2 cb0 cb1
  go_wp2_with (go_at_call 11; go_loud (refine (block_Read.calls 300 _ _ X _ _ [] i (readF X [] i).1 (readF X [] i).2 _ (Kd.V_reads' K2.out.d0).2.2 (Kd.V_reads' K2.out.d0).2.1 (Kd.V_reads' K2.out.d1).2.2 (Kd.V_reads' K2.out.d1).2.1 (read_f X [] (by have := hX2.out; omega) (by simp) i 300 (by have := hX2.out; simp; omega))).mono ?_; rintro e w3 ⟨vw, rfl, hvw, hb3⟩; refine hold ?_))
  unfold Held
  have K3 := Aside0.mk (K2.out.step hb3)
  have hg3 := Aside0.mk (show w.heap.size < w3.heap.size from blk_lt K3.out.box)
  have VW0 := Aside0.mk (show VU w.heap.size w3 vw (readF X [] i).1 from Kd.R_V (base' := 0) (Kd.R_mono (ok' := fun k => k ≠ w.heap.size) (Kd.R_bound hvw) (fun k hk => by have := hk.2.1; have := blk_lt K2.out.box; omega)))
  clear e0 e1 e2 e3 f0 f1 BX2 BX1 D1 hbx hd hr0 hr1 hc0 hc1 hb3 s1
  by_cases hin : 0 ≤ i ∧ i < (X.length : Int)
  · have hrd : readF X [] i = (X.getD i.toNat [], 0) := by rw [readF_nil X hX.out i, if_pos hin]
    rw [hrd] at hvw VW0
    rw [hrd]
    have hw64 : (X.getD i.toNat []).length = 64 := by
      rw [List.getD_eq_getElem?_getD, List.getElem?_eq_getElem (by omega)]
      exact hX.out.2.2.1 _ (List.getElem_mem _)
    generalize hwas : X.getD i.toNat [] = was at *
    have HWAS := Aside0.mk hwas
    clear hwas
    obtain ⟨gw, cw, rfl, _, _, _⟩ := Kd.R_form hvw (by rw [hw64]; decide)
    rw [hw64] at VW0
    rw [hw64]
    have HW := Aside0.mk hw64
    clear hvw hw64 hrd
    have kc := K3.out.cells
    have kc0 := kc.1.1
    have kc1 := kc.1.2
    clear kc
    obtain ⟨ws1, e1, hwr, hD1, hL1, _, hE1, hE2⟩ := write_f X [] hX.out i b 3 (Nat.le_refl _)
    obtain rfl : e1 = 0 := hE2 hin.1 hin.2 hB.out (by simp)
    obtain rfl : ws1 = [⟨i, b⟩] := hE1 rfl
    have T4 := Aside0.mk (show TW X i b 0 [⟨i, b⟩] from ⟨hD1, Nat.le_refl _, [], rfl, fun x hx => by cases hx⟩)
    clear hE1 hE2 hD1 hL1
    go_wp2_with (go_at_call 22; go_loud (rw [show Value.slice Ab 64 cb = .slice Ab b.length cb by rw [hB.out]]; refine (block_Write.calls 3 _ _ X _ _ [] i _ _ b _ _ _ _ (Kd.V_reads' K3.out.d0).2.2 (Kd.V_reads' K3.out.d0).2.1 (Kd.V_reads' K3.out.d1).2.2 (Kd.V_reads' K3.out.d1).2.1 (Kd.C_below hrb.out K3.out.below) hcb.out hwr).mono ?_; rintro e w4 ⟨x0, x1, rfl, hx0, hx1, hb4⟩; refine hold ?_))
    unfold Held
    obtain ⟨Ay0, cy0, rfl⟩ := Kd.V_slice hx0
    obtain ⟨Ay1, cy1, hv1⟩ := Kd.S_slice hx1
    replace hv1 : x1 = .slice Ay1 1 cy1 := hv1
    subst hv1
    have K4 := Aside0.mk (DK.store K3.out.box K3.out.below (Nat.le_refl _) hb4 hx0 (fun k hk => hk.1) (Kd.S_V (base' := 0) hx1) (fun k hk => hk))
    have VW4 := Aside0.mk (vu_store (u0 := .slice Ay0 X.length cy0) (u1 := .slice Ay1 1 cy1) (Kd.V_below VW0.out hb4))
    have BX4 := Aside0.mk ((hb4.block _ (blk_lt K3.out.box)).trans K3.out.box)
    have e0 := blk_cell BX4.out 0
    have e1 := blk_cell BX4.out 1
    have f0 := blk_frozen BX4.out 0
    have f1 := blk_frozen BX4.out 1
    simp only [List.getElem?_toArray, List.getElem?_cons_zero, List.getElem?_cons_succ] at e0 e1
    clear hx0 hx1 hb4 kc0 kc1 K3 VW0 K2
    go_wp2
    go_loopw [13] (fun i' wr => ∃ (q : Nat) (v0 v1 : Value) (ws : List S57), q ≤ 60 ∧ i' = .int .i64 (q : Int) ∧ Aside0 (DK w w.heap.size v0 v1 X ws wr) ∧ Aside0 (VU w.heap.size wr (.slice (some ⟨gw, 0, none⟩) 64 cw) was) ∧ Aside0 (TW X i b q ws)) (fun i' _ => 60 - (intOf i').toNat)
    case atStart => exact ⟨0, _, _, _, by omega, rfl, K4, VW4, T4⟩
    case round =>
      clear K4 VW4 T4 BX4 e0 e1 f0 f1
      obtain ⟨q, v0, v1, wsq, hq, rfl, KQ, VQ, TQ⟩ := hrel
      have kc := KQ.out.cells
      have kc0 := kc.1.1
      have kc1 := kc.1.2
      have kf0 := kc.2.1
      have kf1 := kc.2.2
      clear kc
      obtain ⟨Az0, cz0, rfl⟩ := Kd.V_slice KQ.out.d0
      obtain ⟨Az1, cz1, rfl⟩ := Kd.V_slice KQ.out.d1
      have hq0 : (0 : Int) ≤ (q : Int) := by omega
      by_cases hin2 : (q : Int) < (l.length : Int) ∧ (q : Int) < 60
      · obtain ⟨hq1, hq2⟩ := hin2
        obtain ⟨ad, Af, cf, Ag, cg, rfl, hy0, hy1, hy2, hy3, hlf, hCf, _⟩ := at_T50 hrl.out (q : Int) hq0 (by omega)
        replace hy1 := (KQ.out.below.cell (World.block_lt_of_cell? w _ hy1)).trans hy1
        replace hy2 := (KQ.out.below.cell (World.block_lt_of_cell? w _ hy2)).trans hy2
        clear hy0 hy3
        have HCF := Aside0.mk hCf
        have HLF := Aside0.mk hlf
        clear hCf hlf
        rw [Int.toNat_natCast] at hy1 hy2
        generalize rd_T50 l (q : Int) = x at hy1 hy2 HCF HLF
        by_cases hb2 : (x.f2.length : Int) ≤ 200
        · by_cases hne : x.f1 = i
          · have NX : Aside0 (TW X i b (q + 1) wsq) := ⟨TQ.out.next⟩
            go_wp2
            exact ⟨⟨q + 1, _, _, wsq, by omega, by rw [Int.natCast_add]; rfl, KQ, VQ, NX⟩, by simp [intOf]; omega⟩
          · obtain ⟨ws5, e5, hwr5, T5⟩ := TQ.out.write x.f1 x.f2 hne
            have T5 := Aside0.mk T5
            have mixed : Try.prog.follows .mixedOrders = true := by kernel_rfl
            have KD := Aside0.mk (KQ.out.step (below_drew (Below.refl wr.heap.size wr)))
            go_wp2
            go_region_with
              (go_at_call 22; go_loud (refine (block_Write.calls 3 _ _ X _ _ wsq x.f1 _ _ x.f2 _ _ _ _ (Kd.V_reads' KD.out.d0).2.2 (Kd.V_reads' KD.out.d0).2.1 (Kd.V_reads' KD.out.d1).2.2 (Kd.V_reads' KD.out.d1).2.1 (Kd.C_below HCF.out KD.out.below) HLF.out hwr5).mono ?_; rintro e w5 ⟨y0, y1, rfl, hv0, hv1, hb5⟩; obtain ⟨Au0, cu0, rfl⟩ := Kd.V_slice hv0; obtain ⟨Au1, cu1, rfl⟩ := Kd.S_slice hv1; have hBX := (hb5.block _ (blk_lt KD.out.box)).trans KD.out.box; have ce0 := blk_cell hBX 0; have ce1 := blk_cell hBX 1; have cg0 := blk_frozen hBX 0; have cg1 := blk_frozen hBX 1; simp only [List.getElem?_toArray, List.getElem?_cons_zero, List.getElem?_cons_succ] at ce0 ce1; have KN := Aside0.mk (DK.store KD.out.box KD.out.below (Nat.le_refl _) hb5 hv0 (fun k hk => hk.1) (Kd.S_V (base' := 0) hv1) (fun k hk => hk)); have VN := Aside0.mk (vu_store (u0 := .slice Au0 X.length cu0) (u1 := .slice Au1 ws5.length cu1) (Kd.V_below (Kd.V_drew VQ.out) hb5)); clear hv0 hv1 hb5 hBX))
            all_goals
              go_wp2
              exact ⟨⟨q + 1, _, _, ws5, by omega, by rw [Int.natCast_add]; rfl, KN, VN, T5⟩, by simp [intOf]; omega⟩
        · have NX : Aside0 (TW X i b (q + 1) wsq) := ⟨TQ.out.next⟩
          go_wp2
          exact ⟨⟨q + 1, _, _, wsq, by omega, by rw [Int.natCast_add]; rfl, KQ, VQ, NX⟩, by simp [intOf]; omega⟩
      · have hlw : wsq.length ≤ 61 := by have := TQ.out.2.1; omega
        have hcr := crash_f X wsq keep (by have := hX2.out; omega) (by omega)
        rw [goodD_of TQ.out.1] at hcr
        obtain ⟨hC1, hC2⟩ := doneF_D (keepF keep) X wsq TQ.out.1
        have htorn := torn (keepF keep) TQ.out hin.1 hin.2
        rw [HWAS.out] at htorn
        have hcut := cutN_le (keepF keep 0)
        generalize cutN (keepF keep 0) = n at htorn hcut
        dsimp only at hcr
        generalize doneF (keepF keep) 0 X wsq = C at hcr hC1 hC2 htorn
        have hre := read_f C [] (by rw [hC2]; have := hX2.out; omega) (by simp) i 300 (by rw [hC2]; have := hX2.out; simp; omega)
        rw [readF_nil C hC1 i, if_pos ⟨hin.1, by rw [hC2]; exact hin.2⟩, htorn] at hre
        have HRE := Aside0.mk hre
        have HCR := Aside0.mk hcr
        clear hre hcr htorn hC1 hC2 hlw
        have hcase : ((q : Int) < (l.length : Int) ∧ ¬ (q : Int) < 60) ∨ ¬ (q : Int) < (l.length : Int) := by omega
        rcases hcase with ⟨h1, h2⟩ | h1
        all_goals
          go_wp2_with (go_at_call 23; go_loud (refine (block_Crash.calls _ _ X _ _ wsq _ _ keep C [] _ (Kd.V_reads' KQ.out.d0).2.2 (Kd.V_reads' KQ.out.d0).2.1 (Kd.V_reads' KQ.out.d1).2.2 (Kd.V_reads' KQ.out.d1).2.1 (Kd.C_below hrk.out KQ.out.below) hck.out HCR.out).mono ?_; rintro e w6 ⟨x0, x1, rfl, hx0, hx1, hb6⟩; refine hold ?_))
          unfold Held
          obtain ⟨Au0, cu0, rfl⟩ := Kd.V_slice hx0
          obtain ⟨Au1, cu1, rfl⟩ := Kd.V_slice hx1
          have HX0 := Aside0.mk hx0
          have HX1 := Aside0.mk hx1
          have VW6 := Aside0.mk (Kd.V_below VQ.out hb6)
          have B6 := Aside0.mk (below_step KQ.out.below hb6)
          clear hx0 hx1 hb6 kc0 kc1 kf0 kf1 KQ VQ TQ
          go_wp2_with (go_at_call 11; go_loud (refine (block_Read.calls 300 _ _ C _ _ [] i _ _ _ (Kd.V_reads' HX0.out).2.2 (Kd.V_reads' HX0.out).2.1 (Kd.V_reads' HX1.out).2.2 (Kd.V_reads' HX1.out).2.1 HRE.out).mono ?_; rintro e w7 ⟨vi, rfl, hvi, hb7⟩; refine hold ?_))
          unfold Held
          have hli : (b.take n ++ was.drop n).length = 64 := by rw [List.length_append, List.length_take, List.length_drop, hB.out, HW.out]; omega
          obtain ⟨gi, ci, rfl, _, _, _⟩ := Kd.R_form hvi (by rw [hli]; decide)
          rw [hli]
          have HE := Aside0.mk (TE.mk (w := w) (below_step B6.out hb7) (Kd.R_V (base' := 0) hvi) (Kd.V_mono (ok' := fun _ => True) (Kd.V_below VW6.out hb7) (fun _ _ => trivial)) (Kd.C_below hrb.out (below_step B6.out hb7)))
          rw [hli] at HE
          have HN : Aside0 (n ≤ 64) := ⟨hcut⟩
          generalize his : b.take n ++ was.drop n = is at HE
          have HIS := Aside0.mk his
          clear his
          clear hvi hb7 hli HX0 HX1 VW6 B6
          go_wp2
          go_loopw [16] (fun i' wr => ∃ j : Nat, j ≤ n ∧ i' = .int .i64 (j : Int) ∧ Aside0 (TE w (.slice (some ⟨gi, 0, none⟩) 64 ci) (.slice (some ⟨gw, 0, none⟩) 64 cw) Ab is was b wr)) (fun i' _ => 64 - (intOf i').toNat)
          case atStart => exact ⟨0, Nat.zero_le _, rfl, HE⟩
          case round =>
            clear HE
            obtain ⟨j, hj, rfl, HE⟩ := hrel
            have hj0 : (0 : Int) ≤ (j : Int) := by omega
            have hj1 : (j : Int) ≤ 64 := by omega
            have hcb64 : (64 : Int) ≤ (cb : Int) := by have := hcb.out; have := hB.out; omega
            have hcw64 : (64 : Int) ≤ (cw : Int) := by have := (Kd.V_reads' HE.out.ww).2.1; have := HW.out; omega
            have mixed : Try.prog.follows .mixedOrders = true := by kernel_rfl
            have hj2 : (j : Int) ≤ (cb : Int) := by omega
            have hj3 : (j : Int) ≤ (cw : Int) := by omega
            have S0 := HE.out.step (below_drew (Below.refl wr.heap.size wr))
            obtain ⟨t1, ht1⟩ : ∃ t, t = strOfNums is := ⟨_, rfl⟩
            obtain ⟨t2, ht2⟩ : ∃ t, t = strOfNums (b.take j) := ⟨_, rfl⟩
            obtain ⟨t3, ht3⟩ : ∃ t, t = strOfNums (was.drop j) := ⟨_, rfl⟩
            have r1 : ∀ W, TE w (.slice (some ⟨gi, 0, none⟩) 64 ci) (.slice (some ⟨gw, 0, none⟩) 64 cw) Ab is was b W → (convert 28 9 (.slice (some ⟨gi, 0, none⟩) 64 ci)).run Try.prog W = .ok (.string t1) W := fun W h => by rw [ht1]; exact V_string Try.underlying28 Try.underlying5 Try.underlying9 h.wi
            have r2 : ∀ W, TE w (.slice (some ⟨gi, 0, none⟩) 64 ci) (.slice (some ⟨gw, 0, none⟩) 64 cw) Ab is was b W → (convert 28 9 (.slice Ab j cb)).run Try.prog W = .ok (.string t2) W := fun W h => by
              have hc := Kd.C_take h.wb (m := j) (by rw [hB.out]; omega)
              rw [show (b.take j).length = j by rw [List.length_take, hB.out]; omega] at hc
              rw [ht2]; exact Kd.C_string Try.underlying28 Try.underlying5 Try.underlying9 hc
            have r3 : ∀ W, TE w (.slice (some ⟨gi, 0, none⟩) 64 ci) (.slice (some ⟨gw, 0, none⟩) 64 cw) Ab is was b W → (convert 28 9 (.slice (if cw = j then some ⟨gw, 0, none⟩ else some ⟨gw, j, none⟩) (64 - j) (cw - j))).run Try.prog W = .ok (.string t3) W := fun W h => by
              have hv := (Kd.V_reads' h.ww).2.2
              have hc := Kd.C_drop (m := j) (c := cw) hv (by rw [HW.out]; omega) (by rw [HW.out]; omega)
              rw [show (was.drop j).length = 64 - j by rw [List.length_drop, HW.out]] at hc
              rw [show (if cw = j then some (⟨gw, 0, none⟩ : Addr) else some ⟨gw, j, none⟩) = (if cw = j then some (⟨gw, 0, none⟩ : Addr) else (some (⟨gw, 0, none⟩ : Addr)).map (·.add (j * (Kd.int .u8).sz))) from by
                congr 1
                show some (⟨gw, j, none⟩ : Addr) = some ((⟨gw, 0, none⟩ : Addr).add (j * 1))
                rw [Nat.mul_one, add_plain]]
              rw [ht3]; exact Kd.C_string Try.underlying28 Try.underlying5 Try.underlying9 hc
            have heq : j = n → t1 = t2 ++ t3 := fun e => by rw [ht1, ht2, ht3, tear_append, e, HIS.out]
            have hsz : t2.size + t3.size = 64 := by
              rw [ht2, ht3, tear_size, tear_size, List.length_take, List.length_drop, hB.out, HW.out]; omega
            clear ht1 ht2 ht3
            by_cases hs : t1 = t2 ++ t3
            · have hs2 : (t1.toList == (t2 ++ t3).toList) = true := by rw [hs]; exact beq_self_eq_true _
              have hs3 : (t1.toList != (t2 ++ t3).toList) = false := by rw [hs]; exact bne_self_eq_false _
              have hs4 : decide (t1 = t2 ++ t3) = true := decide_eq_true hs
              clear heq
              go_wp2
              go_region_held3 (TE w (.slice (some ⟨gi, 0, none⟩) 64 ci) (.slice (some ⟨gw, 0, none⟩) 64 cw) Ab is was b) (exact S0) (fail)
              go_wp2_with (go_at_call 10; go_loud (refine (rubricklaw22_knows.calls true _ rfl).mono ?_; rintro e w8 ⟨rfl, hb8⟩; refine hold ?_))
              all_goals
                unfold Held
                go_wp2
                go_ret
                exact ⟨rfl, below_step S0.below hb8⟩
            · have hs2 : (t1.toList == (t2 ++ t3).toList) = false := beq_eq_false_iff_ne.2 (fun h => hs (tear_bytes h))
              have hs3 : (t1.toList != (t2 ++ t3).toList) = true := bne_iff_ne.2 (fun h => hs (tear_bytes h))
              have hs4 : decide (t1 = t2 ++ t3) = false := decide_eq_false hs
              have hjn : j < n := by
                rcases Nat.lt_or_ge j n with h | h
                · exact h
                · exact absurd (heq (by omega)) hs
              clear heq
              go_wp2
              go_region_held3 (TE w (.slice (some ⟨gi, 0, none⟩) 64 ci) (.slice (some ⟨gw, 0, none⟩) 64 cw) Ab is was b) (exact S0) (fail)
              go_wp2
              all_goals exact ⟨⟨j + 1, by omega, by rw [Int.natCast_add]; rfl, ⟨S0⟩⟩, by simp [intOf]; omega⟩
  · have hrd : readF X [] i = ([], 1) := by rw [readF_nil X hX.out i, if_neg hin]
    rw [hrd] at hvw
    rw [hrd]
    obtain ⟨Aw, cw, rfl⟩ := Kd.R_slice hvw
    clear VW0 hvw
    go_wp2_with (go_at_call 10; go_loud (refine (rubricklaw22_knows.calls true _ rfl).mono ?_; rintro e w4 ⟨rfl, hb4⟩; refine hold ?_))
    unfold Held
    go_wp2
    go_ret
    exact ⟨rfl, below_step K3.out.below hb4⟩
end Go.Proofs.Ytiplneodkcjkmaa.P
