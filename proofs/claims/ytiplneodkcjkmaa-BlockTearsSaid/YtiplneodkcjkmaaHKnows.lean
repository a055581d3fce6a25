/- By hand: rubricklaw22.knows: the document's examples hold. -/
import Derived.Test.YtiplneodkcjkmaaHDone
import Derived.Test.YtiplneodkcjkmaaPxBlockNew
import Derived.Test.YtiplneodkcjkmaaPxBlockLen
import Derived.Test.YtiplneodkcjkmaaPxBlockWrite
import Derived.Test.YtiplneodkcjkmaaPxBlockRead
import Derived.Test.YtiplneodkcjkmaaPxRubricklaw22ones
set_option linter.unusedVariables false
set_option linter.unusedSimpArgs false
namespace Go.Proofs.Ytiplneodkcjkmaa.P
open Go.RowKit Go.Proofs.YtiplneodkcjkmaaW.PrintWords Go.Proofs.YtiplneodkcjkmaaW.PrintLast Go.Proofs.YtiplneodkcjkmaaW.PrintMore
attribute [local go_sem] Go.Instr.field Go.part Go.asAgg
def rubricklaw22_knows.f : Option Bool := some true
def kz : List Int := List.replicate 64 0
def ko : List Int := List.replicate 64 1
def kc : List Int := [1, 1, 1] ++ List.replicate 61 0
theorem k1 : block_New.f 20 2 = some ([kz, kz], [], 0) := by kernel_rfl
theorem k2 : rubricklaw22_ones.f 100 1 = some ko := by kernel_rfl
theorem k3 : block_Write.f 20 [kz, kz] [] 1 ko = some ([kz, kz], [⟨1, ko⟩], 0) := by kernel_rfl
theorem k4 : block_Read.f 20 [kz, kz] [⟨1, ko⟩] 1 = some (ko, 0) := by kernel_rfl
theorem k5 : block_Crash.f [kz, kz] [⟨1, ko⟩] [3] = some ([kz, kc], []) := by kernel_rfl
theorem k6 : block_Read.f 20 [kz, kc] [] 1 = some (kc, 0) := by kernel_rfl
theorem k7 : block_Sync.f [kz, kz] [⟨1, ko⟩] = some ([kz, ko], []) := by kernel_rfl
theorem k8 : block_Crash.f [kz, ko] [] [] = some ([kz, ko], []) := by kernel_rfl
theorem k9 : block_Read.f 20 [kz, ko] [] 1 = some (ko, 0) := by kernel_rfl
theorem k10 : block_Len.f [kz, kz] [⟨1, ko⟩] = some 2 := by kernel_rfl
theorem k11 : block_Right.f 20 [kz, kz] [⟨1, ko⟩] = some true := by kernel_rfl
theorem klen : kz.length = 64 ∧ ko.length = 64 ∧ kc.length = 64 := by decide
/-- The disk's variable, and what it leads to. -/
structure KF (w : World) (g1 : Nat) (u0 u1 : Value) (W : World) : Prop where
  below : Below w.heap.size w W
  box : W.heap[g1]? = some (.cells #[u0, u1] 25 (0, 0))
  d0 : Kd.V (Kd.slice 5 (Kd.int .u8)) 28 W 0 (fun k => k ≠ g1) u0 [kz, kz]
  d1 : Kd.V k57 57 W 0 (fun k => k ≠ g1) u1 [⟨1, ko⟩]
theorem KF.step {w W W' : World} {g1 : Nat} {u0 u1 : Value} (h : KF w g1 u0 u1 W) (hb : Below W.heap.size W W') : KF w g1 u0 u1 W' :=
  ⟨below_step h.below hb, (hb.block _ (blk_lt h.box)).trans h.box, Kd.V_below h.d0 hb, Kd.V_below h.d1 hb⟩
theorem C_one {W : World} {b t : Nat} {x : Int} (h : W.heap[b]? = some (.cells #[.int .i64 x] t (0, 0))) : (Kd.int .i64).C W (some ⟨b, 0, none⟩) 1 [x] := by
  refine ⟨rfl, by decide, fun _ => ⟨_, rfl, fun j p hj => ?_⟩⟩
  cases j with
  | succ j => simp at hj
  | zero =>
    obtain rfl : x = p := by simpa using hj
    refine ⟨[.int .i64 x], rfl, rfl, fun i u hu => ?_⟩
    cases i with
    | succ i => simp at hu
    | zero =>
      obtain rfl : Value.int .i64 x = u := by simpa using hu
      rw [add_plain]
      have := blk_cell h 0
      simpa using this
abbrev BV (W : World) (v : Value) (l : List Int) : Prop := Kd.V (Kd.int .u8) 5 W 0 (fun _ => True) v l
/-- All that the last line reads. -/
structure KS (w : World) (g1 : Nat) (u0 u1 v4 v6 v8 : Value) (W : World) : Prop where
  kf : KF w g1 u0 u1 W
  b4 : BV W v4 ko
  b6 : BV W v6 kc
  b8 : BV W v8 ko
theorem KS.step {w W W' : World} {g1 : Nat} {u0 u1 v4 v6 v8 : Value} (h : KS w g1 u0 u1 v4 v6 v8 W) (hb : Below W.heap.size W W') : KS w g1 u0 u1 v4 v6 v8 W' :=
  ⟨h.kf.step hb, Kd.V_below h.b4 hb, Kd.V_below h.b6 hb, Kd.V_below h.b8 hb⟩
theorem u8_string {W : World} {v : Value} {l : List Int} (h : BV W v l) : (convert 28 9 v).run Try.prog W = .ok (.string (strOfNums l)) W :=
  V_string Try.underlying28 Try.underlying5 Try.underlying9 h
theorem ks_box {w W : World} {g1 : Nat} {u0 u1 v4 v6 v8 : Value} (h : KS w g1 u0 u1 v4 v6 v8 W) : W.cell? ⟨g1, 0, none⟩ = some u0 ∧ W.cell? ⟨g1, 1, none⟩ = some u1 := by
  have h1 := blk_cell h.kf.box 0
  have h2 := blk_cell h.kf.box 1
  simp only [List.getElem?_toArray, List.getElem?_cons_zero, List.getElem?_cons_succ] at h1 h2
  exact ⟨h1, h2⟩
theorem ks_at {w W : World} {g1 : Nat} {u0 u1 v4 v8 : Value} {g6 c : Nat} (h : KS w g1 u0 u1 v4 (.slice (some ⟨g6, 0, none⟩) 64 c) v8 W) : W.cell? ⟨g6, 2, none⟩ = some (.int .u8 1) ∧ W.cell? ⟨g6, 3, none⟩ = some (.int .u8 0) := by
  have h1 := Kd.foot_int (Kd.V_reads' h.b6).2.2 2 (by decide) (by decide)
  have h2 := Kd.foot_int (Kd.V_reads' h.b6).2.2 3 (by decide) (by decide)
  exact ⟨h1, h2⟩
set_option maxHeartbeats 4000000 in
set_option maxRecDepth 100000 in
theorem rubricklaw22_knows.calls (r : Bool) (w : World) (h : rubricklaw22_knows.f = some r) :
    Calls Try.prog 10 #[] w fun e w' => e = .returned (.bool r) ∧ Below w.heap.size w w' := by
  obtain rfl : true = r := Option.some.inj h
  have HB := Aside0.mk (Below.refl w.heap.size w)
  clear h
  go_enter Try.func10, Try.ntmps10
  go_wp2_with (go_at_call 18; refine (block_New.calls 20 2 _ _ _ _ k1).mono ?_; rintro e w1 ⟨v0, v1, rfl, ho0, ho1, hb1⟩; refine hold ?_)
  unfold Held
  obtain ⟨A0, c0, rfl⟩ := Kd.S_slice ho0
  obtain ⟨A1, c1, rfl⟩ := Kd.S_slice ho1
  have HB1 := Aside0.mk hb1
  have D0 := Aside0.mk (Kd.V_below (Kd.V_elderB (Kd.S_V (base' := 0) ho0) w1.heap.size (Nat.le_refl _)) (below_alloc (Below.refl w1.heap.size w1) (.cells #[.slice A0 [kz, kz].length c0, .slice A1 0 c1] 25)))
  have D1 := Aside0.mk (Kd.V_below (Kd.V_elderB (Kd.S_V (base' := 0) ho1) w1.heap.size (Nat.le_refl _)) (below_alloc (Below.refl w1.heap.size w1) (.cells #[.slice A0 [kz, kz].length c0, .slice A1 0 c1] 25)))
  have BX := Aside0.mk (blk_new w1 (.cells #[.slice A0 [kz, kz].length c0, .slice A1 0 c1] 25))
  have HBA := Aside0.mk (below_step hb1 (below_alloc (Below.refl w1.heap.size w1) (.cells #[.slice A0 [kz, kz].length c0, .slice A1 0 c1] 25)))
  have hg1 := hb1.size
  clear ho0 ho1 hb1 HB HB1
  go_wp2
  generalize hg : w1.heap.size = g1 at *
  generalize (w1.alloc (.cells #[.slice A0 [kz, kz].length c0, .slice A1 0 c1] 25)) = W1 at *
  clear hg w1
  have cb0 := blk_cell BX.out 0
  have cb1 := blk_cell BX.out 1
  simp only [List.getElem?_toArray, List.getElem?_cons_zero, List.getElem?_cons_succ] at cb0 cb1
  have mixed : Try.prog.follows .mixedOrders = true := by kernel_rfl
  have HRE := Aside0.mk (Below.refl W1.drew.heap.size W1.drew)
  go_region_with
    (first
      | (go_at_call 24; refine (rubricklaw22_ones.calls 100 1 _ _ k2).mono ?_; rintro e w2 ⟨vo, rfl, ho, hb⟩; obtain ⟨Ao, co, rfl⟩ := Kd.R_slice ho; have HO := Aside0.mk ho; have HB2 := Aside0.mk hb; have cc0 := (hb.cell (World.block_lt_of_cell? W1.drew _ cb0)).trans cb0; have cc1 := (hb.cell (World.block_lt_of_cell? W1.drew _ cb1)).trans cb1; clear ho hb)
      | (go_at_call 22; go_loud (refine (block_Write.calls 20 _ _ [kz, kz] _ _ [] 1 _ _ ko _ _ _ _ (Kd.C_below (Kd.V_reads' (Kd.V_drew D0.out)).2.2 HB2.out) (Kd.V_reads' D0.out).2.1 (Kd.C_below (Kd.V_reads' (Kd.V_drew D1.out)).2.2 HB2.out) (Kd.V_reads' D1.out).2.1 (Kd.R_reads' HO.out).2.2 (Kd.R_reads' HO.out).2.1 k3).mono ?_; rintro e w4 ⟨v2, v3, rfl, h2, h3, hb4⟩; obtain ⟨A2, c2, rfl⟩ := Kd.V_slice h2; obtain ⟨A3, c3, rfl⟩ := Kd.S_slice h3; have hBX := (hb4.block _ (blk_lt ((HB2.out.block _ (blk_lt (blk_drew BX.out))).trans (blk_drew BX.out)))).trans ((HB2.out.block _ (blk_lt (blk_drew BX.out))).trans (blk_drew BX.out)); have cd0 := blk_cell hBX 0; have cd1 := blk_cell hBX 1; have cf0 := blk_frozen hBX 0; have cf1 := blk_frozen hBX 1; simp only [List.getElem?_toArray, List.getElem?_cons_zero, List.getElem?_cons_succ] at cd0 cd1; have D2 := Aside0.mk h2; have D3 := Aside0.mk h3; have HB4 := Aside0.mk (below_step (below_drew HBA.out) (below_step HB2.out hb4)); have HLT := Aside0.mk (show g1 < w2.heap.size from blk_lt ((HB2.out.block _ (blk_lt (blk_drew BX.out))).trans (blk_drew BX.out))); have BX4 := Aside0.mk hBX; clear h2 h3 hb4 hBX)))
  · skip
    have KK : Aside0 (KF w g1 (.slice A2 2 c2) (.slice A3 1 c3) ((w4.setCell ⟨g1, 0, none⟩ (.slice A2 2 c2)).setCell ⟨g1, 1, none⟩ (.slice A3 1 c3))) := ⟨⟨below_set (below_set HB4.out hg1) hg1, blk_put (cs := #[.slice A2 2 c2, .slice A1 0 c1]) (blk_put (cs := #[.slice A0 2 c0, .slice A1 0 c1]) BX4.out 0 _ rfl) 1 _ rfl,
      Kd.V_far (p := ⟨g1, 1, none⟩) (Kd.V_far (p := ⟨g1, 0, none⟩) (Kd.V_lower (Kd.V_mono (ok' := fun k => k ≠ g1) D2.out (fun k hk => by have := HLT.out; omega)) (Nat.zero_le _)) (fun _ hk => hk) _) (fun _ hk => hk) _,
      Kd.V_far (p := ⟨g1, 1, none⟩) (Kd.V_far (p := ⟨g1, 0, none⟩) (Kd.V_lower (Kd.V_mono (ok' := fun k => k ≠ g1) (Kd.S_V (base' := 0) D3.out) (fun k hk => by have := HLT.out; omega)) (Nat.zero_le _)) (fun _ hk => hk) _) (fun _ hk => hk) _⟩⟩
    clear D2 D3 HB4 HLT BX4 cf0 cf1 cd0 cd1 cc0 cc1 HB2 HO HRE cb0 cb1 BX D0 D1 HBA
    have kb := KK.out.box
    have kb0 := blk_cell kb 0
    have kb1 := blk_cell kb 1
    simp only [List.getElem?_toArray, List.getElem?_cons_zero, List.getElem?_cons_succ] at kb0 kb1
    clear kb
    go_wp2_with (go_at_call 11; refine (block_Read.calls 20 _ _ [kz, kz] _ _ [⟨1, ko⟩] 1 ko 0 _ (Kd.V_reads' KK.out.d0).2.2 (Kd.V_reads' KK.out.d0).2.1 (Kd.V_reads' KK.out.d1).2.2 (Kd.V_reads' KK.out.d1).2.1 k4).mono ?_; rintro e w6 ⟨v4, rfl, hv, hb⟩; refine hold ?_)
    unfold Held
    obtain ⟨A4, c4, rfl⟩ := Kd.R_slice hv
    have V4 : Aside0 (BV w6 (.slice A4 64 c4) ko) := ⟨Kd.R_V hv⟩
    have K6 := Aside0.mk (KK.out.step hb)
    clear hv hb kb0 kb1 KK
    have kb := K6.out.box
    have kb0 := blk_cell kb 0
    have kb1 := blk_cell kb 1
    simp only [List.getElem?_toArray, List.getElem?_cons_zero, List.getElem?_cons_succ] at kb0 kb1
    clear kb
    have hb7 := Aside0.mk (below_alloc (Below.refl w6.heap.size w6) (.cells #[.int .i64 3] 3))
    have hb8 := Aside0.mk (blk_new w6 (.cells #[.int .i64 3] 3))
    go_wp2_with (go_at_call 23; refine (block_Crash.calls _ _ [kz, kz] _ _ [⟨1, ko⟩] _ _ [3] [kz, kc] [] _ (Kd.C_below (Kd.V_reads' K6.out.d0).2.2 hb7.out) (Kd.V_reads' K6.out.d0).2.1 (Kd.C_below (Kd.V_reads' K6.out.d1).2.2 hb7.out) (Kd.V_reads' K6.out.d1).2.1 (C_one hb8.out) (Nat.le_refl 1) k5).mono ?_; rintro e w8 ⟨va, vb, rfl, hva, hvb, hb⟩; refine hold ?_)
    unfold Held
    obtain ⟨Aa, ca, rfl⟩ := Kd.V_slice hva
    obtain ⟨Ab, cb, rfl⟩ := Kd.V_slice hvb
    have HVA := Aside0.mk hva
    have HVB := Aside0.mk hvb
    have hb9 := below_step hb7.out hb
    have N1 := Aside0.mk (K6.out.step hb9)
    have N2 : Aside0 (BV w8 (.slice A4 64 c4) ko) := ⟨Kd.V_below V4.out hb9⟩
    clear hva hvb hb hb9 hb7 hb8 kb0 kb1 K6 V4
    go_wp2_with (go_at_call 11; refine (block_Read.calls 20 _ _ [kz, kc] _ _ [] 1 kc 0 _ (Kd.V_reads' HVA.out).2.2 (Kd.V_reads' HVA.out).2.1 (Kd.V_reads' HVB.out).2.2 (Kd.V_reads' HVB.out).2.1 k6).mono ?_; rintro e w9 ⟨v6, rfl, hv, hb⟩; refine hold ?_)
    unfold Held
    obtain ⟨g6, c6, rfl, _⟩ := Kd.R_form hv (by decide)
    have V6 : Aside0 (BV w9 (.slice (some ⟨g6, 0, none⟩) 64 c6) kc) := ⟨Kd.R_V hv⟩
    have K9 := Aside0.mk (N1.out.step hb)
    have V4 : Aside0 (BV w9 (.slice A4 64 c4) ko) := ⟨Kd.V_below N2.out hb⟩
    clear hv hb N1 N2 HVA HVB
    have kb := K9.out.box
    have kb0 := blk_cell kb 0
    have kb1 := blk_cell kb 1
    simp only [List.getElem?_toArray, List.getElem?_cons_zero, List.getElem?_cons_succ] at kb0 kb1
    clear kb
    go_wp2_with (go_at_call 21; refine (block_Sync.calls _ _ [kz, kz] _ _ [⟨1, ko⟩] [kz, ko] [] _ (Kd.V_reads' K9.out.d0).2.2 (Kd.V_reads' K9.out.d0).2.1 (Kd.V_reads' K9.out.d1).2.2 (Kd.V_reads' K9.out.d1).2.1 k7).mono ?_; rintro e w10 ⟨va, vb, rfl, hva, hvb, hb⟩; refine hold ?_)
    unfold Held
    obtain ⟨Ac, cc, rfl⟩ := Kd.V_slice hva
    obtain ⟨Ad, cd, rfl⟩ := Kd.V_slice hvb
    have HVA := Aside0.mk hva
    have HVB := Aside0.mk hvb
    have N1 := Aside0.mk (K9.out.step hb)
    have N2 : Aside0 (BV w10 (.slice A4 64 c4) ko) := ⟨Kd.V_below V4.out hb⟩
    have N3 : Aside0 (BV w10 (.slice (some ⟨g6, 0, none⟩) 64 c6) kc) := ⟨Kd.V_below V6.out hb⟩
    clear hva hvb hb kb0 kb1 K9 V4 V6
    go_wp2_with (go_at_call 23; refine (block_Crash.calls _ _ [kz, ko] _ _ [] none 0 [] [kz, ko] [] _ (Kd.V_reads' HVA.out).2.2 (Kd.V_reads' HVA.out).2.1 (Kd.V_reads' HVB.out).2.2 (Kd.V_reads' HVB.out).2.1 (Kd.C_nil _ _) (Nat.le_refl 0) k8).mono ?_; rintro e w11 ⟨va, vb, rfl, hva, hvb, hb⟩; refine hold ?_)
    unfold Held
    obtain ⟨Ae, ce, rfl⟩ := Kd.V_slice hva
    obtain ⟨Af, cf, rfl⟩ := Kd.V_slice hvb
    have HVC := Aside0.mk hva
    have HVD := Aside0.mk hvb
    have K11 := Aside0.mk (N1.out.step hb)
    have M2 : Aside0 (BV w11 (.slice A4 64 c4) ko) := ⟨Kd.V_below N2.out hb⟩
    have M3 : Aside0 (BV w11 (.slice (some ⟨g6, 0, none⟩) 64 c6) kc) := ⟨Kd.V_below N3.out hb⟩
    clear hva hvb hb N1 N2 N3 HVA HVB
    go_wp2_with (go_at_call 11; refine (block_Read.calls 20 _ _ [kz, ko] _ _ [] 1 ko 0 _ (Kd.V_reads' HVC.out).2.2 (Kd.V_reads' HVC.out).2.1 (Kd.V_reads' HVD.out).2.2 (Kd.V_reads' HVD.out).2.1 k9).mono ?_; rintro e w12 ⟨v8, rfl, hv, hb⟩; refine hold ?_)
    unfold Held
    obtain ⟨A8, c8, rfl⟩ := Kd.R_slice hv
    have V8 : Aside0 (BV w12 (.slice A8 64 c8) ko) := ⟨Kd.R_V hv⟩
    have K12 := Aside0.mk (K11.out.step hb)
    have V4 : Aside0 (BV w12 (.slice A4 64 c4) ko) := ⟨Kd.V_below M2.out hb⟩
    have V6 : Aside0 (BV w12 (.slice (some ⟨g6, 0, none⟩) 64 c6) kc) := ⟨Kd.V_below M3.out hb⟩
    clear hv hb K11 M2 M3 HVC HVD
    have HKS := Aside0.mk (KS.mk K12.out V4.out V6.out V8.out)
    clear K12 V4 V6 V8
    have S0 : KS w g1 (.slice A2 2 c2) (.slice A3 1 c3) (.slice A4 64 c4) (.slice (some ⟨g6, 0, none⟩) 64 c6) (.slice A8 64 c8) w12.drew := HKS.out.step (below_drew (Below.refl _ _))
    have r1 : ∀ W, KS w g1 (.slice A2 2 c2) (.slice A3 1 c3) (.slice A4 64 c4) (.slice (some ⟨g6, 0, none⟩) 64 c6) (.slice A8 64 c8) W → (convert 28 9 (.slice A4 64 c4)).run Try.prog W = .ok (.string (strOfNums ko)) W := fun W h => u8_string h.b4
    have r2 : ∀ W, KS w g1 (.slice A2 2 c2) (.slice A3 1 c3) (.slice A4 64 c4) (.slice (some ⟨g6, 0, none⟩) 64 c6) (.slice A8 64 c8) W → (convert 28 9 (.slice A8 64 c8)).run Try.prog W = .ok (.string (strOfNums ko)) W := fun W h => u8_string h.b8
    have r3 : ∀ W, KS w g1 (.slice A2 2 c2) (.slice A3 1 c3) (.slice A4 64 c4) (.slice (some ⟨g6, 0, none⟩) 64 c6) (.slice A8 64 c8) W → W.cell? ⟨g6, 2, none⟩ = some (.int .u8 1) := fun W h => (ks_at h).1
    have r4 : ∀ W, KS w g1 (.slice A2 2 c2) (.slice A3 1 c3) (.slice A4 64 c4) (.slice (some ⟨g6, 0, none⟩) 64 c6) (.slice A8 64 c8) W → W.cell? ⟨g6, 3, none⟩ = some (.int .u8 0) := fun W h => (ks_at h).2
    have r5 : ∀ W, KS w g1 (.slice A2 2 c2) (.slice A3 1 c3) (.slice A4 64 c4) (.slice (some ⟨g6, 0, none⟩) 64 c6) (.slice A8 64 c8) W → W.cell? ⟨g1, 0, none⟩ = some (.slice A2 2 c2) := fun W h => (ks_box h).1
    have r6 : ∀ W, KS w g1 (.slice A2 2 c2) (.slice A3 1 c3) (.slice A4 64 c4) (.slice (some ⟨g6, 0, none⟩) 64 c6) (.slice A8 64 c8) W → W.cell? ⟨g1, 1, none⟩ = some (.slice A3 1 c3) := fun W h => (ks_box h).2
    go_wp2
    simp only [klen.2.1, klen.2.2]
    refine wp_region_noPanic ?_
    refine wp_region_held_drew (S := (KS w g1 (.slice A2 2 c2) (.slice A3 1 c3) (.slice A4 64 c4) (.slice (some ⟨g6, 0, none⟩) 64 c6) (.slice A8 64 c8))) (by kernel_rfl) S0 (fun hHeld => ?_)
    refine wpAnyH_take (i := 0) (oi := ?Ao0) (v := ?Av0) ?Ah0 ?Aa0 ?Ab0 ?Ac0 (fun _ _ _ h => h) (Or.inl ⟨?Ae0, ?Ay0⟩) (by assumption) ?Ar0
    case Ah0 => simp only [List.getElem?_toArray, List.getElem?_cons_zero, List.getElem?_cons_succ]; rfl
    case Aa0 => kernel_rfl
    case Ab0 => kernel_rfl
    case Ac0 => kernel_rfl
    case Ae0 => rfl
    case Ay0 => first | (intro w hSw; (try dsimp only at hSw); go_simp; done) | (intro w hSw; (try dsimp only at hSw); go_simp; with_reducible rfl)
    (try simp only [Act.put, List.setIfInBounds_toArray, List.set_cons_zero, List.set_cons_succ])
    refine wpAnyH_take (i := 1) (oi := ?Ao1) (v := ?Av1) ?Ah1 ?Aa1 ?Ab1 ?Ac1 (fun _ _ _ h => h) (Or.inl ⟨?Ae1, ?Ay1⟩) (by assumption) ?Ar1
    case Ah1 => simp only [List.getElem?_toArray, List.getElem?_cons_zero, List.getElem?_cons_succ]; rfl
    case Aa1 => kernel_rfl
    case Ab1 => kernel_rfl
    case Ac1 => kernel_rfl
    case Ae1 => rfl
    case Ay1 => first | (intro w hSw; (try dsimp only at hSw); go_simp; done) | (intro w hSw; (try dsimp only at hSw); go_simp; with_reducible rfl)
    (try simp only [Act.put, List.setIfInBounds_toArray, List.set_cons_zero, List.set_cons_succ])
    refine wpAnyH_take (i := 2) (oi := ?Ao2) (v := ?Av2) ?Ah2 ?Aa2 ?Ab2 ?Ac2 (fun _ _ _ h => h) (Or.inl ⟨?Ae2, ?Ay2⟩) (by assumption) ?Ar2
    case Ah2 => simp only [List.getElem?_toArray, List.getElem?_cons_zero, List.getElem?_cons_succ]; rfl
    case Aa2 => kernel_rfl
    case Ab2 => kernel_rfl
    case Ac2 => kernel_rfl
    case Ae2 => rfl
    case Ay2 => first | (intro w hSw; (try dsimp only at hSw); go_simp; done) | (intro w hSw; (try dsimp only at hSw); go_simp; with_reducible rfl)
    (try simp only [Act.put, List.setIfInBounds_toArray, List.set_cons_zero, List.set_cons_succ])
    refine wpAnyH_take (i := 3) (oi := ?Ao3) (v := ?Av3) ?Ah3 ?Aa3 ?Ab3 ?Ac3 (fun _ _ _ h => h) (Or.inl ⟨?Ae3, ?Ay3⟩) (by assumption) ?Ar3
    case Ah3 => simp only [List.getElem?_toArray, List.getElem?_cons_zero, List.getElem?_cons_succ]; rfl
    case Aa3 => kernel_rfl
    case Ab3 => kernel_rfl
    case Ac3 => kernel_rfl
    case Ae3 => rfl
    case Ay3 => first | (intro w hSw; (try dsimp only at hSw); go_simp; done) | (intro w hSw; (try dsimp only at hSw); go_simp; with_reducible rfl)
    (try simp only [Act.put, List.setIfInBounds_toArray, List.set_cons_zero, List.set_cons_succ])
    refine wpAnyH_take (i := 4) (oi := ?Ao4) (v := ?Av4) ?Ah4 ?Aa4 ?Ab4 ?Ac4 (fun _ _ _ h => h) (Or.inl ⟨?Ae4, ?Ay4⟩) (by assumption) ?Ar4
    case Ah4 => simp only [List.getElem?_toArray, List.getElem?_cons_zero, List.getElem?_cons_succ]; rfl
    case Aa4 => kernel_rfl
    case Ab4 => kernel_rfl
    case Ac4 => kernel_rfl
    case Ae4 => rfl
    case Ay4 => first | (intro w hSw; (try dsimp only at hSw); go_simp; done) | (intro w hSw; (try dsimp only at hSw); go_simp; with_reducible rfl)
    (try simp only [Act.put, List.setIfInBounds_toArray, List.set_cons_zero, List.set_cons_succ])
    refine wpAnyH_take (i := 5) (oi := ?Ao5) (v := ?Av5) ?Ah5 ?Aa5 ?Ab5 ?Ac5 (fun _ _ _ h => h) (Or.inl ⟨?Ae5, ?Ay5⟩) (by assumption) ?Ar5
    case Ah5 => simp only [List.getElem?_toArray, List.getElem?_cons_zero, List.getElem?_cons_succ]; rfl
    case Aa5 => kernel_rfl
    case Ab5 => kernel_rfl
    case Ac5 => kernel_rfl
    case Ae5 => rfl
    case Ay5 => first | (intro w hSw; (try dsimp only at hSw); go_simp; done) | (intro w hSw; (try dsimp only at hSw); go_simp; with_reducible rfl)
    (try simp only [Act.put, List.setIfInBounds_toArray, List.set_cons_zero, List.set_cons_succ])
    refine wpAnyH_take (i := 6) (oi := ?Ao6) (v := ?Av6) ?Ah6 ?Aa6 ?Ab6 ?Ac6 (fun _ _ _ h => h) (Or.inl ⟨?Ae6, ?Ay6⟩) (by assumption) ?Ar6
    case Ah6 => simp only [List.getElem?_toArray, List.getElem?_cons_zero, List.getElem?_cons_succ]; rfl
    case Aa6 => kernel_rfl
    case Ab6 => kernel_rfl
    case Ac6 => kernel_rfl
    case Ae6 => rfl
    case Ay6 => first | (intro w hSw; (try dsimp only at hSw); go_simp; done) | (intro w hSw; (try dsimp only at hSw); go_simp; with_reducible rfl)
    (try simp only [Act.put, List.setIfInBounds_toArray, List.set_cons_zero, List.set_cons_succ])
    refine wpAnyH_take (i := 7) (oi := ?Ao7) (v := ?Av7) ?Ah7 ?Aa7 ?Ab7 ?Ac7 (fun _ _ _ h => h) (Or.inl ⟨?Ae7, ?Ay7⟩) (by assumption) ?Ar7
    case Ah7 => simp only [List.getElem?_toArray, List.getElem?_cons_zero, List.getElem?_cons_succ]; rfl
    case Aa7 => kernel_rfl
    case Ab7 => kernel_rfl
    case Ac7 => kernel_rfl
    case Ae7 => rfl
    case Ay7 => first | (intro w hSw; (try dsimp only at hSw); go_simp; done) | (intro w hSw; (try dsimp only at hSw); go_simp; with_reducible rfl)
    (try simp only [Act.put, List.setIfInBounds_toArray, List.set_cons_zero, List.set_cons_succ])
    refine wpAnyH_take (i := 8) (oi := ?Ao8) (v := ?Av8) ?Ah8 ?Aa8 ?Ab8 ?Ac8 (fun _ _ _ h => h) (Or.inl ⟨?Ae8, ?Ay8⟩) (by assumption) ?Ar8
    case Ah8 => simp only [List.getElem?_toArray, List.getElem?_cons_zero, List.getElem?_cons_succ]; rfl
    case Aa8 => kernel_rfl
    case Ab8 => kernel_rfl
    case Ac8 => kernel_rfl
    case Ae8 => rfl
    case Ay8 => first | (intro w hSw; (try dsimp only at hSw); go_simp; done) | (intro w hSw; (try dsimp only at hSw); go_simp; with_reducible rfl)
    (try simp only [Act.put, List.setIfInBounds_toArray, List.set_cons_zero, List.set_cons_succ])
    refine wpAnyH_ready (rs := [9]) (by kernel_rfl) (by simp) ?_
    refine AllReadyH.cons (o := ?Ao9) ?Ah9 (fun K hK => ?Ar9) AllReadyH.nil
    case Ah9 => simp only [List.getElem?_toArray, List.getElem?_cons_zero, List.getElem?_cons_succ]; rfl
    go_simp
    (go_at_call 24; go_loud (refine (rubricklaw22_ones.calls 100 1 _ _ k2).mono ?_; rintro e w14 ⟨vo, rfl, ho, hb⟩; obtain ⟨Ao, co, rfl⟩ := Kd.R_slice ho; have S2 := S0.step hb; have hcv48 : (convert 28 9 (.slice Ao ko.length co)).run Try.prog w14 = .ok (.string (strOfNums ko)) w14 := u8_string (Kd.R_V (base' := 0) ho); clear ho hb))
    refine hK.out _ _ ?_ (fun hHeld2 => ?_)
    · exact S2
    clear hK K hHeld
    have hHeld := hHeld2
    clear hHeld2
    (try simp only [Act.put, List.setIfInBounds_toArray, List.set_cons_zero, List.set_cons_succ])
    refine wpAnyH_ready (rs := [10]) (by kernel_rfl) (by simp) ?_
    refine AllReadyH.cons (o := ?Ao10) ?Ah10 (fun K hK => ?Ar10) AllReadyH.nil
    case Ah10 => simp only [List.getElem?_toArray, List.getElem?_cons_zero, List.getElem?_cons_succ]; rfl
    go_simp
    refine hK.out _ _ ?_ (fun hHeld2 => ?_)
    · exact S2
    clear hK K hHeld
    have hHeld := hHeld2
    clear hHeld2
    (try simp only [Act.put, List.setIfInBounds_toArray, List.set_cons_zero, List.set_cons_succ])
    refine wpAnyH_take (i := 11) (oi := ?Ao11) (v := ?Av11) ?Ah11 ?Aa11 ?Ab11 ?Ac11 (fun _ _ _ h => h) (Or.inl ⟨?Ae11, ?Ay11⟩) (by assumption) ?Ar11
    case Ah11 => simp only [List.getElem?_toArray, List.getElem?_cons_zero, List.getElem?_cons_succ]; rfl
    case Aa11 => kernel_rfl
    case Ab11 => kernel_rfl
    case Ac11 => kernel_rfl
    case Ae11 => rfl
    case Ay11 => first | (intro w hSw; (try dsimp only at hSw); go_simp; done) | (intro w hSw; (try dsimp only at hSw); go_simp; with_reducible rfl)
    (try simp only [Act.put, List.setIfInBounds_toArray, List.set_cons_zero, List.set_cons_succ])
    refine wpAnyH_take (i := 12) (oi := ?Ao12) (v := ?Av12) ?Ah12 ?Aa12 ?Ab12 ?Ac12 (fun _ _ _ h => h) (Or.inl ⟨?Ae12, ?Ay12⟩) (by assumption) ?Ar12
    case Ah12 => simp only [List.getElem?_toArray, List.getElem?_cons_zero, List.getElem?_cons_succ]; rfl
    case Aa12 => kernel_rfl
    case Ab12 => kernel_rfl
    case Ac12 => kernel_rfl
    case Ae12 => rfl
    case Ay12 => first | (intro w hSw; (try dsimp only at hSw); go_simp; done) | (intro w hSw; (try dsimp only at hSw); go_simp; with_reducible rfl)
    (try simp only [Act.put, List.setIfInBounds_toArray, List.set_cons_zero, List.set_cons_succ])
    refine wpAnyH_take (i := 13) (oi := ?Ao13) (v := ?Av13) ?Ah13 ?Aa13 ?Ab13 ?Ac13 (fun _ _ _ h => h) (Or.inl ⟨?Ae13, ?Ay13⟩) (by assumption) ?Ar13
    case Ah13 => simp only [List.getElem?_toArray, List.getElem?_cons_zero, List.getElem?_cons_succ]; rfl
    case Aa13 => kernel_rfl
    case Ab13 => kernel_rfl
    case Ac13 => kernel_rfl
    case Ae13 => rfl
    case Ay13 => first | (intro w hSw; (try dsimp only at hSw); go_simp; done) | (intro w hSw; (try dsimp only at hSw); go_simp; with_reducible rfl)
    (try simp only [Act.put, List.setIfInBounds_toArray, List.set_cons_zero, List.set_cons_succ])
    refine wpAnyH_take (i := 14) (oi := ?Ao14) (v := ?Av14) ?Ah14 ?Aa14 ?Ab14 ?Ac14 (fun _ _ _ h => h) (Or.inl ⟨?Ae14, ?Ay14⟩) (by assumption) ?Ar14
    case Ah14 => simp only [List.getElem?_toArray, List.getElem?_cons_zero, List.getElem?_cons_succ]; rfl
    case Aa14 => kernel_rfl
    case Ab14 => kernel_rfl
    case Ac14 => kernel_rfl
    case Ae14 => rfl
    case Ay14 => first | (intro w hSw; (try dsimp only at hSw); go_simp; done) | (intro w hSw; (try dsimp only at hSw); go_simp; with_reducible rfl)
    (try simp only [Act.put, List.setIfInBounds_toArray, List.set_cons_zero, List.set_cons_succ])
    refine wpAnyH_take (i := 15) (oi := ?Ao15) (v := ?Av15) ?Ah15 ?Aa15 ?Ab15 ?Ac15 (fun _ _ _ h => h) (Or.inl ⟨?Ae15, ?Ay15⟩) (by assumption) ?Ar15
    case Ah15 => simp only [List.getElem?_toArray, List.getElem?_cons_zero, List.getElem?_cons_succ]; rfl
    case Aa15 => kernel_rfl
    case Ab15 => kernel_rfl
    case Ac15 => kernel_rfl
    case Ae15 => rfl
    case Ay15 => first | (intro w hSw; (try dsimp only at hSw); go_simp; done) | (intro w hSw; (try dsimp only at hSw); go_simp; with_reducible rfl)
    (try simp only [Act.put, List.setIfInBounds_toArray, List.set_cons_zero, List.set_cons_succ])
    refine wpAnyH_take (i := 16) (oi := ?Ao16) (v := ?Av16) ?Ah16 ?Aa16 ?Ab16 ?Ac16 (fun _ _ _ h => h) (Or.inl ⟨?Ae16, ?Ay16⟩) (by assumption) ?Ar16
    case Ah16 => simp only [List.getElem?_toArray, List.getElem?_cons_zero, List.getElem?_cons_succ]; rfl
    case Aa16 => kernel_rfl
    case Ab16 => kernel_rfl
    case Ac16 => kernel_rfl
    case Ae16 => rfl
    case Ay16 => first | (intro w hSw; (try dsimp only at hSw); go_simp; done) | (intro w hSw; (try dsimp only at hSw); go_simp; with_reducible rfl)
    (try simp only [Act.put, List.setIfInBounds_toArray, List.set_cons_zero, List.set_cons_succ])
    refine wpAnyH_take (i := 17) (oi := ?Ao17) (v := ?Av17) ?Ah17 ?Aa17 ?Ab17 ?Ac17 (fun _ _ _ h => h) (Or.inl ⟨?Ae17, ?Ay17⟩) (by assumption) ?Ar17
    case Ah17 => simp only [List.getElem?_toArray, List.getElem?_cons_zero, List.getElem?_cons_succ]; rfl
    case Aa17 => kernel_rfl
    case Ab17 => kernel_rfl
    case Ac17 => kernel_rfl
    case Ae17 => rfl
    case Ay17 => first | (intro w hSw; (try dsimp only at hSw); go_simp; done) | (intro w hSw; (try dsimp only at hSw); go_simp; with_reducible rfl)
    (try simp only [Act.put, List.setIfInBounds_toArray, List.set_cons_zero, List.set_cons_succ])
    refine wpAnyH_take (i := 18) (oi := ?Ao18) (v := ?Av18) ?Ah18 ?Aa18 ?Ab18 ?Ac18 (fun _ _ _ h => h) (Or.inl ⟨?Ae18, ?Ay18⟩) (by assumption) ?Ar18
    case Ah18 => simp only [List.getElem?_toArray, List.getElem?_cons_zero, List.getElem?_cons_succ]; rfl
    case Aa18 => kernel_rfl
    case Ab18 => kernel_rfl
    case Ac18 => kernel_rfl
    case Ae18 => rfl
    case Ay18 => first | (intro w hSw; (try dsimp only at hSw); go_simp; done) | (intro w hSw; (try dsimp only at hSw); go_simp; with_reducible rfl)
    (try simp only [Act.put, List.setIfInBounds_toArray, List.set_cons_zero, List.set_cons_succ])
    refine wpAnyH_take (i := 19) (oi := ?Ao19) (v := ?Av19) ?Ah19 ?Aa19 ?Ab19 ?Ac19 (fun _ _ _ h => h) (Or.inl ⟨?Ae19, ?Ay19⟩) (by assumption) ?Ar19
    case Ah19 => simp only [List.getElem?_toArray, List.getElem?_cons_zero, List.getElem?_cons_succ]; rfl
    case Aa19 => kernel_rfl
    case Ab19 => kernel_rfl
    case Ac19 => kernel_rfl
    case Ae19 => rfl
    case Ay19 => first | (intro w hSw; (try dsimp only at hSw); go_simp; done) | (intro w hSw; (try dsimp only at hSw); go_simp; with_reducible rfl)
    (try simp only [Act.put, List.setIfInBounds_toArray, List.set_cons_zero, List.set_cons_succ])
    refine wpAnyH_take (i := 20) (oi := ?Ao20) (v := ?Av20) ?Ah20 ?Aa20 ?Ab20 ?Ac20 (fun _ _ _ h => h) (Or.inl ⟨?Ae20, ?Ay20⟩) (by assumption) ?Ar20
    case Ah20 => simp only [List.getElem?_toArray, List.getElem?_cons_zero, List.getElem?_cons_succ]; rfl
    case Aa20 => kernel_rfl
    case Ab20 => kernel_rfl
    case Ac20 => kernel_rfl
    case Ae20 => rfl
    case Ay20 => first | (intro w hSw; (try dsimp only at hSw); go_simp; done) | (intro w hSw; (try dsimp only at hSw); go_simp; with_reducible rfl)
    (try simp only [Act.put, List.setIfInBounds_toArray, List.set_cons_zero, List.set_cons_succ])
    refine wpAnyH_take (i := 21) (oi := ?Ao21) (v := ?Av21) ?Ah21 ?Aa21 ?Ab21 ?Ac21 (fun _ _ _ h => h) (Or.inl ⟨?Ae21, ?Ay21⟩) (by assumption) ?Ar21
    case Ah21 => simp only [List.getElem?_toArray, List.getElem?_cons_zero, List.getElem?_cons_succ]; rfl
    case Aa21 => kernel_rfl
    case Ab21 => kernel_rfl
    case Ac21 => kernel_rfl
    case Ae21 => rfl
    case Ay21 => first | (intro w hSw; (try dsimp only at hSw); go_simp; done) | (intro w hSw; (try dsimp only at hSw); go_simp; with_reducible rfl)
    (try simp only [Act.put, List.setIfInBounds_toArray, List.set_cons_zero, List.set_cons_succ])
    refine wpAnyH_take (i := 22) (oi := ?Ao22) (v := ?Av22) ?Ah22 ?Aa22 ?Ab22 ?Ac22 (fun _ _ _ h => h) (Or.inl ⟨?Ae22, ?Ay22⟩) (by assumption) ?Ar22
    case Ah22 => simp only [List.getElem?_toArray, List.getElem?_cons_zero, List.getElem?_cons_succ]; rfl
    case Aa22 => kernel_rfl
    case Ab22 => kernel_rfl
    case Ac22 => kernel_rfl
    case Ae22 => rfl
    case Ay22 => first | (intro w hSw; (try dsimp only at hSw); go_simp; done) | (intro w hSw; (try dsimp only at hSw); go_simp; with_reducible rfl)
    (try simp only [Act.put, List.setIfInBounds_toArray, List.set_cons_zero, List.set_cons_succ])
    refine wpAnyH_take (i := 23) (oi := ?Ao23) (v := ?Av23) ?Ah23 ?Aa23 ?Ab23 ?Ac23 (fun _ _ _ h => h) (Or.inl ⟨?Ae23, ?Ay23⟩) (by assumption) ?Ar23
    case Ah23 => simp only [List.getElem?_toArray, List.getElem?_cons_zero, List.getElem?_cons_succ]; rfl
    case Aa23 => kernel_rfl
    case Ab23 => kernel_rfl
    case Ac23 => kernel_rfl
    case Ae23 => rfl
    case Ay23 => first | (intro w hSw; (try dsimp only at hSw); go_simp; done) | (intro w hSw; (try dsimp only at hSw); go_simp; with_reducible rfl)
    (try simp only [Act.put, List.setIfInBounds_toArray, List.set_cons_zero, List.set_cons_succ])
    refine wpAnyH_take (i := 24) (oi := ?Ao24) (v := ?Av24) ?Ah24 ?Aa24 ?Ab24 ?Ac24 (fun _ _ _ h => h) (Or.inl ⟨?Ae24, ?Ay24⟩) (by assumption) ?Ar24
    case Ah24 => simp only [List.getElem?_toArray, List.getElem?_cons_zero, List.getElem?_cons_succ]; rfl
    case Aa24 => kernel_rfl
    case Ab24 => kernel_rfl
    case Ac24 => kernel_rfl
    case Ae24 => rfl
    case Ay24 => first | (intro w hSw; (try dsimp only at hSw); go_simp; done) | (intro w hSw; (try dsimp only at hSw); go_simp; with_reducible rfl)
    (try simp only [Act.put, List.setIfInBounds_toArray, List.set_cons_zero, List.set_cons_succ])
    refine wpAnyH_take (i := 25) (oi := ?Ao25) (v := ?Av25) ?Ah25 ?Aa25 ?Ab25 ?Ac25 (fun _ _ _ h => h) (Or.inl ⟨?Ae25, ?Ay25⟩) (by assumption) ?Ar25
    case Ah25 => simp only [List.getElem?_toArray, List.getElem?_cons_zero, List.getElem?_cons_succ]; rfl
    case Aa25 => kernel_rfl
    case Ab25 => kernel_rfl
    case Ac25 => kernel_rfl
    case Ae25 => rfl
    case Ay25 => first | (intro w hSw; (try dsimp only at hSw); go_simp; done) | (intro w hSw; (try dsimp only at hSw); go_simp; with_reducible rfl)
    (try simp only [Act.put, List.setIfInBounds_toArray, List.set_cons_zero, List.set_cons_succ])
    refine wpAnyH_take (i := 26) (oi := ?Ao26) (v := ?Av26) ?Ah26 ?Aa26 ?Ab26 ?Ac26 (fun _ _ _ h => h) (Or.inl ⟨?Ae26, ?Ay26⟩) (by assumption) ?Ar26
    case Ah26 => simp only [List.getElem?_toArray, List.getElem?_cons_zero, List.getElem?_cons_succ]; rfl
    case Aa26 => kernel_rfl
    case Ab26 => kernel_rfl
    case Ac26 => kernel_rfl
    case Ae26 => rfl
    case Ay26 => first | (intro w hSw; (try dsimp only at hSw); go_simp; done) | (intro w hSw; (try dsimp only at hSw); go_simp; with_reducible rfl)
    (try simp only [Act.put, List.setIfInBounds_toArray, List.set_cons_zero, List.set_cons_succ])
    refine wpAnyH_take (i := 27) (oi := ?Ao27) (v := ?Av27) ?Ah27 ?Aa27 ?Ab27 ?Ac27 (fun _ _ _ h => h) (Or.inl ⟨?Ae27, ?Ay27⟩) (by assumption) ?Ar27
    case Ah27 => simp only [List.getElem?_toArray, List.getElem?_cons_zero, List.getElem?_cons_succ]; rfl
    case Aa27 => kernel_rfl
    case Ab27 => kernel_rfl
    case Ac27 => kernel_rfl
    case Ae27 => rfl
    case Ay27 => first | (intro w hSw; (try dsimp only at hSw); go_simp; done) | (intro w hSw; (try dsimp only at hSw); go_simp; with_reducible rfl)
    (try simp only [Act.put, List.setIfInBounds_toArray, List.set_cons_zero, List.set_cons_succ])
    refine wpAnyH_take (i := 28) (oi := ?Ao28) (v := ?Av28) ?Ah28 ?Aa28 ?Ab28 ?Ac28 (fun _ _ _ h => h) (Or.inl ⟨?Ae28, ?Ay28⟩) (by assumption) ?Ar28
    case Ah28 => simp only [List.getElem?_toArray, List.getElem?_cons_zero, List.getElem?_cons_succ]; rfl
    case Aa28 => kernel_rfl
    case Ab28 => kernel_rfl
    case Ac28 => kernel_rfl
    case Ae28 => rfl
    case Ay28 => first | (intro w hSw; (try dsimp only at hSw); go_simp; done) | (intro w hSw; (try dsimp only at hSw); go_simp; with_reducible rfl)
    (try simp only [Act.put, List.setIfInBounds_toArray, List.set_cons_zero, List.set_cons_succ])
    refine wpAnyH_take (i := 29) (oi := ?Ao29) (v := ?Av29) ?Ah29 ?Aa29 ?Ab29 ?Ac29 (fun _ _ _ h => h) (Or.inl ⟨?Ae29, ?Ay29⟩) (by assumption) ?Ar29
    case Ah29 => simp only [List.getElem?_toArray, List.getElem?_cons_zero, List.getElem?_cons_succ]; rfl
    case Aa29 => kernel_rfl
    case Ab29 => kernel_rfl
    case Ac29 => kernel_rfl
    case Ae29 => rfl
    case Ay29 => first | (intro w hSw; (try dsimp only at hSw); go_simp; done) | (intro w hSw; (try dsimp only at hSw); go_simp; with_reducible rfl)
    (try simp only [Act.put, List.setIfInBounds_toArray, List.set_cons_zero, List.set_cons_succ])
    refine wpAnyH_take (i := 30) (oi := ?Ao30) (v := ?Av30) ?Ah30 ?Aa30 ?Ab30 ?Ac30 (fun _ _ _ h => h) (Or.inl ⟨?Ae30, ?Ay30⟩) (by assumption) ?Ar30
    case Ah30 => simp only [List.getElem?_toArray, List.getElem?_cons_zero, List.getElem?_cons_succ]; rfl
    case Aa30 => kernel_rfl
    case Ab30 => kernel_rfl
    case Ac30 => kernel_rfl
    case Ae30 => rfl
    case Ay30 => first | (intro w hSw; (try dsimp only at hSw); go_simp; done) | (intro w hSw; (try dsimp only at hSw); go_simp; with_reducible rfl)
    (try simp only [Act.put, List.setIfInBounds_toArray, List.set_cons_zero, List.set_cons_succ])
    refine wpAnyH_take (i := 31) (oi := ?Ao31) (v := ?Av31) ?Ah31 ?Aa31 ?Ab31 ?Ac31 (fun _ _ _ h => h) (Or.inl ⟨?Ae31, ?Ay31⟩) (by assumption) ?Ar31
    case Ah31 => simp only [List.getElem?_toArray, List.getElem?_cons_zero, List.getElem?_cons_succ]; rfl
    case Aa31 => kernel_rfl
    case Ab31 => kernel_rfl
    case Ac31 => kernel_rfl
    case Ae31 => rfl
    case Ay31 => first | (intro w hSw; (try dsimp only at hSw); go_simp; done) | (intro w hSw; (try dsimp only at hSw); go_simp; with_reducible rfl)
    (try simp only [Act.put, List.setIfInBounds_toArray, List.set_cons_zero, List.set_cons_succ])
    refine wpAnyH_take (i := 32) (oi := ?Ao32) (v := ?Av32) ?Ah32 ?Aa32 ?Ab32 ?Ac32 (fun _ _ _ h => h) (Or.inl ⟨?Ae32, ?Ay32⟩) (by assumption) ?Ar32
    case Ah32 => simp only [List.getElem?_toArray, List.getElem?_cons_zero, List.getElem?_cons_succ]; rfl
    case Aa32 => kernel_rfl
    case Ab32 => kernel_rfl
    case Ac32 => kernel_rfl
    case Ae32 => rfl
    case Ay32 => first | (intro w hSw; (try dsimp only at hSw); go_simp; done) | (intro w hSw; (try dsimp only at hSw); go_simp; with_reducible rfl)
    (try simp only [Act.put, List.setIfInBounds_toArray, List.set_cons_zero, List.set_cons_succ])
    refine wpAnyH_take (i := 33) (oi := ?Ao33) (v := ?Av33) ?Ah33 ?Aa33 ?Ab33 ?Ac33 (fun _ _ _ h => h) (Or.inl ⟨?Ae33, ?Ay33⟩) (by assumption) ?Ar33
    case Ah33 => simp only [List.getElem?_toArray, List.getElem?_cons_zero, List.getElem?_cons_succ]; rfl
    case Aa33 => kernel_rfl
    case Ab33 => kernel_rfl
    case Ac33 => kernel_rfl
    case Ae33 => rfl
    case Ay33 => first | (intro w hSw; (try dsimp only at hSw); go_simp; done) | (intro w hSw; (try dsimp only at hSw); go_simp; with_reducible rfl)
    (try simp only [Act.put, List.setIfInBounds_toArray, List.set_cons_zero, List.set_cons_succ])
    refine wpAnyH_take (i := 34) (oi := ?Ao34) (v := ?Av34) ?Ah34 ?Aa34 ?Ab34 ?Ac34 (fun _ _ _ h => h) (Or.inl ⟨?Ae34, ?Ay34⟩) (by assumption) ?Ar34
    case Ah34 => simp only [List.getElem?_toArray, List.getElem?_cons_zero, List.getElem?_cons_succ]; rfl
    case Aa34 => kernel_rfl
    case Ab34 => kernel_rfl
    case Ac34 => kernel_rfl
    case Ae34 => rfl
    case Ay34 => first | (intro w hSw; (try dsimp only at hSw); go_simp; done) | (intro w hSw; (try dsimp only at hSw); go_simp; with_reducible rfl)
    (try simp only [Act.put, List.setIfInBounds_toArray, List.set_cons_zero, List.set_cons_succ])
    refine wpAnyH_take (i := 35) (oi := ?Ao35) (v := ?Av35) ?Ah35 ?Aa35 ?Ab35 ?Ac35 (fun _ _ _ h => h) (Or.inl ⟨?Ae35, ?Ay35⟩) (by assumption) ?Ar35
    case Ah35 => simp only [List.getElem?_toArray, List.getElem?_cons_zero, List.getElem?_cons_succ]; rfl
    case Aa35 => kernel_rfl
    case Ab35 => kernel_rfl
    case Ac35 => kernel_rfl
    case Ae35 => rfl
    case Ay35 => first | (intro w hSw; (try dsimp only at hSw); go_simp; done) | (intro w hSw; (try dsimp only at hSw); go_simp; with_reducible rfl)
    (try simp only [Act.put, List.setIfInBounds_toArray, List.set_cons_zero, List.set_cons_succ])
    refine wpAnyH_take (i := 36) (oi := ?Ao36) (v := ?Av36) ?Ah36 ?Aa36 ?Ab36 ?Ac36 (fun _ _ _ h => h) (Or.inl ⟨?Ae36, ?Ay36⟩) (by assumption) ?Ar36
    case Ah36 => simp only [List.getElem?_toArray, List.getElem?_cons_zero, List.getElem?_cons_succ]; rfl
    case Aa36 => kernel_rfl
    case Ab36 => kernel_rfl
    case Ac36 => kernel_rfl
    case Ae36 => rfl
    case Ay36 => first | (intro w hSw; (try dsimp only at hSw); go_simp; done) | (intro w hSw; (try dsimp only at hSw); go_simp; with_reducible rfl)
    (try simp only [Act.put, List.setIfInBounds_toArray, List.set_cons_zero, List.set_cons_succ])
    refine wpAnyH_take (i := 37) (oi := ?Ao37) (v := ?Av37) ?Ah37 ?Aa37 ?Ab37 ?Ac37 (fun _ _ _ h => h) (Or.inl ⟨?Ae37, ?Ay37⟩) (by assumption) ?Ar37
    case Ah37 => simp only [List.getElem?_toArray, List.getElem?_cons_zero, List.getElem?_cons_succ]; rfl
    case Aa37 => kernel_rfl
    case Ab37 => kernel_rfl
    case Ac37 => kernel_rfl
    case Ae37 => rfl
    case Ay37 => first | (intro w hSw; (try dsimp only at hSw); go_simp; done) | (intro w hSw; (try dsimp only at hSw); go_simp; with_reducible rfl)
    (try simp only [Act.put, List.setIfInBounds_toArray, List.set_cons_zero, List.set_cons_succ])
    refine wpAnyH_take (i := 38) (oi := ?Ao38) (v := ?Av38) ?Ah38 ?Aa38 ?Ab38 ?Ac38 (fun _ _ _ h => h) (Or.inl ⟨?Ae38, ?Ay38⟩) (by assumption) ?Ar38
    case Ah38 => simp only [List.getElem?_toArray, List.getElem?_cons_zero, List.getElem?_cons_succ]; rfl
    case Aa38 => kernel_rfl
    case Ab38 => kernel_rfl
    case Ac38 => kernel_rfl
    case Ae38 => rfl
    case Ay38 => first | (intro w hSw; (try dsimp only at hSw); go_simp; done) | (intro w hSw; (try dsimp only at hSw); go_simp; with_reducible rfl)
    (try simp only [Act.put, List.setIfInBounds_toArray, List.set_cons_zero, List.set_cons_succ])
    refine wpAnyH_ready (rs := [39]) (by kernel_rfl) (by simp) ?_
    refine AllReadyH.cons (o := ?Ao39) ?Ah39 (fun K hK => ?Ar39) AllReadyH.nil
    case Ah39 => simp only [List.getElem?_toArray, List.getElem?_cons_zero, List.getElem?_cons_succ]; rfl
    go_simp
    (go_at_call 15; go_loud (refine (block_Len.calls _ _ [kz, kz] _ _ [⟨1, ko⟩] 2 _ (Kd.V_reads' S2.kf.d0).2.2 (Kd.V_reads' S2.kf.d0).2.1 (Kd.V_reads' S2.kf.d1).2.2 (Kd.V_reads' S2.kf.d1).2.1 k10).mono ?_; rintro e w15 ⟨rfl, hb⟩; have S3 := S2.step hb; clear hb))
    refine hK.out _ _ ?_ (fun hHeld2 => ?_)
    · exact S3
    clear hK K hHeld
    have hHeld := hHeld2
    clear hHeld2
    (try simp only [Act.put, List.setIfInBounds_toArray, List.set_cons_zero, List.set_cons_succ])
    refine wpAnyH_take (i := 40) (oi := ?Ao40) (v := ?Av40) ?Ah40 ?Aa40 ?Ab40 ?Ac40 (fun _ _ _ h => h) (Or.inl ⟨?Ae40, ?Ay40⟩) (by assumption) ?Ar40
    case Ah40 => simp only [List.getElem?_toArray, List.getElem?_cons_zero, List.getElem?_cons_succ]; rfl
    case Aa40 => kernel_rfl
    case Ab40 => kernel_rfl
    case Ac40 => kernel_rfl
    case Ae40 => rfl
    case Ay40 => first | (intro w hSw; (try dsimp only at hSw); go_simp; done) | (intro w hSw; (try dsimp only at hSw); go_simp; with_reducible rfl)
    (try simp only [Act.put, List.setIfInBounds_toArray, List.set_cons_zero, List.set_cons_succ])
    refine wpAnyH_take (i := 41) (oi := ?Ao41) (v := ?Av41) ?Ah41 ?Aa41 ?Ab41 ?Ac41 (fun _ _ _ h => h) (Or.inl ⟨?Ae41, ?Ay41⟩) (by assumption) ?Ar41
    case Ah41 => simp only [List.getElem?_toArray, List.getElem?_cons_zero, List.getElem?_cons_succ]; rfl
    case Aa41 => kernel_rfl
    case Ab41 => kernel_rfl
    case Ac41 => kernel_rfl
    case Ae41 => rfl
    case Ay41 => first | (intro w hSw; (try dsimp only at hSw); go_simp; done) | (intro w hSw; (try dsimp only at hSw); go_simp; with_reducible rfl)
    (try simp only [Act.put, List.setIfInBounds_toArray, List.set_cons_zero, List.set_cons_succ])
    refine wpAnyH_take (i := 42) (oi := ?Ao42) (v := ?Av42) ?Ah42 ?Aa42 ?Ab42 ?Ac42 (fun _ _ _ h => h) (Or.inl ⟨?Ae42, ?Ay42⟩) (by assumption) ?Ar42
    case Ah42 => simp only [List.getElem?_toArray, List.getElem?_cons_zero, List.getElem?_cons_succ]; rfl
    case Aa42 => kernel_rfl
    case Ab42 => kernel_rfl
    case Ac42 => kernel_rfl
    case Ae42 => rfl
    case Ay42 => first | (intro w hSw; (try dsimp only at hSw); go_simp; done) | (intro w hSw; (try dsimp only at hSw); go_simp; with_reducible rfl)
    (try simp only [Act.put, List.setIfInBounds_toArray, List.set_cons_zero, List.set_cons_succ])
    refine wpAnyH_take (i := 43) (oi := ?Ao43) (v := ?Av43) ?Ah43 ?Aa43 ?Ab43 ?Ac43 (fun _ _ _ h => h) (Or.inl ⟨?Ae43, ?Ay43⟩) (by assumption) ?Ar43
    case Ah43 => simp only [List.getElem?_toArray, List.getElem?_cons_zero, List.getElem?_cons_succ]; rfl
    case Aa43 => kernel_rfl
    case Ab43 => kernel_rfl
    case Ac43 => kernel_rfl
    case Ae43 => rfl
    case Ay43 => first | (intro w hSw; (try dsimp only at hSw); go_simp; done) | (intro w hSw; (try dsimp only at hSw); go_simp; with_reducible rfl)
    (try simp only [Act.put, List.setIfInBounds_toArray, List.set_cons_zero, List.set_cons_succ])
    refine wpAnyH_ready (rs := [44]) (by kernel_rfl) (by simp) ?_
    refine AllReadyH.cons (o := ?Ao44) ?Ah44 (fun K hK => ?Ar44) AllReadyH.nil
    case Ah44 => simp only [List.getElem?_toArray, List.getElem?_cons_zero, List.getElem?_cons_succ]; rfl
    go_simp
    (go_at_call 13; go_loud (refine (block_Right.calls 20 _ _ [kz, kz] _ _ [⟨1, ko⟩] true _ (Kd.V_reads' S3.kf.d0).2.2 (Kd.V_reads' S3.kf.d0).2.1 (Kd.V_reads' S3.kf.d1).2.2 (Kd.V_reads' S3.kf.d1).2.1 k11).mono ?_; rintro e w16 ⟨rfl, hb⟩; have S4 := S3.step hb; clear hb))
    refine hK.out _ _ ?_ (fun hHeld2 => ?_)
    · exact S4
    clear hK K hHeld
    have hHeld := hHeld2
    clear hHeld2
    (try simp only [Act.put, List.setIfInBounds_toArray, List.set_cons_zero, List.set_cons_succ])
    refine wpAnyH_take (i := 45) (oi := ?Ao45) (v := ?Av45) ?Ah45 ?Aa45 ?Ab45 ?Ac45 (fun _ _ _ h => h) (Or.inl ⟨?Ae45, ?Ay45⟩) (by assumption) ?Ar45
    case Ah45 => simp only [List.getElem?_toArray, List.getElem?_cons_zero, List.getElem?_cons_succ]; rfl
    case Aa45 => kernel_rfl
    case Ab45 => kernel_rfl
    case Ac45 => kernel_rfl
    case Ae45 => rfl
    case Ay45 => first | (intro w hSw; (try dsimp only at hSw); go_simp; done) | (intro w hSw; (try dsimp only at hSw); go_simp; with_reducible rfl)
    (try simp only [Act.put, List.setIfInBounds_toArray, List.set_cons_zero, List.set_cons_succ])
    refine wpAnyH_take (i := 46) (oi := ?Ao46) (v := ?Av46) ?Ah46 ?Aa46 ?Ab46 ?Ac46 (fun _ _ _ h => h) (Or.inl ⟨?Ae46, ?Ay46⟩) (by assumption) ?Ar46
    case Ah46 => simp only [List.getElem?_toArray, List.getElem?_cons_zero, List.getElem?_cons_succ]; rfl
    case Aa46 => kernel_rfl
    case Ab46 => kernel_rfl
    case Ac46 => kernel_rfl
    case Ae46 => rfl
    case Ay46 => first | (intro w hSw; (try dsimp only at hSw); go_simp; done) | (intro w hSw; (try dsimp only at hSw); go_simp; with_reducible rfl)
    (try simp only [Act.put, List.setIfInBounds_toArray, List.set_cons_zero, List.set_cons_succ])
    refine wpAnyH_done (by kernel_rfl) ?_ _
    refine NoPanic.normal ?_
    have HS := Aside0.mk S4
    clear S0 S2 S3 S4 r1 r2 r3 r4 r5 r6 hHeld
    go_wp2
    go_ret
    exact ⟨rfl, HS.out.kf.below⟩
  · skip
    have KK : Aside0 (KF w g1 (.slice A2 2 c2) (.slice A3 1 c3) ((w4.setCell ⟨g1, 0, none⟩ (.slice A2 2 c2)).setCell ⟨g1, 1, none⟩ (.slice A3 1 c3))) := ⟨⟨below_set (below_set HB4.out hg1) hg1, blk_put (cs := #[.slice A2 2 c2, .slice A1 0 c1]) (blk_put (cs := #[.slice A0 2 c0, .slice A1 0 c1]) BX4.out 0 _ rfl) 1 _ rfl,
      Kd.V_far (p := ⟨g1, 1, none⟩) (Kd.V_far (p := ⟨g1, 0, none⟩) (Kd.V_lower (Kd.V_mono (ok' := fun k => k ≠ g1) D2.out (fun k hk => by have := HLT.out; omega)) (Nat.zero_le _)) (fun _ hk => hk) _) (fun _ hk => hk) _,
      Kd.V_far (p := ⟨g1, 1, none⟩) (Kd.V_far (p := ⟨g1, 0, none⟩) (Kd.V_lower (Kd.V_mono (ok' := fun k => k ≠ g1) (Kd.S_V (base' := 0) D3.out) (fun k hk => by have := HLT.out; omega)) (Nat.zero_le _)) (fun _ hk => hk) _) (fun _ hk => hk) _⟩⟩
    clear D2 D3 HB4 HLT BX4 cf0 cf1 cd0 cd1 cc0 cc1 HB2 HO HRE cb0 cb1 BX D0 D1 HBA
    have kb := KK.out.box
    have kb0 := blk_cell kb 0
    have kb1 := blk_cell kb 1
    simp only [List.getElem?_toArray, List.getElem?_cons_zero, List.getElem?_cons_succ] at kb0 kb1
    clear kb
    go_wp2_with (go_at_call 11; refine (block_Read.calls 20 _ _ [kz, kz] _ _ [⟨1, ko⟩] 1 ko 0 _ (Kd.V_reads' KK.out.d0).2.2 (Kd.V_reads' KK.out.d0).2.1 (Kd.V_reads' KK.out.d1).2.2 (Kd.V_reads' KK.out.d1).2.1 k4).mono ?_; rintro e w6 ⟨v4, rfl, hv, hb⟩; refine hold ?_)
    unfold Held
    obtain ⟨A4, c4, rfl⟩ := Kd.R_slice hv
    have V4 : Aside0 (BV w6 (.slice A4 64 c4) ko) := ⟨Kd.R_V hv⟩
    have K6 := Aside0.mk (KK.out.step hb)
    clear hv hb kb0 kb1 KK
    have kb := K6.out.box
    have kb0 := blk_cell kb 0
    have kb1 := blk_cell kb 1
    simp only [List.getElem?_toArray, List.getElem?_cons_zero, List.getElem?_cons_succ] at kb0 kb1
    clear kb
    have hb7 := Aside0.mk (below_alloc (Below.refl w6.heap.size w6) (.cells #[.int .i64 3] 3))
    have hb8 := Aside0.mk (blk_new w6 (.cells #[.int .i64 3] 3))
    go_wp2_with (go_at_call 23; refine (block_Crash.calls _ _ [kz, kz] _ _ [⟨1, ko⟩] _ _ [3] [kz, kc] [] _ (Kd.C_below (Kd.V_reads' K6.out.d0).2.2 hb7.out) (Kd.V_reads' K6.out.d0).2.1 (Kd.C_below (Kd.V_reads' K6.out.d1).2.2 hb7.out) (Kd.V_reads' K6.out.d1).2.1 (C_one hb8.out) (Nat.le_refl 1) k5).mono ?_; rintro e w8 ⟨va, vb, rfl, hva, hvb, hb⟩; refine hold ?_)
    unfold Held
    obtain ⟨Aa, ca, rfl⟩ := Kd.V_slice hva
    obtain ⟨Ab, cb, rfl⟩ := Kd.V_slice hvb
    have HVA := Aside0.mk hva
    have HVB := Aside0.mk hvb
    have hb9 := below_step hb7.out hb
    have N1 := Aside0.mk (K6.out.step hb9)
    have N2 : Aside0 (BV w8 (.slice A4 64 c4) ko) := ⟨Kd.V_below V4.out hb9⟩
    clear hva hvb hb hb9 hb7 hb8 kb0 kb1 K6 V4
    go_wp2_with (go_at_call 11; refine (block_Read.calls 20 _ _ [kz, kc] _ _ [] 1 kc 0 _ (Kd.V_reads' HVA.out).2.2 (Kd.V_reads' HVA.out).2.1 (Kd.V_reads' HVB.out).2.2 (Kd.V_reads' HVB.out).2.1 k6).mono ?_; rintro e w9 ⟨v6, rfl, hv, hb⟩; refine hold ?_)
    unfold Held
    obtain ⟨g6, c6, rfl, _⟩ := Kd.R_form hv (by decide)
    have V6 : Aside0 (BV w9 (.slice (some ⟨g6, 0, none⟩) 64 c6) kc) := ⟨Kd.R_V hv⟩
    have K9 := Aside0.mk (N1.out.step hb)
    have V4 : Aside0 (BV w9 (.slice A4 64 c4) ko) := ⟨Kd.V_below N2.out hb⟩
    clear hv hb N1 N2 HVA HVB
    have kb := K9.out.box
    have kb0 := blk_cell kb 0
    have kb1 := blk_cell kb 1
    simp only [List.getElem?_toArray, List.getElem?_cons_zero, List.getElem?_cons_succ] at kb0 kb1
    clear kb
    go_wp2_with (go_at_call 21; refine (block_Sync.calls _ _ [kz, kz] _ _ [⟨1, ko⟩] [kz, ko] [] _ (Kd.V_reads' K9.out.d0).2.2 (Kd.V_reads' K9.out.d0).2.1 (Kd.V_reads' K9.out.d1).2.2 (Kd.V_reads' K9.out.d1).2.1 k7).mono ?_; rintro e w10 ⟨va, vb, rfl, hva, hvb, hb⟩; refine hold ?_)
    unfold Held
    obtain ⟨Ac, cc, rfl⟩ := Kd.V_slice hva
    obtain ⟨Ad, cd, rfl⟩ := Kd.V_slice hvb
    have HVA := Aside0.mk hva
    have HVB := Aside0.mk hvb
    have N1 := Aside0.mk (K9.out.step hb)
    have N2 : Aside0 (BV w10 (.slice A4 64 c4) ko) := ⟨Kd.V_below V4.out hb⟩
    have N3 : Aside0 (BV w10 (.slice (some ⟨g6, 0, none⟩) 64 c6) kc) := ⟨Kd.V_below V6.out hb⟩
    clear hva hvb hb kb0 kb1 K9 V4 V6
    go_wp2_with (go_at_call 23; refine (block_Crash.calls _ _ [kz, ko] _ _ [] none 0 [] [kz, ko] [] _ (Kd.V_reads' HVA.out).2.2 (Kd.V_reads' HVA.out).2.1 (Kd.V_reads' HVB.out).2.2 (Kd.V_reads' HVB.out).2.1 (Kd.C_nil _ _) (Nat.le_refl 0) k8).mono ?_; rintro e w11 ⟨va, vb, rfl, hva, hvb, hb⟩; refine hold ?_)
    unfold Held
    obtain ⟨Ae, ce, rfl⟩ := Kd.V_slice hva
    obtain ⟨Af, cf, rfl⟩ := Kd.V_slice hvb
    have HVC := Aside0.mk hva
    have HVD := Aside0.mk hvb
    have K11 := Aside0.mk (N1.out.step hb)
    have M2 : Aside0 (BV w11 (.slice A4 64 c4) ko) := ⟨Kd.V_below N2.out hb⟩
    have M3 : Aside0 (BV w11 (.slice (some ⟨g6, 0, none⟩) 64 c6) kc) := ⟨Kd.V_below N3.out hb⟩
    clear hva hvb hb N1 N2 N3 HVA HVB
    go_wp2_with (go_at_call 11; refine (block_Read.calls 20 _ _ [kz, ko] _ _ [] 1 ko 0 _ (Kd.V_reads' HVC.out).2.2 (Kd.V_reads' HVC.out).2.1 (Kd.V_reads' HVD.out).2.2 (Kd.V_reads' HVD.out).2.1 k9).mono ?_; rintro e w12 ⟨v8, rfl, hv, hb⟩; refine hold ?_)
    unfold Held
    obtain ⟨A8, c8, rfl⟩ := Kd.R_slice hv
    have V8 : Aside0 (BV w12 (.slice A8 64 c8) ko) := ⟨Kd.R_V hv⟩
    have K12 := Aside0.mk (K11.out.step hb)
    have V4 : Aside0 (BV w12 (.slice A4 64 c4) ko) := ⟨Kd.V_below M2.out hb⟩
    have V6 : Aside0 (BV w12 (.slice (some ⟨g6, 0, none⟩) 64 c6) kc) := ⟨Kd.V_below M3.out hb⟩
    clear hv hb K11 M2 M3 HVC HVD
    have HKS := Aside0.mk (KS.mk K12.out V4.out V6.out V8.out)
    clear K12 V4 V6 V8
    have S0 : KS w g1 (.slice A2 2 c2) (.slice A3 1 c3) (.slice A4 64 c4) (.slice (some ⟨g6, 0, none⟩) 64 c6) (.slice A8 64 c8) w12.drew := HKS.out.step (below_drew (Below.refl _ _))
    have r1 : ∀ W, KS w g1 (.slice A2 2 c2) (.slice A3 1 c3) (.slice A4 64 c4) (.slice (some ⟨g6, 0, none⟩) 64 c6) (.slice A8 64 c8) W → (convert 28 9 (.slice A4 64 c4)).run Try.prog W = .ok (.string (strOfNums ko)) W := fun W h => u8_string h.b4
    have r2 : ∀ W, KS w g1 (.slice A2 2 c2) (.slice A3 1 c3) (.slice A4 64 c4) (.slice (some ⟨g6, 0, none⟩) 64 c6) (.slice A8 64 c8) W → (convert 28 9 (.slice A8 64 c8)).run Try.prog W = .ok (.string (strOfNums ko)) W := fun W h => u8_string h.b8
    have r3 : ∀ W, KS w g1 (.slice A2 2 c2) (.slice A3 1 c3) (.slice A4 64 c4) (.slice (some ⟨g6, 0, none⟩) 64 c6) (.slice A8 64 c8) W → W.cell? ⟨g6, 2, none⟩ = some (.int .u8 1) := fun W h => (ks_at h).1
    have r4 : ∀ W, KS w g1 (.slice A2 2 c2) (.slice A3 1 c3) (.slice A4 64 c4) (.slice (some ⟨g6, 0, none⟩) 64 c6) (.slice A8 64 c8) W → W.cell? ⟨g6, 3, none⟩ = some (.int .u8 0) := fun W h => (ks_at h).2
    have r5 : ∀ W, KS w g1 (.slice A2 2 c2) (.slice A3 1 c3) (.slice A4 64 c4) (.slice (some ⟨g6, 0, none⟩) 64 c6) (.slice A8 64 c8) W → W.cell? ⟨g1, 0, none⟩ = some (.slice A2 2 c2) := fun W h => (ks_box h).1
    have r6 : ∀ W, KS w g1 (.slice A2 2 c2) (.slice A3 1 c3) (.slice A4 64 c4) (.slice (some ⟨g6, 0, none⟩) 64 c6) (.slice A8 64 c8) W → W.cell? ⟨g1, 1, none⟩ = some (.slice A3 1 c3) := fun W h => (ks_box h).2
    go_wp2
    simp only [klen.2.1, klen.2.2]
    refine wp_region_noPanic ?_
    refine wp_region_held_drew (S := (KS w g1 (.slice A2 2 c2) (.slice A3 1 c3) (.slice A4 64 c4) (.slice (some ⟨g6, 0, none⟩) 64 c6) (.slice A8 64 c8))) (by kernel_rfl) S0 (fun hHeld => ?_)
    refine wpAnyH_take (i := 0) (oi := ?Bo0) (v := ?Bv0) ?Bh0 ?Ba0 ?Bb0 ?Bc0 (fun _ _ _ h => h) (Or.inl ⟨?Be0, ?By0⟩) (by assumption) ?Br0
    case Bh0 => simp only [List.getElem?_toArray, List.getElem?_cons_zero, List.getElem?_cons_succ]; rfl
    case Ba0 => kernel_rfl
    case Bb0 => kernel_rfl
    case Bc0 => kernel_rfl
    case Be0 => rfl
    case By0 => first | (intro w hSw; (try dsimp only at hSw); go_simp; done) | (intro w hSw; (try dsimp only at hSw); go_simp; with_reducible rfl)
    (try simp only [Act.put, List.setIfInBounds_toArray, List.set_cons_zero, List.set_cons_succ])
    refine wpAnyH_take (i := 1) (oi := ?Bo1) (v := ?Bv1) ?Bh1 ?Ba1 ?Bb1 ?Bc1 (fun _ _ _ h => h) (Or.inl ⟨?Be1, ?By1⟩) (by assumption) ?Br1
    case Bh1 => simp only [List.getElem?_toArray, List.getElem?_cons_zero, List.getElem?_cons_succ]; rfl
    case Ba1 => kernel_rfl
    case Bb1 => kernel_rfl
    case Bc1 => kernel_rfl
    case Be1 => rfl
    case By1 => first | (intro w hSw; (try dsimp only at hSw); go_simp; done) | (intro w hSw; (try dsimp only at hSw); go_simp; with_reducible rfl)
    (try simp only [Act.put, List.setIfInBounds_toArray, List.set_cons_zero, List.set_cons_succ])
    refine wpAnyH_take (i := 2) (oi := ?Bo2) (v := ?Bv2) ?Bh2 ?Ba2 ?Bb2 ?Bc2 (fun _ _ _ h => h) (Or.inl ⟨?Be2, ?By2⟩) (by assumption) ?Br2
    case Bh2 => simp only [List.getElem?_toArray, List.getElem?_cons_zero, List.getElem?_cons_succ]; rfl
    case Ba2 => kernel_rfl
    case Bb2 => kernel_rfl
    case Bc2 => kernel_rfl
    case Be2 => rfl
    case By2 => first | (intro w hSw; (try dsimp only at hSw); go_simp; done) | (intro w hSw; (try dsimp only at hSw); go_simp; with_reducible rfl)
    (try simp only [Act.put, List.setIfInBounds_toArray, List.set_cons_zero, List.set_cons_succ])
    refine wpAnyH_take (i := 3) (oi := ?Bo3) (v := ?Bv3) ?Bh3 ?Ba3 ?Bb3 ?Bc3 (fun _ _ _ h => h) (Or.inl ⟨?Be3, ?By3⟩) (by assumption) ?Br3
    case Bh3 => simp only [List.getElem?_toArray, List.getElem?_cons_zero, List.getElem?_cons_succ]; rfl
    case Ba3 => kernel_rfl
    case Bb3 => kernel_rfl
    case Bc3 => kernel_rfl
    case Be3 => rfl
    case By3 => first | (intro w hSw; (try dsimp only at hSw); go_simp; done) | (intro w hSw; (try dsimp only at hSw); go_simp; with_reducible rfl)
    (try simp only [Act.put, List.setIfInBounds_toArray, List.set_cons_zero, List.set_cons_succ])
    refine wpAnyH_take (i := 4) (oi := ?Bo4) (v := ?Bv4) ?Bh4 ?Ba4 ?Bb4 ?Bc4 (fun _ _ _ h => h) (Or.inl ⟨?Be4, ?By4⟩) (by assumption) ?Br4
    case Bh4 => simp only [List.getElem?_toArray, List.getElem?_cons_zero, List.getElem?_cons_succ]; rfl
    case Ba4 => kernel_rfl
    case Bb4 => kernel_rfl
    case Bc4 => kernel_rfl
    case Be4 => rfl
    case By4 => first | (intro w hSw; (try dsimp only at hSw); go_simp; done) | (intro w hSw; (try dsimp only at hSw); go_simp; with_reducible rfl)
    (try simp only [Act.put, List.setIfInBounds_toArray, List.set_cons_zero, List.set_cons_succ])
    refine wpAnyH_take (i := 5) (oi := ?Bo5) (v := ?Bv5) ?Bh5 ?Ba5 ?Bb5 ?Bc5 (fun _ _ _ h => h) (Or.inl ⟨?Be5, ?By5⟩) (by assumption) ?Br5
    case Bh5 => simp only [List.getElem?_toArray, List.getElem?_cons_zero, List.getElem?_cons_succ]; rfl
    case Ba5 => kernel_rfl
    case Bb5 => kernel_rfl
    case Bc5 => kernel_rfl
    case Be5 => rfl
    case By5 => first | (intro w hSw; (try dsimp only at hSw); go_simp; done) | (intro w hSw; (try dsimp only at hSw); go_simp; with_reducible rfl)
    (try simp only [Act.put, List.setIfInBounds_toArray, List.set_cons_zero, List.set_cons_succ])
    refine wpAnyH_take (i := 6) (oi := ?Bo6) (v := ?Bv6) ?Bh6 ?Ba6 ?Bb6 ?Bc6 (fun _ _ _ h => h) (Or.inl ⟨?Be6, ?By6⟩) (by assumption) ?Br6
    case Bh6 => simp only [List.getElem?_toArray, List.getElem?_cons_zero, List.getElem?_cons_succ]; rfl
    case Ba6 => kernel_rfl
    case Bb6 => kernel_rfl
    case Bc6 => kernel_rfl
    case Be6 => rfl
    case By6 => first | (intro w hSw; (try dsimp only at hSw); go_simp; done) | (intro w hSw; (try dsimp only at hSw); go_simp; with_reducible rfl)
    (try simp only [Act.put, List.setIfInBounds_toArray, List.set_cons_zero, List.set_cons_succ])
    refine wpAnyH_take (i := 7) (oi := ?Bo7) (v := ?Bv7) ?Bh7 ?Ba7 ?Bb7 ?Bc7 (fun _ _ _ h => h) (Or.inl ⟨?Be7, ?By7⟩) (by assumption) ?Br7
    case Bh7 => simp only [List.getElem?_toArray, List.getElem?_cons_zero, List.getElem?_cons_succ]; rfl
    case Ba7 => kernel_rfl
    case Bb7 => kernel_rfl
    case Bc7 => kernel_rfl
    case Be7 => rfl
    case By7 => first | (intro w hSw; (try dsimp only at hSw); go_simp; done) | (intro w hSw; (try dsimp only at hSw); go_simp; with_reducible rfl)
    (try simp only [Act.put, List.setIfInBounds_toArray, List.set_cons_zero, List.set_cons_succ])
    refine wpAnyH_take (i := 8) (oi := ?Bo8) (v := ?Bv8) ?Bh8 ?Ba8 ?Bb8 ?Bc8 (fun _ _ _ h => h) (Or.inl ⟨?Be8, ?By8⟩) (by assumption) ?Br8
    case Bh8 => simp only [List.getElem?_toArray, List.getElem?_cons_zero, List.getElem?_cons_succ]; rfl
    case Ba8 => kernel_rfl
    case Bb8 => kernel_rfl
    case Bc8 => kernel_rfl
    case Be8 => rfl
    case By8 => first | (intro w hSw; (try dsimp only at hSw); go_simp; done) | (intro w hSw; (try dsimp only at hSw); go_simp; with_reducible rfl)
    (try simp only [Act.put, List.setIfInBounds_toArray, List.set_cons_zero, List.set_cons_succ])
    refine wpAnyH_ready (rs := [9]) (by kernel_rfl) (by simp) ?_
    refine AllReadyH.cons (o := ?Bo9) ?Bh9 (fun K hK => ?Br9) AllReadyH.nil
    case Bh9 => simp only [List.getElem?_toArray, List.getElem?_cons_zero, List.getElem?_cons_succ]; rfl
    go_simp
    (go_at_call 24; go_loud (refine (rubricklaw22_ones.calls 100 1 _ _ k2).mono ?_; rintro e w14 ⟨vo, rfl, ho, hb⟩; obtain ⟨Ao, co, rfl⟩ := Kd.R_slice ho; have S2 := S0.step hb; have hcv48 : (convert 28 9 (.slice Ao ko.length co)).run Try.prog w14 = .ok (.string (strOfNums ko)) w14 := u8_string (Kd.R_V (base' := 0) ho); clear ho hb))
    refine hK.out _ _ ?_ (fun hHeld2 => ?_)
    · exact S2
    clear hK K hHeld
    have hHeld := hHeld2
    clear hHeld2
    (try simp only [Act.put, List.setIfInBounds_toArray, List.set_cons_zero, List.set_cons_succ])
    refine wpAnyH_ready (rs := [10]) (by kernel_rfl) (by simp) ?_
    refine AllReadyH.cons (o := ?Bo10) ?Bh10 (fun K hK => ?Br10) AllReadyH.nil
    case Bh10 => simp only [List.getElem?_toArray, List.getElem?_cons_zero, List.getElem?_cons_succ]; rfl
    go_simp
    refine hK.out _ _ ?_ (fun hHeld2 => ?_)
    · exact S2
    clear hK K hHeld
    have hHeld := hHeld2
    clear hHeld2
    (try simp only [Act.put, List.setIfInBounds_toArray, List.set_cons_zero, List.set_cons_succ])
    refine wpAnyH_take (i := 11) (oi := ?Bo11) (v := ?Bv11) ?Bh11 ?Ba11 ?Bb11 ?Bc11 (fun _ _ _ h => h) (Or.inl ⟨?Be11, ?By11⟩) (by assumption) ?Br11
    case Bh11 => simp only [List.getElem?_toArray, List.getElem?_cons_zero, List.getElem?_cons_succ]; rfl
    case Ba11 => kernel_rfl
    case Bb11 => kernel_rfl
    case Bc11 => kernel_rfl
    case Be11 => rfl
    case By11 => first | (intro w hSw; (try dsimp only at hSw); go_simp; done) | (intro w hSw; (try dsimp only at hSw); go_simp; with_reducible rfl)
    (try simp only [Act.put, List.setIfInBounds_toArray, List.set_cons_zero, List.set_cons_succ])
    refine wpAnyH_take (i := 12) (oi := ?Bo12) (v := ?Bv12) ?Bh12 ?Ba12 ?Bb12 ?Bc12 (fun _ _ _ h => h) (Or.inl ⟨?Be12, ?By12⟩) (by assumption) ?Br12
    case Bh12 => simp only [List.getElem?_toArray, List.getElem?_cons_zero, List.getElem?_cons_succ]; rfl
    case Ba12 => kernel_rfl
    case Bb12 => kernel_rfl
    case Bc12 => kernel_rfl
    case Be12 => rfl
    case By12 => first | (intro w hSw; (try dsimp only at hSw); go_simp; done) | (intro w hSw; (try dsimp only at hSw); go_simp; with_reducible rfl)
    (try simp only [Act.put, List.setIfInBounds_toArray, List.set_cons_zero, List.set_cons_succ])
    refine wpAnyH_take (i := 13) (oi := ?Bo13) (v := ?Bv13) ?Bh13 ?Ba13 ?Bb13 ?Bc13 (fun _ _ _ h => h) (Or.inl ⟨?Be13, ?By13⟩) (by assumption) ?Br13
    case Bh13 => simp only [List.getElem?_toArray, List.getElem?_cons_zero, List.getElem?_cons_succ]; rfl
    case Ba13 => kernel_rfl
    case Bb13 => kernel_rfl
    case Bc13 => kernel_rfl
    case Be13 => rfl
    case By13 => first | (intro w hSw; (try dsimp only at hSw); go_simp; done) | (intro w hSw; (try dsimp only at hSw); go_simp; with_reducible rfl)
    (try simp only [Act.put, List.setIfInBounds_toArray, List.set_cons_zero, List.set_cons_succ])
    refine wpAnyH_take (i := 14) (oi := ?Bo14) (v := ?Bv14) ?Bh14 ?Ba14 ?Bb14 ?Bc14 (fun _ _ _ h => h) (Or.inl ⟨?Be14, ?By14⟩) (by assumption) ?Br14
    case Bh14 => simp only [List.getElem?_toArray, List.getElem?_cons_zero, List.getElem?_cons_succ]; rfl
    case Ba14 => kernel_rfl
    case Bb14 => kernel_rfl
    case Bc14 => kernel_rfl
    case Be14 => rfl
    case By14 => first | (intro w hSw; (try dsimp only at hSw); go_simp; done) | (intro w hSw; (try dsimp only at hSw); go_simp; with_reducible rfl)
    (try simp only [Act.put, List.setIfInBounds_toArray, List.set_cons_zero, List.set_cons_succ])
    refine wpAnyH_take (i := 15) (oi := ?Bo15) (v := ?Bv15) ?Bh15 ?Ba15 ?Bb15 ?Bc15 (fun _ _ _ h => h) (Or.inl ⟨?Be15, ?By15⟩) (by assumption) ?Br15
    case Bh15 => simp only [List.getElem?_toArray, List.getElem?_cons_zero, List.getElem?_cons_succ]; rfl
    case Ba15 => kernel_rfl
    case Bb15 => kernel_rfl
    case Bc15 => kernel_rfl
    case Be15 => rfl
    case By15 => first | (intro w hSw; (try dsimp only at hSw); go_simp; done) | (intro w hSw; (try dsimp only at hSw); go_simp; with_reducible rfl)
    (try simp only [Act.put, List.setIfInBounds_toArray, List.set_cons_zero, List.set_cons_succ])
    refine wpAnyH_take (i := 16) (oi := ?Bo16) (v := ?Bv16) ?Bh16 ?Ba16 ?Bb16 ?Bc16 (fun _ _ _ h => h) (Or.inl ⟨?Be16, ?By16⟩) (by assumption) ?Br16
    case Bh16 => simp only [List.getElem?_toArray, List.getElem?_cons_zero, List.getElem?_cons_succ]; rfl
    case Ba16 => kernel_rfl
    case Bb16 => kernel_rfl
    case Bc16 => kernel_rfl
    case Be16 => rfl
    case By16 => first | (intro w hSw; (try dsimp only at hSw); go_simp; done) | (intro w hSw; (try dsimp only at hSw); go_simp; with_reducible rfl)
    (try simp only [Act.put, List.setIfInBounds_toArray, List.set_cons_zero, List.set_cons_succ])
    refine wpAnyH_take (i := 17) (oi := ?Bo17) (v := ?Bv17) ?Bh17 ?Ba17 ?Bb17 ?Bc17 (fun _ _ _ h => h) (Or.inl ⟨?Be17, ?By17⟩) (by assumption) ?Br17
    case Bh17 => simp only [List.getElem?_toArray, List.getElem?_cons_zero, List.getElem?_cons_succ]; rfl
    case Ba17 => kernel_rfl
    case Bb17 => kernel_rfl
    case Bc17 => kernel_rfl
    case Be17 => rfl
    case By17 => first | (intro w hSw; (try dsimp only at hSw); go_simp; done) | (intro w hSw; (try dsimp only at hSw); go_simp; with_reducible rfl)
    (try simp only [Act.put, List.setIfInBounds_toArray, List.set_cons_zero, List.set_cons_succ])
    refine wpAnyH_take (i := 18) (oi := ?Bo18) (v := ?Bv18) ?Bh18 ?Ba18 ?Bb18 ?Bc18 (fun _ _ _ h => h) (Or.inl ⟨?Be18, ?By18⟩) (by assumption) ?Br18
    case Bh18 => simp only [List.getElem?_toArray, List.getElem?_cons_zero, List.getElem?_cons_succ]; rfl
    case Ba18 => kernel_rfl
    case Bb18 => kernel_rfl
    case Bc18 => kernel_rfl
    case Be18 => rfl
    case By18 => first | (intro w hSw; (try dsimp only at hSw); go_simp; done) | (intro w hSw; (try dsimp only at hSw); go_simp; with_reducible rfl)
    (try simp only [Act.put, List.setIfInBounds_toArray, List.set_cons_zero, List.set_cons_succ])
    refine wpAnyH_take (i := 19) (oi := ?Bo19) (v := ?Bv19) ?Bh19 ?Ba19 ?Bb19 ?Bc19 (fun _ _ _ h => h) (Or.inl ⟨?Be19, ?By19⟩) (by assumption) ?Br19
    case Bh19 => simp only [List.getElem?_toArray, List.getElem?_cons_zero, List.getElem?_cons_succ]; rfl
    case Ba19 => kernel_rfl
    case Bb19 => kernel_rfl
    case Bc19 => kernel_rfl
    case Be19 => rfl
    case By19 => first | (intro w hSw; (try dsimp only at hSw); go_simp; done) | (intro w hSw; (try dsimp only at hSw); go_simp; with_reducible rfl)
    (try simp only [Act.put, List.setIfInBounds_toArray, List.set_cons_zero, List.set_cons_succ])
    refine wpAnyH_take (i := 20) (oi := ?Bo20) (v := ?Bv20) ?Bh20 ?Ba20 ?Bb20 ?Bc20 (fun _ _ _ h => h) (Or.inl ⟨?Be20, ?By20⟩) (by assumption) ?Br20
    case Bh20 => simp only [List.getElem?_toArray, List.getElem?_cons_zero, List.getElem?_cons_succ]; rfl
    case Ba20 => kernel_rfl
    case Bb20 => kernel_rfl
    case Bc20 => kernel_rfl
    case Be20 => rfl
    case By20 => first | (intro w hSw; (try dsimp only at hSw); go_simp; done) | (intro w hSw; (try dsimp only at hSw); go_simp; with_reducible rfl)
    (try simp only [Act.put, List.setIfInBounds_toArray, List.set_cons_zero, List.set_cons_succ])
    refine wpAnyH_take (i := 21) (oi := ?Bo21) (v := ?Bv21) ?Bh21 ?Ba21 ?Bb21 ?Bc21 (fun _ _ _ h => h) (Or.inl ⟨?Be21, ?By21⟩) (by assumption) ?Br21
    case Bh21 => simp only [List.getElem?_toArray, List.getElem?_cons_zero, List.getElem?_cons_succ]; rfl
    case Ba21 => kernel_rfl
    case Bb21 => kernel_rfl
    case Bc21 => kernel_rfl
    case Be21 => rfl
    case By21 => first | (intro w hSw; (try dsimp only at hSw); go_simp; done) | (intro w hSw; (try dsimp only at hSw); go_simp; with_reducible rfl)
    (try simp only [Act.put, List.setIfInBounds_toArray, List.set_cons_zero, List.set_cons_succ])
    refine wpAnyH_take (i := 22) (oi := ?Bo22) (v := ?Bv22) ?Bh22 ?Ba22 ?Bb22 ?Bc22 (fun _ _ _ h => h) (Or.inl ⟨?Be22, ?By22⟩) (by assumption) ?Br22
    case Bh22 => simp only [List.getElem?_toArray, List.getElem?_cons_zero, List.getElem?_cons_succ]; rfl
    case Ba22 => kernel_rfl
    case Bb22 => kernel_rfl
    case Bc22 => kernel_rfl
    case Be22 => rfl
    case By22 => first | (intro w hSw; (try dsimp only at hSw); go_simp; done) | (intro w hSw; (try dsimp only at hSw); go_simp; with_reducible rfl)
    (try simp only [Act.put, List.setIfInBounds_toArray, List.set_cons_zero, List.set_cons_succ])
    refine wpAnyH_take (i := 23) (oi := ?Bo23) (v := ?Bv23) ?Bh23 ?Ba23 ?Bb23 ?Bc23 (fun _ _ _ h => h) (Or.inl ⟨?Be23, ?By23⟩) (by assumption) ?Br23
    case Bh23 => simp only [List.getElem?_toArray, List.getElem?_cons_zero, List.getElem?_cons_succ]; rfl
    case Ba23 => kernel_rfl
    case Bb23 => kernel_rfl
    case Bc23 => kernel_rfl
    case Be23 => rfl
    case By23 => first | (intro w hSw; (try dsimp only at hSw); go_simp; done) | (intro w hSw; (try dsimp only at hSw); go_simp; with_reducible rfl)
    (try simp only [Act.put, List.setIfInBounds_toArray, List.set_cons_zero, List.set_cons_succ])
    refine wpAnyH_take (i := 24) (oi := ?Bo24) (v := ?Bv24) ?Bh24 ?Ba24 ?Bb24 ?Bc24 (fun _ _ _ h => h) (Or.inl ⟨?Be24, ?By24⟩) (by assumption) ?Br24
    case Bh24 => simp only [List.getElem?_toArray, List.getElem?_cons_zero, List.getElem?_cons_succ]; rfl
    case Ba24 => kernel_rfl
    case Bb24 => kernel_rfl
    case Bc24 => kernel_rfl
    case Be24 => rfl
    case By24 => first | (intro w hSw; (try dsimp only at hSw); go_simp; done) | (intro w hSw; (try dsimp only at hSw); go_simp; with_reducible rfl)
    (try simp only [Act.put, List.setIfInBounds_toArray, List.set_cons_zero, List.set_cons_succ])
    refine wpAnyH_take (i := 25) (oi := ?Bo25) (v := ?Bv25) ?Bh25 ?Ba25 ?Bb25 ?Bc25 (fun _ _ _ h => h) (Or.inl ⟨?Be25, ?By25⟩) (by assumption) ?Br25
    case Bh25 => simp only [List.getElem?_toArray, List.getElem?_cons_zero, List.getElem?_cons_succ]; rfl
    case Ba25 => kernel_rfl
    case Bb25 => kernel_rfl
    case Bc25 => kernel_rfl
    case Be25 => rfl
    case By25 => first | (intro w hSw; (try dsimp only at hSw); go_simp; done) | (intro w hSw; (try dsimp only at hSw); go_simp; with_reducible rfl)
    (try simp only [Act.put, List.setIfInBounds_toArray, List.set_cons_zero, List.set_cons_succ])
    refine wpAnyH_take (i := 26) (oi := ?Bo26) (v := ?Bv26) ?Bh26 ?Ba26 ?Bb26 ?Bc26 (fun _ _ _ h => h) (Or.inl ⟨?Be26, ?By26⟩) (by assumption) ?Br26
    case Bh26 => simp only [List.getElem?_toArray, List.getElem?_cons_zero, List.getElem?_cons_succ]; rfl
    case Ba26 => kernel_rfl
    case Bb26 => kernel_rfl
    case Bc26 => kernel_rfl
    case Be26 => rfl
    case By26 => first | (intro w hSw; (try dsimp only at hSw); go_simp; done) | (intro w hSw; (try dsimp only at hSw); go_simp; with_reducible rfl)
    (try simp only [Act.put, List.setIfInBounds_toArray, List.set_cons_zero, List.set_cons_succ])
    refine wpAnyH_take (i := 27) (oi := ?Bo27) (v := ?Bv27) ?Bh27 ?Ba27 ?Bb27 ?Bc27 (fun _ _ _ h => h) (Or.inl ⟨?Be27, ?By27⟩) (by assumption) ?Br27
    case Bh27 => simp only [List.getElem?_toArray, List.getElem?_cons_zero, List.getElem?_cons_succ]; rfl
    case Ba27 => kernel_rfl
    case Bb27 => kernel_rfl
    case Bc27 => kernel_rfl
    case Be27 => rfl
    case By27 => first | (intro w hSw; (try dsimp only at hSw); go_simp; done) | (intro w hSw; (try dsimp only at hSw); go_simp; with_reducible rfl)
    (try simp only [Act.put, List.setIfInBounds_toArray, List.set_cons_zero, List.set_cons_succ])
    refine wpAnyH_take (i := 28) (oi := ?Bo28) (v := ?Bv28) ?Bh28 ?Ba28 ?Bb28 ?Bc28 (fun _ _ _ h => h) (Or.inl ⟨?Be28, ?By28⟩) (by assumption) ?Br28
    case Bh28 => simp only [List.getElem?_toArray, List.getElem?_cons_zero, List.getElem?_cons_succ]; rfl
    case Ba28 => kernel_rfl
    case Bb28 => kernel_rfl
    case Bc28 => kernel_rfl
    case Be28 => rfl
    case By28 => first | (intro w hSw; (try dsimp only at hSw); go_simp; done) | (intro w hSw; (try dsimp only at hSw); go_simp; with_reducible rfl)
    (try simp only [Act.put, List.setIfInBounds_toArray, List.set_cons_zero, List.set_cons_succ])
    refine wpAnyH_take (i := 29) (oi := ?Bo29) (v := ?Bv29) ?Bh29 ?Ba29 ?Bb29 ?Bc29 (fun _ _ _ h => h) (Or.inl ⟨?Be29, ?By29⟩) (by assumption) ?Br29
    case Bh29 => simp only [List.getElem?_toArray, List.getElem?_cons_zero, List.getElem?_cons_succ]; rfl
    case Ba29 => kernel_rfl
    case Bb29 => kernel_rfl
    case Bc29 => kernel_rfl
    case Be29 => rfl
    case By29 => first | (intro w hSw; (try dsimp only at hSw); go_simp; done) | (intro w hSw; (try dsimp only at hSw); go_simp; with_reducible rfl)
    (try simp only [Act.put, List.setIfInBounds_toArray, List.set_cons_zero, List.set_cons_succ])
    refine wpAnyH_take (i := 30) (oi := ?Bo30) (v := ?Bv30) ?Bh30 ?Ba30 ?Bb30 ?Bc30 (fun _ _ _ h => h) (Or.inl ⟨?Be30, ?By30⟩) (by assumption) ?Br30
    case Bh30 => simp only [List.getElem?_toArray, List.getElem?_cons_zero, List.getElem?_cons_succ]; rfl
    case Ba30 => kernel_rfl
    case Bb30 => kernel_rfl
    case Bc30 => kernel_rfl
    case Be30 => rfl
    case By30 => first | (intro w hSw; (try dsimp only at hSw); go_simp; done) | (intro w hSw; (try dsimp only at hSw); go_simp; with_reducible rfl)
    (try simp only [Act.put, List.setIfInBounds_toArray, List.set_cons_zero, List.set_cons_succ])
    refine wpAnyH_take (i := 31) (oi := ?Bo31) (v := ?Bv31) ?Bh31 ?Ba31 ?Bb31 ?Bc31 (fun _ _ _ h => h) (Or.inl ⟨?Be31, ?By31⟩) (by assumption) ?Br31
    case Bh31 => simp only [List.getElem?_toArray, List.getElem?_cons_zero, List.getElem?_cons_succ]; rfl
    case Ba31 => kernel_rfl
    case Bb31 => kernel_rfl
    case Bc31 => kernel_rfl
    case Be31 => rfl
    case By31 => first | (intro w hSw; (try dsimp only at hSw); go_simp; done) | (intro w hSw; (try dsimp only at hSw); go_simp; with_reducible rfl)
    (try simp only [Act.put, List.setIfInBounds_toArray, List.set_cons_zero, List.set_cons_succ])
    refine wpAnyH_take (i := 32) (oi := ?Bo32) (v := ?Bv32) ?Bh32 ?Ba32 ?Bb32 ?Bc32 (fun _ _ _ h => h) (Or.inl ⟨?Be32, ?By32⟩) (by assumption) ?Br32
    case Bh32 => simp only [List.getElem?_toArray, List.getElem?_cons_zero, List.getElem?_cons_succ]; rfl
    case Ba32 => kernel_rfl
    case Bb32 => kernel_rfl
    case Bc32 => kernel_rfl
    case Be32 => rfl
    case By32 => first | (intro w hSw; (try dsimp only at hSw); go_simp; done) | (intro w hSw; (try dsimp only at hSw); go_simp; with_reducible rfl)
    (try simp only [Act.put, List.setIfInBounds_toArray, List.set_cons_zero, List.set_cons_succ])
    refine wpAnyH_take (i := 33) (oi := ?Bo33) (v := ?Bv33) ?Bh33 ?Ba33 ?Bb33 ?Bc33 (fun _ _ _ h => h) (Or.inl ⟨?Be33, ?By33⟩) (by assumption) ?Br33
    case Bh33 => simp only [List.getElem?_toArray, List.getElem?_cons_zero, List.getElem?_cons_succ]; rfl
    case Ba33 => kernel_rfl
    case Bb33 => kernel_rfl
    case Bc33 => kernel_rfl
    case Be33 => rfl
    case By33 => first | (intro w hSw; (try dsimp only at hSw); go_simp; done) | (intro w hSw; (try dsimp only at hSw); go_simp; with_reducible rfl)
    (try simp only [Act.put, List.setIfInBounds_toArray, List.set_cons_zero, List.set_cons_succ])
    refine wpAnyH_take (i := 34) (oi := ?Bo34) (v := ?Bv34) ?Bh34 ?Ba34 ?Bb34 ?Bc34 (fun _ _ _ h => h) (Or.inl ⟨?Be34, ?By34⟩) (by assumption) ?Br34
    case Bh34 => simp only [List.getElem?_toArray, List.getElem?_cons_zero, List.getElem?_cons_succ]; rfl
    case Ba34 => kernel_rfl
    case Bb34 => kernel_rfl
    case Bc34 => kernel_rfl
    case Be34 => rfl
    case By34 => first | (intro w hSw; (try dsimp only at hSw); go_simp; done) | (intro w hSw; (try dsimp only at hSw); go_simp; with_reducible rfl)
    (try simp only [Act.put, List.setIfInBounds_toArray, List.set_cons_zero, List.set_cons_succ])
    refine wpAnyH_take (i := 35) (oi := ?Bo35) (v := ?Bv35) ?Bh35 ?Ba35 ?Bb35 ?Bc35 (fun _ _ _ h => h) (Or.inl ⟨?Be35, ?By35⟩) (by assumption) ?Br35
    case Bh35 => simp only [List.getElem?_toArray, List.getElem?_cons_zero, List.getElem?_cons_succ]; rfl
    case Ba35 => kernel_rfl
    case Bb35 => kernel_rfl
    case Bc35 => kernel_rfl
    case Be35 => rfl
    case By35 => first | (intro w hSw; (try dsimp only at hSw); go_simp; done) | (intro w hSw; (try dsimp only at hSw); go_simp; with_reducible rfl)
    (try simp only [Act.put, List.setIfInBounds_toArray, List.set_cons_zero, List.set_cons_succ])
    refine wpAnyH_take (i := 36) (oi := ?Bo36) (v := ?Bv36) ?Bh36 ?Ba36 ?Bb36 ?Bc36 (fun _ _ _ h => h) (Or.inl ⟨?Be36, ?By36⟩) (by assumption) ?Br36
    case Bh36 => simp only [List.getElem?_toArray, List.getElem?_cons_zero, List.getElem?_cons_succ]; rfl
    case Ba36 => kernel_rfl
    case Bb36 => kernel_rfl
    case Bc36 => kernel_rfl
    case Be36 => rfl
    case By36 => first | (intro w hSw; (try dsimp only at hSw); go_simp; done) | (intro w hSw; (try dsimp only at hSw); go_simp; with_reducible rfl)
    (try simp only [Act.put, List.setIfInBounds_toArray, List.set_cons_zero, List.set_cons_succ])
    refine wpAnyH_take (i := 37) (oi := ?Bo37) (v := ?Bv37) ?Bh37 ?Ba37 ?Bb37 ?Bc37 (fun _ _ _ h => h) (Or.inl ⟨?Be37, ?By37⟩) (by assumption) ?Br37
    case Bh37 => simp only [List.getElem?_toArray, List.getElem?_cons_zero, List.getElem?_cons_succ]; rfl
    case Ba37 => kernel_rfl
    case Bb37 => kernel_rfl
    case Bc37 => kernel_rfl
    case Be37 => rfl
    case By37 => first | (intro w hSw; (try dsimp only at hSw); go_simp; done) | (intro w hSw; (try dsimp only at hSw); go_simp; with_reducible rfl)
    (try simp only [Act.put, List.setIfInBounds_toArray, List.set_cons_zero, List.set_cons_succ])
    refine wpAnyH_take (i := 38) (oi := ?Bo38) (v := ?Bv38) ?Bh38 ?Ba38 ?Bb38 ?Bc38 (fun _ _ _ h => h) (Or.inl ⟨?Be38, ?By38⟩) (by assumption) ?Br38
    case Bh38 => simp only [List.getElem?_toArray, List.getElem?_cons_zero, List.getElem?_cons_succ]; rfl
    case Ba38 => kernel_rfl
    case Bb38 => kernel_rfl
    case Bc38 => kernel_rfl
    case Be38 => rfl
    case By38 => first | (intro w hSw; (try dsimp only at hSw); go_simp; done) | (intro w hSw; (try dsimp only at hSw); go_simp; with_reducible rfl)
    (try simp only [Act.put, List.setIfInBounds_toArray, List.set_cons_zero, List.set_cons_succ])
    refine wpAnyH_ready (rs := [39]) (by kernel_rfl) (by simp) ?_
    refine AllReadyH.cons (o := ?Bo39) ?Bh39 (fun K hK => ?Br39) AllReadyH.nil
    case Bh39 => simp only [List.getElem?_toArray, List.getElem?_cons_zero, List.getElem?_cons_succ]; rfl
    go_simp
    (go_at_call 15; go_loud (refine (block_Len.calls _ _ [kz, kz] _ _ [⟨1, ko⟩] 2 _ (Kd.V_reads' S2.kf.d0).2.2 (Kd.V_reads' S2.kf.d0).2.1 (Kd.V_reads' S2.kf.d1).2.2 (Kd.V_reads' S2.kf.d1).2.1 k10).mono ?_; rintro e w15 ⟨rfl, hb⟩; have S3 := S2.step hb; clear hb))
    refine hK.out _ _ ?_ (fun hHeld2 => ?_)
    · exact S3
    clear hK K hHeld
    have hHeld := hHeld2
    clear hHeld2
    (try simp only [Act.put, List.setIfInBounds_toArray, List.set_cons_zero, List.set_cons_succ])
    refine wpAnyH_take (i := 40) (oi := ?Bo40) (v := ?Bv40) ?Bh40 ?Ba40 ?Bb40 ?Bc40 (fun _ _ _ h => h) (Or.inl ⟨?Be40, ?By40⟩) (by assumption) ?Br40
    case Bh40 => simp only [List.getElem?_toArray, List.getElem?_cons_zero, List.getElem?_cons_succ]; rfl
    case Ba40 => kernel_rfl
    case Bb40 => kernel_rfl
    case Bc40 => kernel_rfl
    case Be40 => rfl
    case By40 => first | (intro w hSw; (try dsimp only at hSw); go_simp; done) | (intro w hSw; (try dsimp only at hSw); go_simp; with_reducible rfl)
    (try simp only [Act.put, List.setIfInBounds_toArray, List.set_cons_zero, List.set_cons_succ])
    refine wpAnyH_take (i := 41) (oi := ?Bo41) (v := ?Bv41) ?Bh41 ?Ba41 ?Bb41 ?Bc41 (fun _ _ _ h => h) (Or.inl ⟨?Be41, ?By41⟩) (by assumption) ?Br41
    case Bh41 => simp only [List.getElem?_toArray, List.getElem?_cons_zero, List.getElem?_cons_succ]; rfl
    case Ba41 => kernel_rfl
    case Bb41 => kernel_rfl
    case Bc41 => kernel_rfl
    case Be41 => rfl
    case By41 => first | (intro w hSw; (try dsimp only at hSw); go_simp; done) | (intro w hSw; (try dsimp only at hSw); go_simp; with_reducible rfl)
    (try simp only [Act.put, List.setIfInBounds_toArray, List.set_cons_zero, List.set_cons_succ])
    refine wpAnyH_take (i := 42) (oi := ?Bo42) (v := ?Bv42) ?Bh42 ?Ba42 ?Bb42 ?Bc42 (fun _ _ _ h => h) (Or.inl ⟨?Be42, ?By42⟩) (by assumption) ?Br42
    case Bh42 => simp only [List.getElem?_toArray, List.getElem?_cons_zero, List.getElem?_cons_succ]; rfl
    case Ba42 => kernel_rfl
    case Bb42 => kernel_rfl
    case Bc42 => kernel_rfl
    case Be42 => rfl
    case By42 => first | (intro w hSw; (try dsimp only at hSw); go_simp; done) | (intro w hSw; (try dsimp only at hSw); go_simp; with_reducible rfl)
    (try simp only [Act.put, List.setIfInBounds_toArray, List.set_cons_zero, List.set_cons_succ])
    refine wpAnyH_take (i := 43) (oi := ?Bo43) (v := ?Bv43) ?Bh43 ?Ba43 ?Bb43 ?Bc43 (fun _ _ _ h => h) (Or.inl ⟨?Be43, ?By43⟩) (by assumption) ?Br43
    case Bh43 => simp only [List.getElem?_toArray, List.getElem?_cons_zero, List.getElem?_cons_succ]; rfl
    case Ba43 => kernel_rfl
    case Bb43 => kernel_rfl
    case Bc43 => kernel_rfl
    case Be43 => rfl
    case By43 => first | (intro w hSw; (try dsimp only at hSw); go_simp; done) | (intro w hSw; (try dsimp only at hSw); go_simp; with_reducible rfl)
    (try simp only [Act.put, List.setIfInBounds_toArray, List.set_cons_zero, List.set_cons_succ])
    refine wpAnyH_ready (rs := [44]) (by kernel_rfl) (by simp) ?_
    refine AllReadyH.cons (o := ?Bo44) ?Bh44 (fun K hK => ?Br44) AllReadyH.nil
    case Bh44 => simp only [List.getElem?_toArray, List.getElem?_cons_zero, List.getElem?_cons_succ]; rfl
    go_simp
    (go_at_call 13; go_loud (refine (block_Right.calls 20 _ _ [kz, kz] _ _ [⟨1, ko⟩] true _ (Kd.V_reads' S3.kf.d0).2.2 (Kd.V_reads' S3.kf.d0).2.1 (Kd.V_reads' S3.kf.d1).2.2 (Kd.V_reads' S3.kf.d1).2.1 k11).mono ?_; rintro e w16 ⟨rfl, hb⟩; have S4 := S3.step hb; clear hb))
    refine hK.out _ _ ?_ (fun hHeld2 => ?_)
    · exact S4
    clear hK K hHeld
    have hHeld := hHeld2
    clear hHeld2
    (try simp only [Act.put, List.setIfInBounds_toArray, List.set_cons_zero, List.set_cons_succ])
    refine wpAnyH_take (i := 45) (oi := ?Bo45) (v := ?Bv45) ?Bh45 ?Ba45 ?Bb45 ?Bc45 (fun _ _ _ h => h) (Or.inl ⟨?Be45, ?By45⟩) (by assumption) ?Br45
    case Bh45 => simp only [List.getElem?_toArray, List.getElem?_cons_zero, List.getElem?_cons_succ]; rfl
    case Ba45 => kernel_rfl
    case Bb45 => kernel_rfl
    case Bc45 => kernel_rfl
    case Be45 => rfl
    case By45 => first | (intro w hSw; (try dsimp only at hSw); go_simp; done) | (intro w hSw; (try dsimp only at hSw); go_simp; with_reducible rfl)
    (try simp only [Act.put, List.setIfInBounds_toArray, List.set_cons_zero, List.set_cons_succ])
    refine wpAnyH_take (i := 46) (oi := ?Bo46) (v := ?Bv46) ?Bh46 ?Ba46 ?Bb46 ?Bc46 (fun _ _ _ h => h) (Or.inl ⟨?Be46, ?By46⟩) (by assumption) ?Br46
    case Bh46 => simp only [List.getElem?_toArray, List.getElem?_cons_zero, List.getElem?_cons_succ]; rfl
    case Ba46 => kernel_rfl
    case Bb46 => kernel_rfl
    case Bc46 => kernel_rfl
    case Be46 => rfl
    case By46 => first | (intro w hSw; (try dsimp only at hSw); go_simp; done) | (intro w hSw; (try dsimp only at hSw); go_simp; with_reducible rfl)
    (try simp only [Act.put, List.setIfInBounds_toArray, List.set_cons_zero, List.set_cons_succ])
    refine wpAnyH_done (by kernel_rfl) ?_ _
    refine NoPanic.normal ?_
    have HS := Aside0.mk S4
    clear S0 S2 S3 S4 r1 r2 r3 r4 r5 r6 hHeld
    go_wp2
    go_ret
    exact ⟨rfl, HS.out.kf.below⟩
end Go.Proofs.Ytiplneodkcjkmaa.P
