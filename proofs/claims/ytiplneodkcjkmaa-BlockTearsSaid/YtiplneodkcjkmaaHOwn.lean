/- By hand: block.own. -/
import Derived.Test.YtiplneodkcjkmaaHOwnA
set_option linter.unusedVariables false
set_option linter.unusedSimpArgs false
namespace Go.Proofs.Ytiplneodkcjkmaa.P
open Go.RowKit Go.Proofs.YtiplneodkcjkmaaW.PrintWords Go.Proofs.YtiplneodkcjkmaaW.PrintLast Go.Proofs.YtiplneodkcjkmaaW.PrintMore
theorem flat_at (bs : List (List Int)) (h : ∀ b ∈ bs, b.length = 64) (j i : Nat) (hj : j < bs.length) (hi : i < 64) : bs.flatten[j * 64 + i]? = (bs.getD j [])[i]? := by
  have e2 : bs.getD j [] = bs[j] := by rw [List.getD_eq_getElem?_getD, List.getElem?_eq_getElem hj]; rfl
  have e : bs.flatten = (bs.take j).flatten ++ (bs[j] ++ (bs.drop (j + 1)).flatten) := by
    rw [← List.flatten_cons, ← List.flatten_append, ← List.drop_eq_getElem_cons hj, List.take_append_drop]
  have hl := flat_take bs h j (by omega)
  have hb := h bs[j] (List.getElem_mem hj)
  rw [e2, e, List.getElem?_append_right (by omega), hl, Nat.add_sub_cancel_left, List.getElem?_append_left (by omega)]
theorem disk_C {W : World} {gB gA : Nat} {bs : List (List Int)} (h64 : ∀ b ∈ bs, b.length = 64) (hn : bs.length ≤ 4096) (hb : W.heap[gB]? = some (.cells (rowB gA bs.length bs.length).toArray 28 (0, 0))) (ha : W.heap[gA]? = some (.cells (rowA bs bs.length).toArray 5 (0, 0))) :
    (Kd.slice 5 (Kd.int .u8)).C W (some ⟨gB, 0, none⟩) bs.length bs := by
  refine ⟨rfl, by omega, fun _ => ⟨_, rfl, fun j p hj => ?_⟩⟩
  have hjl := (List.getElem?_eq_some_iff.1 hj).1
  have hp : p = bs.getD j [] := by rw [List.getD_eq_getElem?_getD, hj]; rfl
  have hpl : p.length = 64 := h64 p (List.mem_of_getElem? hj)
  refine ⟨[slA gA j], rfl, ⟨some ⟨gA, j * 64, none⟩, 64, by rw [hpl], by omega, by omega, by omega, fun _ => ⟨_, rfl, fun i x hi => ?_⟩⟩, fun i u hu => ?_⟩
  · have hil := (List.getElem?_eq_some_iff.1 hi).1
    refine ⟨[.int .u8 x], rfl, rfl, fun q u hu => ?_⟩
    cases q with
    | succ q => simp at hu
    | zero =>
      obtain rfl : Value.int .u8 x = u := by simpa using hu
      have h1 := blk_cell ha (j * 64 + i)
      have hs : (Kd.int IntKind.u8).sz = 1 := rfl
      rw [hs, Nat.mul_one, Nat.add_zero, add_at, h1, List.getElem?_toArray]
      unfold rowA u8s
      rw [Nat.sub_self, Nat.zero_mul, List.replicate_zero, List.append_nil, List.take_length, List.getElem?_map, flat_at bs h64 j i hjl (by omega), ← hp, hi]
      rfl
  · cases i with
    | succ i => simp at hu
    | zero =>
      obtain rfl : slA gA j = u := by simpa using hu
      have h1 := blk_cell hb j
      have hs : (Kd.slice 5 (Kd.int IntKind.u8)).sz = 1 := rfl
      rw [hs, Nat.mul_one, Nat.add_zero, add_plain, h1, List.getElem?_toArray]
      unfold rowB
      rw [Nat.sub_self, List.replicate_zero, List.append_nil, List.getElem?_map, List.getElem?_range hjl]
      rfl
theorem disk_V {W : World} {base gB gA : Nat} {bs : List (List Int)} {ok : Nat → Prop} (h64 : ∀ b ∈ bs, b.length = 64) (hn : bs.length ≤ 4096) (hb : W.heap[gB]? = some (.cells (rowB gA bs.length bs.length).toArray 28 (0, 0))) (ha : W.heap[gA]? = some (.cells (rowA bs bs.length).toArray 5 (0, 0))) (h1 : ok gB) (h2 : ok gA) :
    Kd.V (Kd.slice 5 (Kd.int .u8)) 28 W base ok (.slice (some ⟨gB, 0, none⟩) bs.length bs.length) bs :=
  ⟨_, _, rfl, Nat.le_refl _, fun W' hW => disk_C h64 hn ((hW gB h1 (blk_lt hb)).trans hb) ((hW gA h2 (blk_lt ha)).trans ha)⟩
set_option maxHeartbeats 2000000 in
set_option maxRecDepth 100000 in
theorem block_own.calls (A0 : Option Addr) (c0 : Nat) (bs : List (List Int)) (A1 : Option Addr) (c1 : Nat) (ws : List S57) (r1 : List (List Int)) (r2 : List S57) (w : World) (hr0 : Kd.C (Kd.slice 5 (Kd.int .u8)) w A0 bs.length bs) (hc0 : bs.length ≤ c0) (hr1 : Kd.C k57 w A1 ws.length ws) (hc1 : ws.length ≤ c1) (h : block_own.f bs ws = some (r1, r2)) :
    Calls Try.prog 25 #[.agg #[.slice A0 bs.length c0, .slice A1 ws.length c1]] w fun e w' => ∃ v0_ v1_ : Value, e = .returned (.agg #[v0_, v1_]) ∧ Kd.V (Kd.slice 5 (Kd.int .u8)) 28 w' w.heap.size (fun k_ => (w.heap.size ≤ k_) ∧ some k_ ≠ (v1_ : Value).ownBlock) v0_ r1 ∧ Kd.S k57 57 w' w.heap.size (fun k_ => (w.heap.size ≤ k_)) v1_ r2 ∧ Below w.heap.size w w' := by
  unfold block_own.f at h
  obtain ⟨b, hb, h⟩ := Option.bind_eq_some_iff.1 h
  cases b with
  | true =>
    rw [if_pos rfl] at h
    by_cases hok : OKD bs ws
    case neg => rw [if_neg hok] at h; cases h
    rw [if_pos hok] at h
    obtain ⟨rfl, rfl⟩ := Prod.mk.inj (Option.some.inj h)
    refine (own_core _ A0 c0 bs A1 c1 ws w hr0 hc0 hr1 hc1 hb hok).mono fun e w' ⟨gB, gA, v1, he, h1, h2, h3, h4, h5, h6, h7⟩ => ?_
    have hv := (Kd.S_R h6).1
    exact ⟨_, v1, he, disk_V hok.2.2.1 hok.1 h4 h5 ⟨h2, fun e => (hv gB e.symm).2.2 rfl⟩ ⟨h1, fun e => (hv gA e.symm).2.1 rfl⟩, Kd.S_mono h6 (fun k hk => hk.1), h7⟩
  | false =>
    rw [if_neg (by simp)] at h
    obtain ⟨rfl, rfl⟩ := Prod.mk.inj (Option.some.inj h)
    have HR0 := Aside0.mk hr0
    have HR1 := Aside0.mk hr1
    have HRT := Aside0.mk hb
    clear hr0 hr1 hb h
    go_enter Try.func25, Try.ntmps25
    have HBW := Aside0.mk (show Below w.heap.size w ((w.alloc (.cells #[.slice A0 bs.length c0, .slice A1 ws.length c1] 25)).alloc (.cells #[.slice none 0 0, .slice none 0 0] 25)) from below_alloc (below_alloc (Below.refl _ _) _) _)
    have HNW := Aside0.mk (show ((w.alloc (.cells #[.slice A0 bs.length c0, .slice A1 ws.length c1] 25)).alloc (.cells #[.slice none 0 0, .slice none 0 0] 25)).heap[w.heap.size + 1]? = some (.cells #[.slice none 0 0, .slice none 0 0] 25 (0, 0)) from by simpa using blk_new (w.alloc (.cells #[.slice A0 bs.length c0, .slice A1 ws.length c1] 25)) (.cells #[.slice none 0 0, .slice none 0 0] 25))
    go_wp2_with (go_at_call 13; refine (block_Right.calls _ _ _ bs _ _ ws false _ (Kd.C_below HR0.out HBW.out) hc0 (Kd.C_below HR1.out HBW.out) hc1 HRT.out).mono ?_; rintro e w3 ⟨rfl, hb3⟩; have HB3 := Aside0.mk (below_step HBW.out hb3); have HN3 := Aside0.mk ((hb3.block _ (blk_lt HNW.out)).trans HNW.out); have hr0 := blk_cell HN3.out 0; have hr1 := blk_cell HN3.out 1; have hg0 := blk_frozen HN3.out 0; have hg1 := blk_frozen HN3.out 1; simp only [List.getElem?_toArray, List.getElem?_cons_zero, List.getElem?_cons_succ] at hr0 hr1; clear hb3)
    refine bodyPost_ret (results_cell_row rfl _ _ (w.heap.size + 1) 25 #[.slice none 0 0, .slice none 0 0] (0, 0) _ rfl (blk_put (cs := #[.slice none 0 0, .slice none 0 0]) (blk_put (cs := #[.slice none 0 0, .slice none 0 0]) HN3.out 0 _ rfl) 1 _ rfl) Try.underlying25 rfl (by kernel_rfl)) rfl ?_
    exact ⟨_, _, rfl, Kd.V_nil _ _ _ _ _, Kd.S_nil _ _ _ _ _, below_set (below_set HB3.out (by omega)) (by omega)⟩
end Go.Proofs.Ytiplneodkcjkmaa.P
