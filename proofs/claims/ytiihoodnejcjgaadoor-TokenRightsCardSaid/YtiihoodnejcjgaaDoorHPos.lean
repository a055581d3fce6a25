/- By hand: token.Positions, with put and its closure. -/
import Derived.Test.YtiihoodnejcjgaaDoorHTerms
import Derived.WalkLawsBesides
import Derived.Deep.RegionHeld
import Derived.Test.YtiihoodnejcjgaaDoorHCopy
import Derived.Shelf.Spec.SlicesInsert
set_option linter.unusedVariables false
set_option linter.unusedSimpArgs false
namespace Go.Proofs.YtiihoodnejcjgaaDoor.P
open Go.RowKit Go.Proofs.YtiihoodnejcjgaaDoorW.PrintWords Go.Proofs.YtiihoodnejcjgaaDoorW.PrintLast Go.Proofs.YtiihoodnejcjgaaDoorW.PrintMore

/-- The order of terms with places. -/
def ltAt (a b : S44) : Bool := if Op.bytesLess a.f0.toList b.f0.toList = true then true else if a.f0.toList = b.f0.toList then decide (a.f1 < b.f1) else false

set_option maxHeartbeats 1000000 in
set_option maxRecDepth 100000 in
theorem less_calls (a b : S44) (w : World) :
    Calls Tryd.prog 80 #[.agg #[.string a.f0, .int .i64 a.f1], .agg #[.string b.f0, .int .i64 b.f1]] w fun e w' => e = .returned (.bool (ltAt a b)) ∧ Below w.heap.size w w' := by
  obtain ⟨s, i⟩ := a
  obtain ⟨t, j⟩ := b
  unfold ltAt
  dsimp only
  go_enter Tryd.func80, Tryd.ntmps80
  by_cases h1 : Op.bytesLess s.toList t.toList = true
  · rw [if_pos h1]
    go_wp2
    go_ret
    exact ⟨rfl, below_alloc (below_alloc (Below.refl _ _) _) _⟩
  · rw [if_neg h1]
    by_cases h2 : s.toList = t.toList
    · rw [if_pos h2]
      rw [h2] at h1
      by_cases h3 : i < j
      · go_wp2
        go_ret
        exact ⟨by simp [h3], below_alloc (below_alloc (Below.refl _ _) _) _⟩
      · go_wp2
        go_ret
        exact ⟨by simp; omega, below_alloc (below_alloc (Below.refl _ _) _) _⟩
    · rw [if_neg h2]
      go_wp2
      go_ret
      exact ⟨rfl, below_alloc (below_alloc (Below.refl _ _) _) _⟩

/-- Where the binary search ends. -/
def place (x : S44) (l : List S44) : Nat → Nat → Nat → Nat
  | 0, low, _ => low
  | k + 1, low, high => if low < high then (if ltAt x (l.getD ((low + high) / 2) z44) = true then place x l k low ((low + high) / 2) else place x l k ((low + high) / 2 + 1) high) else low
def putAt (l : List S44) (x : S44) : List S44 := let p := place x l l.length 0 l.length; l.take p ++ x :: l.drop p
/-- The first k terms, put. -/
def posL (ts : List ByteArray) : Nat → List S44
  | 0 => []
  | k + 1 => putAt (posL ts k) ⟨ts.getD k ByteArray.empty, (k : Int)⟩
def token_Positions.f (l0 : List Int) : Option (List S44) := (token_Terms.f l0).bind fun ts => if ts.length < 5864062014805 then some (posL ts ts.length) else none

/-- What is a row of strings stays. -/
def KS (w w' : World) : Prop := ∀ (g : Nat) (cells : Array Value), w.heap[g]? = some (Obj.cells cells 9 (0, 0)) → w'.heap[g]? = w.heap[g]?
theorem KS.refl (w : World) : KS w w := fun _ _ _ => rfl
theorem KS.trans {w w1 w2 : World} (h : KS w w1) (k : KS w1 w2) : KS w w2 := fun g cells hg => (k g cells ((h g cells hg).trans hg)).trans (h g cells hg)
theorem KS.below {w w1 : World} (h : Below w.heap.size w w1) : KS w w1 := fun g _ hg => h.block g (blk_lt hg)
theorem KS.grown {w w1 : World} {g t : Nat} {cs : Array Value} (hc : w.heap[g]? = some (.cells cs t (0, 0))) (ht : t ≠ 9) (hg : w.grownBy w1 (some g)) : KS w w1 := fun g' _ hc' => hg.block g' (blk_lt hc') (fun e => by
  have e : g' = g := by injection e
  subst e
  rw [hc'] at hc
  injection hc with hc
  injection hc with _ hc
  exact ht hc.symm)
theorem KS.row {w w1 : World} {base : Nat} {ok : Nat → Prop} {v : Value} {xs : List ByteArray} (h : KS w w1) (hr : Kd.R Kd.string 9 w base ok v xs) : Kd.R Kd.string 9 w1 base ok v xs :=
  Kd.R_mono (Kd.R_move (Kd.R_bound hr) (fun k hk => by
    obtain ⟨_, _, _, q, hq, cells, hc⟩ := hk
    obtain rfl : q = 9 := by
      rcases List.mem_cons.1 hq with hq | hq
      · exact hq
      · cases hq
    exact h k cells hc)) (fun _ hk => hk.1)

theorem place_le (x : S44) (l : List S44) : ∀ (k low high : Nat), low ≤ high → low ≤ place x l k low high ∧ place x l k low high ≤ high
  | 0, low, high, h => ⟨Nat.le_refl _, h⟩
  | k + 1, low, high, h => by
    unfold place
    split
    · split
      · have := place_le x l k low ((low + high) / 2) (by omega)
        omega
      · have := place_le x l k ((low + high) / 2 + 1) high (by omega)
        omega
    · omega
theorem shift_set {α : Type} (l : List α) (x : α) (p : Nat) (h : p ≤ l.length) : ((l ++ [x]).take (p + 1) ++ ((l ++ [x]).drop p).take (l.length - p)).set p x = l.take p ++ x :: l.drop p := by
  have h1 : ((l ++ [x]).drop p).take (l.length - p) = l.drop p := by
    rw [List.drop_append_of_le_length h]
    exact List.take_left' (by rw [List.length_drop])
  have h2 : ((l ++ [x]).take (p + 1)).length = p + 1 := by rw [List.length_take, List.length_append, List.length_singleton]; omega
  rw [h1, List.set_append_left _ _ (by omega)]
  have h3 : ((l ++ [x]).take (p + 1)).set p x = l.take p ++ [x] := by
    apply List.ext_getElem?
    intro j
    rw [List.getElem?_set, h2]
    by_cases hj : p = j
    · subst hj
      rw [if_pos rfl, if_pos (by omega), List.getElem?_append_right (by rw [List.length_take]; omega), List.length_take, show p - min p l.length = 0 by omega]
      rfl
    · rw [if_neg hj, List.getElem?_take]
      by_cases hj2 : j < p
      · rw [if_pos (by omega), List.getElem?_append_left (by omega), List.getElem?_append_left (by rw [List.length_take]; omega), List.getElem?_take, if_pos hj2]
      · rw [if_neg (by omega), List.getElem?_eq_none (by rw [List.length_append, List.length_take, List.length_singleton]; omega)]
  rw [h3, List.append_assoc]
  rfl
theorem info_At : (Tryd.prog.info? 44).map (fun i => (i.zero, i.size, i.bytes)) = some (some (.agg #[(.string ⟨#[]⟩), (.int .i64 0)]), 2, 24) := by kernel_rfl
set_option maxHeartbeats 2000000 in
set_option maxRecDepth 100000 in
theorem put_calls (w0 w : World) (v : Value) (l : List S44) (x : S44) (hb : Below w0.heap.size w0 w) (hr : k44.R 44 w w0.heap.size (fun _ => True) v l) (hl : l.length < 5864062014804) :
    Calls Tryd.prog 79 #[v, .agg #[.string x.f0, .int .i64 x.f1], .func (.func 80) #[] #[]] w fun e w' => ∃ v', e = .returned v' ∧ k44.R 44 w' w0.heap.size (fun _ => True) v' (putAt l x) ∧ Below w0.heap.size w0 w' ∧ KS w w' := by
  obtain ⟨Al, cl, rfl⟩ := Kd.R_slice hr
  let W : World := w.alloc (.cells #[.string x.f0, .int .i64 x.f1] 44)
  have HX := Aside0.mk (show W.heap[w.heap.size]? = some (.cells #[.string x.f0, .int .i64 x.f1] 44 (0, 0)) from blk_new w _)
  have HR := Aside0.mk (show k44.R 44 W w0.heap.size (fun k => True ∧ k ≠ w.heap.size) (.slice Al l.length cl) l from Kd.R_below (Kd.R_elderB hr w.heap.size (Nat.le_refl _)) (below_alloc (Below.refl _ _) _))
  have HB := Aside0.mk (show Below w0.heap.size w0 W from below_alloc hb _)
  have HK := Aside0.mk (show KS w W from KS.below (below_alloc (Below.refl _ _) _))
  clear hr hb
  go_enter Tryd.func79, Tryd.ntmps79
  go_wp2
  go_loopw [7, 8, 9] (fun lo hi _ wr => ∃ low high k : Nat, low ≤ high ∧ high ≤ l.length ∧ lo = .int .i64 low ∧ hi = .int .i64 high ∧ Aside0 (high - low ≤ k ∧ place x l k low high = place x l l.length 0 l.length) ∧ Aside0 (Below W.heap.size W wr)) (fun lo hi _ _ => (intOf hi).toNat - (intOf lo).toNat)
  case atStart => exact ⟨0, l.length, l.length, by omega, by omega, rfl, rfl, ⟨by omega, rfl⟩, ⟨Below.refl _ _⟩⟩
  case round =>
    obtain ⟨low, high, k, hlh, hhl, rfl, rfl, HP, HBr⟩ := hrel
    by_cases hlo : low < high
    · obtain ⟨m, hm⟩ : ∃ m, m = (low + high) / 2 := ⟨_, rfl⟩
      have hmi : ((low : Int) + (high : Int)) / 2 = (m : Int) := by omega
      have hml : m < l.length := by omega
      obtain ⟨ad, had, hc0, hc1⟩ := at_T44 (Kd.C_below (Kd.R_reads' HR.out).2.2 HBr.out) (m : Int) (by omega) (by omega)
      subst had
      rw [Int.toNat_natCast] at hc0 hc1
      have hxm : rd_T44 l (m : Int) = l.getD m z44 := rfl
      rw [hxm] at hc0 hc1
      generalize hy : l.getD m z44 = y at hc0 hc1
      have hx0 := blk_cell ((HBr.out.block _ (blk_lt HX.out)).trans HX.out) 0
      have hx1 := blk_cell ((HBr.out.block _ (blk_lt HX.out)).trans HX.out) 1
      simp only [List.getElem?_toArray, List.getElem?_cons_zero, List.getElem?_cons_succ] at hx0 hx1
      have hmid : wrap64 ((low : Int) + (high : Int)) = (low : Int) + (high : Int) := by unfold wrap64; omega
      have hmsu : wrap64 ((m : Int) + 1) = (m : Int) + 1 := by unfold wrap64; omega
      have HM := Aside0.mk hm
      clear hm
      obtain ⟨k, rfl⟩ : ∃ k', k = k' + 1 := ⟨k - 1, by have := HP.out.1; omega⟩
      have HP' := HP.out
      rw [show place x l (k + 1) low high = if low < high then (if ltAt x (l.getD ((low + high) / 2) z44) = true then place x l k low ((low + high) / 2) else place x l k ((low + high) / 2 + 1) high) else low from rfl, if_pos hlo, ← HM.out, hy] at HP'
      by_cases hlt : ltAt x y = true
      · rw [if_pos hlt] at HP'
        have HP2 := Aside0.mk HP'
        clear HP'
        go_wp2
        go_region_held (fun w' => (w'.cell? ⟨w.heap.size, 0, none⟩ = some (Value.string x.f0) ∧ w'.cell? ⟨w.heap.size, 1, none⟩ = some (Value.int IntKind.i64 x.f1)) ∧ w'.cell? (ad.add (m * 2)) = some (Value.string y.f0) ∧ w'.cell? ⟨(ad.add (m * 2)).block, (ad.add (m * 2)).off + 1, none⟩ = some (Value.int IntKind.i64 y.f1)) (first | exact ⟨⟨hx0, hx1⟩, hc0, hc1⟩ | exact SQ)
          (first | (go_at_call 80; refine (less_calls x y _).mono ?_; rintro e w4 ⟨rfl, hb4⟩; go_loud (have HB4 := Aside0.mk (below_step HBr.out (below_step (below_drew (Below.refl _ _)) hb4)); have SQ := (show (w4.cell? ⟨w.heap.size, 0, none⟩ = some (Value.string x.f0) ∧ w4.cell? ⟨w.heap.size, 1, none⟩ = some (Value.int IntKind.i64 x.f1)) ∧ w4.cell? (ad.add (m * 2)) = some (Value.string y.f0) ∧ w4.cell? ⟨(ad.add (m * 2)).block, (ad.add (m * 2)).off + 1, none⟩ = some (Value.int IntKind.i64 y.f1) from ⟨⟨(hb4.cell (World.block_lt_of_cell? _ _ hx0)).trans hx0, (hb4.cell (World.block_lt_of_cell? _ _ hx1)).trans hx1⟩, (hb4.cell (World.block_lt_of_cell? _ _ hc0)).trans hc0, (hb4.cell (World.block_lt_of_cell? _ _ hc1)).trans hc1⟩); rw [hlt])))
        all_goals go_wp2
        all_goals exact ⟨⟨low, m, k, by omega, by omega, rfl, rfl, ⟨by have := HP2.out.1; have := HM.out; omega, HP2.out.2⟩, HB4⟩, by simp [intOf]; omega⟩
      · rw [if_neg hlt] at HP'
        have HP2 := Aside0.mk HP'
        clear HP'
        have hlt : ltAt x y = false := by simpa using hlt
        go_wp2
        go_region_held (fun w' => (w'.cell? ⟨w.heap.size, 0, none⟩ = some (Value.string x.f0) ∧ w'.cell? ⟨w.heap.size, 1, none⟩ = some (Value.int IntKind.i64 x.f1)) ∧ w'.cell? (ad.add (m * 2)) = some (Value.string y.f0) ∧ w'.cell? ⟨(ad.add (m * 2)).block, (ad.add (m * 2)).off + 1, none⟩ = some (Value.int IntKind.i64 y.f1)) (first | exact ⟨⟨hx0, hx1⟩, hc0, hc1⟩ | exact SQ)
          (first | (go_at_call 80; refine (less_calls x y _).mono ?_; rintro e w4 ⟨rfl, hb4⟩; go_loud (have HB4 := Aside0.mk (below_step HBr.out (below_step (below_drew (Below.refl _ _)) hb4)); have SQ := (show (w4.cell? ⟨w.heap.size, 0, none⟩ = some (Value.string x.f0) ∧ w4.cell? ⟨w.heap.size, 1, none⟩ = some (Value.int IntKind.i64 x.f1)) ∧ w4.cell? (ad.add (m * 2)) = some (Value.string y.f0) ∧ w4.cell? ⟨(ad.add (m * 2)).block, (ad.add (m * 2)).off + 1, none⟩ = some (Value.int IntKind.i64 y.f1) from ⟨⟨(hb4.cell (World.block_lt_of_cell? _ _ hx0)).trans hx0, (hb4.cell (World.block_lt_of_cell? _ _ hx1)).trans hx1⟩, (hb4.cell (World.block_lt_of_cell? _ _ hc0)).trans hc0, (hb4.cell (World.block_lt_of_cell? _ _ hc1)).trans hc1⟩); rw [hlt])))
        all_goals go_wp2
        all_goals exact ⟨⟨m + 1, high, k, by omega, by omega, by rw [Int.natCast_add]; rfl, rfl, ⟨by have := HP2.out.1; have := HM.out; omega, HP2.out.2⟩, HB4⟩, by simp [intOf]; omega⟩
    · obtain rfl : low = high := by omega
      have hx0 := blk_cell ((HBr.out.block _ (blk_lt HX.out)).trans HX.out) 0
      have hx1 := blk_cell ((HBr.out.block _ (blk_lt HX.out)).trans HX.out) 1
      simp only [List.getElem?_toArray, List.getElem?_cons_zero, List.getElem?_cons_succ] at hx0 hx1
      have hpl : low = place x l l.length 0 l.length := by
        have := HP.out.2
        rw [← this]
        cases k <;> simp [place]
      have HPL := Aside0.mk hpl
      clear hpl
      have hR := Kd.R_below HR.out HBr.out
      have hB := below_step HB.out HBr.out
      have hfr : ∀ k, wr.heap.size ≤ k → True ∧ k ≠ w.heap.size := fun k hk => ⟨trivial, by
        have h1 := HBr.out.size
        have h2 : W.heap.size = w.heap.size + 1 := by simp [W]
        omega⟩
      go_wp2_with (with_reducible refine gate_builtin (b := .append) (xs := #[.tmp 29, .tmp 31]) rfl ?_; at_builtin; refine hold ?_)
      unfold Held
      refine Kd.R_append k44 (w0 := w0) w0.heap.size rfl (.tmp 29) (.tmp 31) 39 44 (.agg #[(.string ⟨#[]⟩), (.int .i64 0)]) 24 rfl Tryd.underlying39 info_At rfl (by decide) (by omega) (.slice Al l.length cl) l x [.string x.f0, .int .i64 x.f1] (fun k => True ∧ k ≠ w.heap.size) (fun _ => False) rfl rfl (k44_mkM _ _ _ x) (fun _ hk => hk.elim) hfr hR hB hB.size (by omega) ?_
      intro v2 w2 hr2 hb2 hg2 hat2
      obtain ⟨g, c2, rfl, hbg, hgl, cells, hgc⟩ := Kd.R_form hr2 (by simp)
      have hgx : g ≠ w.heap.size := (hr2.1 g (by simp [Value.ownBlock])).2
      have hne : some w.heap.size ≠ (Value.slice Al l.length cl).ownBlock := fun e => (hR.1 _ e.symm).2 rfl
      have hbx := ((HBr.out.block _ (blk_lt HX.out)).trans HX.out)
      have hbx2 := (hg2.block _ (blk_lt hbx) hne).trans hbx
      have hks2 : KS w w2 := by
        refine (HK.out.trans (KS.below HBr.out)).trans ?_
        intro g' cs' hg'
        exact hg2.block g' (blk_lt hg') (Kd.R_ne hR hg' (by decide))
      have hln : (l ++ [x]).length = l.length + 1 := by simp
      rw [hln] at hr2 ⊢
      obtain ⟨i0, hi0, hi1⟩ := Option.map_eq_some_iff.1 info_At
      simp only [Prod.mk.injEq] at hi1
      have hsh := R_shift_run (P := Tryd.prog) k44 (W := w2.drew) w0.heap.size 39 3 44 i0 Tryd.underlying39 hi0 hi1.2.1 (Kd.R_drew hr2) (p := low) (by omega) (A1 := some ⟨g, low * 2, none⟩) (A2 := if c2 = low + 1 then some ⟨g, 0, none⟩ else some ⟨g, (low + 1) * 2, none⟩)
        (by show _ = if c2 = low + 1 then _ else some ((⟨g, 0, none⟩ : Addr).add ((low + 1) * 2))
            rw [add_at, Nat.zero_add])
        (by show _ = some ((⟨g, 0, none⟩ : Addr).add (low * 2))
            rw [add_at, Nat.zero_add]) (c2 - low) (c2 - (low + 1))
      rw [Nat.add_sub_add_right] at hsh
      obtain ⟨w3, hrun3, hr3, hg3⟩ := hsh
      have HRUN := Aside0.mk hrun3
      clear hrun3
      have hcap : l.length + 1 ≤ c2 := (Kd.R_reads' hr2).2.1
      have hls : IntKind.i64.wrap ((low : Int) + 1) = (low : Int) + 1 := by rw [IntKind.wrap_i64]; omega
      have mixed : Tryd.prog.follows .mixedOrders = true := by kernel_rfl
      have hq1 : (0 : Int) ≤ (low : Int) + 1 := by omega
      have hq2 : (low : Int) + 1 ≤ (l.length : Int) + 1 := by omega
      have hq3 : (low : Int) ≤ (l.length : Int) + 1 := by omega
      have hq4 : ¬ c2 = low := by omega
      have hls2 : ((low : Int) + 1).toNat = low + 1 := by omega
      go_wp2
      have hbx3 := (hg3.block _ (blk_lt (show w2.drew.heap[w.heap.size]? = _ from hbx2)) (fun e => hgx (by injection e with e; exact e.symm))).trans hbx2
      have hy0 := blk_cell hbx3 0
      have hy1 := blk_cell hbx3 1
      simp only [List.getElem?_toArray, List.getElem?_cons_zero, List.getElem?_cons_succ] at hy0 hy1
      obtain ⟨c, hcl, hcM, hcc, hcf⟩ := Kd.R_elem hr3 x (low : Int) (by omega) (by omega)
      obtain ⟨cx, cy, rfl⟩ : ∃ cx cy, c = [cx, cy] := by
        match c, hcl with
        | [cx, cy], _ => exact ⟨cx, cy, rfl⟩
      have hz0 := hcc 0 cx rfl
      have hz1 := hcc 1 cy rfl
      have hf0 := hcf 0
      have hf1 := hcf 1
      have hseg := Kd.R_seg hr3 (low : Int) (by omega) (by omega) (seg := [.string x.f0, .int .i64 x.f1]) (j := 0) hcl hcc (by exact Nat.le_refl 2) (x' := x) (okp := fun _ => False) (k44_mkM _ _ _ x) (fun _ h => h.elim)
      rw [Int.toNat_natCast] at hz0 hz1 hf0 hf1 hseg
      have hsz2 : k44.sz = 2 := rfl
      rw [hsz2] at hz0 hz1 hf0 hf1 hseg
      rw [Nat.add_zero] at hz0 hf0 hseg
      rw [shift_set l x low (by omega)] at hseg
      have hfin : k44.R 44 ((w3.setCell ⟨g, low * 2, none⟩ (.string x.f0)).setCell ⟨g, low * 2 + 1, none⟩ (.int .i64 x.f1)) w0.heap.size (fun _ => True) (.slice (some ⟨g, 0, none⟩) (l.length + 1) c2) (putAt l x) := by
        unfold putAt
        rw [← HPL.out]
        exact Kd.R_mono hseg.1 (fun _ h => h.1)
      have hg4 : w3.grownBy ((w3.setCell ⟨g, low * 2, none⟩ (.string x.f0)).setCell ⟨g, low * 2 + 1, none⟩ (.int .i64 x.f1)) (some g) := hseg.2
      have hbf : Below w0.heap.size w0 ((w3.setCell ⟨g, low * 2, none⟩ (.string x.f0)).setCell ⟨g, low * 2 + 1, none⟩ (.int .i64 x.f1)) := ((below_drew hb2).grown hg3 hb2.size (fun k hk => by injection hk with hk; omega)).grown hg4 (Nat.le_trans hb2.size hg3.size) (fun k hk => by injection hk with hk; omega)
      have hgc3 : ∃ cs, w3.heap[g]? = some (.cells cs 44 (0, 0)) := Kd.R_typed hr3 g (by simp [Value.ownBlock])
      have hkf : KS w ((w3.setCell ⟨g, low * 2, none⟩ (.string x.f0)).setCell ⟨g, low * 2 + 1, none⟩ (.int .i64 x.f1)) := by
        obtain ⟨cs3, hgc3⟩ := hgc3
        exact (hks2.trans (KS.grown (w := w2.drew) hgc (by decide) hg3)).trans (KS.grown hgc3 (by decide) hg4)
      have HFIN := Aside0.mk (And.intro hfin (And.intro hbf hkf))
      clear hfin hbf hkf hg4 hseg hgc3 hcc hcM hcf hr3 hg3 hr2 hg2 hR hB
      go_region_law_o (refine step_copy_runI rfl (.tmp 36) (.tmp 39) 39 39 rfl (.slice (if c2 = low + 1 then some ⟨g, 0, none⟩ else some ⟨g, (low + 1) * 2, none⟩) (l.length - low) (c2 - (low + 1))) (.slice (some ⟨g, low * 2, none⟩) (l.length + 1 - low) (c2 - low)) (by simp [Act.eval, Act.put]) (by simp [Act.eval, Act.put]) HRUN.out ?_)
      all_goals go_wp2
      all_goals go_ret
      all_goals first
        | exact ⟨_, rfl, HFIN.out⟩
        | (have e : c2 = low + 1 := by assumption
           have H := HFIN.out
           rw [e] at H
           exact ⟨_, rfl, H⟩)

theorem putAt_len (l : List S44) (x : S44) : (putAt l x).length = l.length + 1 := by
  unfold putAt
  dsimp only
  have := (place_le x l l.length 0 l.length (Nat.zero_le _)).2
  rw [List.length_append, List.length_cons, List.length_take, List.length_drop]
  omega
theorem posL_len (ts : List ByteArray) : ∀ k, (posL ts k).length = k
  | 0 => rfl
  | k + 1 => by
    unfold posL
    rw [putAt_len, posL_len ts k]
set_option maxHeartbeats 1000000 in
set_option maxRecDepth 100000 in
theorem token_Positions.calls (A0 : Option Addr) (c0 : Nat) (l0 : List Int) (r : List S44) (w : World) (hG : G w) (hr0 : Kd.C (Kd.int .u8) w A0 l0.length l0) (hc0 : l0.length ≤ c0) (h : token_Positions.f l0 = some r) : 
    Calls Tryd.prog 44 #[.slice A0 l0.length c0] w fun e w' => ∃ v0_ : Value, e = .returned (v0_) ∧ Kd.R k44 44 w' w.heap.size (fun _ => True) v0_ r ∧ Below w.heap.size w w' := by
  unfold token_Positions.f at h
  cases ht : token_Terms.f l0 with
  | none => rw [ht] at h; cases h
  | some ts =>
  rw [ht, Option.bind_some] at h
  by_cases hl : ts.length < 5864062014805
  case neg => rw [if_neg hl] at h; cases h
  rw [if_pos hl] at h
  have HR := Aside0.mk (Option.some.inj h)
  clear h
  go_enter Tryd.func44, Tryd.ntmps44
  go_wp2_with (go_at_call 38; refine (token_Terms.calls A0 c0 l0 ts w hG hr0 hc0 ht).mono ?_; rintro e w1 ⟨v, rfl, hv, hb⟩; refine hold ?_)
  unfold Held
  obtain ⟨At, ct, rfl⟩ := Kd.R_slice hv
  have HV := Aside0.mk (Kd.R_lower hv (Nat.zero_le _))
  have HB := Aside0.mk hb
  clear hv hb ht
  go_wp2
  go_loopw [3, 4, 5, 9] (fun acc _ _ i wr => ∃ k : Nat, ∃ v : Value, k ≤ ts.length ∧ acc = v ∧ i = .int .i64 k ∧ Aside0 (k44.R 44 wr w.heap.size (fun _ => True) v (posL ts k)) ∧ Aside0 (Below w.heap.size w wr) ∧ Aside0 (Kd.R Kd.string 9 wr 0 (fun _ => True) (.slice At ts.length ct) ts)) (fun _ _ _ i _ => ts.length - (intOf i).toNat)
  case atStart => exact ⟨0, _, by omega, rfl, rfl, ⟨Kd.R_nil _ _ _ _ _⟩, HB, HV⟩
  case round =>
    obtain ⟨k, v, hk, rfl, rfl, HA, HBr, HVr⟩ := hrel
    by_cases hkl : k < ts.length
    · obtain ⟨ad, rfl, hcell⟩ := Kd.at_string (Kd.R_reads' HVr.out).2.2 (k : Int) (by omega) (by omega)
      rw [Int.toNat_natCast, show rdOf ByteArray.empty ts (k : Int) = ts.getD k ByteArray.empty from rfl] at hcell
      have hp := posL_len ts k
      have hps : posL ts (k + 1) = putAt (posL ts k) ⟨ts.getD k ByteArray.empty, (k : Int)⟩ := rfl
      generalize hs : ts.getD k ByteArray.empty = s at hcell hps
      have HPS := Aside0.mk hps
      clear hps hs
      go_wp2_with (go_at_call 79; refine (put_calls w wr _ (posL ts k) ⟨s, (k : Int)⟩ HBr.out HA.out (by omega)).mono ?_; rintro e w2 ⟨v', rfl, h1, h2, h3⟩; refine hold ?_)
      unfold Held
      rw [← HPS.out] at h1
      have N1 := Aside0.mk h1
      have N2 := Aside0.mk h2
      have N3 := Aside0.mk (h3.row HVr.out)
      clear h1 h2 h3 hcell HA HBr HVr
      go_wp2
      exact ⟨⟨k + 1, v', by omega, rfl, by rw [Int.natCast_add]; rfl, N1, N2, N3⟩, by simp [intOf]; omega⟩
    · obtain rfl : k = ts.length := by omega
      have hr := HR.out
      subst hr
      obtain ⟨Aa, ca, rfl⟩ := Kd.R_slice HA.out
      go_wp2
      go_ret
      exact ⟨_, rfl, HA.out, HBr.out⟩
end Go.Proofs.YtiihoodnejcjgaaDoor.P
