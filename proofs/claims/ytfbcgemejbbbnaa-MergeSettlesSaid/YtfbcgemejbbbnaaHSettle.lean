/- By hand: merge.Settle. -/
import Derived.Test.YtfbcgemejbbbnaaPxMergeNext
import Derived.Outline
import Derived.WalkLawsBesides
import Derived.Shelf.RegionOpenPlain
set_option linter.unusedVariables false
set_option linter.unusedSimpArgs false
namespace Go.Proofs.Ytfbcgemejbbbnaa.P
open Go.RowKit Go.Proofs.YtfbcgemejbbbnaaW.PrintWords Go.Proofs.YtfbcgemejbbbnaaW.PrintLast Go.Proofs.YtfbcgemejbbbnaaW.PrintMore
def Held (p : Prop) : Prop := p
theorem hold {p : Prop} (h : Held p) : p := h
/-- Two neighbours in one. -/
def join2 (l : List S31) (i : Nat) : List S31 := (l.set i ⟨(l.getD i z31).f0, (l.getD (i + 1) z31).f1⟩).eraseIdx (i + 1)
def stl : Nat → List S31 → Option (List S31)
  | 0, _ => none
  | k + 1, l => (merge_Next.f 5000 l).bind fun r => if r.2 = true then (if 0 ≤ r.1 ∧ r.1 + 1 < l.length then stl k (join2 l r.1.toNat) else none) else some l
def merge_Settle.f (l : List S31) : Option (List S31) := if l.length ≤ 100000 then stl (l.length + 2) l else none
theorem info_Span : (Try.prog.info? 31).map (fun i => (i.zero, i.size, i.bytes)) = some (some (.agg #[(.int .i64 0), (.int .i64 0)]), 2, 16) := by kernel_rfl
theorem size_Span : (Try.prog.info? 31).map (·.size) = some 2 := by kernel_rfl
theorem size_int : (Try.prog.info? 3).map (·.size) = some 1 := by kernel_rfl
def lenV : Value → Nat
  | .slice _ n _ => n
  | _ => 0
theorem join2_len (l : List S31) (i : Nat) (h : i + 1 < l.length) : (join2 l i).length = l.length - 1 := by
  unfold join2
  rw [List.length_eraseIdx_of_lt (by rw [List.length_set]; exact h), List.length_set]
set_option maxHeartbeats 2000000 in
set_option maxRecDepth 100000 in
theorem merge_Settle.calls (A0 : Option Addr) (c0 : Nat) (l0 : List S31) (r : List S31) (w : World) (hr0 : Kd.C k31 w A0 l0.length l0) (hc0 : l0.length ≤ c0) (h : merge_Settle.f l0 = some r) :
    Calls Try.prog 4 #[.slice A0 l0.length c0] w fun e w' => ∃ v0_ : Value, e = .returned (v0_) ∧ Kd.R k31 31 w' w.heap.size (fun _ => True) v0_ r ∧ Below w.heap.size w w' := by
  unfold merge_Settle.f at h
  by_cases hl0 : l0.length ≤ 100000
  case neg => rw [if_neg hl0] at h; cases h
  rw [if_pos hl0] at h
  have HH := Aside0.mk h
  clear h
  go_enter Try.func4, Try.ntmps4
  go_wp2_with (with_reducible refine gate_builtin (b := .append) (xs := #[.tmp 6, .tmp 7]) rfl ?_; at_builtin; refine hold ?_)
  unfold Held
  refine Kd.R_append_rows k31 (Rr := k31.K w) (w0 := w) w.heap.size rfl (.tmp 6) (.tmp 7) 25 31 (.agg #[(.int .i64 0), (.int .i64 0)]) 16 rfl Try.underlying25 info_Span rfl (by decide) (by omega) (.slice (some ⟨w.heap.size, 0, none⟩) 0 0) [] l0 A0 l0.length c0 (fun _ => True) (fun _ => False) rfl rfl
    (?own) (ReadsRow.imp_ hr0 (below_alloc (Below.refl _ _) _) (fun _ _ hp => hp)) (fun x cs hx => by obtain rfl := k31_open hx; exact k31_mkM _ _ _ x) (fun _ hk => hk.elim) (fun _ _ => trivial) (below_alloc (Below.refl _ _) _) (by simp) (by simp; omega) ?_
  case own =>
    refine ⟨fun _ _ => trivial, [], ?_, Reps.none _ _⟩
    exact World.ownsRow_lit (base := w.heap.size) (e := 31) (size := 2) w #[] 0 (Nat.le_refl _) (by simp) (by simp)
  intro v1 w1 hr1 hb1 hg1 hat1
  rw [List.nil_append] at hr1
  have HR1 := Aside0.mk hr1
  have HB1 := Aside0.mk hb1
  obtain ⟨A1, c1, rfl⟩ := Kd.R_slice hr1
  clear hr1 hb1 hg1 hat1 hr0
  cases hn : merge_Next.f 5000 l0 with
  | none => have := HH.out; unfold stl at this; rw [hn] at this; cases this
  | some jb =>
  obtain ⟨j, b⟩ := jb
  have HN := Aside0.mk hn
  clear hn
  go_wp2_with (go_at_call 6; refine (merge_Next.calls 5000 _ _ l0 j b _ (Kd.R_reads' HR1.out).2.2 (Kd.R_reads' HR1.out).2.1 HN.out).mono ?_; rintro e w2 ⟨rfl, hb2⟩; refine hold ?_)
  unfold Held
  have HR2 := Aside0.mk (Kd.R_below HR1.out hb2)
  have HB2 := Aside0.mk (below_step HB1.out hb2)
  clear hb2 HR1 HB1
  go_wp2
  go_loopw [3, 4, 5] (fun o i m wr => ∃ (l : List S31) (k : Nat) (j : Int) (b : Bool) (A : Option Addr) (c : Nat), o = .slice A l.length c ∧ i = .int .i64 j ∧ m = .bool b ∧ l.length ≤ 100000 ∧ Aside0 (merge_Next.f 5000 l = some (j, b)) ∧ Aside0 (stl (k + 1) l = some r) ∧ Aside0 (Kd.R k31 31 wr w.heap.size (fun _ => True) (.slice A l.length c) l) ∧ Aside0 (Below w.heap.size w wr)) (fun o _ _ _ => lenV o)
  case atStart => exact ⟨l0, l0.length + 1, j, b, A1, c1, rfl, rfl, rfl, hl0, HN, HH, HR2, HB2⟩
  case round =>
    clear HN HH HR2 HB2
    obtain ⟨l, k, j, b, A, c, rfl, rfl, rfl, hl, HN, HS, HR, HB⟩ := hrel
    have hs := HS.out
    rw [stl, HN.out, Option.bind_some] at hs
    cases b with
    | false =>
      rw [if_neg (by simp)] at hs
      obtain rfl := Option.some.inj hs
      clear hs HS HN
      go_wp2
      go_ret
      exact ⟨_, rfl, HR.out, HB.out⟩
    | true =>
      rw [if_pos rfl] at hs
      by_cases hj : 0 ≤ j ∧ j + 1 < (l.length : Int)
      case neg => rw [if_neg hj] at hs; cases hs
      rw [if_pos hj] at hs
      obtain ⟨hj0, hj1⟩ := hj
      obtain ⟨m, rfl⟩ := Int.eq_ofNat_of_zero_le hj0
      rw [Int.toNat_natCast] at hs
      have HS2 := Aside0.mk hs
      clear hs HS HN hj0
      have hm1 : m + 1 < l.length := by omega
      have hr := HR.out
      obtain ⟨g, c', he, hbg, hgl, cells, hgc⟩ := Kd.R_form hr (by omega)
      injection he with he1 he2 he3
      subst he1; subst he3
      obtain ⟨ca, hal, haM, hac, haf⟩ := Kd.R_elem hr z31 ((m + 1 : Nat) : Int) (by omega) (by omega)
      obtain ⟨cb, hbl, hbM, hbc, hbf⟩ := Kd.R_elem hr z31 (m : Int) (by omega) (by omega)
      rw [Int.toNat_natCast] at hac haM haf hbc hbM hbf
      have hea := k31_openM haM
      have heb := k31_openM hbM
      generalize hx : l.getD (m + 1) z31 = x at hea
      generalize hy : l.getD m z31 = y at heb
      subst hea; subst heb
      have hsz2 : k31.sz = 2 := rfl
      rw [hsz2] at hac haf hbc hbf
      have h1 := hac 1 _ rfl
      have hls : IntKind.i64.wrap ((m : Int) + 1) = (m : Int) + 1 := by rw [IntKind.wrap_i64]; omega
      have HX := Aside0.mk hx
      have HY := Aside0.mk hy
      have HBC := Aside0.mk hbc
      have hq1 : (0 : Int) ≤ (m : Int) := by omega
      have hq2 : (m : Int) < (l.length : Int) := by omega
      clear hac haf hbc hbf hx hy haM hbM hr
      have hq3 : (0 : Int) ≤ (m : Int) + 1 := by omega
      go_wp2_with (with_reducible refine gate_store (t := 3) (p := 29) (v := .tmp 27) rfl ?_; refine hold ?_)
      unfold Held
      refine Kd.R_store k31 (w0 := w) w.heap.size rfl rfl 3 (.tmp 29) (.tmp 27) rfl 31 (g := g) (n := l.length) (cap := c) (o' := m * 2 + 1) (m : Int) 1 l ⟨y.f0, x.f1⟩ (.int .i64 x.f1) [.int .i64 x.f1] [.int .i64 y.f0, .int .i64 y.f1] (fun _ => True) (fun _ => False)
        rfl (by rw [Int.toNat_natCast]; rfl) rfl rfl size_int (by simp [Value.oneCell']) HR.out hq1 hq2 rfl HBC.out (Nat.le_refl 2) (k31_mkM _ _ _ ⟨y.f0, x.f1⟩) (fun _ h => h.elim) HB.out ?_
      intro w2 hr2 hb2 hg2
      rw [Int.toNat_natCast] at hr2
      have HR2 := Aside0.mk hr2
      have HB2 := Aside0.mk hb2
      have hcap : l.length ≤ c := (Kd.R_reads' HR.out).2.1
      have hls2 : IntKind.i64.wrap ((m : Int) + 2) = (m : Int) + 2 := by rw [IntKind.wrap_i64]; omega
      have hq4 : (0 : Int) ≤ (m : Int) + 2 := by omega
      have hq5 : (m : Int) + 2 ≤ (l.length : Int) := by omega
      have hq6 : (m : Int) + 1 ≤ (c : Int) := by omega
      have hq7 : ((m : Int) + 1).toNat = m + 1 := by omega
      have hq8 : ((m : Int) + 2).toNat = m + 2 := by omega
      have mixed : Try.prog.follows .mixedOrders = true := by kernel_rfl
      clear hr2 hb2 hg2 HBC HB HR hgc hgl h1
      have hA : (if c = m + 2 then some (⟨g, 0, none⟩ : Addr) else some ⟨g, (m + 2) * 2, none⟩) = if c = m + 1 + 1 then some (⟨g, 0, none⟩ : Addr) else (some (⟨g, 0, none⟩ : Addr)).map (·.add ((m + 1 + 1) * k31.sz)) := by
        show _ = if c = m + 2 then _ else some ((⟨g, 0, none⟩ : Addr).add ((m + 2) * 2))
        rw [add_at, Nat.zero_add]
      have HA := Aside0.mk hA
      clear hA
      have HJ : Aside0 ((l.set m ⟨y.f0, x.f1⟩).eraseIdx (m + 1) = join2 l m) := ⟨by unfold join2; rw [HX.out, HY.out]⟩
      have HRD := Aside0.mk (Kd.R_drew HR2.out)
      go_wp2
      go_region_law_o ((refine Kd.R_delete_step k31 (w0 := w) w.heap.size rfl (.tmp 33) (.tmp 37) 25 31 rfl Try.underlying25 size_Span (g := g) (n := l.length) (c := c) (k := m + 1) (m := l.length - (m + 2)) (c2 := c - (m + 2)) (xs := l.set m ⟨y.f0, x.f1⟩) (by simp [Act.eval, Act.put]) (by simp [Act.eval, Act.put]) HA.out rfl HRD.out hm1 (below_drew HB2.out) HB2.out.size ?_; intro w3 hr3 hb3 hg3))
      all_goals
        have hl2 := join2_len l m hm1
        rw [HJ.out, ← hl2] at hr3
        rw [← hl2]
        have HR3 := Aside0.mk hr3
        have HB3 := Aside0.mk hb3
        have hl3 : (join2 l m).length ≤ 100000 := by omega
        have hl4 : (join2 l m).length < l.length := by omega
        clear hl2
        generalize hjn : join2 l m = l2 at *
        clear hjn hr3 hb3 hg3 HR2 HB2 HRD HA HJ
        cases k with
        | zero => have := HS2.out; cases this
        | succ k =>
        cases hn : merge_Next.f 5000 l2 with
        | none => have := HS2.out; unfold stl at this; rw [hn] at this; cases this
        | some jb =>
        obtain ⟨j2, b2⟩ := jb
        have HN := Aside0.mk hn
        clear hn
        go_wp2_with (go_at_call 6; refine (merge_Next.calls 5000 _ _ l2 j2 b2 _ (Kd.R_reads' HR3.out).2.2 (Kd.R_reads' HR3.out).2.1 HN.out).mono ?_; rintro e w4 ⟨rfl, hb4⟩; refine hold ?_)
        all_goals
          unfold Held
          have HR4 := Aside0.mk (Kd.R_below HR3.out hb4)
          have HB4 := Aside0.mk (below_step HB3.out hb4)
          clear hb4 HR3 HB3
          go_wp2
          first
            | exact ⟨⟨l2, k, j2, b2, _, c, rfl, rfl, rfl, hl3, HN, HS2, HR4, HB4⟩, hl4⟩
            | (have e : c = m + 2 := by assumption
               have H := HR4.out
               rw [e] at H
               exact ⟨⟨l2, k, j2, b2, _, m + 2, rfl, rfl, rfl, hl3, HN, HS2, ⟨H⟩, HB4⟩, hl4⟩)
end Go.Proofs.Ytfbcgemejbbbnaa.P
