/- An argument that reads as data is read as its kind says: numbers, bools, texts, slices, structs of two to four fields; whatever lies in them. -/
import Derived.Test.YtiplneodkcjkmaaBase
import Derived.ChangeArms
import Derived.ChangeSame
import Derived.WideShapes
import Derived.DataReads
set_option linter.unusedVariables false
set_option linter.unusedSimpArgs false
namespace Go.Proofs.Ytiplneodkcjkmaa.P
open Go.RowKit Go.Proofs.YtiplneodkcjkmaaW.PrintWords Go.Proofs.YtiplneodkcjkmaaW.PrintMore Go.Proofs.YtiplneodkcjkmaaW.PrintWords.Kd Go.ChangeShapes Go.WideShapes
variable {P : Program} {H : Type} {enc : TypeId × Value → H} {w : World} {spare : Nat → Bool} {held : Bool}
/-- Whatever is read at type t is of kind d, and ok. -/
def Opens {α : Type} (P : Program) (enc : TypeId × Value → H) (w : World) (spare : Nat → Bool) (held : Bool) (d : Kd α) (t : TypeId) (ok : α → Prop) : Prop :=
  ∀ (fuel : Nat) (cs : List Value) (x : DataW H × List MemPlace), DataW.trod enc P w 0 spare held fuel t cs = some x → ∃ y, d.K w y cs ∧ ok y
theorem Opens.any {α : Type} {d : Kd α} {t : TypeId} {ok : α → Prop} (h : Opens P enc w spare held d t ok) : Opens P enc w spare held d t (fun _ => True) := fun fuel cs x hx => by
  obtain ⟨y, hy, _⟩ := h fuel cs x hx
  exact ⟨y, hy, trivial⟩
theorem opens_int {t : TypeId} {k : IntKind} (ht : P.underlying t = some (.int k)) : Opens P enc w spare held (Kd.int k) t (fun n => (Lit.int k n).wf = true) := fun fuel cs x h => by
  obtain ⟨n, rfl, _, hw⟩ := DataW.trod_int ht h
  exact ⟨n, rfl, hw⟩
theorem opens_bool {t : TypeId} (ht : P.underlying t = some .bool) : Opens P enc w spare held Kd.bool t (fun _ => True) := fun fuel cs x h => by
  obtain ⟨n, rfl, _⟩ := DataW.trod_bool ht h
  exact ⟨n, rfl, trivial⟩
theorem opens_string {t : TypeId} (ht : P.underlying t = some .string) : Opens P enc w spare held Kd.string t (fun s => s.size ≤ maxLen) := fun fuel cs x h => by
  obtain ⟨n, rfl, _, hw⟩ := DataW.trod_string ht h
  exact ⟨n, rfl, hw⟩
theorem list_of {α : Type} {n : Nat} {R : Nat → α → Prop} : (∀ i, i < n → ∃ y, R i y) → ∃ l : List α, l.length = n ∧ ∀ i y, l[i]? = some y → R i y := by
  induction n with
  | zero => exact fun _ => ⟨[], rfl, fun i y h => by simp at h⟩
  | succ n ih =>
    intro h
    obtain ⟨l, hl, hr⟩ := ih (fun i hi => h i (Nat.lt_succ_of_lt hi))
    obtain ⟨y, hy⟩ := h n (Nat.lt_succ_self n)
    refine ⟨l ++ [y], by simp [hl], fun i z hz => ?_⟩
    rcases Nat.lt_or_ge i l.length with hi | hi
    · rw [List.getElem?_append_left hi] at hz
      exact hr i z hz
    · have hlt := (List.getElem?_eq_some_iff.1 hz).1
      rw [List.length_append, List.length_singleton] at hlt
      obtain rfl : i = n := by omega
      rw [List.getElem?_append_right (by omega)] at hz
      have : y = z := by simpa [hl] using hz
      rw [← this]; exact hy
theorem opens_slice {α : Type} {d : Kd α} {t e : TypeId} {ok : α → Prop} (e' : Nat) (ht : P.underlying t = some (.slice e)) (hsz : P.cellsOf e = d.sz) (hd : Opens P enc w spare held d e ok) :
    Opens P enc w spare held (Kd.slice e' d) t (fun l => l.length ≤ maxLen ∧ ∀ x ∈ l, ok x) := fun fuel cs x h => by
  rcases DataW.trod_slice ht h with ⟨rfl, _⟩ | ⟨a, len, cap, elems, rest, n, _, rfl, _, hb, hl, hm, hlen, hel, _, _⟩
  · exact ⟨[], ⟨none, 0, rfl, Nat.le_refl _, C_nil d w⟩, by simp, by simp⟩
  · obtain ⟨l, hll, hr⟩ := list_of (n := len) (R := fun i y => (∃ c, c.length = d.sz ∧ d.K w y c ∧ ∀ q u, c[q]? = some u → w.cell? (a.add (i * d.sz + q)) = some u) ∧ ok y) (fun i hi => by
      have h1 := hel i hi
      rw [List.getElem?_eq_getElem (by omega), Option.bind_eq_some_iff] at h1
      obtain ⟨c, hc, hy⟩ := h1
      obtain ⟨y, hK, ho⟩ := hd _ _ _ hy
      obtain ⟨_, hcl, hcc⟩ := World.cells?_some hc
      refine ⟨y, ⟨c, d.K_len hK, hK, fun q u hu => ?_⟩, ho⟩
      have hq : q < P.cellsOf e := by have := (List.getElem?_eq_some_iff.1 hu).1; omega
      have := hcc q hq
      rw [hsz, Go.Proofs.YtiplneodkcjkmaaW.PrintWords.add_add] at this
      rw [this, hu])
    refine ⟨l, ⟨some a, cap, by rw [hll], by omega, by rw [hll], by unfold maxLen at hm; omega, fun _ => ⟨a, rfl, fun j p hj => (hr j p hj).1⟩⟩, by omega, fun x hx => ?_⟩
    obtain ⟨i, hi⟩ := List.mem_iff_getElem?.1 hx
    exact (hr i x hi).2
theorem opens_pair_field {α β : Type} {d0 : Kd α} {d1 : Kd β} {cs : List Value} {x : α} {y : β} (n0 : Nat) (h0 : d0.K w x (cs.take n0)) (h1 : d1.K w y (cs.drop n0)) : (Kd.pair d0 d1).K w (x, y) cs := ⟨cs.take n0, cs.drop n0, (List.take_append_drop n0 cs).symm, h0, h1⟩
theorem opens_struct2 {α β γ : Type} {d0 : Kd α} {d1 : Kd β} {t : TypeId} {f0 f1 : Field} {ok0 : α → Prop} {ok1 : β → Prop} (f : γ → α × β) (mk : α → β → γ) (hf : ∀ a b, f (mk a b) = (a, b)) (ht : P.underlying t = some (.struct #[f0, f1]))
    (h0 : f0.offset = 0) (h1 : f1.offset = d0.sz) (c0 : P.cellsOf f0.type = d0.sz) (c1 : P.cellsOf f1.type = d1.sz) (ct : P.cellsOf t = d0.sz + d1.sz) (o0 : Opens P enc w spare held d0 f0.type ok0) (o1 : Opens P enc w spare held d1 f1.type ok1) :
    Opens P enc w spare held (Kd.iso (Kd.pair d0 d1) f) t (fun z => ok0 (f z).1 ∧ ok1 (f z).2) := fun fuel cs x h => by
  obtain ⟨y0, y1, n, _, hl, g0, g1⟩ := trod_struct2 ht h
  rw [h0, c0, List.drop_zero] at g0
  rw [h1, c1, List.take_of_length_le (by rw [List.length_drop]; omega)] at g1
  obtain ⟨a, ha, oa⟩ := o0 _ _ _ g0
  obtain ⟨b, hb, ob⟩ := o1 _ _ _ g1
  exact ⟨mk a b, by show (Kd.pair d0 d1).K w (f (mk a b)) cs; rw [hf]; exact opens_pair_field d0.sz ha hb, by rw [hf]; exact oa, by rw [hf]; exact ob⟩
theorem opens_struct4 {α0 α1 α2 α3 γ : Type} {d0 : Kd α0} {d1 : Kd α1} {d2 : Kd α2} {d3 : Kd α3} {t : TypeId} {f0 f1 f2 f3 : Field} {ok0 : α0 → Prop} {ok1 : α1 → Prop} {ok2 : α2 → Prop} {ok3 : α3 → Prop} (f : γ → α0 × α1 × α2 × α3) (mk : α0 → α1 → α2 → α3 → γ) (hf : ∀ a b c d, f (mk a b c d) = (a, b, c, d)) (ht : P.underlying t = some (.struct #[f0, f1, f2, f3]))
    (h0 : f0.offset = 0) (h1 : f1.offset = d0.sz) (h2 : f2.offset = d0.sz + d1.sz) (h3 : f3.offset = d0.sz + d1.sz + d2.sz) (c0 : P.cellsOf f0.type = d0.sz) (c1 : P.cellsOf f1.type = d1.sz) (c2 : P.cellsOf f2.type = d2.sz) (c3 : P.cellsOf f3.type = d3.sz) (ct : P.cellsOf t = d0.sz + d1.sz + d2.sz + d3.sz)
    (o0 : Opens P enc w spare held d0 f0.type ok0) (o1 : Opens P enc w spare held d1 f1.type ok1) (o2 : Opens P enc w spare held d2 f2.type ok2) (o3 : Opens P enc w spare held d3 f3.type ok3) :
    Opens P enc w spare held (Kd.iso (Kd.pair d0 (Kd.pair d1 (Kd.pair d2 d3))) f) t (fun z => ok0 (f z).1 ∧ ok1 (f z).2.1 ∧ ok2 (f z).2.2.1 ∧ ok3 (f z).2.2.2) := fun fuel cs x h => by
  obtain ⟨xs, n, _, _, hl, hlen, hfl⟩ := DataW.trod_struct ht h
  match xs, hlen with
  | [y0, y1, y2, y3], _ =>
    have g0 : DataW.trod enc P w 0 spare held n f0.type ((cs.drop f0.offset).take (P.cellsOf f0.type)) = some y0 := by simpa using hfl 0 f0 rfl
    have g1 : DataW.trod enc P w 0 spare held n f1.type ((cs.drop f1.offset).take (P.cellsOf f1.type)) = some y1 := by simpa using hfl 1 f1 rfl
    have g2 : DataW.trod enc P w 0 spare held n f2.type ((cs.drop f2.offset).take (P.cellsOf f2.type)) = some y2 := by simpa using hfl 2 f2 rfl
    have g3 : DataW.trod enc P w 0 spare held n f3.type ((cs.drop f3.offset).take (P.cellsOf f3.type)) = some y3 := by simpa using hfl 3 f3 rfl
    rw [h0, c0, List.drop_zero] at g0
    rw [h1, c1] at g1
    rw [h2, c2, ← List.drop_drop] at g2
    rw [h3, c3, List.take_of_length_le (by rw [List.length_drop]; omega), ← List.drop_drop, ← List.drop_drop] at g3
    obtain ⟨a, ha, oa⟩ := o0 _ _ _ g0
    obtain ⟨b, hb, ob⟩ := o1 _ _ _ g1
    obtain ⟨c, hc, oc⟩ := o2 _ _ _ g2
    obtain ⟨d, hd, od⟩ := o3 _ _ _ g3
    exact ⟨mk a b c d, by
      show (Kd.pair d0 (Kd.pair d1 (Kd.pair d2 d3))).K w (f (mk a b c d)) cs
      rw [hf]; exact opens_pair_field d0.sz ha (opens_pair_field d1.sz hb (opens_pair_field d2.sz hc hd)), by rw [hf]; exact oa, by rw [hf]; exact ob, by rw [hf]; exact oc, by rw [hf]; exact od⟩
end Go.Proofs.Ytiplneodkcjkmaa.P
