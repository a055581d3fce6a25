/- The base of this session's printed texts: what the tables of letters and of signs hold (G), and the event '[]byte(s)'. -/
import Derived.Test.YteofdfknemopiaaDoorProg
import Derived.Test.YteofdfknemopiaaDoorWWords
import Derived.Test.YteofdfknemopiaaDoorWMore
import Derived.Test.YteofdfknemopiaaDoorWShare
import Derived.Test.YteofdfknemopiaaDoorWKept
import Derived.Lib.ConvBytes
import Derived.KernelRfl
namespace Go.Proofs.YteofdfknemopiaaDoor.P
open Go.RowKit Go.Proofs.YteofdfknemopiaaDoorW.PrintWords Go.Proofs.YteofdfknemopiaaDoorW.PrintMore

/-- The table of letters, as its initialiser lays it: from, to, small. -/
def letCells : Array Value := #[.int .i64 65, .int .i64 90, .int .i64 32, .int .i64 97, .int .i64 122, .int .i64 0, .int .i64 192, .int .i64 214, .int .i64 32, .int .i64 216, .int .i64 222, .int .i64 32, .int .i64 223, .int .i64 246, .int .i64 0, .int .i64 248, .int .i64 255, .int .i64 0, .int .i64 913, .int .i64 929, .int .i64 32, .int .i64 931, .int .i64 937, .int .i64 32, .int .i64 945, .int .i64 969, .int .i64 0, .int .i64 1024, .int .i64 1039, .int .i64 80, .int .i64 1040, .int .i64 1071, .int .i64 32, .int .i64 1072, .int .i64 1119, .int .i64 0]
/-- The table of signs. -/
def signCells : Array Value := #[.int .u8 0, .int .u8 38, .int .u8 124, .int .u8 33]
/-- The variables utf.letters and query.signs read as their tables. -/
def G (w : World) : Prop := (∃ t fr, w.heap[1]? = some (.cells letCells t fr)) ∧ ∃ t fr, w.heap[0]? = some (.cells signCells t fr)
theorem G.letters {w : World} (h : G w) : ∃ t fr, w.heap[1]? = some (.cells letCells t fr) := h.1
theorem G.signs {w : World} (h : G w) : ∃ t fr, w.heap[0]? = some (.cells signCells t fr) := h.2
theorem G.below {w w' : World} (h : G w) (hb : Below w.heap.size w w') : G w' := by
  obtain ⟨⟨t, fr, hc⟩, t2, fr2, hc2⟩ := h
  exact ⟨⟨t, fr, (hb.block _ (Array.getElem?_eq_some_iff.1 hc).1).trans hc⟩, t2, fr2, (hb.block _ (Array.getElem?_eq_some_iff.1 hc2).1).trans hc2⟩
theorem G.alloc {w : World} (h : G w) (o : Obj) : G (w.alloc o) := h.below (below_alloc (Below.refl _ _) o)
theorem G.drew {w : World} (h : G w) : G w.drew := h.below (below_drew (Below.refl _ _))
theorem G.drewN {w : World} (h : G w) (n : Nat) : G (w.drewN n) := h.below (pw_below_drewN (Below.refl _ _) n)

section
variable {P : Program} {ops : Array Oper} {rest : List Oper} {o : Oper} {a : Act} {Q : Exit → Act → World → Prop}
theorem bytes_below (w : World) (e : TypeId) (s : ByteArray) : Below w.heap.size w (Lib.bytesWorld w e s) := by
  refine ⟨?_, ?_, ?_, ?_, ?_⟩
  · rfl
  · rfl
  · rfl
  · rw [Lib.bytesWorld_size]; omega
  · intro i hi; exact Lib.bytesWorld_at_old w e s i hi
theorem bytes_len (s : ByteArray) : (bytesOf s).length = s.size := by
  unfold bytesOf
  rw [List.length_map, Array.length_toList]
  rfl
/-- '[]byte(s)', where its length is one. -/
def bytesO (s : ByteArray) : Option (List Int) := if s.size ≤ 9223372036854775807 then some (bytesOf s) else none
/-- '[]byte(s)': a new row that reads as the string's bytes; whatever leaves its block alone leaves it so. -/
theorem bytes_event (hgd : o.guard = none) {N : Tmp} (_hd : o.dst = some N) {W : World} (src dst e : TypeId) (x : Operand) (s : ByteArray) {r : List Int} (ho : o.op = .convert src dst x) (hx : a.eval x = .string s)
    (hs : P.underlying src = some .string) (hdst : P.underlying dst = some (.slice e)) (he : P.underlying e = some (.int .u8)) (hr : bytesO s = some r)
    (h : ∀ v w1, Kd.V (Kd.int .u8) e w1 W.heap.size (fun k_ => W.heap.size ≤ k_) v r → Below W.heap.size W w1 → wpList P ops Q rest (a.put o.dst v) w1) : wpList P ops Q (o :: rest) a W := by
  unfold bytesO at hr
  by_cases hsz : s.size ≤ 9223372036854775807
  case neg => rw [if_neg hsz] at hr; cases hr
  rw [if_pos hsz] at hr
  obtain rfl := Option.some.inj hr
  have hrun : (execOp a.eval o).run P W = .ok (.value (.slice (some ⟨W.heap.size, 0, none⟩) s.size (grownCap W s.size 0 e))) (Lib.bytesWorld W e s) := by
    have h1 := Lib.run_convert_string_bytes W src dst e s hs hdst he
    rw [← hx] at h1
    simp [execOp, ho, h1]
  refine Kd.event_run hgd hrun (h _ _ ?_ (bytes_below W e s))
  refine ⟨some ⟨W.heap.size, 0, none⟩, grownCap W s.size 0 e, by rw [bytes_len], ?_, ?_⟩
  · rw [bytes_len]
    exact grownCap_ge _ _ _ _
  · intro W' hW
    have hb : W'.heap[W.heap.size]? = (Lib.bytesWorld W e s).heap[W.heap.size]? := hW _ (Nat.le_refl _) (by rw [Lib.bytesWorld_size]; omega)
    refine ⟨rfl, by rw [bytes_len]; exact hsz, fun _ => ⟨_, rfl, fun j p hj => ⟨[.int .u8 p], rfl, rfl, fun i u hu => ?_⟩⟩⟩
    have hjl : j < s.size := by have := (List.getElem?_eq_some_iff.1 hj).1; rw [bytes_len] at this; exact this
    cases i with
    | succ i => simp at hu
    | zero =>
      obtain rfl : Value.int .u8 p = u := by simpa using hu
      have hcell := Lib.bytesWorld_cell W e s j hjl
      have hs : (Kd.int IntKind.u8).sz = 1 := rfl
      rw [hs, Nat.mul_one, Nat.add_zero, add_plain]
      have hp : ((s.data.toList.getD j 0).toNat : Int) = p := by
        have h1 : (bytesOf s)[j]? = some p := hj
        unfold bytesOf at h1
        rw [List.getElem?_map] at h1
        rw [List.getD_eq_getElem?_getD]
        cases h2 : s.data.toList[j]? with
        | none => rw [h2] at h1; cases h1
        | some b => rw [h2] at h1; simpa using h1
      rw [← hp, ← hcell]
      simp only [World.cell?, hb]
/-- '[]byte("..")' of a constant that is not empty. -/
def markO (l : List Int) : Option (List Int) := if 0 < l.length then some l else none
/-- Its row gets the run-time's mark; from then on it is only read. -/
theorem mark_event {N : Tmp} (T e : TypeId) (hgd : o.guard = none) (_hd : o.dst = some N) {x : Operand} (ho : o.op = .convert T T x)
    (ht : P.underlying T = some (.slice e)) (he : P.underlying e = some (.int .u8)) (P0_ : Nat → Prop) (u : Value) (l0 r : List Int) (w0 W : World) (hB : Below w0.heap.size w0 W)
    (ho0 : Kd.R (Kd.int .u8) e W w0.heap.size P0_ u l0) (hr : markO l0 = some r) (hx : a.eval x = u)
    (h : ∀ v' w', Kd.V (Kd.int .u8) e w' w0.heap.size (fun k_ => (P0_ k_ ∨ W.heap.size ≤ k_)) v' r → Below w0.heap.size w0 w' → Kept W w' (fun k_ => P0_ k_) → wpList P ops Q rest (a.put o.dst v') w') : wpList P ops Q (o :: rest) a W := by
  unfold markO at hr
  by_cases hp : 0 < l0.length
  case neg => rw [if_neg hp] at hr; cases hr
  rw [if_pos hp] at hr
  obtain rfl := Option.some.inj hr
  obtain ⟨g, cap, rfl, hbg, hgl, cells, hg⟩ := Kd.R_form ho0 hp
  have hok : P0_ g := ho0.1 g rfl
  have hC := (Kd.R_reads' ho0).2.2
  have hcap := (Kd.R_reads' ho0).2.1
  have hat : ∀ i, i < W.heap.size → i ≠ g → (W.freeze ⟨g, cells.size, none⟩ 1).heap[i]? = W.heap[i]? := by
    intro i _ hne
    unfold World.freeze
    rw [if_neg (by decide)]
    show (W.heap.modify g _)[i]? = _
    rw [Array.getElem?_modify, if_neg (fun e => hne e.symm)]
  have hsz : (W.freeze ⟨g, cells.size, none⟩ 1).heap.size = W.heap.size := by
    unfold World.freeze
    rw [if_neg (by decide)]
    show (W.heap.modify g _).size = _
    rw [Array.size_modify]
  have hcell : ∀ j, (W.freeze ⟨g, cells.size, none⟩ 1).cell? ⟨g, j, none⟩ = W.cell? ⟨g, j, none⟩ := by
    intro j
    have h1 : ∃ fr, (W.freeze ⟨g, cells.size, none⟩ 1).heap[g]? = some (.cells cells e fr) := by
      unfold World.freeze
      rw [if_neg (by decide)]
      show ∃ fr, (W.heap.modify g _)[g]? = _
      rw [Array.getElem?_modify, if_pos rfl, hg]
      exact ⟨_, rfl⟩
    obtain ⟨fr, h1⟩ := h1
    rw [cell_of_row _ g j cells e fr h1, cell_of_row _ g j cells e (0, 0) hg]
  have hrun : (execOp a.eval o).run P W = .ok (.value (.slice (some ⟨g, 0, none⟩) l0.length cap)) (W.freeze ⟨g, cells.size, none⟩ 1) := by
    have hsh : W.shape? g = some (e, cells.size) := by
      unfold World.shape?
      rw [hg]
    simp [execOp, ho, hx, convert, run_underlying ht, run_underlying he, markStringish, hsh]
  have hb : Below w0.heap.size w0 (W.freeze ⟨g, cells.size, none⟩ 1) := by
    refine ⟨?_, ?_, ?_, ?_, ?_⟩
    · exact hB.os
    · exact hB.tape
    · exact hB.output
    · rw [hsz]; exact hB.size
    · intro i hi
      rw [hat i (Nat.lt_of_lt_of_le hi hB.size) (by omega)]
      exact hB.block i hi
  refine Kd.event_run hgd hrun (h _ _ ?_ hb ⟨by rw [hsz]; exact Nat.le_refl _, fun i hi hn => hat i hi (fun e_ => hn (e_ ▸ hok))⟩)
  refine ⟨_, cap, rfl, hcap, fun W' hW => ⟨rfl, hC.2.1, fun hn => ⟨_, rfl, fun j p hj => ⟨[.int .u8 p], rfl, rfl, fun i v hv => ?_⟩⟩⟩⟩
  obtain ⟨ad, had, hcc⟩ := hC.2.2 hn
  obtain rfl := Option.some.inj had
  obtain ⟨c, hcl, hcp, hc⟩ := hcc j p hj
  have hce : c = [.int .u8 p] := hcp
  subst hce
  have h2 := hc i v hv
  rw [← h2]
  have hblk : W'.heap[g]? = (W.freeze ⟨g, cells.size, none⟩ 1).heap[g]? := hW g (.inl hok) (by rw [hsz]; exact hgl)
  rw [add_plain, ← hcell]
  simp only [World.cell?, hblk]
theorem own_ne_len {A : Option Addr} {n c m c' : Nat} {x : Option Nat} (h : x ≠ (Value.slice A n c).ownBlock) : x ≠ (Value.slice A m c').ownBlock := by cases A <;> exact h
end
end Go.Proofs.YteofdfknemopiaaDoor.P
