/- Small facts on lists, wraps and bytes that the plain laws share. -/
import Derived.Test.YtiihoodnejcjgaaDoorZUtfC
namespace Go.Proofs.YtiihoodnejcjgaaDoor.P
open Go.RowKit Go.Proofs.YtiihoodnejcjgaaDoorW.PrintWords Go.Proofs.YtiihoodnejcjgaaDoorW.PrintLast Go.Proofs.YtiihoodnejcjgaaDoorW.PrintMore
set_option linter.unusedVariables false
set_option linter.unusedSimpArgs false
theorem le_mono {α : Type} {g : Nat → Option α} (hm : ∀ k, LeO (g k) (g (k + 1))) {k : Nat} {r : α} (h : g k = some r) : ∀ j, g (k + j) = some r
  | 0 => h
  | j + 1 => hm (k + j) r (le_mono hm h j)
theorem rd_at (l : List Int) (i : Nat) (h : i < l.length) : rd l (i : Int) = l[i] := by
  unfold rd
  rw [Int.toNat_natCast, List.getD_eq_getElem?_getD, List.getElem?_eq_getElem h]
  rfl
theorem succ_wrap (i n : Nat) (h : i < n) (hn : n ≤ 1000000000000) : wrap64 ((i : Int) + 1) = ((i + 1 : Nat) : Int) := by
  rw [wrap_in (by omega) (by omega)]
  omega
theorem u8_bytes {l : List Int} (h : ∀ x ∈ l, (Lit.int .u8 x).wf = true) : AllB l := fun x hx => by
  have := h x hx
  simp [Lit.wf, IntKind.min, IntKind.max, IntKind.signed, IntKind.bits] at this
  omega
theorem AllB.append {a b : List Int} (ha : AllB a) (hb : AllB b) : AllB (a ++ b) := fun x hx => by
  rcases List.mem_append.1 hx with hx | hx
  · exact ha x hx
  · exact hb x hx

end Go.Proofs.YtiihoodnejcjgaaDoor.P
