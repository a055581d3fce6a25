/- By hand: block.own: a disk with memory of its own: its blocks lie one behind the other in one row of bytes. -/
import Derived.Test.YtiplneodkcjkmaaPxBlockRight
import Derived.Outline
import Derived.WalkLawsBesides
import Derived.Shelf.RegionOpenPlain
set_option linter.unusedVariables false
set_option linter.unusedSimpArgs false
namespace Go.Proofs.Ytiplneodkcjkmaa.P
open Go.RowKit Go.Proofs.YtiplneodkcjkmaaW.PrintWords Go.Proofs.YtiplneodkcjkmaaW.PrintLast Go.Proofs.YtiplneodkcjkmaaW.PrintMore
def Held (p : Prop) : Prop := p
theorem hold {p : Prop} (h : Held p) : p := h
/-- A disk that may be. -/
def OKD (bs : List (List Int)) (ws : List S57) : Prop := bs.length ≤ 4096 ∧ ws.length ≤ 1000 ∧ (∀ b ∈ bs, b.length = 64) ∧ ∀ x ∈ ws, 0 ≤ x.f0 ∧ x.f0 < (bs.length : Int) ∧ x.f1.length = 64
instance (bs : List (List Int)) (ws : List S57) : Decidable (OKD bs ws) := by unfold OKD; exact inferInstance
def block_own.f (bs : List (List Int)) (ws : List S57) : Option (List (List Int) × List S57) :=
  (block_Right.f (bs.length + ws.length + 10) bs ws).bind fun b => if b = true then (if OKD bs ws then some (bs, ws) else none) else some ([], [])
end Go.Proofs.Ytiplneodkcjkmaa.P
