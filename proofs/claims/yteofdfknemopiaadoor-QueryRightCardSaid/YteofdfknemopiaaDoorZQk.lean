/- Query, plain (6): the document's examples. -/
import Derived.Test.YteofdfknemopiaaDoorHBZ
import Derived.Test.YteofdfknemopiaaDoorPxRubricklaw16knows
import Derived.KernelRfl
set_option linter.unusedVariables false
set_option linter.unusedSimpArgs false
namespace Go.Proofs.YteofdfknemopiaaDoor.P
open Go.RowKit Go.Proofs.YteofdfknemopiaaDoorW.PrintWords Go.Proofs.YteofdfknemopiaaDoorW.PrintLast Go.Proofs.YteofdfknemopiaaDoorW.PrintMore
set_option maxRecDepth 100000 in
theorem knows16 : rubricklaw16_knows.f 300 = some true := by kernel_rfl
theorem knows16_ge (k : Nat) (hk : 300 ≤ k) : rubricklaw16_knows.f k = some true := by
  obtain ⟨j, rfl⟩ : ∃ j, k = 300 + j := ⟨k - 300, by omega⟩
  exact le_mono rubricklaw16_knows.mono knows16 j
end Go.Proofs.YteofdfknemopiaaDoor.P
