/- The plain law UtfEncodes. -/
import Derived.Test.YtiihoodnejcjgaaDoorZUtfC
import Derived.Test.YtiihoodnejcjgaaDoorZUtfB
import Derived.Test.YtiihoodnejcjgaaDoorPxRubricklaw04UtfEncodes
namespace Go.Proofs.YtiihoodnejcjgaaDoor.P
open Go.RowKit Go.Proofs.YtiihoodnejcjgaaDoorW.PrintWords Go.Proofs.YtiihoodnejcjgaaDoorW.PrintLast Go.Proofs.YtiihoodnejcjgaaDoorW.PrintMore
set_option linter.unusedVariables false
set_option linter.unusedSimpArgs false

theorem UtfEncodes_pure (a : Int) (h : (Lit.int .i64 a).wf = true) : ∃ k, rubricklaw04_UtfEncodes.f k a = some true := by
  refine ⟨40, ?_⟩
  unfold rubricklaw04_UtfEncodes.f
  rw [enc_f a 40 (by decide), rright_f, right_f]
  simp only [Option.bind_some, bne_self_eq_false, if_false, knows04]
  by_cases hr : isR a = true
  · simp only [hr, if_true, renc_f a hr, Option.bind_some, Bool.false_eq_true, if_false]
  · simp only [hr, if_false, Bool.false_eq_true, List.length_nil, Int.natCast_zero, if_true]
end Go.Proofs.YtiihoodnejcjgaaDoor.P
