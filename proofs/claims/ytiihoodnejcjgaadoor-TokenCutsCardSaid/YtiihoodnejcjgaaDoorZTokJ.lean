/- The plain law TokenCuts. -/
import Derived.Test.YtiihoodnejcjgaaDoorZTokI
import Derived.Test.YtiihoodnejcjgaaDoorPxRubricklaw05TokenCuts
namespace Go.Proofs.YtiihoodnejcjgaaDoor.P
open Go.RowKit Go.Proofs.YtiihoodnejcjgaaDoorW.PrintWords Go.Proofs.YtiihoodnejcjgaaDoorW.PrintLast Go.Proofs.YtiihoodnejcjgaaDoorW.PrintMore
set_option linter.unusedVariables false
set_option linter.unusedSimpArgs false
theorem TokenCuts_pure (b : List Int) (hw : ∀ x ∈ b, (Lit.int .u8 x).wf = true) : ∃ k, rubricklaw05_TokenCuts.f k b = some true := by
  refine ⟨20000000, ?_⟩
  have hb := u8_bytes hw
  unfold rubricklaw05_TokenCuts.f
  rw [great05, Option.bind_some]
  by_cases h : (b.length : Int) > 2000
  · rw [if_pos (decide_eq_true h), knows05_ge _ (by omega)]; rfl
  have hn := decS_length b.length b hb (Nat.le_refl _)
  have ht := terms_f b hb (by omega)
  have hl := terms_len (decS b)
  have hsl := setS_len (termsS (decS b))
  rw [if_neg (by simp; omega), Option.bind_some, List.nil_append, List.length_nil, if_pos (by omega), ht, Option.bind_some, rterms_f b hb (by omega) _ (by omega), Option.bind_some, same_f _ (by omega) _ (by omega), Option.bind_some, if_pos rfl,
    Option.bind_some, List.nil_append, List.length_nil, if_pos (by omega), set_of b _ ht (by omega) _ (by omega), Option.bind_some, rset_f b hb (by omega) _ (by omega), Option.bind_some, same_f _ (by omega) _ (by omega), Option.bind_some, if_pos rfl, knows05_ge _ (by omega)]
  rfl
end Go.Proofs.YtiihoodnejcjgaaDoor.P
