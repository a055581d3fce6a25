/- The plain law UtfDecodes. -/
import Derived.Test.YtiihoodnejcjgaaDoorZDec
import Derived.Test.YtiihoodnejcjgaaDoorPxRubricklaw04UtfDecodes
namespace Go.Proofs.YtiihoodnejcjgaaDoor.P
open Go.RowKit Go.Proofs.YtiihoodnejcjgaaDoorW.PrintWords Go.Proofs.YtiihoodnejcjgaaDoorW.PrintLast Go.Proofs.YtiihoodnejcjgaaDoorW.PrintMore
set_option linter.unusedVariables false
set_option linter.unusedSimpArgs false
theorem knows04d : rubricklaw04_knows.f 40 = some true := by kernel_rfl
theorem knows04d_ge (k : Nat) (hk : 40 ≤ k) : rubricklaw04_knows.f k = some true := by
  have := le_mono (fun k => rubricklaw04_knows.mono k) knows04d (k - 40)
  rwa [show 40 + (k - 40) = k by omega] at this
theorem decodes_l0 (l : List Int) (hl : l.length ≤ 1000000) (d : Nat) : ∀ (i k : Nat), l.length - i ≤ d → d + 50 ≤ k → rubricklaw04_UtfDecodes.l0 k l l (i : Int) = some true := by
  induction d with
  | zero =>
    intro i k hi hk
    obtain ⟨k, rfl⟩ : ∃ k', k = k' + 1 := ⟨k - 1, by omega⟩
    rw [rubricklaw04_UtfDecodes.l0, if_neg (by omega), knows04d_ge k (by omega)]
    rfl
  | succ d ih =>
    intro i k hi hk
    obtain ⟨k, rfl⟩ : ∃ k', k = k' + 1 := ⟨k - 1, by omega⟩
    rw [rubricklaw04_UtfDecodes.l0]
    by_cases h : i < l.length
    · rw [if_pos (by omega), if_pos (by omega), if_pos (by omega), if_pos rfl, succ_wrap i l.length h (by omega)]
      exact ih (i + 1) k (by omega) (by omega)
    · rw [if_neg (by omega), knows04d_ge k (by omega)]
      rfl
theorem UtfDecodes_pure (b : List Int) (hw : ∀ x ∈ b, (Lit.int .u8 x).wf = true) : ∃ k, rubricklaw04_UtfDecodes.f k b = some true := by
  refine ⟨5000, ?_⟩
  have hb := u8_bytes hw
  unfold rubricklaw04_UtfDecodes.f
  by_cases h : (b.length : Int) > 2000
  · rw [if_pos h, knows04d_ge _ (by decide)]; rfl
  · have hn := decS_length b.length b hb (Nat.le_refl _)
    rw [if_neg h, Option.bind_some, List.nil_append, List.length_nil, if_pos (by omega), decode_f b _ hb (by omega) (by omega), Option.bind_some, rdecode_f b hb (by omega), Option.bind_some, if_pos rfl]
    exact decodes_l0 _ (by omega) 2010 0 5000 (by omega) (by decide)
end Go.Proofs.YtiihoodnejcjgaaDoor.P
