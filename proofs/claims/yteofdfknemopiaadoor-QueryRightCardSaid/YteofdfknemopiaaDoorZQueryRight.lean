/- QueryRight, plain: what is parsed is right; what isn't a question is told as such. -/
import Derived.Test.YteofdfknemopiaaDoorZQk
import Derived.Test.YteofdfknemopiaaDoorPxRubricklaw16QueryRight
set_option linter.unusedVariables false
set_option linter.unusedSimpArgs false
namespace Go.Proofs.YteofdfknemopiaaDoor.P
open Go.RowKit Go.Proofs.YteofdfknemopiaaDoorW.PrintWords Go.Proofs.YteofdfknemopiaaDoorW.PrintLast Go.Proofs.YteofdfknemopiaaDoorW.PrintMore
theorem QueryRight_pure (b : List Int) (hb : ∀ x ∈ b, (Lit.int .u8 x).wf = true) : ∃ k, rubricklaw16_QueryRight.f k b = some true := by
  refine ⟨200000, ?_⟩
  have hB := u8_bytes hb
  have kn := knows16_ge 200000 (by omega)
  unfold rubricklaw16_QueryRight.f
  by_cases h1 : (b.length : Int) > 2500
  · rw [if_pos h1, kn]; rfl
  rw [if_neg h1, Option.bind_some, List.nil_append, if_pos (by simp; omega)]
  by_cases h2 : b.length ≤ 2000
  · obtain ⟨R, hR, hA⟩ := parse_of b hB h2
    have hok := (ok_T (4 * b.length + 20)).2.2.2.1 0 0 (lex b) (lex_good b.length b hB (Nat.le_refl _)) (by omega)
    rw [hR] at hok
    have bad : ∀ i e : Int, e ≠ 0 → 0 ≤ i → i ≤ (b.length : Int) → query_Parse.f b = some ([], i, e) → ((query_Parse.f b).bind fun bt261 => (if bt261.2.2 = 0 then ((query_Right.f 200000 bt261.1).bind fun t267 => (if t267 = true then (if bt261.2.1 = 0 then ((query_Terms.f 200000 bt261.1).bind fun t268 => (if (t268.length : Int) ≥ 1 then ((query_Terms.f 200000 bt261.1).bind fun t271 => (if (t271.length : Int) ≤ 16 then ((rubricklaw16_knows.f 200000).bind fun t274 => (some t274)) else (some false))) else (some false))) else (some false)) else (some false))) else (if (bt261.1.length : Int) = 0 then (if bt261.2.1 ≥ 0 then (if bt261.2.1 ≤ (b.length : Int) then ((rubricklaw16_knows.f 200000).bind fun t266 => (some t266)) else (some false)) else (some false)) else (some false)))) = some true := fun i e he h0 hl hp => by
      rw [hp, Option.bind_some, if_neg he, if_pos (by simp), if_pos h0, if_pos hl, kn]; rfl
    cases R with
    | er e =>
      obtain ⟨i, g1, g2, g3⟩ := hA
      have he : e = 2 ∨ e = 8 ∨ e = 9 := hok
      exact bad i e (by omega) g1 g2 g3
    | ok o w t =>
      cases t with
      | cons x t =>
        obtain ⟨i, g1, g2, g3⟩ := hA
        exact bad i 2 (by omega) g1 g2 g3
      | nil =>
        obtain ⟨m, q1, q2, q3, _⟩ := hok
        have hp : query_Parse.f b = some (o, 0, 0) := hA
        obtain ⟨r, r1, r2, r3⟩ := terms_q q1 (by omega) 200000 (by omega)
        rw [hp, Option.bind_some, if_pos rfl, qright_f q1 (by omega) 200000 (by omega), Option.bind_some, if_pos rfl, if_pos rfl, r3, Option.bind_some, if_pos (by omega), Option.bind_some, if_pos (by omega), kn]
        rfl
  · have hp : query_Parse.f b = some ([], 0, 8) := by
      unfold query_Parse.f
      rw [if_pos (by omega)]
    rw [hp, Option.bind_some, if_neg (by decide), if_pos (by simp), if_pos (by simp), if_pos (by simp), kn]
    rfl
end Go.Proofs.YteofdfknemopiaaDoor.P
