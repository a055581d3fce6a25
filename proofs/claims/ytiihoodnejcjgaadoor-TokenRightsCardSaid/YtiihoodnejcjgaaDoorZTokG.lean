/- The reference's terms: they are the same. -/
import Derived.Test.YtiihoodnejcjgaaDoorZTokD
import Derived.Test.YtiihoodnejcjgaaDoorZDec
import Derived.Test.YtiihoodnejcjgaaDoorHBR
namespace Go.Proofs.YtiihoodnejcjgaaDoor.P
open Go.RowKit Go.Proofs.YtiihoodnejcjgaaDoorW.PrintWords Go.Proofs.YtiihoodnejcjgaaDoorW.PrintLast Go.Proofs.YtiihoodnejcjgaaDoorW.PrintMore
set_option linter.unusedVariables false
set_option linter.unusedSimpArgs false
/-- A word's text, as far as it has room. -/
def wordT : List Int → List Int → List Int
  | acc, [] => acc
  | acc, c :: l => if 64 < acc.length + (encS (smallS c)).length then acc else wordT (acc ++ encS (smallS c)) l
theorem fold_full (w : List Int) (hw : ∀ c ∈ w, wordB c = true) : ∀ s : TS, s.op = true → s.fu = true → w.foldl stepS s = s := by
  induction w with
  | nil => intro s _ _; rfl
  | cons c w ih =>
    intro s ho hf
    rw [List.foldl_cons]
    have : stepS s c = s := by
      unfold stepS takeS
      rw [if_pos (hw c (List.mem_cons_self ..)), if_pos (.inl hf)]
      cases s
      simp_all
    rw [this]
    exact ih (fun c hc => hw c (List.mem_cons_of_mem _ hc)) s ho hf
theorem fold_word (w : List Int) (hw : ∀ c ∈ w, wordB c = true) : ∀ (out : List ByteArray) (o : Bool) (acc : List Int), ∃ o' f', w.foldl stepS ⟨out, o, false, acc⟩ = ⟨out, o', f', wordT acc w⟩ ∧ (o' = true ∨ w = [] ∧ o' = o) := by
  induction w with
  | nil => intro out o acc; exact ⟨o, false, rfl, .inr ⟨rfl, rfl⟩⟩
  | cons c w ih =>
    intro out o acc
    have hc := hw c (List.mem_cons_self ..)
    have hw' : ∀ c ∈ w, wordB c = true := fun c hc => hw c (List.mem_cons_of_mem _ hc)
    rw [List.foldl_cons, wordT]
    by_cases h : 64 < acc.length + (encS (smallS c)).length
    · have : stepS ⟨out, o, false, acc⟩ c = ⟨out, true, true, acc⟩ := by
        unfold stepS takeS
        rw [if_pos hc, if_pos (.inr h)]
      rw [this, if_pos h, fold_full w hw' _ rfl rfl]
      exact ⟨true, true, rfl, .inl rfl⟩
    · have : stepS ⟨out, o, false, acc⟩ c = ⟨out, true, false, acc ++ encS (smallS c)⟩ := by
        unfold stepS takeS
        rw [if_pos hc, if_neg (by simp only [Bool.false_eq_true, false_or]; exact h)]
      rw [this, if_neg h]
      obtain ⟨o', f', h1, h2⟩ := ih hw' out true (acc ++ encS (smallS c))
      exact ⟨o', f', h1, .inl (h2.elim id (·.2))⟩
/-- The terms of a word and what is behind it. -/
theorem terms_word (w r : List Int) (hw : ∀ c ∈ w, wordB c = true) (hr : ∀ c, r.head? = some c → wordB c = false) (out : List ByteArray) :
    (endT ((w ++ r).foldl stepS ⟨out, false, false, []⟩)).out = (if w = [] then out else out ++ [strOfNums (wordT [] w)]) ++ termsS r.tail := by
  rw [List.foldl_append]
  obtain ⟨o', f', h1, h2⟩ := fold_word w hw out false []
  rw [h1]
  have hout : (endT ⟨out, o', f', wordT [] w⟩).out = if w = [] then out else out ++ [strOfNums (wordT [] w)] := by
    unfold endT
    dsimp only
    by_cases hw0 : w = []
    · subst hw0
      rcases h2 with rfl | ⟨_, rfl⟩
      · exfalso
        have := congrArg TS.op h1
        simp at this
      · simp
    · rcases h2 with rfl | ⟨h2, _⟩
      · rw [if_pos rfl, if_neg hw0]
      · exact absurd h2 hw0
  cases r with
  | nil =>
    rw [List.foldl_nil, hout]
    have : termsS ([] : List Int).tail = [] := by unfold termsS endT; simp
    rw [this, List.append_nil]
  | cons c r =>
    have hc := hr c rfl
    rw [List.foldl_cons, List.tail_cons]
    have h3 : stepS ⟨out, o', f', wordT [] w⟩ c = endT ⟨out, o', f', wordT [] w⟩ := by unfold stepS; rw [if_neg (by rw [hc]; decide)]
    rw [h3, ← hout]
    have h4 : endT ⟨out, o', f', wordT [] w⟩ = { (⟨[], false, false, []⟩ : TS) with out := (endT ⟨out, o', f', wordT [] w⟩).out ++ (⟨[], false, false, []⟩ : TS).out } := by unfold endT; simp
    rw [h4, fold_out, end_out]
    simp [termsS]
end Go.Proofs.YtiihoodnejcjgaaDoor.P
