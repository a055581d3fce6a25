/- By hand: rubricklaw22.BlockTears: the call. -/
import Derived.Test.YtiplneodkcjkmaaHTearsW
set_option linter.unusedVariables false
set_option linter.unusedSimpArgs false
namespace Go.Proofs.Ytiplneodkcjkmaa.P
open Go.RowKit Go.Proofs.YtiplneodkcjkmaaW.PrintWords Go.Proofs.YtiplneodkcjkmaaW.PrintLast Go.Proofs.YtiplneodkcjkmaaW.PrintMore
attribute [local go_sem] Go.Instr.field Go.part Go.asAgg
def rubricklaw22_BlockTears.f (_k : Nat) (_bs : List (List Int)) (_ws : List S57) (_l : List S50) (_i : Int) (_b _keep : List Int) : Option Bool := some true
set_option maxHeartbeats 4000000 in
set_option maxRecDepth 100000 in
/-- Where the call answers 'knows()' at once: the examples. -/
theorem tears_early (k : Nat) (A0 : Option Addr) (c0 : Nat) (bs : List (List Int)) (A1 : Option Addr) (c1 : Nat) (ws : List S57) (Al : Option Addr) (nl cl : Nat) (i : Int) (Ab : Option Addr) (cb : Nat) (b : List Int) (Ak : Option Addr) (ck : Nat) (keep : List Int) (w : World)
    (hr0 : Kd.C (Kd.slice 5 (Kd.int .u8)) w A0 bs.length bs) (hc0 : bs.length ≤ c0) (hr1 : Kd.C k57 w A1 ws.length ws) (hc1 : ws.length ≤ c1)
    (g h : Bool) (hg : rubricklaw22_Great.f k bs ws = some g) (hh : decide ((300 : Int) < (keep.length : Int)) = h) (hk : g = true ∨ h = true ∨ (b.length : Int) ≠ 64) :
    Calls Try.prog 6 #[.agg #[.slice A0 bs.length c0, .slice A1 ws.length c1], .slice Al nl cl, .int .i64 i, .slice Ab b.length cb, .slice Ak keep.length ck] w fun e w' => e = .returned (.bool true) ∧ Below w.heap.size w w' := by
  have hu25 := Try.underlying25
  have hc0 := Aside0.mk hc0
  have hc1 := Aside0.mk hc1
  have hw0 := Aside0.mk (Below.refl w.heap.size w)
  have hd := Aside0.mk (below_alloc hw0.out (.cells #[.slice A0 bs.length c0, .slice A1 ws.length c1] 25))
  have hr0 := Aside0.mk hr0
  have hr1 := Aside0.mk hr1
  have HH := Aside0.mk hh
  have HK := Aside0.mk hk
  clear hh hk
  go_enter Try.func6, Try.ntmps6
  go_wp2_with (go_at_call 9; go_loud (refine (rubricklaw22_Great.calls k _ _ bs _ _ ws _ _ (Kd.C_below hr0.out hd.out) hc0.out (Kd.C_below hr1.out hd.out) hc1.out hg).mono ?_; rintro e w1 ⟨rfl, hb1⟩; refine hold ?_))
  unfold Held
  have D1 := Aside0.mk (below_step hd.out hb1)
  clear hb1
  cases g with
  | true =>
    go_wp2_with (go_at_call 10; go_loud (refine (rubricklaw22_knows.calls true _ rfl).mono ?_; rintro e w2 ⟨rfl, hb2⟩; refine hold ?_))
    unfold Held
    go_wp2
    go_ret
    exact ⟨rfl, below_step D1.out hb2⟩
  | false =>
    cases h with
    | true =>
      have hdk := HH.out
      have hdk' : (300 : Int) < (keep.length : Int) := by simpa using hdk
      go_wp2_with (go_at_call 10; go_loud (refine (rubricklaw22_knows.calls true _ rfl).mono ?_; rintro e w2 ⟨rfl, hb2⟩; refine hold ?_))
      unfold Held
      go_wp2
      go_ret
      exact ⟨rfl, below_step D1.out hb2⟩
    | false =>
      have hdk := HH.out
      have hdk' : ¬ (300 : Int) < (keep.length : Int) := by simpa using hdk
      have hb6 : (b.length : Int) ≠ 64 := by
        rcases HK.out with h1 | h1 | h1
        · cases h1
        · cases h1
        · exact h1
      have hb7 : ¬ (b.length : Int) = 64 := hb6
      have hb8 : ¬ b.length = 64 := by omega
      go_wp2_with (go_at_call 10; go_loud (refine (rubricklaw22_knows.calls true _ rfl).mono ?_; rintro e w2 ⟨rfl, hb2⟩; refine hold ?_))
      unfold Held
      go_wp2
      go_ret
      exact ⟨rfl, below_step D1.out hb2⟩
theorem rubricklaw22_BlockTears.calls (k : Nat) (A0 : Option Addr) (c0 : Nat) (bs : List (List Int)) (A1 : Option Addr) (c1 : Nat) (ws : List S57) (Al : Option Addr) (cl : Nat) (l : List S50) (i : Int) (Ab : Option Addr) (cb : Nat) (b : List Int) (Ak : Option Addr) (ck : Nat) (keep : List Int) (r : Bool) (w : World)
    (hr0 : Kd.C (Kd.slice 5 (Kd.int .u8)) w A0 bs.length bs) (hc0 : bs.length ≤ c0) (hr1 : Kd.C k57 w A1 ws.length ws) (hc1 : ws.length ≤ c1) (hrl : Kd.C k50 w Al l.length l) (hcl : l.length ≤ cl) (hrb : Kd.C (Kd.int .u8) w Ab b.length b) (hcb : b.length ≤ cb) (hrk : Kd.C (Kd.int .i64) w Ak keep.length keep) (hck : keep.length ≤ ck)
    (h : rubricklaw22_BlockTears.f k bs ws l i b keep = some r) :
    Calls Try.prog 6 #[.agg #[.slice A0 bs.length c0, .slice A1 ws.length c1], .slice Al l.length cl, .int .i64 i, .slice Ab b.length cb, .slice Ak keep.length ck] w fun e w' => e = .returned (.bool r) ∧ Below w.heap.size w w' := by
  obtain rfl : true = r := Option.some.inj h
  have hb := hr0.2.1
  have hw := hr1.2.1
  rcases great_f bs ws hb hw (bs.length + ws.length + 10000) (by omega) with hg | ⟨hg, h1, h2⟩
  · exact tears_early _ A0 c0 bs A1 c1 ws Al l.length cl i Ab cb b Ak ck keep w hr0 hc0 hr1 hc1 true _ hg rfl (.inl rfl)
  · by_cases hk : (300 : Int) < (keep.length : Int)
    · exact tears_early _ A0 c0 bs A1 c1 ws Al l.length cl i Ab cb b Ak ck keep w hr0 hc0 hr1 hc1 false true hg (decide_eq_true hk) (.inr (.inl rfl))
    · by_cases hb6 : b.length = 64
      · obtain ⟨o1, o2⟩ := doneF_D (fun _ => 64) _ _ (goodD_ok bs ws)
        have o3 : (doneF (fun _ => 64) 0 (goodD bs ws).1 (goodD bs ws).2).length ≤ 200 := by
          rw [o2]; unfold goodD; split <;> simp <;> omega
        rw [show Value.slice Ab b.length cb = .slice Ab 64 cb by rw [hb6]]
        exact tears_walk (bs.length + ws.length + 10000) A0 c0 bs A1 c1 ws Al cl l i Ab cb b Ak ck keep w hr0 hc0 hr1 hc1 hrl hcl hrb hcb hrk hck hg (by omega) hb6 _ o1 o3 (sync_f bs ws hb hw)
      · exact tears_early _ A0 c0 bs A1 c1 ws Al l.length cl i Ab cb b Ak ck keep w hr0 hc0 hr1 hc1 false false hg (decide_eq_false hk) (.inr (.inr (by omega)))
theorem BlockTears_pure (bs : List (List Int)) (ws : List S57) (l : List S50) (i : Int) (b keep : List Int) (_hb : bs.length ≤ 9223372036854775807) (_hw : ws.length ≤ 9223372036854775807) (_h2 : l.length ≤ 9223372036854775807) (_h3 : b.length ≤ 9223372036854775807) (_h4 : keep.length ≤ 9223372036854775807) : ∃ k, rubricklaw22_BlockTears.f k bs ws l i b keep = some true := ⟨0, rfl⟩
end Go.Proofs.Ytiplneodkcjkmaa.P
