/- By hand: the closures of block.Sync and block.Crash; what a block holds behind a write. -/
import Derived.Test.YtiplneodkcjkmaaHOwn
set_option linter.unusedVariables false
set_option linter.unusedSimpArgs false
namespace Go.Proofs.Ytiplneodkcjkmaa.P
open Go.RowKit Go.Proofs.YtiplneodkcjkmaaW.PrintWords Go.Proofs.YtiplneodkcjkmaaW.PrintLast Go.Proofs.YtiplneodkcjkmaaW.PrintMore
/-- A block, its first n bytes written. -/
def putB (bs : List (List Int)) (x : S57) (n : Nat) : List (List Int) := bs.set x.f0.toNat (x.f1.take n ++ (bs.getD x.f0.toNat []).drop n)
def cutN (c : Int) : Nat := (if 0 < (if 64 < c then 64 else c) then (if 64 < c then 64 else c) else 0).toNat
def doneF (m : Nat → Int) : Nat → List (List Int) → List S57 → List (List Int)
  | _, bs, [] => bs
  | i, bs, x :: ws => doneF m (i + 1) (putB bs x (cutN (m i))) ws
def keepF (l : List Int) (i : Nat) : Int := if i < l.length then l.getD i 0 else 0
def block_Sync.f (bs : List (List Int)) (ws : List S57) : Option (List (List Int) × List S57) := (block_own.f bs ws).map fun d => (doneF (fun _ => 64) 0 d.1 d.2, [])
def block_Crash.f (bs : List (List Int)) (ws : List S57) (l : List Int) : Option (List (List Int) × List S57) := (block_own.f bs ws).map fun d => (doneF (keepF l) 0 d.1 d.2, [])
theorem sync_fn (i : Value) (W : World) : Calls Try.prog 27 #[i] W fun e w' => e = .returned (.int .i64 64) ∧ W = w' := by
  go_enter Try.func27, Try.ntmps27
  go_wp2
  go_ret
  exact ⟨rfl, rfl⟩
theorem crash_fn (l : List Int) (W : World) (b3 : Nat) (A2 : Option Addr) (c2 : Nat) (q : Nat) (hb : W.heap[b3]? = some (.cells #[.slice A2 l.length c2] 47 (0, 0))) (hC : (Kd.int .i64).C W A2 l.length l) :
    Calls Try.prog 28 #[.int .i64 (q : Int), .pointer (some ⟨b3, 0, none⟩)] W fun e w' => e = .returned (.int .i64 (keepF l q)) ∧ W = w' := by
  have hc0 := blk_cell hb 0
  simp only [List.getElem?_toArray, List.getElem?_cons_zero] at hc0
  by_cases hlt : q < l.length
  · obtain ⟨ad, rfl, hcell⟩ := Kd.at_int hC (q : Int) (by omega) (by omega)
    rw [Int.toNat_natCast] at hcell
    have hk : keepF l q = rd l (q : Int) := by unfold keepF rd; rw [if_pos hlt, Int.toNat_natCast]
    have HK := Aside0.mk hk
    have h1 : (0 : Int) ≤ (q : Int) := by omega
    have h2 : (q : Int) < (l.length : Int) := by omega
    clear hk hC hb
    go_enter Try.func28, Try.ntmps28
    go_wp2
    go_ret
    exact ⟨by rw [HK.out]; rfl, rfl⟩
  · have hk : keepF l q = 0 := by unfold keepF; rw [if_neg hlt]
    have HK := Aside0.mk hk
    clear hk hC hb
    go_enter Try.func28, Try.ntmps28
    go_wp2
    go_ret
    exact ⟨by rw [HK.out]; rfl, rfl⟩
/-- The row of bytes, a block's first n bytes written. -/
theorem rowA_put (bs : List (List Int)) (h : ∀ b ∈ bs, b.length = 64) (x : S57) (j n : Nat) (hj : j < bs.length) (hx : x.f0 = (j : Int)) (hxl : x.f1.length = 64) (hn : n ≤ 64) :
    (rowA bs bs.length).take (j * 64) ++ u8s (x.f1.take n) ++ (rowA bs bs.length).drop (j * 64 + n) = rowA (putB bs x n) (putB bs x n).length := by
  have e2 : bs.getD j [] = bs[j] := by rw [List.getD_eq_getElem?_getD, List.getElem?_eq_getElem hj]; rfl
  have hb := h bs[j] (List.getElem_mem hj)
  have e : bs.flatten = (bs.take j).flatten ++ (bs[j] ++ (bs.drop (j + 1)).flatten) := by
    rw [← List.flatten_cons, ← List.flatten_append, ← List.drop_eq_getElem_cons hj, List.take_append_drop]
  have hl := flat_take bs h j (by omega)
  have e3 : (putB bs x n).flatten = (bs.take j).flatten ++ ((x.f1.take n ++ bs[j].drop n) ++ (bs.drop (j + 1)).flatten) := by
    unfold putB
    rw [hx, Int.toNat_natCast, e2, List.set_eq_take_append_cons_drop, if_pos hj, List.flatten_append, List.flatten_cons]
  unfold rowA
  rw [Nat.sub_self, Nat.sub_self, Nat.zero_mul, List.replicate_zero, List.append_nil, List.append_nil, List.take_length, List.take_length, e3, e]
  unfold u8s
  rw [← List.map_take, ← List.map_drop, ← List.map_append, ← List.map_append]
  congr 1
  rw [List.take_left' hl, List.drop_append, List.drop_eq_nil_of_le (by omega), List.nil_append, hl, Nat.add_sub_cancel_left, List.drop_append_of_le_length (by omega)]
  simp only [List.append_assoc]
theorem putB_len (bs : List (List Int)) (x : S57) (n : Nat) : (putB bs x n).length = bs.length := by unfold putB; rw [List.length_set]
theorem putB_64 (bs : List (List Int)) (h : ∀ b ∈ bs, b.length = 64) (x : S57) (n : Nat) (hj : x.f0.toNat < bs.length) (hxl : x.f1.length = 64) (hn : n ≤ 64) : ∀ b ∈ putB bs x n, b.length = 64 := fun b hb => by
  have e2 : bs.getD x.f0.toNat [] = bs[x.f0.toNat] := by rw [List.getD_eq_getElem?_getD, List.getElem?_eq_getElem hj]; rfl
  unfold putB at hb
  rcases List.mem_or_eq_of_mem_set hb with hb | rfl
  · exact h b hb
  · have := h _ (List.getElem_mem hj)
    rw [e2, List.length_append, List.length_take, List.length_drop]
    omega
theorem cutN_le (c : Int) : cutN c ≤ 64 := by unfold cutN; split <;> split <;> omega
section
variable {P : Program} {ops : Array Oper} {o : Oper} {a : Act} {Q : Exit → Act → World → Prop} {Kc : Act → World → Prop}
/-- copy(d, s), a step of a region that draws. -/
theorem copy_step {W : World} (hw : Region.wanted o (yielded ops a.tmps) = true) (s x : Operand) (t e : TypeId) (ho : o.op = .call { callee := .builtin .copy, args := #[s, x], argTypes := #[t, t] })
    (ht : P.underlying t = some (.slice e)) (hinfo : (P.info? e).map (·.size) = some 1) {b off dLen dCap sLen sCap n : Nat} {ad : Addr} {cs : List Value} (hs : a.eval s = .slice (some ⟨b, off, none⟩) dLen dCap) (hx : a.eval x = .slice (some ad) sLen sCap)
    (hn : Nat.min sLen dLen = n) (hcs : cs.length = n) (hsrc : ∀ j v, cs[j]? = some v → W.cell? (ad.add j) = some v) (hc : ∀ j, j < cs.length → (W.cell? ⟨b, off + j, none⟩).isSome = true) (hf : ∀ j, j < cs.length → W.frozen? ⟨b, off + j, none⟩ = false) (h1 : ∀ v ∈ cs, v.oneCell' = true)
    (h : Kc (a.put o.dst (goInt n)) (W.setCells b off cs)) : if Region.wanted o (yielded ops a.tmps) = true then Oper.wp P o a W Kc Q else Kc (a.put o.dst undef) W := by
  obtain ⟨i0, hi, hsz⟩ := Option.map_eq_some_iff.1 hinfo
  have hr := run_copy_any (P := P) W t o.type e i0 ht hi b off dLen dCap ad sLen sCap n cs hn (by rw [hsz, Nat.mul_one]; exact hcs) hsrc hc hf h1
  rw [if_pos hw]
  unfold Oper.wp execOp
  simp only [ho, resolve, invoke, builtin, Sem.run_bind, Sem.run_pure, Result.andThen_ok, List.map_toArray, List.map_cons, List.map_nil, hs, hx, hr]
  exact h
end
end Go.Proofs.Ytiplneodkcjkmaa.P
