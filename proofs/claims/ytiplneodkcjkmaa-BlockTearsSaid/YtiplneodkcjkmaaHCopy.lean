/- By hand: 'copy(l[p+1:], l[p:])', l a row of one's own: what lies from p on moves up by one place. -/
import Derived.Test.YtiplneodkcjkmaaBase
import Derived.Laws.IdiomCopy
set_option linter.unusedVariables false
set_option linter.unusedSimpArgs false
namespace Go.Proofs.Ytiplneodkcjkmaa.P
open Go.RowKit Go.Proofs.YtiplneodkcjkmaaW.PrintWords Go.Proofs.YtiplneodkcjkmaaW.PrintMore Go.Proofs.YtiplneodkcjkmaaW.PrintWords.Kd
variable {P : Program} {α : Type}
theorem run_copy_any (w : World) (t ty e : TypeId) (i : TypeInfo) (ht : P.underlying t = some (.slice e)) (hi : P.info? e = some i) (b o dLen dCap : Nat) (a : Addr) (sLen sCap n : Nat) (cs : List Value)
    (hn : Nat.min sLen dLen = n) (hcs : cs.length = n * i.size)
    (hsrc : ∀ j v, cs[j]? = some v → w.cell? (a.add j) = some v) (hc : ∀ j, j < cs.length → (w.cell? ⟨b, o + j, none⟩).isSome = true) (hf : ∀ j, j < cs.length → w.frozen? ⟨b, o + j, none⟩ = false) (h1 : ∀ v ∈ cs, v.oneCell' = true) :
    (Builtin.copy_ #[t, t] ty #[.slice (some ⟨b, o, none⟩) dLen dCap, .slice (some a) sLen sCap]).run P w = .ok (goInt n) (w.setCells b o cs) := by
  have hl := run_loadCells_list (P := P) w a cs hsrc
  have hst := run_storeCells_cells (P := P) b o cs 0 w (by simpa using hc) (by simpa using hf) h1
  rw [hcs] at hl
  simp [Builtin.copy_, run_underlying ht, Builtin.lenOf, Builtin.firstCells, sizeOf, typeInfo, hi, hn, hl, hst]
theorem R_shift_run (d : Kd α) {W : World} (base : Nat) (t ty e : TypeId) (i : TypeInfo) (ht : P.underlying t = some (.slice e)) (hi : P.info? e = some i) (hsz : i.size = d.sz)
    {g n c p : Nat} {xs : List α} {ok : Nat → Prop} (HO : d.R e W base ok (.slice (some ⟨g, 0, none⟩) n c) xs) (hp : p < n) {A1 A2 : Option Addr}
    (hA2 : A2 = if c = p + 1 then some ⟨g, 0, none⟩ else (some (⟨g, 0, none⟩ : Addr)).map (·.add ((p + 1) * d.sz))) (hA1 : A1 = (some (⟨g, 0, none⟩ : Addr)).map (·.add (p * d.sz))) (c1 c2 : Nat) :
    ∃ w1, (Builtin.copy_ #[t, t] ty #[.slice A2 (n - (p + 1)) c2, .slice A1 (n - p) c1]).run P W = .ok (goInt ((n - (p + 1) : Nat) : Int)) w1 ∧ d.R e w1 base ok (.slice (some ⟨g, 0, none⟩) n c) (xs.take (p + 1) ++ (xs.drop p).take (n - (p + 1))) ∧ W.grownBy w1 (some g) := by
  obtain ⟨hn, hnc, _⟩ := R_reads' HO
  obtain ⟨hok, inner, hown, hr⟩ := HO
  have hin : inner.length = n * d.sz := by rw [hr.1, hn]
  rcases hown.2 with ⟨hv, _⟩ | ⟨g', cap', cur, hv, hb, hh, _, hcm, hcs, htake⟩
  · cases hv
  injection hv with ha _ hc
  injection ha with ha
  injection ha with hg
  subst hg; subst hc
  rw [← hn] at htake
  obtain ⟨news, hnews⟩ : ∃ news, news = (inner.drop (p * d.sz)).take ((n - (p + 1)) * d.sz) := ⟨_, rfl⟩
  have hle : (p + 1) * d.sz ≤ n * d.sz := Nat.mul_le_mul_right _ hp
  have hks : (p + 1) * d.sz = p * d.sz + d.sz := Nat.succ_mul _ _
  have hnc' : n * d.sz ≤ c * d.sz := Nat.mul_le_mul_right _ hnc
  have hsub : (n - (p + 1)) * d.sz = n * d.sz - (p + 1) * d.sz := Nat.sub_mul _ _ _
  have hnl : news.length = (n - (p + 1)) * d.sz := by rw [hnews, List.length_take, List.length_drop, hin]; omega
  have hcur : ∀ q, q < n * d.sz → cur.toList[q]? = inner[q]? := by
    intro q hq
    rw [← htake, List.getElem?_take, if_pos hq]
  have hcell : ∀ j u, news[j]? = some u → W.cell? ((⟨g, 0, none⟩ : Addr).add (p * d.sz + j)) = some u := by
    intro j u hu
    have hj : j < news.length := (List.getElem?_eq_some_iff.1 hu).1
    rw [add_at, cell_of_row W g _ cur e (0, 0) hh, ← Array.getElem?_toList]
    rw [hnews, List.getElem?_take, if_pos (by omega), List.getElem?_drop] at hu
    rw [← hu, Nat.zero_add]
    exact hcur _ (by omega)
  have hone : ∀ u ∈ news, u.oneCell' = true := by
    intro u hu
    have hu' : u ∈ inner := by rw [hnews] at hu; exact List.mem_of_mem_drop (List.mem_of_mem_take hu)
    obtain ⟨q, hq, rfl⟩ := List.mem_iff_getElem.1 hu'
    have hs0 : 0 < d.sz := by
      rcases Nat.eq_zero_or_pos d.sz with h | h
      · rw [h, Nat.mul_zero] at hin; omega
      · exact h
    have hql : q / d.sz < xs.length := by
      rw [Nat.div_lt_iff_lt_mul hs0, ← hr.1]
      exact hq
    refine d.K_one (d.K_of_M (hr.2 (q / d.sz) _ (List.getElem?_eq_getElem hql))) _ ?_
    rw [List.mem_iff_getElem?]
    refine ⟨q % d.sz, ?_⟩
    rw [List.getElem?_take, if_pos (Nat.mod_lt _ hs0), List.getElem?_drop, Nat.mul_comm, Nat.div_add_mod, List.getElem?_eq_getElem hq]
  have hfit : (p + 1) * d.sz + news.length ≤ cur.size := by omega
  have hmin : Nat.min (n - p) (n - (p + 1)) = n - (p + 1) := Nat.min_eq_right (by omega)
  have hrun : (Builtin.copy_ #[t, t] ty #[.slice A2 (n - (p + 1)) c2, .slice A1 (n - p) c1]).run P W = .ok (goInt ((n - (p + 1) : Nat) : Int)) (W.setCells g ((p + 1) * d.sz) news) := by
    rw [hA1, Option.map_some]
    by_cases hcp : c = p + 1
    · have h0 : news = [] := List.eq_nil_of_length_eq_zero (by rw [hnl, show n - (p + 1) = 0 by omega, Nat.zero_mul])
      rw [hA2, if_pos hcp, h0]
      exact run_copy_any W t ty e i ht hi g 0 _ _ _ _ _ _ [] hmin (by rw [show n - (p + 1) = 0 by omega]; simp) (by simp) (by simp) (by simp) (by simp)
    · rw [hA2, if_neg hcp, Option.map_some, add_at, Nat.zero_add]
      refine run_copy_any W t ty e i ht hi g ((p + 1) * d.sz) _ _ _ _ _ _ news hmin (by rw [hnl, hsz]) (fun j u hu => ?_) (fun j hj => ?_) (fun j _ => blk_frozen hh _) hone
      · rw [add_add]; exact hcell j u hu
      · rw [cell_of_row W g _ cur e (0, 0) hh]; simp; omega
  obtain ⟨cur', h3, h4, h5⟩ := setCells_row news ((p + 1) * d.sz) W cur hh hfit
  obtain ⟨s1, s2, s3, s4⟩ := setCells_same g news ((p + 1) * d.sz) W
  have hfar : ∀ k', k' ≠ g → (W.setCells g ((p + 1) * d.sz) news).heap[k']? = W.heap[k']? := fun k' hk' => setCells_far news _ k' hk'
  have hgo : some g = (Value.slice (some ⟨g, 0, none⟩) n c).ownBlock := by simp [Value.ownBlock]
  have hel : (xs.take (p + 1) ++ (xs.drop p).take (n - (p + 1))).length = n := by rw [List.length_append, List.length_take, List.length_take, List.length_drop]; omega
  refine ⟨_, hrun, ⟨hok, inner.take ((p + 1) * d.sz) ++ news, ⟨?_, .inr ⟨g, c, cur', by rw [hel], hb, h3, by rw [hel]; omega, hcm, by rw [h4, hcs], ?_⟩⟩, ?_⟩, ⟨s1, s2, s3, by rw [s4]; exact Nat.le_refl _, fun k' _ hk' => hfar k' (fun he => hk' (by rw [he]))⟩⟩
  · rw [List.length_append, List.length_take, hnl, hel]
    omega
  · rw [hel, h5]
    have h7 : cur.toList.take ((p + 1) * d.sz) = inner.take ((p + 1) * d.sz) := by
      rw [← htake, List.take_take, Nat.min_eq_left (by omega)]
    rw [h7]
    exact List.take_left' (by rw [List.length_append, List.length_take, hnl]; omega)
  · have hmv : ∀ q c', d.M W base (fun k' => ok k' ∧ some k' ≠ (Value.slice (some ⟨g, 0, none⟩) n c).ownBlock) q c' → d.M (W.setCells g ((p + 1) * d.sz) news) base (fun k' => ok k' ∧ some k' ≠ (Value.slice (some ⟨g, 0, none⟩) n c).ownBlock) q c' := fun q c' hq =>
      d.M_move (fun k' hk' => hfar k' (fun he => hk'.2 (by rw [← hgo, he]))) hq
    subst hnews
    exact reps_append ((reps_take hr (by omega)).imp_ hmv) ((reps_take (reps_drop hr) (by rw [List.length_drop]; omega)).imp_ hmv)
end Go.Proofs.Ytiplneodkcjkmaa.P
