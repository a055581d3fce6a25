/- The plain law TokenPlaces. -/
import Derived.Test.YtiihoodnejcjgaaDoorZTokI
import Derived.Test.YtiihoodnejcjgaaDoorHBR
import Derived.Test.YtiihoodnejcjgaaDoorPxRubricklaw05TokenPlaces
namespace Go.Proofs.YtiihoodnejcjgaaDoor.P
open Go.RowKit Go.Proofs.YtiihoodnejcjgaaDoorW.PrintWords Go.Proofs.YtiihoodnejcjgaaDoorW.PrintLast Go.Proofs.YtiihoodnejcjgaaDoorW.PrintMore
set_option linter.unusedVariables false
set_option linter.unusedSimpArgs false
theorem rplacesl_f (t : ByteArray) (l : List ByteArray) (hl : l.length ≤ 100000000) (d : Nat) : ∀ (i k : Nat) (acc : List Int), i ≤ l.length → l.length - i ≤ d → d + 2 ≤ k → acc.length ≤ i →
    rubrickref05_Places.l0 k t l acc (i : Int) = some (acc ++ placesS t (l.drop i) i) := by
  induction d with
  | zero =>
    intro i k acc hi hd hk ha
    obtain ⟨k, rfl⟩ : ∃ k', k = k' + 1 := ⟨k - 1, by omega⟩
    rw [rubrickref05_Places.l0, if_neg (by omega), List.drop_of_length_le (by omega), placesS, List.append_nil]
  | succ d ih =>
    intro i k acc hi hd hk ha
    obtain ⟨k, rfl⟩ : ∃ k', k = k' + 1 := ⟨k - 1, by omega⟩
    rw [rubrickref05_Places.l0]
    by_cases h : i < l.length
    · rw [if_pos (by omega), if_pos (by omega), List.drop_eq_getElem_cons h, placesS, rdS_at l i h, succ_wrap i l.length h (by omega)]
      by_cases he : l[i].toList = t.toList
      · rw [if_pos he, if_pos he, if_pos (by omega), ih (i + 1) k _ (by omega) (by omega) (by omega) (by rw [List.length_append, List.length_singleton]; omega), List.append_assoc]
        rfl
      · rw [if_neg he, if_neg he]
        exact ih (i + 1) k _ (by omega) (by omega) (by omega) (by omega)
    · rw [if_neg (by omega), List.drop_of_length_le (by omega), placesS, List.append_nil]
theorem rplaces_f (b : List Int) (t : ByteArray) (hb : AllB b) (hl : b.length ≤ 2000) (k : Nat) (hk : 10000000 ≤ k) : rubrickref05_Places.f k b t = some (placesS t (termsS (decS b)) 0) := by
  have hn := decS_length b.length b hb (Nat.le_refl _)
  have ht := terms_len (decS b)
  unfold rubrickref05_Places.f
  rw [rterms_f b hb hl k hk, Option.bind_some]
  have := rplacesl_f t (termsS (decS b)) (by omega) (termsS (decS b)).length 0 k [] (by omega) (by omega) (by omega) (by simp)
  rw [List.drop_zero, List.nil_append] at this
  exact this
theorem placesS_len (t : ByteArray) : ∀ (l : List ByteArray) (i : Nat), (placesS t l i).length ≤ l.length
  | [], i => by simp [placesS]
  | s :: l, i => by
    have := placesS_len t l (i + 1)
    unfold placesS
    split <;> simp <;> omega
theorem placesS_mem (t : ByteArray) : ∀ (l : List ByteArray) (i : Nat) (x : Int), x ∈ placesS t l i ↔ ∃ j, ∃ h : j < l.length, x = ((i + j : Nat) : Int) ∧ l[j].toList = t.toList
  | [], i, x => by simp [placesS]
  | s :: l, i, x => by
    have ih := placesS_mem t l (i + 1) x
    unfold placesS
    constructor
    · intro hx
      split at hx
      · next he =>
        rcases List.mem_cons.1 hx with rfl | hx
        · exact ⟨0, by simp, by simp, by simpa using he⟩
        · obtain ⟨j, hj, e, he⟩ := ih.1 hx
          exact ⟨j + 1, by simp; omega, by rw [e]; omega, by simpa using he⟩
      · obtain ⟨j, hj, e, he⟩ := ih.1 hx
        exact ⟨j + 1, by simp; omega, by rw [e]; omega, by simpa using he⟩
    · rintro ⟨j, hj, e, he⟩
      cases j with
      | zero =>
        simp only [List.getElem_cons_zero] at he
        rw [if_pos he, e]
        exact List.mem_cons_self ..
      | succ j =>
        simp only [List.getElem_cons_succ] at he
        have := ih.2 ⟨j, by simpa using hj, by rw [e]; omega, he⟩
        split
        · exact List.mem_cons_of_mem _ this
        · exact this
theorem placesS_rise (t : ByteArray) : ∀ (l : List ByteArray) (i : Nat), (placesS t l i).Pairwise (· < ·)
  | [], i => List.Pairwise.nil
  | s :: l, i => by
    unfold placesS
    split
    · refine List.pairwise_cons.2 ⟨fun x hx => ?_, placesS_rise t l (i + 1)⟩
      obtain ⟨j, _, e, _⟩ := (placesS_mem t l (i + 1) x).1 hx
      omega
    · exact placesS_rise t l (i + 1)
/-- All terms with their places, as the reference lays them. -/
def allP (ts : List ByteArray) (l : List ByteArray) : List S45 := l.flatMap fun t => (placesS t ts 0).map fun p => ⟨t, p⟩
/-- The reference's pairs as the program's. -/
def asAt (a : S45) : S44 := ⟨a.f0, a.f1⟩
theorem allP_mem (ts l : List ByteArray) (a : S45) : a ∈ allP ts l ↔ ∃ t ∈ l, a.f0 = t ∧ a.f1 ∈ placesS t ts 0 := by
  unfold allP
  rw [List.mem_flatMap]
  constructor
  · rintro ⟨t, ht, h⟩
    obtain ⟨p, hp, rfl⟩ := List.mem_map.1 h
    exact ⟨t, ht, rfl, hp⟩
  · rintro ⟨t, ht, h1, h2⟩
    exact ⟨t, ht, List.mem_map.2 ⟨a.f1, h2, by cases a; simp_all⟩⟩
theorem allP_rise (ts : List ByteArray) : ∀ (l : List ByteArray), RiseB l → Rise ((allP ts l).map asAt)
  | [], _ => List.Pairwise.nil
  | t :: l, h => by
    have h' := List.pairwise_cons.1 h
    have e : allP ts (t :: l) = ((placesS t ts 0).map fun p => ⟨t, p⟩) ++ allP ts l := by unfold allP; rw [List.flatMap_cons]
    rw [e, List.map_append]
    refine List.pairwise_append.2 ⟨?_, allP_rise ts l h'.2, fun a ha b hb => ?_⟩
    · rw [List.pairwise_map, List.pairwise_map]
      refine (placesS_rise t ts 0).imp (fun {x y} hxy => ?_)
      rw [ltAt_iff]
      exact .inr ⟨rfl, hxy⟩
    · obtain ⟨a', qa, rfl⟩ := List.mem_map.1 ha
      obtain ⟨p, hp, rfl⟩ := List.mem_map.1 qa
      obtain ⟨b', qb, rfl⟩ := List.mem_map.1 hb
      obtain ⟨u, hu, h1, _⟩ := (allP_mem ts l b').1 qb
      rw [ltAt_iff]
      exact .inl (by show blt t b'.f0; rw [h1]; exact h'.1 u hu)
theorem ltAt_irrefl (a : S44) : ¬ ltAt a a = true := by
  rw [ltAt_iff]
  rintro (h | ⟨_, h⟩)
  · exact blt_irrefl _ h
  · omega
theorem rise_uniq2 : ∀ (a b : List S44), Rise a → Rise b → (∀ x, x ∈ a ↔ x ∈ b) → a = b
  | [], [], _, _, _ => rfl
  | [], y :: b, _, _, h => absurd ((h y).2 (List.mem_cons_self ..)) (by simp)
  | x :: a, [], _, _, h => absurd ((h x).1 (List.mem_cons_self ..)) (by simp)
  | x :: a, y :: b, ha, hb, h => by
    have ha' := List.pairwise_cons.1 ha
    have hb' := List.pairwise_cons.1 hb
    have hxy : x = y := by
      rcases List.mem_cons.1 ((h x).1 (List.mem_cons_self ..)) with e | hx
      · exact e
      · rcases List.mem_cons.1 ((h y).2 (List.mem_cons_self ..)) with e | hy
        · exact e.symm
        · exact absurd (ltAt_trans (ha'.1 y hy) (hb'.1 x hx)) (ltAt_irrefl _)
    subst hxy
    rw [rise_uniq2 a b ha'.2 hb'.2 (fun z => ?_)]
    constructor
    · intro hz
      rcases List.mem_cons.1 ((h z).1 (List.mem_cons_of_mem _ hz)) with rfl | q
      · exact absurd (ha'.1 _ hz) (ltAt_irrefl _)
      · exact q
    · intro hz
      rcases List.mem_cons.1 ((h z).2 (List.mem_cons_of_mem _ hz)) with rfl | q
      · exact absurd (hb'.1 _ hz) (ltAt_irrefl _)
      · exact q
theorem pos_same (ts : List ByteArray) : (allP ts (setS ts)).map asAt = posL ts ts.length := by
  refine rise_uniq2 _ _ (allP_rise ts _ (setS_rise ts)) (posL_rise ts ts.length (Nat.le_refl _)) (fun x => ?_)
  rw [posL_mem ts ts.length (Nat.le_refl _), List.mem_map]
  constructor
  · rintro ⟨a, ha, rfl⟩
    obtain ⟨t, ht, h1, h2⟩ := (allP_mem ts _ a).1 ha
    obtain ⟨j, hj, e, he⟩ := (placesS_mem t ts 0 a.f1).1 h2
    refine ⟨j, hj, hj, ?_⟩
    unfold asAt
    rw [h1, e, ← bytes_ext he, Nat.zero_add]
  · rintro ⟨i, hi, _, rfl⟩
    refine ⟨⟨ts[i], (i : Int)⟩, (allP_mem ts _ _).2 ⟨ts[i], (setS_mem ts _).2 (List.getElem_mem hi), rfl, (placesS_mem _ ts 0 _).2 ⟨i, hi, by simp, rfl⟩⟩, rfl⟩
theorem rpos_l1 (b : List Int) (ts st : List ByteArray) (hts : ts.length ≤ 3000) (hst : st.length ≤ 3000) (i : Nat) (hi : i < st.length) (res : List S45) (ps : List Int) (hps : ps.length ≤ ts.length) (K : Nat)
    (full : List S45) (hfull : full.length ≤ 100000000) (hK : ∀ k, K ≤ k → rubrickref05_Positions.l0 k b full st ((i + 1 : Nat) : Int) = some res) (d : Nat) :
    ∀ (j k : Nat) (acc : List S45), ps.length - j ≤ d → j ≤ ps.length → acc ++ (ps.drop j).map (fun p => ⟨st[i], p⟩) = full → K + d + 2 ≤ k → rubrickref05_Positions.l1 k b acc st (i : Int) ps (j : Int) = some res := by
  induction d with
  | zero =>
    intro j k acc hj hj2 he hk
    obtain ⟨k, rfl⟩ : ∃ k', k = k' + 1 := ⟨k - 1, by omega⟩
    rw [List.drop_of_length_le (by omega), List.map_nil, List.append_nil] at he
    rw [rubrickref05_Positions.l1, if_neg (by omega), succ_wrap i st.length hi (by omega), he]
    exact hK k (by omega)
  | succ d ih =>
    intro j k acc hj hj2 he hk
    obtain ⟨k, rfl⟩ : ∃ k', k = k' + 1 := ⟨k - 1, by omega⟩
    rw [rubrickref05_Positions.l1]
    by_cases h : j < ps.length
    · have hal : acc.length ≤ full.length := by rw [← he, List.length_append]; omega
      rw [List.drop_eq_getElem_cons h, List.map_cons] at he
      rw [if_pos (by omega), if_pos (by omega), if_pos (by omega), if_pos (by omega), if_pos (by omega), rdS_at st i hi, rd_at ps j h, succ_wrap j ps.length h (by omega)]
      exact ih (j + 1) k _ (by omega) (by omega) (by rw [List.append_assoc]; exact he) (by omega)
    · rw [List.drop_of_length_le (by omega), List.map_nil, List.append_nil] at he
      rw [if_neg (by omega), succ_wrap i st.length hi (by omega), he]
      exact hK k (by omega)
theorem rpos_l0 (b : List Int) (hb : AllB b) (hl : b.length ≤ 2000) (ts : List ByteArray) (hts : ts = termsS (decS b)) (htl : ts.length ≤ 3000) (st : List ByteArray) (hst : st.length ≤ 3000) (d : Nat) :
    ∀ (i k : Nat) (acc : List S45), st.length - i ≤ d → i ≤ st.length → acc.length ≤ i * 3000 → 10000000 + d * (ts.length + 10) + 2 ≤ k → rubrickref05_Positions.l0 k b acc st (i : Int) = some (acc ++ allP ts (st.drop i)) := by
  induction d with
  | zero =>
    intro i k acc hi hi2 ha hk
    obtain ⟨k, rfl⟩ : ∃ k', k = k' + 1 := ⟨k - 1, by omega⟩
    rw [rubrickref05_Positions.l0, if_neg (by omega), List.drop_of_length_le (by omega)]
    simp [allP]
  | succ d ih =>
    intro i k acc hi hi2 ha hk
    rw [Nat.succ_mul] at hk
    obtain ⟨k, rfl⟩ : ∃ k', k = k' + 1 := ⟨k - 1, by omega⟩
    rw [rubrickref05_Positions.l0]
    by_cases h : i < st.length
    · have hpl := placesS_len st[i] ts 0
      rw [if_pos (by omega), if_pos (by omega), rdS_at st i h, rplaces_f b st[i] hb hl k (by omega), ← hts, Option.bind_some]
      have e : allP ts (st.drop i) = ((placesS st[i] ts 0).map fun p => ⟨st[i], p⟩) ++ allP ts (st.drop (i + 1)) := by
        rw [List.drop_eq_getElem_cons h]
        unfold allP
        rw [List.flatMap_cons]
      rw [e, ← List.append_assoc]
      have hfl : (acc ++ (placesS st[i] ts 0).map (fun p => (⟨st[i], p⟩ : S45))).length ≤ (i + 1) * 3000 := by
        rw [List.length_append, List.length_map, Nat.succ_mul]
        omega
      generalize hfu : acc ++ (placesS st[i] ts 0).map (fun p => (⟨st[i], p⟩ : S45)) = full at hfl ⊢
      refine rpos_l1 b ts st htl hst i h _ (placesS st[i] ts 0) hpl (10000000 + d * (ts.length + 10) + 2) full (by omega) (fun k hk => ?_) (placesS st[i] ts 0).length 0 k acc (by omega) (by omega) (by rw [List.drop_zero]; exact hfu) (by omega)
      exact ih (i + 1) k _ (by omega) (by omega) hfl (by omega)
    · rw [if_neg (by omega), List.drop_of_length_le (by omega)]
      simp [allP]
theorem rpos_f (b : List Int) (hb : AllB b) (hl : b.length ≤ 2000) (k : Nat) (hk : 20000000 ≤ k) : rubrickref05_Positions.f k b = some (allP (termsS (decS b)) (setS (termsS (decS b)))) := by
  have hn := decS_length b.length b hb (Nat.le_refl _)
  have ht := terms_len (decS b)
  have hsl := setS_len (termsS (decS b))
  unfold rubrickref05_Positions.f
  rw [rset_f b hb hl k (by omega), Option.bind_some]
  have hm : (setS (termsS (decS b))).length * ((termsS (decS b)).length + 10) ≤ 2001 * 2011 := Nat.mul_le_mul (by omega) (by omega)
  have := rpos_l0 b hb hl _ rfl (by omega) (setS (termsS (decS b))) (by omega) (setS (termsS (decS b))).length 0 k [] (by omega) (by omega) (by simp) (by omega)
  rw [List.drop_zero, List.nil_append] at this
  exact this
theorem tp_l1 (q : List S45) (hq : q.length ≤ 1000000) (d : Nat) : ∀ (i k : Nat), q.length - i ≤ d → i ≤ q.length → 100 + d ≤ k → rubricklaw05_TokenPlaces.l1 k (q.map asAt) q (i : Int) = some true := by
  induction d with
  | zero =>
    intro i k hi hi2 hk
    obtain ⟨k, rfl⟩ : ∃ k', k = k' + 1 := ⟨k - 1, by omega⟩
    rw [rubricklaw05_TokenPlaces.l1, if_neg (by rw [List.length_map]; omega), knows05_ge k (by omega)]
    rfl
  | succ d ih =>
    intro i k hi hi2 hk
    obtain ⟨k, rfl⟩ : ∃ k', k = k' + 1 := ⟨k - 1, by omega⟩
    rw [rubricklaw05_TokenPlaces.l1]
    by_cases h : i < q.length
    · have h1 : rd_T44 (q.map asAt) (i : Int) = asAt q[i] := by
        unfold rd_T44
        rw [Int.toNat_natCast, List.getD_eq_getElem?_getD, List.getElem?_eq_getElem (by rw [List.length_map]; exact h), List.getElem_map]
        rfl
      have h2 : rd_T45 q (i : Int) = q[i] := by
        unfold rd_T45
        rw [Int.toNat_natCast, List.getD_eq_getElem?_getD, List.getElem?_eq_getElem h]
        rfl
      rw [if_pos (by rw [List.length_map]; omega), if_pos (by omega), if_pos (by omega), h1, h2, if_pos (show (asAt q[i]).f0.toList = q[i].f0.toList from rfl), if_pos (show (asAt q[i]).f1 = q[i].f1 from rfl), succ_wrap i q.length h (by omega)]
      exact ih (i + 1) k (by omega) (by omega) (by omega)
    · rw [if_neg (by rw [List.length_map]; omega), knows05_ge k (by omega)]
      rfl
theorem tp_l0 (p : List Int) (hp : p.length ≤ 1000000) (q : List S45) (hq : q.length ≤ 1000000) (d : Nat) : ∀ (i k : Nat), p.length - i ≤ d → i ≤ p.length → 200 + q.length + d ≤ k → rubricklaw05_TokenPlaces.l0 k p p (q.map asAt) q (i : Int) = some true := by
  induction d with
  | zero =>
    intro i k hi hi2 hk
    obtain ⟨k, rfl⟩ : ∃ k', k = k' + 1 := ⟨k - 1, by omega⟩
    rw [rubricklaw05_TokenPlaces.l0, if_neg (by omega)]
    exact tp_l1 q hq q.length 0 k (by omega) (by omega) (by omega)
  | succ d ih =>
    intro i k hi hi2 hk
    obtain ⟨k, rfl⟩ : ∃ k', k = k' + 1 := ⟨k - 1, by omega⟩
    rw [rubricklaw05_TokenPlaces.l0]
    by_cases h : i < p.length
    · rw [if_pos (by omega), if_pos (by omega), if_pos (by omega), if_pos rfl, succ_wrap i p.length h (by omega)]
      exact ih (i + 1) k (by omega) (by omega) (by omega)
    · rw [if_neg (by omega)]
      exact tp_l1 q hq q.length 0 k (by omega) (by omega) (by omega)
theorem TokenPlaces_pure (b : List Int) (t : ByteArray) (hw : ∀ x ∈ b, (Lit.int .u8 x).wf = true) : ∃ k, rubricklaw05_TokenPlaces.f k b t = some true := by
  refine ⟨30000000 + 1, ?_⟩
  have hb := u8_bytes hw
  have yes : rubricklaw05_TokenPlaces.j0 (30000000 + 1) b t true = some true := by
    rw [rubricklaw05_TokenPlaces.j0, if_pos rfl, knows05_ge _ (by omega)]
    rfl
  unfold rubricklaw05_TokenPlaces.f
  rw [great05, Option.bind_some]
  by_cases h : (b.length : Int) > 2000
  · rw [if_pos (decide_eq_true h)]; exact yes
  rw [if_neg (by simp; omega)]
  by_cases h2 : (t.size : Int) > 1000
  · rw [decide_eq_true h2]; exact yes
  rw [decide_eq_false h2]
  have hn := decS_length b.length b hb (Nat.le_refl _)
  have ht := terms_f b hb (by omega)
  have hl := terms_len (decS b)
  have hpf : token_Positions.f b = some ((allP (termsS (decS b)) (setS (termsS (decS b)))).map asAt) := by
    unfold token_Positions.f
    rw [ht, Option.bind_some, if_pos (by omega), pos_same]
  have hpl := placesS_len t (termsS (decS b)) 0
  have hlen : (allP (termsS (decS b)) (setS (termsS (decS b)))).length = (termsS (decS b)).length := by
    have := congrArg List.length (pos_same (termsS (decS b)))
    rw [List.length_map, posL_len] at this
    exact this
  rw [rubricklaw05_TokenPlaces.j0, if_neg (by decide), places_of b _ t ht (by omega) _ (by omega), Option.bind_some, rplaces_f b t hb (by omega) _ (by omega), Option.bind_some, hpf, Option.bind_some, rpos_f b hb (by omega) _ (by omega), Option.bind_some, if_pos rfl, List.length_map]
  have hbne : (((allP (termsS (decS b)) (setS (termsS (decS b)))).length : Int) != ((allP (termsS (decS b)) (setS (termsS (decS b)))).length : Int)) = false := by simp
  rw [hbne]
  show rubricklaw05_TokenPlaces.j1 (29999999 + 1) _ _ _ _ false = some true
  rw [rubricklaw05_TokenPlaces.j1, if_neg (by decide)]
  exact tp_l0 _ (by omega) _ (by omega) (placesS t (termsS (decS b)) 0).length 0 _ (by omega) (by omega) (by omega)
end Go.Proofs.YtiihoodnejcjgaaDoor.P
