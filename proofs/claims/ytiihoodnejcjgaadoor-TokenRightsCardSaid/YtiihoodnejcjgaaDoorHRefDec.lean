/- By hand: rubrickref04.Decode. -/
import Derived.Test.YtiihoodnejcjgaaDoorHBU
import Derived.Outline
import Derived.WalkLawsBesides
import Derived.Deep.RegionHeld
set_option linter.unusedVariables false
set_option linter.unusedSimpArgs false
namespace Go.Proofs.YtiihoodnejcjgaaDoor.P
open Go.RowKit Go.Proofs.YtiihoodnejcjgaaDoorW.PrintWords Go.Proofs.YtiihoodnejcjgaaDoorW.PrintLast Go.Proofs.YtiihoodnejcjgaaDoorW.PrintMore
def Held2 (p : Prop) : Prop := p
theorem hold2 {p : Prop} (h : Held2 p) : p := h
/-- One try: do the bytes from i on begin with a character of k bytes? -/
def rdTry (b : List Int) (i k : Nat) (cn : Int × Int) : Option (Int × Int) := (rubrickref04_begins.f 20 (b.drop i) k).bind fun x => (rubrickref04_Right.f x).bind fun g => if g = true then (rubrickref04_Encode.f x).bind fun e => if (strOfNums e).toList = (strOfNums ((b.take (min (i + k) b.length)).drop i)).toList then some (x, (k : Int)) else some cn else some cn
/-- The tries from k on (d of them). -/
def rdTries (b : List Int) (i : Nat) : Nat → Nat → Int × Int → Option (Int × Int)
  | 0, _, cn => some cn
  | d + 1, k, cn => (rdTry b i k cn).bind fun cn' => rdTries b i d (k + 1) cn'
def rdGo (b : List Int) : Nat → Nat → List Int → Option (List Int)
  | 0, _, _ => none
  | f + 1, i, out => if i < b.length then (rdTries b i 4 1 (65533, 1)).bind fun cn => if 1 ≤ cn.2 ∧ cn.2 ≤ 4 then rdGo b f (i + cn.2.toNat) (out ++ [cn.1]) else none else some out
def rubrickref04_Decode.f (l0 : List Int) : Option (List Int) := if l0.length ≤ 1099511627776 then rdGo l0 (l0.length + 1) 0 [] else none
/-- The bytes still lie there. -/
def SB (l : List Int) (ad : Addr) (w : World) : Prop := Kd.C (Kd.int .u8) w (some ad) l.length l
theorem SB.below {l : List Int} {ad : Addr} {w w' : World} (h : SB l ad w) (hb : Below w.heap.size w w') : SB l ad w' := Kd.C_below h hb
theorem row_string {l : List Int} {w : World} {base c : Nat} {ok : Nat → Prop} {A : Option Addr} (h : Kd.R (Kd.int .u8) 5 w base ok (.slice A l.length c) l) (m : Nat) : (convert 22 9 (.slice A l.length c)).run Tryd.prog (w.drewN m) = .ok (.string (strOfNums l)) (w.drewN m) :=
  Kd.C_string Tryd.underlying22 Tryd.underlying5 Tryd.underlying9 (Kd.R_reads' (Kd.R_drewN h m)).2.2
theorem least_min (n k m : Nat) : rubrickref04_least.f ((n : Int) + (k : Int)) (m : Int) = some ((min (n + k) m : Nat) : Int) := by
  unfold rubrickref04_least.f
  by_cases h : (n : Int) + (k : Int) < (m : Int)
  · rw [if_pos h]; congr 1; omega
  · rw [if_neg h]; congr 1; omega
theorem cut_string (l : List Int) (ad : Addr) (n m c : Nat) (w : World) (h : SB l ad w) (hnm : n ≤ m) (hm : m ≤ l.length) (hc : l.length ≤ c) (hnc : n < c) :
    (convert 22 9 (.slice (some (ad.add n)) (m - n) (c - n))).run Tryd.prog w = .ok (.string (strOfNums ((l.take m).drop n))) w := by
  have h1 := Kd.C_mid (lo := n) (hi := m) (c := c) h hnm hm hc
  rw [if_neg (by omega), Option.map_some, show n * (Kd.int .u8).sz = n from Nat.mul_one n] at h1
  have h2 : ((l.take m).drop n).length = m - n := by rw [List.length_drop, List.length_take]; omega
  rw [h2] at h1
  exact Kd.C_string Tryd.underlying22 Tryd.underlying5 Tryd.underlying9 h1
set_option maxHeartbeats 2000000 in
set_option maxRecDepth 100000 in
theorem rubrickref04_Decode.calls (A0 : Option Addr) (c0 : Nat) (l0 : List Int) (r : List Int) (w : World) (hr0 : Kd.C (Kd.int .u8) w A0 l0.length l0) (hc0 : l0.length ≤ c0) (h : rubrickref04_Decode.f l0 = some r) : 
    Calls Tryd.prog 25 #[.slice A0 l0.length c0] w fun e w' => ∃ v0_ : Value, e = .returned (v0_) ∧ Kd.R (Kd.int .i64) 3 w' w.heap.size (fun _ => True) v0_ r ∧ Below w.heap.size w w' := by
  unfold rubrickref04_Decode.f at h
  by_cases hl0 : l0.length ≤ 1099511627776
  case neg => rw [if_neg hl0] at h; cases h
  rw [if_pos hl0] at h
  have HR := Aside0.mk hr0
  have HC := Aside0.mk hc0
  have HH := Aside0.mk h
  clear hr0 h hc0
  go_enter Tryd.func25, Tryd.ntmps25
  go_wp2
  go_loopw [3, 4, 5, 6, 7, 8] (fun acc i _ _ _ _ wr => ∃ f : Nat, ∃ n : Nat, ∃ v : Value, ∃ out : List Int, acc = v ∧ i = .int .i64 n ∧ Aside0 (rdGo l0 f n out = some r) ∧ Aside0 (Kd.R (Kd.int .i64) 3 wr w.heap.size (fun _ => True) v out) ∧ Aside0 (out.length ≤ n ∧ n ≤ l0.length + 4) ∧ Aside0 (Below w.heap.size w wr)) (fun _ i _ _ _ _ _ => l0.length + 10 - (intOf i).toNat)
  case atStart => exact ⟨_, 0, _, [], rfl, rfl, HH, ⟨Kd.R_nil _ _ _ _ _⟩, ⟨by simp, by omega⟩, ⟨Below.refl _ _⟩⟩
  case round =>
    obtain ⟨f, n, v, out, rfl, rfl, HG, HV, HL, HB⟩ := hrel
    cases f with
    | zero => exact absurd HG.out (by simp [rdGo])
    | succ f =>
      have hg := HG.out
      simp only [rdGo] at hg
      by_cases hnl : n < l0.length
      · rw [if_pos hnl] at hg
        obtain ⟨cn, htr, hg⟩ := Option.bind_eq_some_iff.1 hg
        by_cases hcn : 1 ≤ cn.2 ∧ cn.2 ≤ 4
        case neg => rw [if_neg hcn] at hg; cases hg
        rw [if_pos hcn] at hg
        have HG2 := Aside0.mk hg
        have HTR := Aside0.mk htr
        have HCN := Aside0.mk hcn
        clear hg HG htr hcn
        go_wp2
        go_loopw [5, 6, 7, 8] (fun c m kk _ wq => ∃ d k : Nat, ∃ cn1 : Int × Int, d + k = 5 ∧ c = .int .i64 cn1.1 ∧ m = .int .i64 cn1.2 ∧ kk = .int .i64 (k : Int) ∧ Aside0 (rdTries l0 n d k cn1 = some cn) ∧ Aside0 (Kd.R (Kd.int .i64) 3 wq w.heap.size (fun _ => True) u3 out) ∧ Aside0 (Below w.heap.size w wq)) (fun _ _ kk _ _ => 5 - (intOf kk).toNat)
        case atStart => exact ⟨4, 1, (65533, 1), rfl, rfl, rfl, rfl, HTR, HV, HB⟩
        case round =>
          obtain ⟨d, k, cn1, hdk, rfl, rfl, rfl, HT, HV2, HB2⟩ := hrel
          have hC := Kd.C_below HR.out HB2.out
          obtain ⟨ad, hA0, _⟩ := hC.2.2 (by omega)
          subst hA0
          have hcc := HC.out
          cases d with
          | zero =>
            obtain rfl : k = 5 := by omega
            have ht := HT.out
            simp only [rdTries] at ht
            obtain rfl := Option.some.inj ht
            have hlen := HL.out
            obtain ⟨Ao, co, rfl⟩ := Kd.R_slice HV2.out
            obtain ⟨c1, n1⟩ := cn1
            have hcn := HCN.out
            dsimp only at hcn
            obtain ⟨m, rfl⟩ : ∃ m : Nat, n1 = (m : Int) := ⟨n1.toNat, by omega⟩
            have hw1 : wrap64 ((n : Int) + (m : Int)) = (n : Int) + (m : Int) := by unfold wrap64; omega
            have HG3 := HG2.out
            dsimp only at HG3
            rw [Int.toNat_natCast] at HG3
            have HG4 := Aside0.mk HG3
            clear HG3 HG2 HT ht
            go_wp2_with (with_reducible refine gate_builtin (b := .append) (xs := #[.tmp 42, .tmp 44]) rfl ?_; at_builtin; refine hold2 ?_)
            unfold Held2
            refine Kd.R_append (Kd.int .i64) (w0 := w) w.heap.size rfl (.tmp 42) (.tmp 44) 24 3 (.int .i64 0) 8 rfl Tryd.underlying24 info3 rfl (by decide) (by omega) (.slice Ao out.length co) out c1 [.int .i64 c1] (fun _ => True) (fun _ => False) rfl rfl rfl (fun _ hk => hk.elim) (fun _ _ => trivial) HV2.out HB2.out HB2.out.size (by omega) ?_
            intro v2 w2 hr2 hb2 hg2 hat2
            have N1 := Aside0.mk hr2
            have N2 := Aside0.mk hb2
            clear hr2 hb2 hg2 hat2 HV2 HB2
            go_wp2
            exact ⟨⟨f, n + m, v2, out ++ [c1], rfl, by rw [Int.natCast_add], HG4, N1, ⟨by rw [List.length_append, List.length_singleton]; omega, by omega⟩, N2⟩, by simp [intOf]; omega⟩
          | succ d =>
            have ht := HT.out
            simp only [rdTries] at ht
            obtain ⟨cn2, htry, ht⟩ := Option.bind_eq_some_iff.1 ht
            have HT2 := Aside0.mk ht
            clear HT ht
            unfold rdTry at htry
            obtain ⟨x, hx, htry⟩ := Option.bind_eq_some_iff.1 htry
            obtain ⟨g, hg, htry⟩ := Option.bind_eq_some_iff.1 htry
            have hCd : Kd.C (Kd.int .u8) wr (some (ad.add n)) (l0.drop n).length (l0.drop n) := by
              have := Kd.C_drop (m := n) (c := c0) hC (by omega) hcc
              rwa [if_neg (by omega), Option.map_some, show n * (Kd.int .u8).sz = n from Nat.mul_one n] at this
            have hbeg := rubrickref04_begins.calls 20 (some (ad.add n)) (c0 - n) (l0.drop n) (k : Int) x wr hCd (by rw [List.length_drop]; omega) hx
            rw [List.length_drop] at hbeg
            have HBEG := Aside0.mk hbeg
            clear hbeg hCd hx
            have hcn : ¬ c0 = n := by omega
            have hk5 : (k : Int) ≤ 4 := by omega
            have hq1 : (n : Int) ≤ (l0.length : Int) := by omega
            have hks : wrap64 ((k : Int) + 1) = (k : Int) + 1 := by unfold wrap64; omega
            cases g with
            | false =>
              rw [if_neg (by simp)] at htry
              obtain rfl := Option.some.inj htry
              go_wp2_with (go_at_call 70; refine HBEG.out.mono ?_; rintro e w4 ⟨rfl, hb4⟩; have HQ := Aside0.mk hb4; have S0 := (SB.below hC hb4).below (below_drew (Below.refl _ _)))
              go_quiet (first | (go_at_call 33; refine (rubrickref04_Right.calls x false _ hg).mono ?_; rintro e w' ⟨rfl, ⟨nd, rfl⟩⟩; first | exact ⟨rfl, _, World.drewN_drewN _ _ _⟩ | exact ⟨rfl, _, Eq.trans (World.drewN_drewN _ _ _) (congrArg (World.drewN _) (Nat.add_assoc _ _ _))⟩))
              have HQ5 := below_step HQ.out (pw_below_drewN (Below.refl w4.heap.size w4) nq)
              have N1 := Aside0.mk (Kd.R_below HV2.out HQ5)
              have N2 := Aside0.mk (below_step HB2.out HQ5)
              clear HV2 HQ HQ5
              go_wp2
              exact ⟨⟨d, k + 1, cn1, by omega, rfl, rfl, by rw [Int.natCast_add]; rfl, HT2, N1, N2⟩, by simp [intOf]; omega⟩
            | true =>
              rw [if_pos rfl] at htry
              obtain ⟨e, he, htry⟩ := Option.bind_eq_some_iff.1 htry
              obtain ⟨mm, hmm⟩ : ∃ mm, mm = min (n + k) l0.length := ⟨_, rfl⟩
              have hle := least_min n k l0.length
              rw [← hmm] at hle htry
              have hm1 : n ≤ mm := by omega
              have hm2 : mm ≤ l0.length := by omega
              have hcv : ∀ W, SB l0 ad W → (convert 22 9 (.slice (some (ad.add n)) (mm - n) (c0 - n))).run Tryd.prog W = .ok (.string (strOfNums ((l0.take mm).drop n))) W := fun W hW => cut_string l0 ad n mm c0 W hW hm1 hm2 hcc (by omega)
              have hwk : IntKind.i64.wrap ((n : Int) + (k : Int)) = (n : Int) + (k : Int) := by rw [IntKind.wrap_i64]; omega
              have hz1 : (0 : Int) ≤ (n : Int) := by omega
              have hz2 : (n : Int) ≤ (mm : Int) := by omega
              have hz3 : (mm : Int) ≤ (c0 : Int) := by omega
              generalize hs1 : strOfNums ((l0.take mm).drop n) = s1 at hcv htry
              have HMM := Aside0.mk hmm
              have HS1 := Aside0.mk hs1
              clear hmm hs1
              by_cases heq : (strOfNums e).toList = s1.toList
              · rw [if_pos heq] at htry
                obtain rfl := Option.some.inj htry
                go_wp2_with (go_at_call 70; refine HBEG.out.mono ?_; rintro e w4 ⟨rfl, hb4⟩; have HQ := Aside0.mk (below_step hb4 (below_drew (Below.refl _ _))); have S0 := (SB.below hC hb4).below (below_drew (Below.refl _ _)))
                go_region_held (SB l0 ad) (first | assumption | exact S0) (first
                  | (go_at_call 33; refine (rubrickref04_Right.calls x true _ hg).mono ?_; rintro e w5 ⟨rfl, hb5⟩; have SQ5 := S0.below hb5.below; have HQn := Aside0.mk (below_step HQ.out hb5.below); clear HQ; have HQ := HQn; clear HQn)
                  | (go_at_call 34; refine (rubrickref04_Encode.calls x e _ he).mono ?_; rintro e w6 ⟨v, rfl, hv, hb6⟩; obtain ⟨Ae, ce, rfl⟩ := Kd.R_slice hv; have SQ6 := SQ5.below hb6; have HQn := Aside0.mk (below_step HQ.out hb6); clear HQ; have HQ := HQn; clear HQn; have hcve := row_string hv; have hcve0 : (convert 22 9 (.slice Ae e.length ce)).run Tryd.prog w6 = .ok (.string (strOfNums e)) w6 := hcve 0; clear hv)
                  | (go_at_call 71; refine (rubrickref04_least.calls _ _ _ _ hle).mono ?_; rintro e w7 ⟨rfl, ⟨nd, rfl⟩⟩; have SQ7 := (show SB l0 ad _ from by assumption).below (pw_below_drewN (Below.refl _ _) nd); have HQn := Aside0.mk (below_step HQ.out (pw_below_drewN (Below.refl _ _) nd)); clear HQ; have HQ := HQn; clear HQn))
                all_goals have N1 := Aside0.mk (Kd.R_below HV2.out HQ.out)
                all_goals have N2 := Aside0.mk (below_step HB2.out HQ.out)
                all_goals clear HV2 HQ
                all_goals go_wp2
                all_goals exact ⟨⟨d, k + 1, (x, (k : Int)), by omega, rfl, rfl, by rw [Int.natCast_add]; rfl, HT2, N1, N2⟩, by simp [intOf]; omega⟩
              · rw [if_neg heq] at htry
                obtain rfl := Option.some.inj htry
                go_wp2_with (go_at_call 70; refine HBEG.out.mono ?_; rintro e w4 ⟨rfl, hb4⟩; have HQ := Aside0.mk (below_step hb4 (below_drew (Below.refl _ _))); have S0 := (SB.below hC hb4).below (below_drew (Below.refl _ _)))
                go_region_held (SB l0 ad) (first | assumption | exact S0) (first
                  | (go_at_call 33; refine (rubrickref04_Right.calls x true _ hg).mono ?_; rintro e w5 ⟨rfl, hb5⟩; have SQ5 := S0.below hb5.below; have HQn := Aside0.mk (below_step HQ.out hb5.below); clear HQ; have HQ := HQn; clear HQn)
                  | (go_at_call 34; refine (rubrickref04_Encode.calls x e _ he).mono ?_; rintro e w6 ⟨v, rfl, hv, hb6⟩; obtain ⟨Ae, ce, rfl⟩ := Kd.R_slice hv; have SQ6 := SQ5.below hb6; have HQn := Aside0.mk (below_step HQ.out hb6); clear HQ; have HQ := HQn; clear HQn; have hcve := row_string hv; have hcve0 : (convert 22 9 (.slice Ae e.length ce)).run Tryd.prog w6 = .ok (.string (strOfNums e)) w6 := hcve 0; clear hv)
                  | (go_at_call 71; refine (rubrickref04_least.calls _ _ _ _ hle).mono ?_; rintro e w7 ⟨rfl, ⟨nd, rfl⟩⟩; have SQ7 := (show SB l0 ad _ from by assumption).below (pw_below_drewN (Below.refl _ _) nd); have HQn := Aside0.mk (below_step HQ.out (pw_below_drewN (Below.refl _ _) nd)); clear HQ; have HQ := HQn; clear HQn))
                all_goals have N1 := Aside0.mk (Kd.R_below HV2.out HQ.out)
                all_goals have N2 := Aside0.mk (below_step HB2.out HQ.out)
                all_goals clear HV2 HQ
                all_goals go_wp2
                all_goals first | exact absurd (eq_of_beq (show ((strOfNums e).toList == s1.toList) = true by assumption)) heq | exact ⟨⟨d, k + 1, cn1, by omega, rfl, rfl, by rw [Int.natCast_add]; rfl, HT2, N1, N2⟩, by simp [intOf]; omega⟩
      · rw [if_neg hnl] at hg
        obtain rfl := Option.some.inj hg
        obtain ⟨Ao, co, rfl⟩ := Kd.R_slice HV.out
        go_wp2
        go_ret
        exact ⟨_, rfl, HV.out, HB.out⟩
end Go.Proofs.YtiihoodnejcjgaaDoor.P
