/- FnShares, plain: the numbers in order do not fall, and a share asks for the first place that is a share of at least num / den. No condition. -/
import Derived.Test.YtmjfmhbklifafaaOrdLibFnShares
import Derived.Test.YtmjfmhbklifafaaSeriesDrawFnShares
set_option linter.unusedVariables false
set_option linter.unusedSimpArgs false
namespace Go.Proofs.Ytmjfmhbklifafaa.QFnShares
open Go.RowKit Go.Proofs.YtmjfmhbklifafaaW.PrintWords Go.Proofs.Ytmjfmhbklifafaa.Opn Go.Proofs.Ytmjfmhbklifafaa.Pl Go.Proofs.Ytmjfmhbklifafaa.Srt

def OS (l : List Int) (k : Int) : Int × Bool := if (okS l && inB k 1 (l.length : Int)) = true then (rd (ordI l) (k - 1), true) else (0, false)

theorem implOS_ev (l : List Int) (hl : l.length ≤ 1048576) (k : Int) : Ev (fun n => impl_OrderStat.f n l k) (OS l k) := by
  unfold impl_OrderStat.f OS
  refine Ev_bind _ (implSer_ev l hl) ?_
  simp only [implIn, Option.bind_some]
  cases h1 : okS l with
  | false => simpa using Ev.now ((0 : Int), false)
  | true =>
    simp only [if_true, Bool.true_and]
    cases h2 : inB k 1 (l.length : Int) with
    | false => simpa using Ev.now ((0 : Int), false)
    | true =>
      have hk := (inB_iff _ _ _).mp h2
      have hlen := ordI_len l
      simp only [if_true]
      unfold impl_sorted.f
      rw [if_pos (by omega), Option.bind_some, w64 (by omega) (by omega), if_pos (by omega), if_pos (by omega)]
      exact Ev.now _

/-- which one in order a share asks for -/
def kth1 (n num den : Int) : Int := (num * n + den - 1) / den
theorem kth1_bd (n num den : Int) (h0 : 1 ≤ n) (h1 : 1 ≤ num) (h2 : num ≤ den) : 1 ≤ kth1 n num den ∧ kth1 n num den ≤ n := by
  unfold kth1
  have hn : 1 ≤ num * n := by have := Int.mul_le_mul h1 h0 (by omega) (by omega); omega
  have hd : num * n ≤ den * n := Int.mul_le_mul_of_nonneg_right h2 (by omega)
  constructor
  · rw [Int.le_ediv_iff_mul_le (by omega)]; omega
  · rw [← Int.lt_add_one_iff, Int.ediv_lt_iff_lt_mul (by omega), Int.add_mul, Int.one_mul, Int.mul_comm n den]; omega
theorem kth1_iff (n num den c : Int) (h2 : 1 ≤ den) : c * den ≥ num * n ↔ kth1 n num den ≤ c := by
  unfold kth1
  rw [← Int.lt_add_one_iff (a := (num * n + den - 1) / den), Int.ediv_lt_iff_lt_mul (by omega), Int.add_mul, Int.one_mul]
  omega

def SH (l : List Int) (num den : Int) : Int × Bool := if (okS l && (inB den 1 1000 && inB num 1 den)) = true then (rd (ordI l) (kth1 (l.length : Int) num den - 1), true) else (0, false)

theorem small_mul (a b A B : Int) (h1 : 0 ≤ a) (h2 : a ≤ A) (h3 : 0 ≤ b) (h4 : b ≤ B) : 0 ≤ a * b ∧ a * b ≤ A * B :=
  ⟨Int.mul_nonneg h1 h3, Int.mul_le_mul h2 h4 h3 (by omega)⟩

theorem implSH_ev (l : List Int) (hl : l.length ≤ 1048576) (num den : Int) : Ev (fun n => impl_Share.f n l num den) (SH l num den) := by
  unfold impl_Share.f SH
  refine Ev_bind _ (implSer_ev l hl) ?_
  simp only [implIn, Option.bind_some]
  cases h1 : okS l with
  | false => simpa using Ev.now ((0 : Int), false)
  | true =>
    simp only [if_true, Bool.true_and]
    cases h2 : inB den 1 1000 with
    | false => simpa using Ev.now ((0 : Int), false)
    | true =>
      simp only [if_true, Bool.true_and]
      cases h3 : inB num 1 den with
      | false => simpa using Ev.now ((0 : Int), false)
      | true =>
        have hd := (inB_iff _ _ _).mp h2; have hm := (inB_iff _ _ _).mp h3; have hn := okS_len h1
        have hlen := ordI_len l
        have hb := kth1_bd (l.length : Int) num den (by omega) hm.1 hm.2
        have hp := small_mul num (l.length : Int) 1000 500 (by omega) (by omega) (by omega) (by omega)
        have e : wrap64 (wrap64 (Int.tdiv (wrap64 (wrap64 (wrap64 (num * (l.length : Int)) + den) - 1)) den) - 1) = kth1 (l.length : Int) num den - 1 := by
          rw [w64 (n := num * (l.length : Int)) (by omega) (by omega), w64 (n := num * (l.length : Int) + den) (by omega) (by omega), w64 (n := num * (l.length : Int) + den - 1) (by omega) (by omega), Int.tdiv_eq_ediv_of_nonneg (by omega)]
          have : (num * (l.length : Int) + den - 1) / den = kth1 (l.length : Int) num den := rfl
          rw [this, w64 (n := kth1 (l.length : Int) num den) (by omega) (by omega), w64 (by omega) (by omega)]
        simp only [if_true, if_neg (show ¬ den = 0 by omega), e]
        unfold impl_sorted.f
        rw [if_pos (by omega), Option.bind_some, if_pos (by omega), if_pos (by omega)]
        exact Ev.now _

theorem specSH_ev (l : List Int) (hl : l.length ≤ 1048576) (num den : Int) : Ev (fun n => spec_Share.f n l num den) (SH l num den) := by
  have jbad : Ev (fun n => spec_Share.j0 n l num den true) (0, false) := by
    refine Ev.step (f := fun _ => some (0, false)) (fun n => ?_) (Ev.now _)
    simp only [spec_Share.j0]; rfl
  unfold spec_Share.f SH
  refine Ev_bind _ (specSer_ev l hl) ?_
  simp only [specIn]
  cases h1 : okS l with
  | false => simpa using jbad
  | true =>
    simp only [if_true, Bool.true_and, Option.bind_some]
    cases h2 : inB den 1 1000 with
    | false => simpa using jbad
    | true =>
      simp only [if_true, Bool.true_and]
      cases h3 : inB num 1 den with
      | false => simpa using jbad
      | true =>
        have hd := (inB_iff _ _ _).mp h2; have hmm := (inB_iff _ _ _).mp h3; have hn := okS_len h1
        have hlen := ordI_len l
        have hbd := kth1_bd (l.length : Int) num den (by omega) hmm.1 hmm.2
        have hp := small_mul num (l.length : Int) 1000 500 (by omega) (by omega) (by omega) (by omega)
        have hiff := fun c => kth1_iff (l.length : Int) num den c (by omega)
        simp only [Bool.not_true, if_true]
        obtain ⟨j, hj, hk⟩ : ∃ j : Nat, j < l.length ∧ kth1 (l.length : Int) num den = (j : Int) + 1 := ⟨(kth1 (l.length : Int) num den - 1).toNat, by omega, by omega⟩
        simp only [hk] at hiff ⊢
        have hj' : j < (ordI l).length := by omega
        rw [show (j : Int) + 1 - 1 = (j : Int) by omega, rd_lt (ordI l) j hj']
        have hm := kth_mem l j hj'
        have hmb := okS_get h1 _ hm
        have hP := fun x => kth l x j hj'
        generalize (ordI l)[j] = m at hm hmb hP ⊢
        have key := up_ind (P := fun i => ∀ b : Int, m ≤ b → (b = m ∨ m ∈ l.drop i) → Ev (fun n => spec_Share.l0 n l num den b (i : Int)) (m, true)) l.length (by
          intro b _ hb
          rw [List.drop_of_length_le (Nat.le_refl _)] at hb
          have hbm : b = m := by rcases hb with h | h; exact h; cases h
          subst hbm
          refine Ev.step (f := fun _ => some (b, true)) (fun n => ?_) (Ev.now _)
          simp only [spec_Share.l0]
          rw [if_neg (by omega)]) (by
          intro i hi ih b hb hbm
          have hdr : l.drop i = l[i] :: l.drop (i + 1) := List.drop_eq_getElem_cons hi
          rw [hdr, List.mem_cons] at hbm
          have hle := cnt_le l l[i]
          have hq := small_mul (cnt l l[i] : Int) den 500 1000 (by omega) (by omega) (by omega) (by omega)
          refine Ev.step (f := fun n => if l[i] < b then ((spec_l19Below.f n l l[i]).bind fun t109 => (if wrap64 (t109 * den) ≥ wrap64 (num * (l.length : Int)) then (spec_Share.l0 n l num den l[i] ((i + 1 : Nat) : Int)) else (spec_Share.l0 n l num den b ((i + 1 : Nat) : Int)))) else spec_Share.l0 n l num den b ((i + 1 : Nat) : Int)) (fun n => ?_) ?_
          · simp only [spec_Share.l0]
            rw [if_pos (by omega), if_pos (by omega), rd_lt l i hi, w64 (n := (i : Int) + 1) (by omega) (by omega)]
            rfl
          by_cases hx : l[i] < b
          · simp only [if_pos hx]
            refine Ev_bind _ (below_ev l hl l[i]) ?_
            have hPx := hP l[i]
            have hI := hiff (cnt l l[i] : Int)
            simp only [w64 (n := (cnt l l[i] : Int) * den) (by omega) (by omega), w64 (n := num * (l.length : Int)) (by omega) (by omega)]
            by_cases hc : (cnt l l[i] : Int) * den ≥ num * (l.length : Int)
            · simp only [if_pos hc]
              have hmx : m ≤ l[i] := hPx.mpr (by have := hI.mp hc; omega)
              refine ih l[i] hmx ?_
              rcases hbm with h | h | h
              · omega
              · exact .inl h.symm
              · exact .inr h
            · simp only [if_neg hc]
              have hmx : ¬ m ≤ l[i] := fun hh => hc (hI.mpr (by have := hPx.mp hh; omega))
              refine ih b hb ?_
              rcases hbm with h | h | h
              · exact .inl h
              · omega
              · exact .inr h
          · simp only [if_neg hx]
            refine ih b hb ?_
            rcases hbm with h | h | h
            · exact .inl h
            · exact .inl (by omega)
            · exact .inr h) 0 (Nat.zero_le _) 100001 (by omega) (.inr (by simpa using hm))
        refine Ev.step (f := fun n => spec_Share.l0 n l num den 100001 0) (fun n => ?_) (by simpa using key)
        simp only [spec_Share.j0]
        rw [if_neg (by simp)]


theorem draw_ev {b : List Int} (h : RdOk b 0) : ∃ s num den, s.length ≤ 1000 ∧ Ev (fun k => spec_DrawShare.f k b) (s, num, den) := by
  obtain ⟨l, p1, e1, hl, h1⟩ := draw19_ev h
  obtain ⟨v, p2, e2, v0, v1, h2⟩ := rdBelow h1 8 (by omega)
  obtain ⟨L, hL⟩ : ∃ L : List Int, L = [2, 4, 10, 100, 1, 1000, 1001, 0] := ⟨_, rfl⟩
  have hall : ∀ x ∈ L, 0 ≤ x ∧ x ≤ 1001 := by
    intro x hx
    rw [hL] at hx
    simp only [List.mem_cons, List.not_mem_nil, or_false] at hx
    omega
  have hlen : L.length = 8 := by rw [hL]; rfl
  have hd : 0 ≤ rd L v ∧ rd L v ≤ 1001 := by
    obtain ⟨j, rfl⟩ : ∃ j : Nat, v = (j : Int) := ⟨v.toNat, by omega⟩
    rw [rd_lt _ j (by omega)]
    exact hall _ (List.getElem_mem (by omega))
  obtain ⟨den, hD⟩ : ∃ den, den = rd L v := ⟨_, rfl⟩
  rw [← hD] at hd
  obtain ⟨u, p3, e3, u0, u1, h3⟩ := rdBelow h2 (den + 2) (by omega)
  have hw : wrap64 (den + 2) = den + 2 := w64 (by omega) (by omega)
  refine ⟨l, u, den, hl, ?_⟩
  unfold spec_DrawShare.f
  rw [← hL]
  refine Ev_bind (b, 0) (Ev_const rfl) (Ev_bind _ e1 (Ev_bind L (Ev.now _) (Ev_bind _ (Ev_const e2) ?_)))
  simp only [if_pos v0, if_pos (show v < (L.length : Int) by omega), ← hD, hw]
  exact Ev_bind _ (Ev_const e3) (Ev.now _)

theorem sorted_le (l : List Int) (i j : Nat) (hij : i ≤ j) (hj : j < (ordI l).length) : (ordI l)[i] ≤ (ordI l)[j] := by
  rcases Nat.lt_or_eq_of_le hij with h | h
  · exact (List.pairwise_iff_getElem.mp (ordI_sorted l)) i j (by omega) hj h
  · subst h; omega

theorem loop_ev (l : List Int) (num den : Int) (ok : okS l = true) (hd : 1 ≤ den ∧ den ≤ 1000) (hm : 1 ≤ num ∧ num ≤ den) :
    Ev (fun n => laws_FnShares.l0 n l num den (rd (ordI l) (kth1 (l.length : Int) num den - 1)) (-100001) false 1) true := by
  have hn := okS_len ok
  have hlen := ordI_len l
  have hb := kth1_bd (l.length : Int) num den (by omega) hm.1 hm.2
  have hiff := fun c => kth1_iff (l.length : Int) num den c (by omega)
  have hp := small_mul num (l.length : Int) 1000 500 (by omega) (by omega) (by omega) (by omega)
  generalize hK : kth1 (l.length : Int) num den = K at hb hiff ⊢
  have key := up_ind (P := fun i => ∀ (last : Int) (found : Bool), (∀ j, (h : j < (ordI l).length) → i ≤ j → last ≤ (ordI l)[j]) → (found = true ↔ K ≤ (i : Int)) →
      Ev (fun n => laws_FnShares.l0 n l num den (rd (ordI l) (K - 1)) last found ((i : Int) + 1)) true) l.length (by
    intro last found _ _
    refine Ev.step (f := fun n => laws_FnShares.j2 n l num den (rd (ordI l) (K - 1)) last found ((l.length : Int) + 1) false) (fun n => ?_) ?_
    · simp only [laws_FnShares.l0]
      rw [if_neg (by omega)]
    · refine Ev.step (f := fun _ => some true) (fun n => ?_) (Ev.now _)
      simp only [laws_FnShares.j2]
      rw [if_neg (by simp)]) (by
    intro i hi ih last found hlast hfound
    have hi' : i < (ordI l).length := by omega
    have hy := hlast i hi' (Nat.le_refl _)
    refine Ev.step (f := fun n => laws_FnShares.j2 n l num den (rd (ordI l) (K - 1)) last found ((i : Int) + 1) (decide ((i : Int) + 1 ≤ 60))) (fun n => ?_) ?_
    · simp only [laws_FnShares.l0]
      rw [if_pos (by omega)]
    by_cases h60 : (i : Int) + 1 ≤ 60
    · rw [decide_eq_true h60]
      have hos : OS l ((i : Int) + 1) = ((ordI l)[i], true) := by
        unfold OS
        rw [if_pos (by rw [ok, (inB_iff _ _ _).mpr ⟨by omega, by omega⟩]; rfl), show (i : Int) + 1 - 1 = (i : Int) by omega, rd_lt _ i hi']
      have eos := implOS_ev l (by omega) ((i : Int) + 1)
      rw [hos] at eos
      refine Ev.step (f := fun n => (impl_OrderStat.f n l ((i : Int) + 1)).bind fun bt213 => (if bt213.2 = true then (laws_FnShares.j3 n l num den (rd (ordI l) (K - 1)) found ((i : Int) + 1) bt213.1 (decide (bt213.1 < last))) else (laws_FnShares.j3 n l num den (rd (ordI l) (K - 1)) found ((i : Int) + 1) bt213.1 true))) (fun n => ?_) ?_
      · simp only [laws_FnShares.j2]
        rw [if_pos trivial]
      refine Ev_bind _ eos ?_
      simp only [if_true]
      rw [decide_eq_false (show ¬ (ordI l)[i] < last by omega)]
      have hnext : ∀ j, (h : j < (ordI l).length) → i + 1 ≤ j → (ordI l)[i] ≤ (ordI l)[j] := fun j h hij => sorted_le l i j (by omega) h
      have go : ∀ f : Bool, (f = true ↔ K ≤ ((i + 1 : Nat) : Int)) → Ev (fun n => laws_FnShares.l0 n l num den (rd (ordI l) (K - 1)) (ordI l)[i] f (wrap64 ((i : Int) + 1 + 1))) true := by
        intro f hf
        rw [w64 (by omega) (by omega)]
        exact ih _ f hnext hf
      cases found with
      | true =>
        have hk := hfound.mp rfl
        refine Ev.step (f := fun n => laws_FnShares.j4 n l num den (rd (ordI l) (K - 1)) (ordI l)[i] true ((i : Int) + 1) (ordI l)[i] false) (fun n => ?_) ?_
        · simp only [laws_FnShares.j3]
          rw [if_neg (by simp), if_pos trivial]
        refine Ev.step (fun n => ?_) (go true (by constructor; intro _; omega; intro _; rfl))
        simp only [laws_FnShares.j4]
        rw [if_neg (by simp)]
      | false =>
        have hk : ¬ K ≤ (i : Int) := fun h => by have := hfound.mpr h; cases this
        have hq := small_mul ((i : Int) + 1) den 60 1000 (by omega) (by omega) (by omega) (by omega)
        have hI := hiff ((i : Int) + 1)
        refine Ev.step (f := fun n => laws_FnShares.j4 n l num den (rd (ordI l) (K - 1)) (ordI l)[i] false ((i : Int) + 1) (ordI l)[i] (decide (((i : Int) + 1) * den ≥ num * (l.length : Int)))) (fun n => ?_) ?_
        · simp only [laws_FnShares.j3]
          rw [if_neg (by simp), if_neg (by simp), w64 (n := ((i : Int) + 1) * den) (by omega) (by omega), w64 (n := num * (l.length : Int)) (by omega) (by omega)]
        by_cases hc : ((i : Int) + 1) * den ≥ num * (l.length : Int)
        · rw [decide_eq_true hc]
          have hKi : K = (i : Int) + 1 := by have := hI.mp hc; omega
          refine Ev.step (fun n => ?_) (go true (by constructor; intro _; omega; intro _; rfl))
          simp only [laws_FnShares.j4]
          rw [if_pos trivial, if_pos (by rw [hKi, show (i : Int) + 1 - 1 = (i : Int) by omega, rd_lt _ i hi'])]
        · rw [decide_eq_false hc]
          have hKi : ¬ K ≤ (i : Int) + 1 := fun h => hc (hI.mpr h)
          refine Ev.step (fun n => ?_) (go false (by constructor; intro h; cases h; intro h; exact absurd h (by omega)))
          simp only [laws_FnShares.j4]
          rw [if_neg (by simp)]
    · rw [decide_eq_false h60]
      refine Ev.step (f := fun _ => some true) (fun n => ?_) (Ev.now _)
      simp only [laws_FnShares.j2]
      rw [if_neg (by simp)]) 0 (Nat.zero_le _) (-100001) false (by
        intro j h _
        have := okS_get ok _ (kth_mem l j h); omega) (by constructor; intro h; cases h; intro h; exact absurd h (by omega))
  simpa using key

theorem plain : laws_FnShares.Pure := by
  intro b hl hs hb
  refine Ev.rounds (r := true) ?_
  unfold laws_FnShares.f laws_big.f
  simp only [Option.bind_some]
  by_cases hbig : (b.length : Int) > 1048576
  · simp only [decide_eq_true hbig, if_true]
    exact Ev.now _
  simp only [decide_eq_false hbig, Bool.false_eq_true, if_false]
  obtain ⟨s, num, den, hsl, es⟩ := draw_ev (rdOpen b (by omega) hb)
  refine Ev_bind _ es (Ev_bind _ (specSH_ev s (by omega) num den) (Ev_bind _ (implSH_ev s (by omega) num den) ?_))
  simp only [bne_self_eq_false, Bool.false_eq_true, if_false]
  unfold SH
  by_cases h : (okS s && (inB den 1 1000 && inB num 1 den)) = true
  · rw [if_pos h]
    simp only [Bool.and_eq_true] at h
    have hd := (inB_iff _ _ _).mp h.2.1; have hm := (inB_iff _ _ _).mp h.2.2
    refine Ev.step (fun k => ?_) (loop_ev s num den h.1 hd hm)
    simp only [laws_FnShares.j0]
    rw [if_neg (by simp), if_pos trivial]
  · rw [if_neg h]
    refine Ev.step (f := fun _ => some true) (fun k => ?_) (Ev.now _)
    simp only [laws_FnShares.j0]
    rw [if_neg (by simp), if_neg (by simp)]

end Go.Proofs.Ytmjfmhbklifafaa.QFnShares
namespace Go.Proofs.Ytmjfmhbklifafaa.Pure
open Go.Proofs.Ytmjfmhbklifafaa.QFnShares
theorem FnShares : laws_FnShares.Pure := Go.Proofs.Ytmjfmhbklifafaa.QFnShares.plain
end Go.Proofs.Ytmjfmhbklifafaa.Pure
