/- FnExactShare, plain: the least number of a series with a share of at least num / den not above it is the one in order that the share asks for. No condition. -/
import Derived.Test.YtmjfmhbklifafaaOrdLibFnExactShare
set_option linter.unusedVariables false
set_option linter.unusedSimpArgs false
namespace Go.Proofs.Ytmjfmhbklifafaa.QFnExactShare
open Go.RowKit Go.Proofs.YtmjfmhbklifafaaW.PrintWords Go.Proofs.Ytmjfmhbklifafaa.Opn Go.Proofs.Ytmjfmhbklifafaa.Pl Go.Proofs.Ytmjfmhbklifafaa.Srt

/-- which one in order a share asks for -/
def kth1 (n num den : Int) : Int := (num * n + den - 1) / den
theorem kth1_bd (n num den : Int) (h0 : 1 ≤ n) (h1 : 1 ≤ num) (h2 : num ≤ den) : 1 ≤ kth1 n num den ∧ kth1 n num den ≤ n := by
  unfold kth1
  have hn : 1 ≤ num * n := by have := Int.mul_le_mul h1 h0 (by omega) (by omega); omega
  have hd : num * n ≤ den * n := Int.mul_le_mul_of_nonneg_right h2 (by omega)
  constructor
  · rw [Int.le_ediv_iff_mul_le (by omega)]; omega
  · rw [← Int.lt_add_one_iff, Int.ediv_lt_iff_lt_mul (by omega), Int.add_mul, Int.one_mul, Int.mul_comm n den]; omega
theorem kth1_iff (n num den c : Int) (h2 : 1 ≤ den) : c * den ≥ num * n ↔ kth1 n num den ≤ c := by
  unfold kth1
  rw [← Int.lt_add_one_iff (a := (num * n + den - 1) / den), Int.ediv_lt_iff_lt_mul (by omega), Int.add_mul, Int.one_mul]
  omega

def SH (l : List Int) (num den : Int) : Int × Bool := if (okS l && (inB den 1 1000 && inB num 1 den)) = true then (rd (ordI l) (kth1 (l.length : Int) num den - 1), true) else (0, false)

theorem small_mul (a b A B : Int) (h1 : 0 ≤ a) (h2 : a ≤ A) (h3 : 0 ≤ b) (h4 : b ≤ B) : 0 ≤ a * b ∧ a * b ≤ A * B :=
  ⟨Int.mul_nonneg h1 h3, Int.mul_le_mul h2 h4 h3 (by omega)⟩

theorem implSH_ev (l : List Int) (hl : l.length ≤ 1048576) (num den : Int) : Ev (fun n => impl_Share.f n l num den) (SH l num den) := by
  unfold impl_Share.f SH
  refine Ev_bind _ (implSer_ev l hl) ?_
  simp only [implIn, Option.bind_some]
  cases h1 : okS l with
  | false => simpa using Ev.now ((0 : Int), false)
  | true =>
    simp only [if_true, Bool.true_and]
    cases h2 : inB den 1 1000 with
    | false => simpa using Ev.now ((0 : Int), false)
    | true =>
      simp only [if_true, Bool.true_and]
      cases h3 : inB num 1 den with
      | false => simpa using Ev.now ((0 : Int), false)
      | true =>
        have hd := (inB_iff _ _ _).mp h2; have hm := (inB_iff _ _ _).mp h3; have hn := okS_len h1
        have hlen := ordI_len l
        have hb := kth1_bd (l.length : Int) num den (by omega) hm.1 hm.2
        have hp := small_mul num (l.length : Int) 1000 500 (by omega) (by omega) (by omega) (by omega)
        have e : wrap64 (wrap64 (Int.tdiv (wrap64 (wrap64 (wrap64 (num * (l.length : Int)) + den) - 1)) den) - 1) = kth1 (l.length : Int) num den - 1 := by
          rw [w64 (n := num * (l.length : Int)) (by omega) (by omega), w64 (n := num * (l.length : Int) + den) (by omega) (by omega), w64 (n := num * (l.length : Int) + den - 1) (by omega) (by omega), Int.tdiv_eq_ediv_of_nonneg (by omega)]
          have : (num * (l.length : Int) + den - 1) / den = kth1 (l.length : Int) num den := rfl
          rw [this, w64 (n := kth1 (l.length : Int) num den) (by omega) (by omega), w64 (by omega) (by omega)]
        simp only [if_true, if_neg (show ¬ den = 0 by omega), e]
        unfold impl_sorted.f
        rw [if_pos (by omega), Option.bind_some, if_pos (by omega), if_pos (by omega)]
        exact Ev.now _

theorem specSH_ev (l : List Int) (hl : l.length ≤ 1048576) (num den : Int) : Ev (fun n => spec_Share.f n l num den) (SH l num den) := by
  have jbad : Ev (fun n => spec_Share.j0 n l num den true) (0, false) := by
    refine Ev.step (f := fun _ => some (0, false)) (fun n => ?_) (Ev.now _)
    simp only [spec_Share.j0]; rfl
  unfold spec_Share.f SH
  refine Ev_bind _ (specSer_ev l hl) ?_
  simp only [specIn]
  cases h1 : okS l with
  | false => simpa using jbad
  | true =>
    simp only [if_true, Bool.true_and, Option.bind_some]
    cases h2 : inB den 1 1000 with
    | false => simpa using jbad
    | true =>
      simp only [if_true, Bool.true_and]
      cases h3 : inB num 1 den with
      | false => simpa using jbad
      | true =>
        have hd := (inB_iff _ _ _).mp h2; have hmm := (inB_iff _ _ _).mp h3; have hn := okS_len h1
        have hlen := ordI_len l
        have hbd := kth1_bd (l.length : Int) num den (by omega) hmm.1 hmm.2
        have hp := small_mul num (l.length : Int) 1000 500 (by omega) (by omega) (by omega) (by omega)
        have hiff := fun c => kth1_iff (l.length : Int) num den c (by omega)
        simp only [Bool.not_true, if_true]
        obtain ⟨j, hj, hk⟩ : ∃ j : Nat, j < l.length ∧ kth1 (l.length : Int) num den = (j : Int) + 1 := ⟨(kth1 (l.length : Int) num den - 1).toNat, by omega, by omega⟩
        simp only [hk] at hiff ⊢
        have hj' : j < (ordI l).length := by omega
        rw [show (j : Int) + 1 - 1 = (j : Int) by omega, rd_lt (ordI l) j hj']
        have hm := kth_mem l j hj'
        have hmb := okS_get h1 _ hm
        have hP := fun x => kth l x j hj'
        generalize (ordI l)[j] = m at hm hmb hP ⊢
        have key := up_ind (P := fun i => ∀ b : Int, m ≤ b → (b = m ∨ m ∈ l.drop i) → Ev (fun n => spec_Share.l0 n l num den b (i : Int)) (m, true)) l.length (by
          intro b _ hb
          rw [List.drop_of_length_le (Nat.le_refl _)] at hb
          have hbm : b = m := by rcases hb with h | h; exact h; cases h
          subst hbm
          refine Ev.step (f := fun _ => some (b, true)) (fun n => ?_) (Ev.now _)
          simp only [spec_Share.l0]
          rw [if_neg (by omega)]) (by
          intro i hi ih b hb hbm
          have hdr : l.drop i = l[i] :: l.drop (i + 1) := List.drop_eq_getElem_cons hi
          rw [hdr, List.mem_cons] at hbm
          have hle := cnt_le l l[i]
          have hq := small_mul (cnt l l[i] : Int) den 500 1000 (by omega) (by omega) (by omega) (by omega)
          refine Ev.step (f := fun n => if l[i] < b then ((spec_l19Below.f n l l[i]).bind fun t109 => (if wrap64 (t109 * den) ≥ wrap64 (num * (l.length : Int)) then (spec_Share.l0 n l num den l[i] ((i + 1 : Nat) : Int)) else (spec_Share.l0 n l num den b ((i + 1 : Nat) : Int)))) else spec_Share.l0 n l num den b ((i + 1 : Nat) : Int)) (fun n => ?_) ?_
          · simp only [spec_Share.l0]
            rw [if_pos (by omega), if_pos (by omega), rd_lt l i hi, w64 (n := (i : Int) + 1) (by omega) (by omega)]
            rfl
          by_cases hx : l[i] < b
          · simp only [if_pos hx]
            refine Ev_bind _ (below_ev l hl l[i]) ?_
            have hPx := hP l[i]
            have hI := hiff (cnt l l[i] : Int)
            simp only [w64 (n := (cnt l l[i] : Int) * den) (by omega) (by omega), w64 (n := num * (l.length : Int)) (by omega) (by omega)]
            by_cases hc : (cnt l l[i] : Int) * den ≥ num * (l.length : Int)
            · simp only [if_pos hc]
              have hmx : m ≤ l[i] := hPx.mpr (by have := hI.mp hc; omega)
              refine ih l[i] hmx ?_
              rcases hbm with h | h | h
              · omega
              · exact .inl h.symm
              · exact .inr h
            · simp only [if_neg hc]
              have hmx : ¬ m ≤ l[i] := fun hh => hc (hI.mpr (by have := hPx.mp hh; omega))
              refine ih b hb ?_
              rcases hbm with h | h | h
              · exact .inl h
              · omega
              · exact .inr h
          · simp only [if_neg hx]
            refine ih b hb ?_
            rcases hbm with h | h | h
            · exact .inl h
            · exact .inl (by omega)
            · exact .inr h) 0 (Nat.zero_le _) 100001 (by omega) (.inr (by simpa using hm))
        refine Ev.step (f := fun n => spec_Share.l0 n l num den 100001 0) (fun n => ?_) (by simpa using key)
        simp only [spec_Share.j0]
        rw [if_neg (by simp)]

theorem plain : laws_FnExactShare.Pure := by
  intro l0 a1 a2 _ _ _ _ _
  refine Ev.rounds (g := fun k => laws_FnExactShare.f k l0 a1 a2) ?_
  unfold laws_FnExactShare.f
  by_cases g0 : (l0.length : Int) > 1048576
  · simp only [if_pos g0]; exact Ev.now _
  simp only [if_neg g0]
  have h0 : l0.length ≤ 1048576 := by omega
  have e0 := toInts_ev l0 h0
  refine Ev_bind _ e0 (Ev_bind _ (specSH_ev l0 h0 a1 a2) (Ev_bind _ e0 (Ev_bind _ (implSH_ev l0 h0 a1 a2) ?_)))
  generalize SH l0 a1 a2 = X
  simp only [if_true, bne_self_eq_false]
  refine Ev.step (f := fun k => (laws_toInt64S.f k l0).bind fun t138 => ((laws_eqInt64S.f k l0 t138).bind fun t141 => (if t141 = true then (some true) else (some false)))) (fun k => ?_) ?_
  · simp only [laws_FnExactShare.j0]
    rw [if_neg (by simp)]
  refine Ev_bind _ e0 (Ev_bind _ (eqInts_ev l0 h0) ?_)
  simp only [if_true]
  exact Ev.now _

end Go.Proofs.Ytmjfmhbklifafaa.QFnExactShare
namespace Go.Proofs.Ytmjfmhbklifafaa.Pure
open Go.Proofs.Ytmjfmhbklifafaa.QFnExactShare
theorem FnExactShare : laws_FnExactShare.Pure := Go.Proofs.Ytmjfmhbklifafaa.QFnExactShare.plain
end Go.Proofs.Ytmjfmhbklifafaa.Pure
