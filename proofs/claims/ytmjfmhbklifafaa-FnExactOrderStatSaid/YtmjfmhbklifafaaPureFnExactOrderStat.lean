/- FnExactOrderStat, plain: the least number of a series with at least k numbers not above it is the k-th in order. No condition. -/
import Derived.Test.YtmjfmhbklifafaaOrdLibFnExactOrderStat
set_option linter.unusedVariables false
set_option linter.unusedSimpArgs false
namespace Go.Proofs.Ytmjfmhbklifafaa.QFnExactOrderStat
open Go.RowKit Go.Proofs.YtmjfmhbklifafaaW.PrintWords Go.Proofs.Ytmjfmhbklifafaa.Opn Go.Proofs.Ytmjfmhbklifafaa.Pl Go.Proofs.Ytmjfmhbklifafaa.Srt

def OS (l : List Int) (k : Int) : Int × Bool := if (okS l && inB k 1 (l.length : Int)) = true then (rd (ordI l) (k - 1), true) else (0, false)

theorem implOS_ev (l : List Int) (hl : l.length ≤ 1048576) (k : Int) : Ev (fun n => impl_OrderStat.f n l k) (OS l k) := by
  unfold impl_OrderStat.f OS
  refine Ev_bind _ (implSer_ev l hl) ?_
  simp only [implIn, Option.bind_some]
  cases h1 : okS l with
  | false => simpa using Ev.now ((0 : Int), false)
  | true =>
    simp only [if_true, Bool.true_and]
    cases h2 : inB k 1 (l.length : Int) with
    | false => simpa using Ev.now ((0 : Int), false)
    | true =>
      have hk := (inB_iff _ _ _).mp h2
      have hlen := ordI_len l
      simp only [if_true]
      unfold impl_sorted.f
      rw [if_pos (by omega), Option.bind_some, w64 (by omega) (by omega), if_pos (by omega), if_pos (by omega)]
      exact Ev.now _

theorem specOS_ev (l : List Int) (hl : l.length ≤ 1048576) (k : Int) : Ev (fun n => spec_OrderStat.f n l k) (OS l k) := by
  have jbad : Ev (fun n => spec_OrderStat.j0 n l k true) (0, false) := by
    refine Ev.step (f := fun _ => some (0, false)) (fun n => ?_) (Ev.now _)
    simp only [spec_OrderStat.j0]; rfl
  unfold spec_OrderStat.f OS
  refine Ev_bind _ (specSer_ev l hl) ?_
  simp only [specIn, Option.bind_some]
  cases h1 : okS l with
  | false => simpa using jbad
  | true =>
    simp only [if_true, Bool.true_and]
    cases h2 : inB k 1 (l.length : Int) with
    | false => simpa using jbad
    | true =>
      have hk := (inB_iff _ _ _).mp h2
      have hlen := ordI_len l
      have hn := okS_len h1
      simp only [Bool.not_true, if_true]
      obtain ⟨j, hj, rfl⟩ : ∃ j : Nat, j < l.length ∧ k = (j : Int) + 1 := ⟨(k - 1).toNat, by omega, by omega⟩
      have hj' : j < (ordI l).length := by omega
      rw [show (j : Int) + 1 - 1 = (j : Int) by omega, rd_lt (ordI l) j hj']
      have hm := kth_mem l j hj'
      have hmb := okS_get h1 _ hm
      have hP := fun x => kth l x j hj'
      generalize (ordI l)[j] = m at hm hmb hP ⊢
      have key := up_ind (P := fun i => ∀ b : Int, m ≤ b → (b = m ∨ m ∈ l.drop i) → Ev (fun n => spec_OrderStat.l0 n l ((j : Int) + 1) b (i : Int)) (m, true)) l.length (by
        intro b _ hb
        rw [List.drop_of_length_le (Nat.le_refl _)] at hb
        have hbm : b = m := by rcases hb with h | h; exact h; cases h
        subst hbm
        refine Ev.step (f := fun _ => some (b, true)) (fun n => ?_) (Ev.now _)
        simp only [spec_OrderStat.l0]
        rw [if_neg (by omega)]) (by
        intro i hi ih b hb hbm
        have hd : l.drop i = l[i] :: l.drop (i + 1) := List.drop_eq_getElem_cons hi
        rw [hd, List.mem_cons] at hbm
        have hle := cnt_le l l[i]
        refine Ev.step (f := fun n => if l[i] < b then ((spec_l19Below.f n l l[i]).bind fun t109 => (if t109 ≥ (j : Int) + 1 then (spec_OrderStat.l0 n l ((j : Int) + 1) l[i] ((i + 1 : Nat) : Int)) else (spec_OrderStat.l0 n l ((j : Int) + 1) b ((i + 1 : Nat) : Int)))) else spec_OrderStat.l0 n l ((j : Int) + 1) b ((i + 1 : Nat) : Int)) (fun n => ?_) ?_
        · simp only [spec_OrderStat.l0]
          rw [if_pos (by omega), if_pos (by omega), rd_lt l i hi, w64 (by omega) (by omega)]
          rfl
        by_cases hx : l[i] < b
        · simp only [if_pos hx]
          refine Ev_bind _ (below_ev l hl l[i]) ?_
          have hPx := hP l[i]
          by_cases hc : (cnt l l[i] : Int) ≥ (j : Int) + 1
          · simp only [if_pos hc]
            have hmx : m ≤ l[i] := hPx.mpr (by omega)
            refine ih l[i] hmx ?_
            rcases hbm with h | h | h
            · omega
            · exact .inl h.symm
            · exact .inr h
          · simp only [if_neg hc]
            have hmx : ¬ m ≤ l[i] := fun hh => hc (by have := hPx.mp hh; omega)
            refine ih b hb ?_
            rcases hbm with h | h | h
            · exact .inl h
            · omega
            · exact .inr h
        · simp only [if_neg hx]
          refine ih b hb ?_
          rcases hbm with h | h | h
          · exact .inl h
          · exact .inl (by omega)
          · exact .inr h) 0 (Nat.zero_le _) 100001 (by omega) (.inr (by simpa using hm))
      refine Ev.step (f := fun n => spec_OrderStat.l0 n l ((j : Int) + 1) 100001 0) (fun n => ?_) (by simpa using key)
      simp only [spec_OrderStat.j0]
      rw [if_neg (by simp)]

theorem plain : laws_FnExactOrderStat.Pure := by
  intro l0 a1 _ _ _ _
  refine Ev.rounds (g := fun k => laws_FnExactOrderStat.f k l0 a1) ?_
  unfold laws_FnExactOrderStat.f
  by_cases g0 : (l0.length : Int) > 1048576
  · simp only [if_pos g0]; exact Ev.now _
  simp only [if_neg g0]
  have h0 : l0.length ≤ 1048576 := by omega
  have e0 := toInts_ev l0 h0
  refine Ev_bind _ e0 (Ev_bind _ (specOS_ev l0 h0 a1) (Ev_bind _ e0 (Ev_bind _ (implOS_ev l0 h0 a1) ?_)))
  generalize OS l0 a1 = X
  simp only [if_true, bne_self_eq_false]
  refine Ev.step (f := fun k => (laws_toInt64S.f k l0).bind fun t138 => ((laws_eqInt64S.f k l0 t138).bind fun t141 => (if t141 = true then (some true) else (some false)))) (fun k => ?_) ?_
  · simp only [laws_FnExactOrderStat.j0]
    rw [if_neg (by simp)]
  refine Ev_bind _ e0 (Ev_bind _ (eqInts_ev l0 h0) ?_)
  simp only [if_true]
  exact Ev.now _

end Go.Proofs.Ytmjfmhbklifafaa.QFnExactOrderStat
namespace Go.Proofs.Ytmjfmhbklifafaa.Pure
open Go.Proofs.Ytmjfmhbklifafaa.QFnExactOrderStat
theorem FnExactOrderStat : laws_FnExactOrderStat.Pure := Go.Proofs.Ytmjfmhbklifafaa.QFnExactOrderStat.plain
end Go.Proofs.Ytmjfmhbklifafaa.Pure
