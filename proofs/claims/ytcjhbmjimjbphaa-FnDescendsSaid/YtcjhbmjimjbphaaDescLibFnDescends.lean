/- The best move of an unknown: the cost along it is a parabola; the reference's halving steps and the program's division find the same place of it. Plain mathematics of whole numbers; the bounds stand in each lemma. -/
import Derived.Test.YtcjhbmjimjbphaaCostZFnDescends
set_option linter.unusedVariables false
set_option linter.unusedSimpArgs false
namespace Go.Proofs.Ytcjhbmjimjbphaa.QFnDescends
open Go.RowKit Go.Proofs.YtcjhbmjimjbphaaW.PrintWords Go.Proofs.Ytcjhbmjimjbphaa.Opn Go.Proofs.Ytcjhbmjimjbphaa.Pl

def Best (a b u : Int) : Prop := (u = 0 → -a ≤ 2 * b ∧ 2 * b ≤ a) ∧ (0 < u → 2 * (a * u) - a + 2 * b < 0 ∧ 0 ≤ 2 * (a * u) + a + 2 * b) ∧ (u < 0 → 0 < 2 * (a * u) + a + 2 * b ∧ 2 * (a * u) - a + 2 * b ≤ 0)

theorem mul_step {a u v : Int} (ha : 0 ≤ a) (h : u + 1 ≤ v) : a * u + a ≤ a * v := by
  have := Int.mul_le_mul_of_nonneg_left h ha
  rw [Int.mul_add, Int.mul_one] at this
  exact this
theorem best_le {a b u v : Int} (ha : 0 < a) (hu : Best a b u) (hv : Best a b v) : ¬ u + 1 ≤ v := by
  intro h
  have hs := mul_step (a := a) (by omega) h
  have z : a * 0 = 0 := Int.mul_zero a
  obtain ⟨u0, u1, u2⟩ := hu
  obtain ⟨v0, v1, v2⟩ := hv
  rcases Int.lt_trichotomy u 0 with hu | hu | hu
  · have := u2 hu
    rcases Int.lt_trichotomy v 0 with hv | hv | hv
    · have := v2 hv; omega
    · subst hv; have := v0 rfl; omega
    · have := v1 hv
      have hs0 := mul_step (a := a) (by omega) (show u + 1 ≤ 0 by omega)
      have hs1 := mul_step (a := a) (by omega) (show 0 + 1 ≤ v by omega)
      omega
  · subst hu
    have := u0 rfl
    have := v1 (by omega)
    have hs1 := mul_step (a := a) (by omega) (show 0 + 1 ≤ v by omega)
    omega
  · have := u1 hu
    have := v1 (by omega)
    omega
theorem best_eq {a b u v : Int} (ha : 0 < a) (hu : Best a b u) (hv : Best a b v) : u = v := by
  have h1 := best_le ha hu hv
  have h2 := best_le ha hv hu
  omega

theorem floorDiv_eq (p a : Int) (ha : 0 < a) (hp : -4000000000000000000 ≤ p ∧ p ≤ 4000000000000000000) : ∃ T, impl_floorDiv.f p a = some T ∧ a * T ≤ p ∧ p < a * T + a ∧ -4000000000000000001 ≤ T ∧ T ≤ 4000000000000000000 := by
  unfold impl_floorDiv.f
  rw [if_neg (by omega)]
  have hda : decide (a < 0) = false := decide_eq_false (by omega)
  rw [hda]
  rcases Int.le_total 0 p with h | h
  · have e := Int.tdiv_eq_ediv_of_nonneg (b := a) h
    have h1 := Int.mul_ediv_add_emod p a
    have h2 := Int.emod_nonneg p (show a ≠ 0 by omega)
    have h3 := Int.emod_lt_of_pos p ha
    have h4 : 0 ≤ p / a := Int.ediv_nonneg h (by omega)
    have h5 : p / a ≤ p := Int.ediv_le_self a h
    have hdp : decide (p < 0) = false := decide_eq_false (by omega)
    rw [hdp, e, w64 (n := p / a) (by omega) (by omega)]
    refine ⟨p / a, by simp, by omega, by omega, by omega, by omega⟩
  · obtain ⟨m, rfl⟩ : ∃ m, p = -m := ⟨-p, by omega⟩
    have hm : 0 ≤ m := by omega
    have e := Int.tdiv_eq_ediv_of_nonneg (b := a) hm
    have e2 := Int.tmod_eq_emod_of_nonneg (b := a) hm
    have h1 := Int.mul_ediv_add_emod m a
    have h2 := Int.emod_nonneg m (show a ≠ 0 by omega)
    have h3 := Int.emod_lt_of_pos m ha
    have h4 : 0 ≤ m / a := Int.ediv_nonneg hm (by omega)
    have h5 : m / a ≤ m := Int.ediv_le_self a hm
    rw [Int.neg_tmod, Int.neg_tdiv, e, e2, w64 (n := -(m / a)) (by omega) (by omega), w64 (n := -(m / a) - 1) (by omega) (by omega)]
    have h6 : a * -(m / a) = -(a * (m / a)) := Int.mul_neg _ _
    have h7 : a * (-(m / a) - 1) = -(a * (m / a)) - a := by rw [Int.mul_sub, Int.mul_neg, Int.mul_one]
    by_cases hz : -(m % a) = 0
    · rw [if_pos hz]
      exact ⟨_, rfl, by omega, by omega, by omega, by omega⟩
    · rw [if_neg hz]
      have hdp : decide (-m < 0) = true := decide_eq_true (by
        rcases Int.lt_or_le 0 m with h | h
        · omega
        · have : m = 0 := by omega
          subst this
          simp at hz)
      rw [hdp]
      exact ⟨-(m / a) - 1, by simp [hda], by omega, by omega, by omega, by omega⟩

theorem pick_best (a b T : Int) (ha : 0 < a) (h1 : a * T + b ≤ 0) (h2 : 0 < a * T + a + b) :
    let D := 2 * (a * T) + a + 2 * b
    Best a b (if D < 0 then T + 1 else if D = 0 then (if max (T + 1) (-T - 1) < max T (-T) then T + 1 else if max (T + 1) (-T - 1) = max T (-T) then (if 0 < T + 1 then T + 1 else T) else T) else T) := by
  intro D
  have e : a * (T + 1) = a * T + a := by rw [Int.mul_add, Int.mul_one]
  have z : a * 0 = 0 := Int.mul_zero a
  have hup : D ≤ 0 → T < 0 ∨ D < 0 → Best a b (T + 1) := by
    intro hD hT
    refine ⟨fun h => ?_, fun h => ?_, fun h => ?_⟩
    · have : T = -1 := by omega
      subst this
      have e1 : a * -1 = -a := by rw [Int.mul_neg, Int.mul_one]
      omega
    · rw [e]; omega
    · rw [e]; omega
  have hlo : 0 ≤ D → 0 ≤ T ∨ 0 < D → Best a b T := by
    intro hD hT
    refine ⟨fun h => ?_, fun h => ?_, fun h => ?_⟩
    · subst h; omega
    · omega
    · omega
  by_cases c1 : D < 0
  · rw [if_pos c1]; exact hup (by omega) (.inr c1)
  rw [if_neg c1]
  by_cases c2 : D = 0
  · rw [if_pos c2]
    by_cases c3 : max (T + 1) (-T - 1) < max T (-T)
    · rw [if_pos c3]; exact hup (by omega) (.inl (by omega))
    rw [if_neg c3]
    by_cases c4 : max (T + 1) (-T - 1) = max T (-T)
    · exfalso; omega
    rw [if_neg c4]
    exact hlo (by omega) (.inl (by omega))
  · rw [if_neg c2]; exact hlo (by omega) (.inr (by omega))

theorem par_step (a b u : Int) : (a * u * u + 2 * b * u) - (a * (u - 1) * (u - 1) + 2 * b * (u - 1)) = 2 * (a * u) - a + 2 * b := by grind
theorem par_prod (a b u : Int) : a * u * u + 2 * b * u = u * (a * u + 2 * b) := by grind

theorem best_lower {a b u : Int} (ha : 0 < a) (h : Best a b u) (hu : u ≠ 0) : a * u * u + 2 * b * u < 0 := by
  rw [par_prod]
  obtain ⟨_, h1, h2⟩ := h
  rcases Int.lt_trichotomy u 0 with hn | hn | hp
  · have := h2 hn
    have hs := mul_step (a := a) (by omega) (show u + 1 ≤ 0 by omega)
    rw [Int.mul_zero] at hs
    have hq : 0 < a * u + 2 * b := by omega
    have := Int.mul_pos (a := -u) (b := a * u + 2 * b) (by omega) hq
    rw [Int.neg_mul] at this
    omega
  · omega
  · have := h1 hp
    have hs := mul_step (a := a) (by omega) (show 0 + 1 ≤ u by omega)
    rw [Int.mul_zero] at hs
    have hq : 0 < -(a * u + 2 * b) := by omega
    have := Int.mul_pos hp hq
    rw [Int.mul_neg] at this
    omega

def aZ (t : List Int) (rows : List S52) (i : Nat) : Int := rd t (i : Int) + sumZ (fun k => (rd_T52 rows (k : Int)).f2 * rd (rd_T52 rows (k : Int)).f0 (i : Int) * rd (rd_T52 rows (k : Int)).f0 (i : Int)) rows.length
def bZ (x g t : List Int) (rows : List S52) (n i : Nat) : Int := rd t (i : Int) * (rd x (i : Int) - rd g (i : Int)) + sumZ (fun k => (rd_T52 rows (k : Int)).f2 * missZ x n (rd_T52 rows (k : Int)) * rd (rd_T52 rows (k : Int)).f0 (i : Int)) rows.length

theorem rd_set_same (x : List Int) (i : Nat) (hi : i < x.length) (v : Int) : rd (x.set i v) (i : Int) = v := by
  rw [rd_lt _ i (by rw [List.length_set]; exact hi)]
  simp
theorem rd_set_other (x : List Int) (i j : Nat) (h : j ≠ i) (v : Int) : rd (x.set i v) (j : Int) = rd x (j : Int) := by
  simp [rd, List.getD_eq_getElem?_getD, List.getElem?_set, Ne.symm h]

theorem miss_set (x : List Int) (n i : Nat) (hi : i < n) (hx : x.length = n) (r : S52) (u : Int) : missZ (x.set i (rd x (i : Int) + u)) n r = missZ x n r + rd r.f0 (i : Int) * u := by
  unfold missZ
  rw [sumZ_set (fun j => rd r.f0 (j : Int) * rd x (j : Int)) _ i (fun j hj => by simp only [rd_set_other x i j hj]) n hi, rd_set_same x i (by omega)]
  grind
theorem cost_set (x g t : List Int) (rows : List S52) (n i : Nat) (hi : i < n) (hx : x.length = n) (u : Int) :
    costZ (x.set i (rd x (i : Int) + u)) g t rows n = costZ x g t rows n + (aZ t rows i * u * u + 2 * bZ x g t rows n i * u) := by
  unfold costZ
  have e1 : offZ (x.set i (rd x (i : Int) + u)) g t n = offZ x g t n + (rd t (i : Int) * u * u + 2 * (rd t (i : Int) * (rd x (i : Int) - rd g (i : Int))) * u) := by
    unfold offZ
    rw [sumZ_set (fun j => rd t (j : Int) * (rd x (j : Int) - rd g (j : Int)) * (rd x (j : Int) - rd g (j : Int))) _ i (fun j hj => by simp only [rd_set_other x i j hj]) n hi, rd_set_same x i (by omega)]
    grind
  have e2 : rowsZ (x.set i (rd x (i : Int) + u)) rows n = rowsZ x rows n + (sumZ (fun k => (rd_T52 rows (k : Int)).f2 * rd (rd_T52 rows (k : Int)).f0 (i : Int) * rd (rd_T52 rows (k : Int)).f0 (i : Int)) rows.length * (u * u) + sumZ (fun k => (rd_T52 rows (k : Int)).f2 * missZ x n (rd_T52 rows (k : Int)) * rd (rd_T52 rows (k : Int)).f0 (i : Int)) rows.length * (2 * u)) := by
    unfold rowsZ
    rw [Int.mul_comm _ (u * u), Int.mul_comm _ (2 * u), ← sumZ_mul, ← sumZ_mul, ← sumZ_add, ← sumZ_add]
    refine sumZ_congr _ (fun k _ => ?_)
    rw [miss_set x n i hi hx]
    grind
  rw [e1, e2]
  unfold aZ bZ
  grind
end Go.Proofs.Ytcjhbmjimjbphaa.QFnDescends
