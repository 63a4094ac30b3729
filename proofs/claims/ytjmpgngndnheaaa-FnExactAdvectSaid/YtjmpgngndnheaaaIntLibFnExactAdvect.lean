/- How the law's own helpers treat lists of whole numbers: sizes, copies, comparisons, marks. Plain functions on lists; no condition but the sizes that are named. -/
import Derived.Test.YtjmpgngndnheaaaLib
import Derived.Test.YtjmpgngndnheaaaQFnExactAdvectx6
set_option linter.unusedVariables false
set_option linter.unusedSimpArgs false
namespace Go.Proofs.Ytjmpgngndnheaaa.QFnExactAdvect
open Go.RowKit Go.Proofs.YtjmpgngndnheaaaW.PrintWords Go.Proofs.Ytjmpgngndnheaaa.Opn Go.Proofs.Ytjmpgngndnheaaa.Pl

def inB (n a b : Int) : Bool := decide (a ≤ n) && decide (n ≤ b)
theorem inB_iff (n a b : Int) : inB n a b = true ↔ a ≤ n ∧ n ≤ b := by simp [inB]
theorem specIn (n a b : Int) : spec_l2In.f n a b = some (inB n a b) := by
  unfold spec_l2In.f inB
  by_cases h : n ≥ a
  · rw [if_pos h, decide_eq_true (show a ≤ n from h), Bool.true_and]
  · rw [if_neg h, decide_eq_false (show ¬ a ≤ n from h), Bool.false_and]
theorem implIn (n a b : Int) : impl_in.f n a b = some (inB n a b) := by
  unfold impl_in.f inB
  by_cases h : n ≥ a
  · rw [if_pos h, decide_eq_true (show a ≤ n from h), Bool.true_and]
  · rw [if_neg h, decide_eq_false (show ¬ a ≤ n from h), Bool.false_and]

theorem szInt (l : List Int) (hl : l.length ≤ 9223372036854775807) (a : Int) (h0 : 0 ≤ a) (h1 : a ≤ 1048576) : ∃ r, laws_szInt64S.f l a = some r ∧ (r < 0 ∨ (0 ≤ r ∧ (l.length : Int) ≤ a ∧ r ≤ a)) := by
  unfold laws_szInt64S.f
  rw [w64 (n := a - (l.length : Int)) (by omega) (by omega)]
  by_cases h : a - (l.length : Int) < 0
  · rw [if_pos h]; exact ⟨-1, rfl, .inl (by omega)⟩
  · rw [if_neg h]; exact ⟨_, rfl, .inr (by omega)⟩

theorem toInts_ev (l : List Int) (hl : l.length ≤ 1048576) : Ev (fun k => laws_toInt64S.f k l) l := by
  unfold laws_toInt64S.f
  simp only [if_pos (show 0 ≤ (l.length : Int) by omega), Int.toNat_natCast, if_pos (show l.length ≤ 35184372088832 by omega)]
  have key := Ev_up (fun k i => laws_toInt64S.l0 k l (l.take i ++ (List.replicate l.length (0 : Int)).drop i) (i : Int)) (fun _ => l) l.length (by
      refine Ev.step (f := fun _ => some l) (fun k => ?_) (Ev.now _)
      simp only [laws_toInt64S.l0]
      rw [if_neg (by omega)]
      simp) (by
      intro i hi ih
      refine Ev.step (fun k => ?_) ih
      simp only [laws_toInt64S.l0]
      rw [if_pos (by omega), if_pos (by omega), if_pos (by simp; omega), rd_lt l i hi, w64 (n := (i : Int) + 1) (by omega) (by omega), Int.toNat_natCast, set_take_drop _ l i hi (by simp)]
      rfl) 0 (Nat.zero_le _)
  simpa using key

theorem eqInts_ev (l : List Int) (hl : l.length ≤ 1048576) : Ev (fun k => laws_eqInt64S.f k l l) true := by
  unfold laws_eqInt64S.f
  simp only [if_true]
  have key := Ev_up (fun k i => laws_eqInt64S.l0 k l l (i : Int)) (fun _ => true) l.length (by
      refine Ev.step (f := fun _ => some true) (fun k => ?_) (Ev.now _)
      simp only [laws_eqInt64S.l0]
      rw [if_neg (by omega)]) (by
      intro i hi ih
      refine Ev.step (fun k => ?_) ih
      simp only [laws_eqInt64S.l0]
      rw [if_pos (by omega), if_pos (by omega), if_pos (by omega), if_pos True.intro, w64 (n := (i : Int) + 1) (by omega) (by omega)]
      rfl) 0 (Nat.zero_le _)
  exact key

/-- a, a + 1, .. : n numbers -/
def rng (a : Int) (n : Nat) : List Int := (List.range n).map (fun i : Nat => a + (i : Int))
theorem rng_len (a : Int) (n : Nat) : (rng a n).length = n := by simp [rng]
theorem rng_get (a : Int) (n i : Nat) (h : i < (rng a n).length) : (rng a n)[i] = a + (i : Int) := by simp [rng]

theorem mark_ev (l : List Int) (hl : l.length ≤ 1048576) (a : Int) (h0 : 0 ≤ a) (h1 : a ≤ 1000000000000) : Ev (fun k => laws_markInt64S.f k l a) (a + (l.length : Int), rng a l.length) := by
  unfold laws_markInt64S.f
  have key := Ev_up (fun k i => laws_markInt64S.l0 k ((rng a l.length).take i ++ l.drop i) (a + (i : Int)) (i : Int)) (fun _ => (a + (l.length : Int), rng a l.length)) l.length (by
      refine Ev.step (f := fun _ => some (a + (l.length : Int), rng a l.length)) (fun k => ?_) (Ev.now _)
      simp only [laws_markInt64S.l0]
      rw [if_neg (by simp [rng_len])]
      rw [List.take_of_length_le (by rw [rng_len]; exact Nat.le_refl _), List.drop_length, List.append_nil]) (by
      intro i hi ih
      refine Ev.step (fun k => ?_) ih
      simp only [laws_markInt64S.l0]
      rw [if_pos (by simp [rng_len]; omega), if_pos (by omega), w64 (n := (i : Int) + 1) (by omega) (by omega), w64 (n := a + (i : Int) + 1) (by omega) (by omega), Int.toNat_natCast]
      have e := set_take_drop l (rng a l.length) i (by rw [rng_len]; exact hi) (by rw [rng_len])
      rw [rng_get] at e
      rw [e, show a + (i : Int) + 1 = a + ((i + 1 : Nat) : Int) by omega]
      rfl) 0 (Nat.zero_le _)
  simpa using key

theorem held_ev (n : Nat) (hn : n ≤ 1048576) (a : Int) (h0 : 0 ≤ a) (h1 : a ≤ 1000000000000) : Ev (fun k => laws_heldInt64S.f k (rng a n) a) (a + (n : Int)) := by
  unfold laws_heldInt64S.f
  have key := Ev_up (fun k i => laws_heldInt64S.l0 k (rng a n) (a + (i : Int)) (i : Int)) (fun _ => a + (n : Int)) n (by
      refine Ev.step (f := fun _ => some (a + (n : Int))) (fun k => ?_) (Ev.now _)
      simp only [laws_heldInt64S.l0]
      rw [if_neg (by simp [rng_len])]) (by
      intro i hi ih
      refine Ev.step (fun k => ?_) ih
      simp only [laws_heldInt64S.l0]
      rw [if_pos (by simp [rng_len]; omega), if_pos (by omega), rd_lt _ i (by rw [rng_len]; exact hi), rng_get, if_pos rfl, w64 (n := (i : Int) + 1) (by omega) (by omega), w64 (n := a + (i : Int) + 1) (by omega) (by omega)]
      rw [show a + (i : Int) + 1 = a + ((i + 1 : Nat) : Int) by omega]
      rfl) 0 (Nat.zero_le _)
  simpa using key

end Go.Proofs.Ytjmpgngndnheaaa.QFnExactAdvect
