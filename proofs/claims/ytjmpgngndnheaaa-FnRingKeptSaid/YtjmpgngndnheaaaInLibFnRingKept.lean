/- How the law's own helpers treat lists of whole numbers: sizes, copies, comparisons, marks. Plain functions on lists; no condition but the sizes that are named. -/
import Derived.Test.YtjmpgngndnheaaaLib
import Derived.Test.YtjmpgngndnheaaaQFnRingKeptx5
set_option linter.unusedVariables false
set_option linter.unusedSimpArgs false
namespace Go.Proofs.Ytjmpgngndnheaaa.QFnRingKept
open Go.RowKit Go.Proofs.YtjmpgngndnheaaaW.PrintWords Go.Proofs.Ytjmpgngndnheaaa.Opn Go.Proofs.Ytjmpgngndnheaaa.Pl

def inB (n a b : Int) : Bool := decide (a ≤ n) && decide (n ≤ b)
theorem inB_iff (n a b : Int) : inB n a b = true ↔ a ≤ n ∧ n ≤ b := by simp [inB]
theorem specIn (n a b : Int) : spec_l2In.f n a b = some (inB n a b) := by
  unfold spec_l2In.f inB
  by_cases h : n ≥ a
  · rw [if_pos h, decide_eq_true (show a ≤ n from h), Bool.true_and]
  · rw [if_neg h, decide_eq_false (show ¬ a ≤ n from h), Bool.false_and]
theorem implIn (n a b : Int) : impl_in.f n a b = some (inB n a b) := by
  unfold impl_in.f inB
  by_cases h : n ≥ a
  · rw [if_pos h, decide_eq_true (show a ≤ n from h), Bool.true_and]
  · rw [if_neg h, decide_eq_false (show ¬ a ≤ n from h), Bool.false_and]




end Go.Proofs.Ytjmpgngndnheaaa.QFnRingKept
