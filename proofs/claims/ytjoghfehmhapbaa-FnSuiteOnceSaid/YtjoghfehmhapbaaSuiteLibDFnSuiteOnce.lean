/- Suites, plainly: what is decided, what is read; a suite of numbers that fit. -/
import Derived.Test.YtjoghfehmhapbaaSumLib
import Derived.Test.YtjoghfehmhapbaaQFnSuiteOncex13
import Derived.Test.YtjoghfehmhapbaaQFnSuiteOncex11
import Derived.Test.YtjoghfehmhapbaaQFnSuiteOncex5
import Derived.Test.YtjoghfehmhapbaaQFnSuiteOncex3
import Derived.Test.YtjoghfehmhapbaaQFnSuiteOncex1
set_option linter.unusedVariables false
set_option linter.unusedSimpArgs false
namespace Go.Proofs.Ytjoghfehmhapbaa.QFnSuiteOnce
open Go.RowKit Go.Proofs.YtjoghfehmhapbaaW.PrintWords Go.Proofs.Ytjoghfehmhapbaa.Opn Go.Proofs.Ytjoghfehmhapbaa.Pl

noncomputable def dec_ (p : Prop) : Bool := @decide p (Classical.propDecidable p)
theorem dec_iff {p q : Prop} (h : p ↔ q) : dec_ p = dec_ q := by rw [propext h]
theorem dec_true {p : Prop} (h : p) : dec_ p = true := by unfold dec_; exact @decide_eq_true p (Classical.propDecidable p) h
theorem dec_false {p : Prop} (h : ¬ p) : dec_ p = false := by unfold dec_; exact @decide_eq_false p (Classical.propDecidable p) h
theorem rdT39 (l : List S39) (i : Nat) (h : i < l.length) : rd_T39 l (i : Int) = l[i] := getD_lt l z39 i h
theorem rdT43 (l : List S43) (i : Nat) (h : i < l.length) : rd_T43 l (i : Int) = l[i] := getD_lt l z43 i h
/-- A suite of numbers that fit. -/
structure Fits (l0 : List S39) (l1 : List Int) : Prop where
  n0 : l0.length ≤ 1048576
  n1 : ∀ q : Nat, q < l0.length → (rd_T39 l0 (q : Int)).f0.length ≤ 1048576
  n2 : l1.length ≤ 1048576
end Go.Proofs.Ytjoghfehmhapbaa.QFnSuiteOnce
