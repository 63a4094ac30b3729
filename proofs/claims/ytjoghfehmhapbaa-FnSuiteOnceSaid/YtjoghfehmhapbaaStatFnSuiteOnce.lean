/- FnSuiteOnce: its arguments' kinds, and the one plain statement that is left of it: whatever numbers and lists come in, the law answers true. -/
import Derived.Test.YtjoghfehmhapbaaOpens
import Derived.Test.YtjoghfehmhapbaaQFnSuiteOncex14
import Derived.KernelRfl
namespace Go.Proofs.Ytjoghfehmhapbaa.QFnSuiteOnce
open Go.ChangeShapes Go.WideShapes Go.RowKit Go.Proofs.YtjoghfehmhapbaaW.PrintWords Go.Proofs.Ytjoghfehmhapbaa.Opn
def FnSuiteOnce_Pure : Prop := ∀ (l0 : (List Int)) (l1 : (List Int)), (WfL (WfI .u8)) l0 → (WfL (WfI .u8)) l1 → ∃ k, QFnSuiteOnce.laws_FnSuiteOnce.f k l0 l1 = some true
end Go.Proofs.Ytjoghfehmhapbaa.QFnSuiteOnce
