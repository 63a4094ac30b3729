/- FnReportsAnyway: its arguments' kinds, and the one plain statement that is left of it: whatever numbers and lists come in, the law answers true. -/
import Derived.Test.YtjoghfehmhapbaaOpens
import Derived.Test.YtjoghfehmhapbaaQFnReportsAnywayx20
import Derived.KernelRfl
namespace Go.Proofs.Ytjoghfehmhapbaa.QFnReportsAnyway
open Go.ChangeShapes Go.WideShapes Go.RowKit Go.Proofs.YtjoghfehmhapbaaW.PrintWords Go.Proofs.Ytjoghfehmhapbaa.Opn
def FnReportsAnyway_Pure : Prop := ∀ (l0 : (List Int)), (WfL (WfI .u8)) l0 → ∃ k, QFnReportsAnyway.laws_FnReportsAnyway.f k l0 = some true
end Go.Proofs.Ytjoghfehmhapbaa.QFnReportsAnyway
