/- FnDescends: its arguments' kinds, and the one plain statement that is left of it: whatever numbers and lists come in, the law answers true. -/
import Derived.Test.YtcjhbmjimjbphaaOpens
import Derived.Test.YtcjhbmjimjbphaaQFnDescendsx14
import Derived.KernelRfl
namespace Go.Proofs.Ytcjhbmjimjbphaa.QFnDescends
open Go.ChangeShapes Go.WideShapes Go.RowKit Go.Proofs.YtcjhbmjimjbphaaW.PrintWords Go.Proofs.Ytcjhbmjimjbphaa.Opn
def FnDescends_Pure : Prop := ∀ (l0 : (List Int)), (WfL (WfI .u8)) l0 → ∃ k, QFnDescends.laws_FnDescends.f k l0 = some true
end Go.Proofs.Ytcjhbmjimjbphaa.QFnDescends
