/- FnExactAdvect: its arguments' kinds, and the one plain statement that is left of it: whatever numbers and lists come in, the law answers true. -/
import Derived.Test.YtjmpgngndnheaaaOpens
import Derived.Test.YtjmpgngndnheaaaQFnExactAdvectx6
import Derived.KernelRfl
namespace Go.Proofs.Ytjmpgngndnheaaa.QFnExactAdvect
open Go.ChangeShapes Go.WideShapes Go.RowKit Go.Proofs.YtjmpgngndnheaaaW.PrintWords Go.Proofs.Ytjmpgngndnheaaa.Opn
def FnExactAdvect_Pure : Prop := ∀ (l0_0 : (List Int)) (l0_1 : (List Int)) (l1 : (List Int)) (a2 : Int), (WfL (WfI .i64)) l0_0 → (WfL (WfI .i64)) l0_1 → (WfL (WfI .i64)) l1 → (WfI .i64) a2 → ∃ k, QFnExactAdvect.laws_FnExactAdvect.f k l0_0 l0_1 l1 a2 = some true
end Go.Proofs.Ytjmpgngndnheaaa.QFnExactAdvect
