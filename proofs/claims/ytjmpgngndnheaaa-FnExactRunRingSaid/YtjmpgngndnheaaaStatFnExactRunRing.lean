/- FnExactRunRing: its arguments' kinds, and the one plain statement that is left of it: whatever numbers and lists come in, the law answers true. -/
import Derived.Test.YtjmpgngndnheaaaOpens
import Derived.Test.YtjmpgngndnheaaaQFnExactRunRingx8
import Derived.KernelRfl
namespace Go.Proofs.Ytjmpgngndnheaaa.QFnExactRunRing
open Go.ChangeShapes Go.WideShapes Go.RowKit Go.Proofs.YtjmpgngndnheaaaW.PrintWords Go.Proofs.Ytjmpgngndnheaaa.Opn
def FnExactRunRing_Pure : Prop := ∀ (l0_0 : (List Int)) (l0_1 : (List Int)) (l1 : (List Int)) (a2 : Int), (WfL (WfI .i64)) l0_0 → (WfL (WfI .i64)) l0_1 → (WfL (WfI .i64)) l1 → (WfI .i64) a2 → ∃ k, QFnExactRunRing.laws_FnExactRunRing.f k l0_0 l0_1 l1 a2 = some true
end Go.Proofs.Ytjmpgngndnheaaa.QFnExactRunRing
