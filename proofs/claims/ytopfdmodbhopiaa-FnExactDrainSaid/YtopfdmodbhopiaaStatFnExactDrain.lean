/- FnExactDrain: its arguments' kinds, and the one plain statement that is left of it: whatever numbers and lists come in, the law answers true. -/
import Derived.Test.YtopfdmodbhopiaaOpens
import Derived.Test.YtopfdmodbhopiaaQFnExactDrainx7
import Derived.KernelRfl
namespace Go.Proofs.Ytopfdmodbhopiaa.QFnExactDrain
open Go.ChangeShapes Go.WideShapes Go.RowKit Go.Proofs.YtopfdmodbhopiaaW.PrintWords Go.Proofs.Ytopfdmodbhopiaa.Opn
def FnExactDrain_Pure : Prop := ∀ (a0_0 : Int) (a0_1 : Int) (l0_2 : (List Int)), (WfI .i64) a0_0 → (WfI .i64) a0_1 → (WfL (WfI .i64)) l0_2 → ∃ k, QFnExactDrain.laws_FnExactDrain.f k a0_0 a0_1 l0_2 = some true
end Go.Proofs.Ytopfdmodbhopiaa.QFnExactDrain
