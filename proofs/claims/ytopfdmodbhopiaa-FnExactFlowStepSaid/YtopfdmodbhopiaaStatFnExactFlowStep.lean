/- FnExactFlowStep: its arguments' kinds, and the one plain statement that is left of it: whatever numbers and lists come in, the law answers true. -/
import Derived.Test.YtopfdmodbhopiaaOpens
import Derived.Test.YtopfdmodbhopiaaQFnExactFlowStepx6
import Derived.KernelRfl
namespace Go.Proofs.Ytopfdmodbhopiaa.QFnExactFlowStep
open Go.ChangeShapes Go.WideShapes Go.RowKit Go.Proofs.YtopfdmodbhopiaaW.PrintWords Go.Proofs.Ytopfdmodbhopiaa.Opn
def FnExactFlowStep_Pure : Prop := ∀ (l0 : (List Int)) (l1_0 : (List Int)) (a1_1 : Int) (a1_2 : Int) (l2 : (List Int)), (WfL (WfI .i64)) l0 → (WfL (WfI .i64)) l1_0 → (WfI .i64) a1_1 → (WfI .i64) a1_2 → (WfL (WfI .i64)) l2 → ∃ k, QFnExactFlowStep.laws_FnExactFlowStep.f k l0 l1_0 a1_1 a1_2 l2 = some true
end Go.Proofs.Ytopfdmodbhopiaa.QFnExactFlowStep
