/- FnExactTitle: its arguments' kinds, and the one plain statement that is left of it: whatever numbers and lists come in, the law answers true. -/
import Derived.Test.YtgdlmbnnfngieaaDoorOpens
import Derived.Test.YtgdlmbnnfngieaaDoorQFnExactTitlex4
import Derived.KernelRfl
namespace Go.Proofs.YtgdlmbnnfngieaaDoor.QFnExactTitle
open Go.ChangeShapes Go.WideShapes Go.RowKit Go.Proofs.YtgdlmbnnfngieaaDoorW.PrintWords Go.Proofs.YtgdlmbnnfngieaaDoor.Opn
def FnExactTitle_Pure : Prop := ∀ (a0 : ByteArray) (a1 : Int), WfS a0 → (WfI .i64) a1 → ∃ k, QFnExactTitle.laws_FnExactTitle.f k a0 a1 = some true
end Go.Proofs.YtgdlmbnnfngieaaDoor.QFnExactTitle
