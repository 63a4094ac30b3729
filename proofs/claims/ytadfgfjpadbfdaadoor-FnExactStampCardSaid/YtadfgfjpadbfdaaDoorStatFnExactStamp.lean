/- FnExactStamp: its arguments' kinds, and the one plain statement that is left of it: whatever numbers and lists come in, the law answers true. -/
import Derived.Test.YtadfgfjpadbfdaaDoorOpens
import Derived.Test.YtadfgfjpadbfdaaDoorQFnExactStampx3
import Derived.KernelRfl
namespace Go.Proofs.YtadfgfjpadbfdaaDoor.QFnExactStamp
open Go.ChangeShapes Go.WideShapes Go.RowKit Go.Proofs.YtadfgfjpadbfdaaDoorW.PrintWords Go.Proofs.YtadfgfjpadbfdaaDoor.Opn
def FnExactStamp_Pure : Prop := ∀ (a0 : Int), (WfI .i64) a0 → ∃ k, QFnExactStamp.laws_FnExactStamp.f k a0 = some true
end Go.Proofs.YtadfgfjpadbfdaaDoor.QFnExactStamp
