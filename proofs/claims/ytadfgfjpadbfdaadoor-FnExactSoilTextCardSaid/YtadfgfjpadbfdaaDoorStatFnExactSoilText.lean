/- FnExactSoilText: its arguments' kinds, and the one plain statement that is left of it: whatever numbers and lists come in, the law answers true. -/
import Derived.Test.YtadfgfjpadbfdaaDoorOpens
import Derived.Test.YtadfgfjpadbfdaaDoorQFnExactSoilTextx2
import Derived.KernelRfl
namespace Go.Proofs.YtadfgfjpadbfdaaDoor.QFnExactSoilText
open Go.ChangeShapes Go.WideShapes Go.RowKit Go.Proofs.YtadfgfjpadbfdaaDoorW.PrintWords Go.Proofs.YtadfgfjpadbfdaaDoor.Opn
def FnExactSoilText_Pure : Prop := ∀ (a0_0 : Int) (a0_1 : Int) (a0_2 : Int) (a0_3 : Int) (a0_4 : Int), (WfI .i64) a0_0 → (WfI .i64) a0_1 → (WfI .i64) a0_2 → (WfI .i64) a0_3 → (WfI .i64) a0_4 → ∃ k, QFnExactSoilText.laws_FnExactSoilText.f k a0_0 a0_1 a0_2 a0_3 a0_4 = some true
end Go.Proofs.YtadfgfjpadbfdaaDoor.QFnExactSoilText
