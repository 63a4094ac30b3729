/- FnExactPhrase: its arguments' kinds, and the one plain statement that is left of it: whatever numbers and lists come in, the law answers true. -/
import Derived.Test.YtllkijlmjapleaaDoorOpens
import Derived.Test.YtllkijlmjapleaaDoorQFnExactPhrasex5
import Derived.KernelRfl
namespace Go.Proofs.YtllkijlmjapleaaDoor.QFnExactPhrase
open Go.ChangeShapes Go.WideShapes Go.RowKit Go.Proofs.YtllkijlmjapleaaDoorW.PrintWords Go.Proofs.YtllkijlmjapleaaDoor.Opn
def FnExactPhrase_Pure : Prop := ∀ (a0_0 : Int) (a0_1 : Int) (a0_2 : Int) (a0_3 : Int) (a0_4 : Int) (a1 : Int), (WfI .i64) a0_0 → (WfI .i64) a0_1 → (WfI .i64) a0_2 → (WfI .i64) a0_3 → (WfI .i64) a0_4 → (WfI .i64) a1 → ∃ k, QFnExactPhrase.laws_FnExactPhrase.f k a0_0 a0_1 a0_2 a0_3 a0_4 a1 = some true
end Go.Proofs.YtllkijlmjapleaaDoor.QFnExactPhrase
