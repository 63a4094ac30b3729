/- FnExactReadPhrase: its arguments' kinds, and the one plain statement that is left of it: whatever numbers and lists come in, the law answers true. -/
import Derived.Test.YtllkijlmjapleaaDoorOpens
import Derived.Test.YtllkijlmjapleaaDoorQFnExactReadPhrasex8
import Derived.KernelRfl
namespace Go.Proofs.YtllkijlmjapleaaDoor.QFnExactReadPhrase
open Go.ChangeShapes Go.WideShapes Go.RowKit Go.Proofs.YtllkijlmjapleaaDoorW.PrintWords Go.Proofs.YtllkijlmjapleaaDoor.Opn
def FnExactReadPhrase_Pure : Prop := ∀ (a0 : ByteArray) (a1 : Int), WfS a0 → (WfI .i64) a1 → ∃ k, QFnExactReadPhrase.laws_FnExactReadPhrase.f k a0 a1 = some true
end Go.Proofs.YtllkijlmjapleaaDoor.QFnExactReadPhrase
