/- FnPhrases: its arguments' kinds, and the one plain statement that is left of it: whatever numbers and lists come in, the law answers true. -/
import Derived.Test.YtllkijlmjapleaaDoorOpens
import Derived.Test.YtllkijlmjapleaaDoorQFnPhrasesx13
import Derived.KernelRfl
namespace Go.Proofs.YtllkijlmjapleaaDoor.QFnPhrases
open Go.ChangeShapes Go.WideShapes Go.RowKit Go.Proofs.YtllkijlmjapleaaDoorW.PrintWords Go.Proofs.YtllkijlmjapleaaDoor.Opn
def FnPhrases_Pure : Prop := ∀ (l0 : (List Int)) (l1 : (List Int)), (WfL (WfI .u8)) l0 → (WfL (WfI .u8)) l1 → ∃ k, QFnPhrases.laws_FnPhrases.f k l0 l1 = some true
end Go.Proofs.YtllkijlmjapleaaDoor.QFnPhrases
