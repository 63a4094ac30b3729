/- FnExactPick: its arguments' kinds, and the one plain statement that is left of it: whatever numbers and lists come in, the law answers true. -/
import Derived.Test.YtefagcpmadpefaaOpens
import Derived.Test.YtefagcpmadpefaaQFnExactPickx12
import Derived.KernelRfl
namespace Go.Proofs.Ytefagcpmadpefaa.QFnExactPick
open Go.ChangeShapes Go.WideShapes Go.RowKit Go.Proofs.YtefagcpmadpefaaW.PrintWords Go.Proofs.Ytefagcpmadpefaa.Opn
def wfT40 (x : S40) : Prop := WfS x.f0 ∧ (WfI .i64) x.f1 ∧ (WfI .i64) x.f2 ∧ (WfI .i64) x.f3 ∧ (WfI .i64) x.f4
theorem opensT40 : Opens Try.prog 40 k40 wfT40 := opens_iso (opens_struct0 Try.underlying40 (opensF_cons (opens_string Try.underlying9) (by kernel_rfl) rfl (opensF_cons (opens_int Try.underlying2) (by kernel_rfl) rfl (opensF_cons (opens_int Try.underlying2) (by kernel_rfl) rfl (opensF_cons (opens_int Try.underlying2) (by kernel_rfl) rfl (opensF_one (opens_int Try.underlying2) (by kernel_rfl) rfl))))) (by kernel_rfl)) (fun x : S40 => (x.f0, x.f1, x.f2, x.f3, x.f4)) (fun p => ⟨p.1, p.2.1, p.2.2.1, p.2.2.2.1, p.2.2.2.2⟩) (fun _ => rfl)
def FnExactPick_Pure : Prop := ∀ (l0 : (List S40)) (l1_0 : (List ByteArray)) (l1_1 : (List Int)) (l1_2 : (List Int)) (l1_3 : (List Int)), (WfL wfT40) l0 → (WfL WfS) l1_0 → (WfL (WfI .i64)) l1_1 → (WfL (WfI .i64)) l1_2 → (WfL (WfI .i64)) l1_3 → ∃ k, QFnExactPick.laws_FnExactPick.f k l0 l1_0 l1_1 l1_2 l1_3 = some true
end Go.Proofs.Ytefagcpmadpefaa.QFnExactPick
