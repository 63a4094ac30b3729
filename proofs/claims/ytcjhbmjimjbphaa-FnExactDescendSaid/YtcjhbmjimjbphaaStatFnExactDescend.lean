/- FnExactDescend: its arguments' kinds, and the one plain statement that is left of it: whatever numbers and lists come in, the law answers true. -/
import Derived.Test.YtcjhbmjimjbphaaOpens
import Derived.Test.YtcjhbmjimjbphaaQFnExactDescendx12
import Derived.KernelRfl
namespace Go.Proofs.Ytcjhbmjimjbphaa.QFnExactDescend
open Go.ChangeShapes Go.WideShapes Go.RowKit Go.Proofs.YtcjhbmjimjbphaaW.PrintWords Go.Proofs.Ytcjhbmjimjbphaa.Opn
def wfT72 (x : S72) : Prop := (WfL (WfI .i64)) x.f0 ∧ (WfI .i64) x.f1 ∧ (WfI .i64) x.f2
theorem opensT72 : Opens Try.prog 72 k72 wfT72 := opens_iso (opens_struct0 Try.underlying72 (opensF_cons (opens_slice Try.underlying22 (opens_int Try.underlying2) (by kernel_rfl)) (by kernel_rfl) rfl (opensF_cons (opens_int Try.underlying2) (by kernel_rfl) rfl (opensF_one (opens_int Try.underlying2) (by kernel_rfl) rfl))) (by kernel_rfl)) (fun x : S72 => (x.f0, x.f1, x.f2)) (fun p => ⟨p.1, p.2.1, p.2.2⟩) (fun _ => rfl)
def FnExactDescend_Pure : Prop := ∀ (a0_0 : Int) (l0_1 : (List Int)) (l0_2 : (List Int)) (l0_3 : (List S72)) (l1 : (List Int)) (a2 : Int), (WfI .i64) a0_0 → (WfL (WfI .i64)) l0_1 → (WfL (WfI .i64)) l0_2 → (WfL wfT72) l0_3 → (WfL (WfI .i64)) l1 → (WfI .i64) a2 → ∃ k, QFnExactDescend.laws_FnExactDescend.f k a0_0 l0_1 l0_2 l0_3 l1 a2 = some true
end Go.Proofs.Ytcjhbmjimjbphaa.QFnExactDescend
