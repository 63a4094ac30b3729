/- FnExactDeal: its arguments' kinds, and the one plain statement that is left of it: whatever numbers and lists come in, the law answers true. -/
import Derived.Test.YtobiblhmchoilaaOpens
import Derived.Test.YtobiblhmchoilaaQFnExactDealx6
import Derived.KernelRfl
namespace Go.Proofs.Ytobiblhmchoilaa.QFnExactDeal
open Go.ChangeShapes Go.WideShapes Go.RowKit Go.Proofs.YtobiblhmchoilaaW.PrintWords Go.Proofs.Ytobiblhmchoilaa.Opn
def wfT36 (x : S36) : Prop := WfS x.f0 ∧ (WfI .i64) x.f1 ∧ (WfI .i64) x.f2 ∧ (WfI .i64) x.f3 ∧ (WfI .i64) x.f4
theorem opensT36 : Opens Try.prog 36 k36 wfT36 := opens_iso (opens_struct0 Try.underlying36 (opensF_cons (opens_string Try.underlying9) (by kernel_rfl) rfl (opensF_cons (opens_int Try.underlying2) (by kernel_rfl) rfl (opensF_cons (opens_int Try.underlying2) (by kernel_rfl) rfl (opensF_cons (opens_int Try.underlying2) (by kernel_rfl) rfl (opensF_one (opens_int Try.underlying2) (by kernel_rfl) rfl))))) (by kernel_rfl)) (fun x : S36 => (x.f0, x.f1, x.f2, x.f3, x.f4)) (fun p => ⟨p.1, p.2.1, p.2.2.1, p.2.2.2.1, p.2.2.2.2⟩) (fun _ => rfl)
def FnExactDeal_Pure : Prop := ∀ (l0 : (List S36)) (a1 : Int) (a2 : Int), (WfL wfT36) l0 → (WfI .i64) a1 → (WfI .i64) a2 → ∃ k, QFnExactDeal.laws_FnExactDeal.f k l0 a1 a2 = some true
end Go.Proofs.Ytobiblhmchoilaa.QFnExactDeal
