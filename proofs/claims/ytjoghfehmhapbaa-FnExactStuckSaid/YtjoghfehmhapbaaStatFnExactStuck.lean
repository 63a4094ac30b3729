/- FnExactStuck: its arguments' kinds, and the one plain statement that is left of it: whatever numbers and lists come in, the law answers true. -/
import Derived.Test.YtjoghfehmhapbaaOpens
import Derived.Test.YtjoghfehmhapbaaQFnExactStuckx15
import Derived.KernelRfl
namespace Go.Proofs.Ytjoghfehmhapbaa.QFnExactStuck
open Go.ChangeShapes Go.WideShapes Go.RowKit Go.Proofs.YtjoghfehmhapbaaW.PrintWords Go.Proofs.Ytjoghfehmhapbaa.Opn
def wfT110 (x : S110) : Prop := (WfL (WfI .i64)) x.f0 ∧ (WfI .i64) x.f1 ∧ (WfI .i64) x.f2 ∧ (WfI .i64) x.f3
theorem opensT110 : Opens Try.prog 110 k110 wfT110 := opens_iso (opens_struct0 Try.underlying110 (opensF_cons (opens_slice Try.underlying25 (opens_int Try.underlying2) (by kernel_rfl)) (by kernel_rfl) rfl (opensF_cons (opens_int Try.underlying2) (by kernel_rfl) rfl (opensF_cons (opens_int Try.underlying2) (by kernel_rfl) rfl (opensF_one (opens_int Try.underlying2) (by kernel_rfl) rfl)))) (by kernel_rfl)) (fun x : S110 => (x.f0, x.f1, x.f2, x.f3)) (fun p => ⟨p.1, p.2.1, p.2.2.1, p.2.2.2⟩) (fun _ => rfl)
def wfT115 (x : S115) : Prop := (WfI .i64) x.f0 ∧ (WfI .i64) x.f1
theorem opensT115 : Opens Try.prog 115 k115 wfT115 := opens_iso (opens_struct0 Try.underlying115 (opensF_cons (opens_int Try.underlying2) (by kernel_rfl) rfl (opensF_one (opens_int Try.underlying2) (by kernel_rfl) rfl)) (by kernel_rfl)) (fun x : S115 => (x.f0, x.f1)) (fun p => ⟨p.1, p.2⟩) (fun _ => rfl)
def FnExactStuck_Pure : Prop := ∀ (l0_0 : (List S110)) (l0_1 : (List Int)) (a0_2 : Int) (l0_3 : (List S115)), (WfL wfT110) l0_0 → (WfL (WfI .i64)) l0_1 → (WfI .i64) a0_2 → (WfL wfT115) l0_3 → ∃ k, QFnExactStuck.laws_FnExactStuck.f k l0_0 l0_1 a0_2 l0_3 = some true
end Go.Proofs.Ytjoghfehmhapbaa.QFnExactStuck
