/- The row of the law FnExactDrain: for every input the call returns true, and each argument reads behind the call as it read before. No condition. -/
import Derived.Test.YtopfdmodbhopiaaRows
import Derived.Test.YtopfdmodbhopiaaOpens
import Derived.Test.YtopfdmodbhopiaaStatFnExactDrain
import Derived.Test.YtopfdmodbhopiaaPureFnExactDrain
import Derived.WalkKit
import Derived.ProofKit
import Derived.OpenShut
import Derived.ShutString
import Derived.ChangeOld
import Derived.Below
import Derived.SizedLaws
import Derived.Carry
namespace Go.Proofs.Ytopfdmodbhopiaa.fnExactDrain
open Go.ChangeShapes Go.WideShapes Go.RowKit Go.Proofs.YtopfdmodbhopiaaW.PrintWords Go.Proofs.Ytopfdmodbhopiaa.Opn
open Go.ChangeMaps (open_string shut_string)
open Go.Proofs.Ytopfdmodbhopiaa.QFnExactDrain
set_option linter.unusedVariables false
set_option linter.unusedSimpArgs false
theorem own : ownKnob Try.prog.godebug = none := by kernel_rfl
theorem laidOut : laidOutB Try.prog = true := by kernel_rfl
set_option maxHeartbeats 1000000 in
set_option maxRecDepth 100000 in
theorem lifted (os : Os) (started : os.Started) (H : Type) (enc : TypeId × Value → H) :
    ReturnsInHanded {} Try.checked os 8 .any (Rows.fnExactDrainSpec.pre6 enc Try.prog Try.f8 Rows.fnExactDrainRow.domain false) (Rows.fnExactDrainSpec.post enc Try.prog Try.f8 false true false false) := by
  refine returnsInHanded_of_change (C := Try.checked) own started (by kernel_rfl) Try.func8
    (ChangeSpec.witness6 (enc := enc) (C := Try.checked) false ⟨#[], #[.agg #[.int .i64 0, .int .i64 0, .slice none 0 0]], []⟩ 8 (by kernel_rfl) (by kernel_rfl) (by kernel_rfl) (by kernel_rfl)) ?_
  intro W base args ds gs before hval0 hW hcnd _
  have hval : ∀ (j : Nat) t v, Try.f8.params[j]? = some t → args[j]? = some v → Value.okWide Try.prog W .any base t v := hval0
  have hW' := hW
  obtain ⟨p, q, hA0, hV, rfl, hfz, hnd⟩ := hW
  have hA : DataW.TrodAll enc Try.prog W 0 (fun _ => true) true Try.f8.params.toList args.toList ds p := hA0
  rw [Try.params8] at hA hval
  obtain ⟨v0, vs0, d0, ds0, p0, q0, hargs, rfl, rfl, h0, r0⟩ := trodAll_cons hA
  obtain ⟨rfl, rfl, rfl⟩ := trodAll_nil r0
  obtain rfl : args = #[v0] := by cases args; simp_all
  obtain ⟨rfl, rfl⟩ := trodVars_none hV
  have k0 := h0
  have lt0 : ∀ x ∈ p0, x.block < W.heap.size := by obtain ⟨m, hm⟩ := k0; exact DataW.trod_lt m _ _ _ hm
  obtain ⟨cs0, rfl, _⟩ := okWide_struct Try.underlying58 (hval 0 58 v0 rfl rfl)
  obtain ⟨x0, hK0, hw0⟩ := open_whole (opens_struct0 Try.underlying58 (opensF_cons (opens_int Try.underlying2) (by kernel_rfl) rfl (opensF_cons (opens_int Try.underlying2) (by kernel_rfl) rfl (opensF_one (opens_slice Try.underlying22 (opens_int Try.underlying2) (by kernel_rfl)) (by kernel_rfl) rfl))) (by kernel_rfl)) h0
  obtain ⟨a0_0, e_a0_0⟩ : ∃ z : Int, z = x0.1 := ⟨_, rfl⟩
  obtain ⟨a0_1, e_a0_1⟩ : ∃ z : Int, z = x0.2.1 := ⟨_, rfl⟩
  obtain ⟨l0_2, e_l0_2⟩ : ∃ z : (List Int), z = x0.2.2 := ⟨_, rfl⟩
  obtain ⟨_, _, hcs0, rfl, ⟨_, _, rfl, rfl, ⟨A0_2, c0_2, rfl, hl0_2, hr0_2⟩⟩⟩ := hK0
  obtain ⟨w0_0, ⟨w0_1, w0_2⟩⟩ := hw0
  rw [← e_a0_0] at w0_0
  rw [← e_a0_1] at w0_1
  rw [← e_l0_2] at hl0_2 hr0_2 w0_2
  have hv0 : Value.agg cs0 = .agg #[.int .i64 a0_0, .int .i64 a0_1, .slice A0_2 l0_2.length c0_2] := by
    rw [agg_of_cells hcs0]
    simp only [List.append_assoc, List.cons_append, List.nil_append, e_a0_0, e_a0_1, e_l0_2]
  clear hcs0
  rw [hv0] at hW' k0 ⊢
  clear hA0 hval0
  obtain ⟨k, h⟩ := Pure.FnExactDrain a0_0 a0_1 l0_2 w0_0 w0_1 w0_2
  refine (laws_FnExactDrain.calls k a0_0 a0_1 A0_2 c0_2 l0_2 W hr0_2 hl0_2 h).mono fun e W' ⟨he, bel⟩ => ?_
  subst he
  exact ⟨_, rfl, _, _, _, [], _, [], hW', trodAll_mk1 (shut_bool Try.underlying4 _), (trodAll_cons_mk (Below.trod laidOut (by kernel_rfl) (of_decide_eq_true (by kernel_rfl)) k0 bel lt0) trodAll_mk0), rfl, bel.frame _, fun h => by cases h⟩
theorem over : Rows.fnExactDrainRow.holds Try.pinned (OpenSpec.ofChange Rows.fnExactDrainSpec) :=
  OpenClaim.holds_of_wide 8 Try.f8 rfl rfl rfl rfl rfl rfl rfl ⟨rfl, rfl, rfl, rfl, rfl⟩ rfl rfl rfl rfl rfl (by kernel_rfl) Try.func8 (by kernel_rfl)
    (of_decide_eq_true (by kernel_rfl)) (by unfold Func.isWrapper; first | (rw [if_pos (by decide +kernel)]; kernel_rfl) | (rw [if_neg (by decide +kernel)]; exact ⟨rfl, rfl⟩))
    (fun os started H enc _ => lifted os started H enc)
theorem proved : Rows.FnExactDrainSaid := over
#print axioms proved
end Go.Proofs.Ytopfdmodbhopiaa.fnExactDrain
namespace Go.Proofs.Ytopfdmodbhopiaa
theorem fnExactDrain_holds : Rows.FnExactDrainSaid := fnExactDrain.proved
end Go.Proofs.Ytopfdmodbhopiaa
