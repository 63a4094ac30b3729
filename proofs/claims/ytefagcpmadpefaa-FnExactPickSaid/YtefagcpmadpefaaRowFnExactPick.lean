/- The row of the law FnExactPick: for every input the call returns true, and each argument reads behind the call as it read before. No condition. -/
import Derived.Test.YtefagcpmadpefaaRows
import Derived.Test.YtefagcpmadpefaaOpens
import Derived.Test.YtefagcpmadpefaaStatFnExactPick
import Derived.Test.YtefagcpmadpefaaPureFnExactPick
import Derived.WalkKit
import Derived.ProofKit
import Derived.OpenShut
import Derived.ShutString
import Derived.ChangeOld
import Derived.Below
import Derived.SizedLaws
import Derived.Carry
namespace Go.Proofs.Ytefagcpmadpefaa.fnExactPick
open Go.ChangeShapes Go.WideShapes Go.RowKit Go.Proofs.YtefagcpmadpefaaW.PrintWords Go.Proofs.Ytefagcpmadpefaa.Opn
open Go.ChangeMaps (open_string shut_string)
open Go.Proofs.Ytefagcpmadpefaa.QFnExactPick
set_option linter.unusedVariables false
set_option linter.unusedSimpArgs false
theorem own : ownKnob Try.prog.godebug = none := by kernel_rfl
theorem laidOut : laidOutB Try.prog = true := by kernel_rfl
set_option maxHeartbeats 1000000 in
set_option maxRecDepth 100000 in
theorem lifted (os : Os) (started : os.Started) (H : Type) (enc : TypeId × Value → H) :
    ReturnsInHanded {} Try.checked os 3 .any (Rows.fnExactPickSpec.pre6 enc Try.prog Try.f3 Rows.fnExactPickRow.domain false) (Rows.fnExactPickSpec.post enc Try.prog Try.f3 false true false false) := by
  refine returnsInHanded_of_change (C := Try.checked) own started (by kernel_rfl) Try.func3
    (ChangeSpec.witness6 (enc := enc) (C := Try.checked) false ⟨#[], #[.slice none 0 0, .agg #[.slice none 0 0, .slice none 0 0, .slice none 0 0, .slice none 0 0]], []⟩ 8 (by kernel_rfl) (by kernel_rfl) (by kernel_rfl) (by kernel_rfl)) ?_
  intro W base args ds gs before hval0 hW hcnd _
  have hval : ∀ (j : Nat) t v, Try.f3.params[j]? = some t → args[j]? = some v → Value.okWide Try.prog W .any base t v := hval0
  have hW' := hW
  obtain ⟨p, q, hA0, hV, rfl, hfz, hnd⟩ := hW
  have hA : DataW.TrodAll enc Try.prog W 0 (fun _ => true) true Try.f3.params.toList args.toList ds p := hA0
  rw [Try.params3] at hA hval
  obtain ⟨v0, vs0, d0, ds0, p0, q0, hargs, rfl, rfl, h0, r0⟩ := trodAll_cons hA
  obtain ⟨v1, vs1, d1, ds1, p1, q1, rfl, rfl, rfl, h1, r1⟩ := trodAll_cons r0
  obtain ⟨rfl, rfl, rfl⟩ := trodAll_nil r1
  obtain rfl : args = #[v0, v1] := by cases args; simp_all
  obtain ⟨rfl, rfl⟩ := trodVars_none hV
  have k0 := h0
  have lt0 : ∀ x ∈ p0, x.block < W.heap.size := by obtain ⟨m, hm⟩ := k0; exact DataW.trod_lt m _ _ _ hm
  obtain ⟨A0, len0_, c0, rfl⟩ := okWide_slice Try.underlying22 (hval 0 22 v0 rfl rfl)
  obtain ⟨l0, ⟨A0', c0', e0, hl0, hr0⟩, w0⟩ := open_whole (opens_slice Try.underlying22 opensT40 (by kernel_rfl)) h0
  simp only [Value.cells, List.cons.injEq, Value.slice.injEq, and_true] at e0
  obtain ⟨rfl, rfl, rfl⟩ := e0
  have k1 := h1
  have lt1 : ∀ x ∈ p1, x.block < W.heap.size := by obtain ⟨m, hm⟩ := k1; exact DataW.trod_lt m _ _ _ hm
  obtain ⟨cs1, rfl, _⟩ := okWide_struct Try.underlying26 (hval 1 26 v1 rfl rfl)
  obtain ⟨x1, hK1, hw1⟩ := open_whole (opens_struct0 Try.underlying26 (opensF_cons (opens_slice Try.underlying23 (opens_string Try.underlying9) (by kernel_rfl)) (by kernel_rfl) rfl (opensF_cons (opens_slice Try.underlying24 (opens_int Try.underlying2) (by kernel_rfl)) (by kernel_rfl) rfl (opensF_cons (opens_slice Try.underlying24 (opens_int Try.underlying2) (by kernel_rfl)) (by kernel_rfl) rfl (opensF_one (opens_slice Try.underlying24 (opens_int Try.underlying2) (by kernel_rfl)) (by kernel_rfl) rfl)))) (by kernel_rfl)) h1
  obtain ⟨l1_0, e_l1_0⟩ : ∃ z : (List ByteArray), z = x1.1 := ⟨_, rfl⟩
  obtain ⟨l1_1, e_l1_1⟩ : ∃ z : (List Int), z = x1.2.1 := ⟨_, rfl⟩
  obtain ⟨l1_2, e_l1_2⟩ : ∃ z : (List Int), z = x1.2.2.1 := ⟨_, rfl⟩
  obtain ⟨l1_3, e_l1_3⟩ : ∃ z : (List Int), z = x1.2.2.2 := ⟨_, rfl⟩
  obtain ⟨_, _, hcs1, ⟨A1_0, c1_0, rfl, hl1_0, hr1_0⟩, ⟨_, _, rfl, ⟨A1_1, c1_1, rfl, hl1_1, hr1_1⟩, ⟨_, _, rfl, ⟨A1_2, c1_2, rfl, hl1_2, hr1_2⟩, ⟨A1_3, c1_3, rfl, hl1_3, hr1_3⟩⟩⟩⟩ := hK1
  obtain ⟨w1_0, ⟨w1_1, ⟨w1_2, w1_3⟩⟩⟩ := hw1
  rw [← e_l1_0] at hl1_0 hr1_0 w1_0
  rw [← e_l1_1] at hl1_1 hr1_1 w1_1
  rw [← e_l1_2] at hl1_2 hr1_2 w1_2
  rw [← e_l1_3] at hl1_3 hr1_3 w1_3
  have hv1 : Value.agg cs1 = .agg #[.slice A1_0 l1_0.length c1_0, .slice A1_1 l1_1.length c1_1, .slice A1_2 l1_2.length c1_2, .slice A1_3 l1_3.length c1_3] := by
    rw [agg_of_cells hcs1]
    simp only [List.append_assoc, List.cons_append, List.nil_append, e_l1_0, e_l1_1, e_l1_2, e_l1_3]
  clear hcs1
  rw [hv1] at hW' k1 ⊢
  clear hA0 hval0
  obtain ⟨k, h⟩ := Pure.FnExactPick l0 l1_0 l1_1 l1_2 l1_3 w0 w1_0 w1_1 w1_2 w1_3
  refine (laws_FnExactPick.calls k A0 c0 l0 A1_0 c1_0 l1_0 A1_1 c1_1 l1_1 A1_2 c1_2 l1_2 A1_3 c1_3 l1_3 W hr0 hl0 hr1_0 hl1_0 hr1_1 hl1_1 hr1_2 hl1_2 hr1_3 hl1_3 h).mono fun e W' ⟨he, bel⟩ => ?_
  subst he
  exact ⟨_, rfl, _, _, _, [], _, [], hW', trodAll_mk1 (shut_bool Try.underlying4 _), (trodAll_cons_mk (Below.trod laidOut (by kernel_rfl) (of_decide_eq_true (by kernel_rfl)) k0 bel lt0) (trodAll_cons_mk (Below.trod laidOut (by kernel_rfl) (of_decide_eq_true (by kernel_rfl)) k1 bel lt1) trodAll_mk0)), rfl, bel.frame _, fun h => by cases h⟩
theorem over : Rows.fnExactPickRow.holds Try.pinned (OpenSpec.ofChange Rows.fnExactPickSpec) :=
  OpenClaim.holds_of_wide 3 Try.f3 rfl rfl rfl rfl rfl rfl rfl ⟨rfl, rfl, rfl, rfl, rfl⟩ rfl rfl rfl rfl rfl (by kernel_rfl) Try.func3 (by kernel_rfl)
    (of_decide_eq_true (by kernel_rfl)) (by unfold Func.isWrapper; first | (rw [if_pos (by decide +kernel)]; kernel_rfl) | (rw [if_neg (by decide +kernel)]; exact ⟨rfl, rfl⟩))
    (fun os started H enc _ => lifted os started H enc)
theorem proved : Rows.FnExactPickSaid := over
#print axioms proved
end Go.Proofs.Ytefagcpmadpefaa.fnExactPick
namespace Go.Proofs.Ytefagcpmadpefaa
theorem fnExactPick_holds : Rows.FnExactPickSaid := fnExactPick.proved
end Go.Proofs.Ytefagcpmadpefaa
