/- The row of the law FnExactDescend: for every input the call returns true, and each argument reads behind the call as it read before. No condition. -/
import Derived.Test.YtcjhbmjimjbphaaRows
import Derived.Test.YtcjhbmjimjbphaaOpens
import Derived.Test.YtcjhbmjimjbphaaStatFnExactDescend
import Derived.Test.YtcjhbmjimjbphaaPureFnExactDescend
import Derived.WalkKit
import Derived.ProofKit
import Derived.OpenShut
import Derived.ShutString
import Derived.ChangeOld
import Derived.Below
import Derived.SizedLaws
import Derived.Carry
namespace Go.Proofs.Ytcjhbmjimjbphaa.fnExactDescend
open Go.ChangeShapes Go.WideShapes Go.RowKit Go.Proofs.YtcjhbmjimjbphaaW.PrintWords Go.Proofs.Ytcjhbmjimjbphaa.Opn
open Go.ChangeMaps (open_string shut_string)
open Go.Proofs.Ytcjhbmjimjbphaa.QFnExactDescend
set_option linter.unusedVariables false
set_option linter.unusedSimpArgs false
theorem own : ownKnob Try.prog.godebug = none := by kernel_rfl
theorem laidOut : laidOutB Try.prog = true := by kernel_rfl
set_option maxHeartbeats 1000000 in
set_option maxRecDepth 100000 in
theorem lifted (os : Os) (started : os.Started) (H : Type) (enc : TypeId × Value → H) :
    ReturnsInHanded {} Try.checked os 5 .any (Rows.fnExactDescendSpec.pre6 enc Try.prog Try.f5 Rows.fnExactDescendRow.domain false) (Rows.fnExactDescendSpec.post enc Try.prog Try.f5 false true false false) := by
  refine returnsInHanded_of_change (C := Try.checked) own started (by kernel_rfl) Try.func5
    (ChangeSpec.witness6 (enc := enc) (C := Try.checked) false ⟨#[], #[.agg #[.int .i64 0, .slice none 0 0, .slice none 0 0, .slice none 0 0], .slice none 0 0, .int .i64 0], []⟩ 8 (by kernel_rfl) (by kernel_rfl) (by kernel_rfl) (by kernel_rfl)) ?_
  intro W base args ds gs before hval0 hW hcnd _
  have hval : ∀ (j : Nat) t v, Try.f5.params[j]? = some t → args[j]? = some v → Value.okWide Try.prog W .any base t v := hval0
  have hW' := hW
  obtain ⟨p, q, hA0, hV, rfl, hfz, hnd⟩ := hW
  have hA : DataW.TrodAll enc Try.prog W 0 (fun _ => true) true Try.f5.params.toList args.toList ds p := hA0
  rw [Try.params5] at hA hval
  obtain ⟨v0, vs0, d0, ds0, p0, q0, hargs, rfl, rfl, h0, r0⟩ := trodAll_cons hA
  obtain ⟨v1, vs1, d1, ds1, p1, q1, rfl, rfl, rfl, h1, r1⟩ := trodAll_cons r0
  obtain ⟨v2, vs2, d2, ds2, p2, q2, rfl, rfl, rfl, h2, r2⟩ := trodAll_cons r1
  obtain ⟨rfl, rfl, rfl⟩ := trodAll_nil r2
  obtain rfl : args = #[v0, v1, v2] := by cases args; simp_all
  obtain ⟨rfl, rfl⟩ := trodVars_none hV
  have k0 := h0
  have lt0 : ∀ x ∈ p0, x.block < W.heap.size := by obtain ⟨m, hm⟩ := k0; exact DataW.trod_lt m _ _ _ hm
  obtain ⟨cs0, rfl, _⟩ := okWide_struct Try.underlying25 (hval 0 25 v0 rfl rfl)
  obtain ⟨x0, hK0, hw0⟩ := open_whole (opens_struct0 Try.underlying25 (opensF_cons (opens_int Try.underlying2) (by kernel_rfl) rfl (opensF_cons (opens_slice Try.underlying22 (opens_int Try.underlying2) (by kernel_rfl)) (by kernel_rfl) rfl (opensF_cons (opens_slice Try.underlying22 (opens_int Try.underlying2) (by kernel_rfl)) (by kernel_rfl) rfl (opensF_one (opens_slice Try.underlying23 opensT72 (by kernel_rfl)) (by kernel_rfl) rfl)))) (by kernel_rfl)) h0
  obtain ⟨a0_0, e_a0_0⟩ : ∃ z : Int, z = x0.1 := ⟨_, rfl⟩
  obtain ⟨l0_1, e_l0_1⟩ : ∃ z : (List Int), z = x0.2.1 := ⟨_, rfl⟩
  obtain ⟨l0_2, e_l0_2⟩ : ∃ z : (List Int), z = x0.2.2.1 := ⟨_, rfl⟩
  obtain ⟨l0_3, e_l0_3⟩ : ∃ z : (List S72), z = x0.2.2.2 := ⟨_, rfl⟩
  obtain ⟨_, _, hcs0, rfl, ⟨_, _, rfl, ⟨A0_1, c0_1, rfl, hl0_1, hr0_1⟩, ⟨_, _, rfl, ⟨A0_2, c0_2, rfl, hl0_2, hr0_2⟩, ⟨A0_3, c0_3, rfl, hl0_3, hr0_3⟩⟩⟩⟩ := hK0
  obtain ⟨w0_0, ⟨w0_1, ⟨w0_2, w0_3⟩⟩⟩ := hw0
  rw [← e_a0_0] at w0_0
  rw [← e_l0_1] at hl0_1 hr0_1 w0_1
  rw [← e_l0_2] at hl0_2 hr0_2 w0_2
  rw [← e_l0_3] at hl0_3 hr0_3 w0_3
  have hv0 : Value.agg cs0 = .agg #[.int .i64 a0_0, .slice A0_1 l0_1.length c0_1, .slice A0_2 l0_2.length c0_2, .slice A0_3 l0_3.length c0_3] := by
    rw [agg_of_cells hcs0]
    simp only [List.append_assoc, List.cons_append, List.nil_append, e_a0_0, e_l0_1, e_l0_2, e_l0_3]
  clear hcs0
  rw [hv0] at hW' k0 ⊢
  have k1 := h1
  have lt1 : ∀ x ∈ p1, x.block < W.heap.size := by obtain ⟨m, hm⟩ := k1; exact DataW.trod_lt m _ _ _ hm
  obtain ⟨A1, len1_, c1, rfl⟩ := okWide_slice Try.underlying22 (hval 1 22 v1 rfl rfl)
  obtain ⟨l1, ⟨A1', c1', e1, hl1, hr1⟩, w1⟩ := open_whole (opens_slice Try.underlying22 (opens_int Try.underlying2) (by kernel_rfl)) h1
  simp only [Value.cells, List.cons.injEq, Value.slice.injEq, and_true] at e1
  obtain ⟨rfl, rfl, rfl⟩ := e1
  have k2 := h2
  have lt2 : ∀ x ∈ p2, x.block < W.heap.size := by obtain ⟨m, hm⟩ := k2; exact DataW.trod_lt m _ _ _ hm
  obtain ⟨a2, rfl, _, _, w2⟩ := open_int Try.underlying2 (hval 2 2 v2 rfl rfl) h2
  clear hA0 hval0
  obtain ⟨k, h⟩ := Pure.FnExactDescend a0_0 l0_1 l0_2 l0_3 l1 a2 w0_0 w0_1 w0_2 w0_3 w1 w2
  refine (laws_FnExactDescend.calls k a0_0 A0_1 c0_1 l0_1 A0_2 c0_2 l0_2 A0_3 c0_3 l0_3 A1 c1 l1 a2 W hr0_1 hl0_1 hr0_2 hl0_2 hr0_3 hl0_3 hr1 hl1 h).mono fun e W' ⟨he, bel⟩ => ?_
  subst he
  exact ⟨_, rfl, _, _, _, [], _, [], hW', trodAll_mk1 (shut_bool Try.underlying4 _), (trodAll_cons_mk (Below.trod laidOut (by kernel_rfl) (of_decide_eq_true (by kernel_rfl)) k0 bel lt0) (trodAll_cons_mk (Below.trod laidOut (by kernel_rfl) (of_decide_eq_true (by kernel_rfl)) k1 bel lt1) (trodAll_cons_mk (Below.trod laidOut (by kernel_rfl) (of_decide_eq_true (by kernel_rfl)) k2 bel lt2) trodAll_mk0))), rfl, bel.frame _, fun h => by cases h⟩
theorem over : Rows.fnExactDescendRow.holds Try.pinned (OpenSpec.ofChange Rows.fnExactDescendSpec) :=
  OpenClaim.holds_of_wide 5 Try.f5 rfl rfl rfl rfl rfl rfl rfl ⟨rfl, rfl, rfl, rfl, rfl⟩ rfl rfl rfl rfl rfl (by kernel_rfl) Try.func5 (by kernel_rfl)
    (of_decide_eq_true (by kernel_rfl)) (by unfold Func.isWrapper; first | (rw [if_pos (by decide +kernel)]; kernel_rfl) | (rw [if_neg (by decide +kernel)]; exact ⟨rfl, rfl⟩))
    (fun os started H enc _ => lifted os started H enc)
theorem proved : Rows.FnExactDescendSaid := over
#print axioms proved
end Go.Proofs.Ytcjhbmjimjbphaa.fnExactDescend
namespace Go.Proofs.Ytcjhbmjimjbphaa
theorem fnExactDescend_holds : Rows.FnExactDescendSaid := fnExactDescend.proved
end Go.Proofs.Ytcjhbmjimjbphaa
