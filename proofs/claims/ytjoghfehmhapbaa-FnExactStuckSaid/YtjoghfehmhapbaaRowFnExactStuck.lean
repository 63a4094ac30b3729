/- The row of the law FnExactStuck: for every input the call returns true, and each argument reads behind the call as it read before. No condition. -/
import Derived.Test.YtjoghfehmhapbaaRows
import Derived.Test.YtjoghfehmhapbaaOpens
import Derived.Test.YtjoghfehmhapbaaStatFnExactStuck
import Derived.Test.YtjoghfehmhapbaaPureFnExactStuck
import Derived.WalkKit
import Derived.ProofKit
import Derived.OpenShut
import Derived.ShutString
import Derived.ChangeOld
import Derived.Below
import Derived.SizedLaws
import Derived.Carry
namespace Go.Proofs.Ytjoghfehmhapbaa.fnExactStuck
open Go.ChangeShapes Go.WideShapes Go.RowKit Go.Proofs.YtjoghfehmhapbaaW.PrintWords Go.Proofs.Ytjoghfehmhapbaa.Opn
open Go.ChangeMaps (open_string shut_string)
open Go.Proofs.Ytjoghfehmhapbaa.QFnExactStuck
set_option linter.unusedVariables false
set_option linter.unusedSimpArgs false
theorem own : ownKnob Try.prog.godebug = none := by kernel_rfl
theorem laidOut : laidOutB Try.prog = true := by kernel_rfl
set_option maxHeartbeats 1000000 in
set_option maxRecDepth 100000 in
theorem lifted (os : Os) (started : os.Started) (H : Type) (enc : TypeId × Value → H) :
    ReturnsInHanded {} Try.checked os 7 .any (Rows.fnExactStuckSpec.pre6 enc Try.prog Try.f7 Rows.fnExactStuckRow.domain false) (Rows.fnExactStuckSpec.post enc Try.prog Try.f7 false true false false) := by
  refine returnsInHanded_of_change (C := Try.checked) own started (by kernel_rfl) Try.func7
    (ChangeSpec.witness6 (enc := enc) (C := Try.checked) false ⟨#[], #[.agg #[.slice none 0 0, .slice none 0 0, .int .i64 0, .slice none 0 0]], []⟩ 8 (by kernel_rfl) (by kernel_rfl) (by kernel_rfl) (by kernel_rfl)) ?_
  intro W base args ds gs before hval0 hW hcnd _
  have hval : ∀ (j : Nat) t v, Try.f7.params[j]? = some t → args[j]? = some v → Value.okWide Try.prog W .any base t v := hval0
  have hW' := hW
  obtain ⟨p, q, hA0, hV, rfl, hfz, hnd⟩ := hW
  have hA : DataW.TrodAll enc Try.prog W 0 (fun _ => true) true Try.f7.params.toList args.toList ds p := hA0
  rw [Try.params7] at hA hval
  obtain ⟨v0, vs0, d0, ds0, p0, q0, hargs, rfl, rfl, h0, r0⟩ := trodAll_cons hA
  obtain ⟨rfl, rfl, rfl⟩ := trodAll_nil r0
  obtain rfl : args = #[v0] := by cases args; simp_all
  obtain ⟨rfl, rfl⟩ := trodVars_none hV
  have k0 := h0
  have lt0 : ∀ x ∈ p0, x.block < W.heap.size := by obtain ⟨m, hm⟩ := k0; exact DataW.trod_lt m _ _ _ hm
  obtain ⟨cs0, rfl, _⟩ := okWide_struct Try.underlying64 (hval 0 64 v0 rfl rfl)
  obtain ⟨x0, hK0, hw0⟩ := open_whole (opens_struct0 Try.underlying64 (opensF_cons (opens_struct0 Try.underlying54 (opensF_cons (opens_slice Try.underlying52 opensT110 (by kernel_rfl)) (by kernel_rfl) rfl (opensF_one (opens_slice Try.underlying25 (opens_int Try.underlying2) (by kernel_rfl)) (by kernel_rfl) rfl)) (by kernel_rfl)) (by kernel_rfl) rfl (opensF_cons (opens_int Try.underlying2) (by kernel_rfl) rfl (opensF_one (opens_slice Try.underlying62 opensT115 (by kernel_rfl)) (by kernel_rfl) rfl))) (by kernel_rfl)) h0
  obtain ⟨l0_0, e_l0_0⟩ : ∃ z : (List S110), z = x0.1.1 := ⟨_, rfl⟩
  obtain ⟨l0_1, e_l0_1⟩ : ∃ z : (List Int), z = x0.1.2 := ⟨_, rfl⟩
  obtain ⟨a0_2, e_a0_2⟩ : ∃ z : Int, z = x0.2.1 := ⟨_, rfl⟩
  obtain ⟨l0_3, e_l0_3⟩ : ∃ z : (List S115), z = x0.2.2 := ⟨_, rfl⟩
  obtain ⟨_, _, hcs0, ⟨_, _, rfl, ⟨A0_0, c0_0, rfl, hl0_0, hr0_0⟩, ⟨A0_1, c0_1, rfl, hl0_1, hr0_1⟩⟩, ⟨_, _, rfl, rfl, ⟨A0_3, c0_3, rfl, hl0_3, hr0_3⟩⟩⟩ := hK0
  obtain ⟨⟨w0_0, w0_1⟩, ⟨w0_2, w0_3⟩⟩ := hw0
  rw [← e_l0_0] at hl0_0 hr0_0 w0_0
  rw [← e_l0_1] at hl0_1 hr0_1 w0_1
  rw [← e_a0_2] at w0_2
  rw [← e_l0_3] at hl0_3 hr0_3 w0_3
  have hv0 : Value.agg cs0 = .agg #[.slice A0_0 l0_0.length c0_0, .slice A0_1 l0_1.length c0_1, .int .i64 a0_2, .slice A0_3 l0_3.length c0_3] := by
    rw [agg_of_cells hcs0]
    simp only [List.append_assoc, List.cons_append, List.nil_append, e_l0_0, e_l0_1, e_a0_2, e_l0_3]
  clear hcs0
  rw [hv0] at hW' k0 ⊢
  clear hA0 hval0
  obtain ⟨k, h⟩ := Pure.FnExactStuck l0_0 l0_1 a0_2 l0_3 w0_0 w0_1 w0_2 w0_3
  refine (laws_FnExactStuck.calls k A0_0 c0_0 l0_0 A0_1 c0_1 l0_1 a0_2 A0_3 c0_3 l0_3 W hr0_0 hl0_0 hr0_1 hl0_1 hr0_3 hl0_3 h).mono fun e W' ⟨he, bel⟩ => ?_
  subst he
  exact ⟨_, rfl, _, _, _, [], _, [], hW', trodAll_mk1 (shut_bool Try.underlying4 _), (trodAll_cons_mk (Below.trod laidOut (by kernel_rfl) (of_decide_eq_true (by kernel_rfl)) k0 bel lt0) trodAll_mk0), rfl, bel.frame _, fun h => by cases h⟩
theorem over : Rows.fnExactStuckRow.holds Try.pinned (OpenSpec.ofChange Rows.fnExactStuckSpec) :=
  OpenClaim.holds_of_wide 7 Try.f7 rfl rfl rfl rfl rfl rfl rfl ⟨rfl, rfl, rfl, rfl, rfl⟩ rfl rfl rfl rfl rfl (by kernel_rfl) Try.func7 (by kernel_rfl)
    (of_decide_eq_true (by kernel_rfl)) (by unfold Func.isWrapper; first | (rw [if_pos (by decide +kernel)]; kernel_rfl) | (rw [if_neg (by decide +kernel)]; exact ⟨rfl, rfl⟩))
    (fun os started H enc _ => lifted os started H enc)
theorem proved : Rows.FnExactStuckSaid := over
#print axioms proved
end Go.Proofs.Ytjoghfehmhapbaa.fnExactStuck
namespace Go.Proofs.Ytjoghfehmhapbaa
theorem fnExactStuck_holds : Rows.FnExactStuckSaid := fnExactStuck.proved
end Go.Proofs.Ytjoghfehmhapbaa
