/- The row of the law FnExactSoilText, and its tied card: for every input the call returns true, and each argument reads behind the call as it read before. Condition: the three listed tables of the library read as the program's text lays them (the card ties them; the tie is given). -/
import Derived.Test.YtadfgfjpadbfdaaDoorRows
import Derived.Test.YtadfgfjpadbfdaaDoorOpens
import Derived.Test.YtadfgfjpadbfdaaDoorStatFnExactSoilText
import Derived.Test.YtadfgfjpadbfdaaDoorPureFnExactSoilText
import Derived.Test.YtadfgfjpadbfdaaDoorCards
import Derived.Test.YtadfgfjpadbfdaaDoorTie
import Derived.Lib.LaidTab
import Derived.LaidMore
import Derived.Lay
import Derived.SevenTiedAt
import Derived.Stop.Joined
import Derived.WalkKit
import Derived.ProofKit
import Derived.OpenShut
import Derived.ShutString
import Derived.ChangeOld
import Derived.Below
import Derived.SizedLaws
import Derived.Carry
namespace Go.Proofs.YtadfgfjpadbfdaaDoor.fnExactSoilText
open Go.ChangeShapes Go.WideShapes Go.RowKit Go.Proofs.YtadfgfjpadbfdaaDoorW.PrintWords Go.Proofs.YtadfgfjpadbfdaaDoor.Opn
open Go.ChangeMaps (open_string shut_string)
open Go.Proofs.YtadfgfjpadbfdaaDoor.QFnExactSoilText
set_option linter.unusedVariables false
set_option linter.unusedSimpArgs false
theorem own : ownKnob Tryd.prog.godebug = none := by kernel_rfl
theorem laidOut : laidOutB Tryd.prog = true := by kernel_rfl
theorem datum : (Rows.laid_internal_strconv_uint64pow10 : DataW Unit) = Lib.tabData .u64 Lib.pow10Tab := by kernel_rfl
/-- What the condition gives: the table of powers. -/
theorem tab_of_laid {W : World} (h : laidMetH Tryd.prog Rows.fnExactSoilTextRow.laid W) : Lib.TabIs Tryd.prog W "internal/strconv.uint64pow10" .u64 Lib.pow10Tab := by
  rw [MakeChecks.laidMetH_plain _ _ _ (by kernel_rfl)] at h
  obtain ⟨ps, ⟨g1, t1, c1, f1, p1, q1, _, _, _, _, ⟨g2, t2, c2, f2, p2, q2, _, _, _, _, ⟨g3, t3, cs, f3, p3, q3, hg, ht, hv, hd, _, _⟩, _⟩, _⟩, _⟩ := h
  obtain rfl := Option.some.inj ((show Tryd.prog.globalNamed "internal/strconv.uint64pow10" = some 1 by kernel_rfl).symm.trans hg)
  obtain rfl := Option.some.inj ((show (Tryd.prog.globals[1]?).map (·.type) = some 77 by kernel_rfl).symm.trans ht)
  rw [datum] at hd
  have e := Lib.cells_of_tab (show Tryd.prog.underlying 77 = some (.array 20 41) by kernel_rfl) (show Tryd.prog.underlying 41 = some (.int .u64) by kernel_rfl) (by kernel_rfl) (by kernel_rfl) hd
  unfold Lib.TabIs
  rw [hv, ← e]
set_option maxHeartbeats 1000000 in
set_option maxRecDepth 100000 in
theorem lifted (os : Os) (started : os.Started) (H : Type) (enc : TypeId × Value → H) :
    ReturnsInHanded {} Tryd.checked os 3 .any (fun w args => (Rows.fnExactSoilTextSpec.pre enc Tryd.prog Tryd.f3 Rows.fnExactSoilTextRow.domain false w args ∧ laidMetH Tryd.prog Rows.fnExactSoilTextRow.laid w) ∧ sizedMet enc Tryd.prog Tryd.f3 (OpenSpec.ofChange Rows.fnExactSoilTextSpec) false w args) (Rows.fnExactSoilTextSpec.post enc Tryd.prog Tryd.f3 false true false false) := by
  refine returnsInHanded_of_change_and (C := Tryd.checked) (X := fun w _ => laidMetH Tryd.prog Rows.fnExactSoilTextRow.laid w) (fun _ _ _ hh h => h.of_heap hh) own started (by kernel_rfl) Tryd.func3
    (ChangeSpec.witness_shaped (enc := enc) (C := Tryd.checked) (os := os) (X := fun w _ => laidMetH Tryd.prog Rows.fnExactSoilTextRow.laid w) false (World.laidAll Tryd.prog os Rows.fnExactSoilTextRow.laid) #[.agg #[.int .i64 0, .int .i64 0, .int .i64 0, .int .i64 0, .int .i64 0]] 8 (World.laidAll_os _ _ _)
      (World.shaped_of_ZipB (by kernel_rfl) (by kernel_rfl)) (by kernel_rfl) (by kernel_rfl) (by kernel_rfl)
      (by rw [MakeChecks.laidMetH_plain _ _ _ (by kernel_rfl)]; exact laidMet_laidAll _ (by kernel_rfl) (by kernel_rfl))) ?_
  intro W base args ds gs before hval0 hW hcnd _ hL _
  have hval : ∀ (j : Nat) t v, Tryd.f3.params[j]? = some t → args[j]? = some v → Value.okWide Tryd.prog W .any base t v := hval0
  have hW' := hW
  obtain ⟨p, q, hA0, hV, rfl, hfz, hnd⟩ := hW
  have hA : DataW.TrodAll enc Tryd.prog W 0 (fun _ => true) true Tryd.f3.params.toList args.toList ds p := hA0
  rw [Tryd.params3] at hA hval
  obtain ⟨v0, vs0, d0, ds0, p0, q0, hargs, rfl, rfl, h0, r0⟩ := trodAll_cons hA
  obtain ⟨rfl, rfl, rfl⟩ := trodAll_nil r0
  obtain rfl : args = #[v0] := by cases args; simp_all
  obtain ⟨rfl, rfl⟩ := trodVars_none hV
  have k0 := h0
  have lt0 : ∀ x ∈ p0, x.block < W.heap.size := by obtain ⟨m, hm⟩ := k0; exact DataW.trod_lt m _ _ _ hm
  obtain ⟨cs0, rfl, _⟩ := okWide_struct Tryd.underlying23 (hval 0 23 v0 rfl rfl)
  obtain ⟨x0, hK0, hw0⟩ := open_whole (opens_struct0 Tryd.underlying23 (opensF_cons (opens_int Tryd.underlying2) (by kernel_rfl) rfl (opensF_cons (opens_int Tryd.underlying2) (by kernel_rfl) rfl (opensF_cons (opens_int Tryd.underlying2) (by kernel_rfl) rfl (opensF_cons (opens_int Tryd.underlying2) (by kernel_rfl) rfl (opensF_one (opens_int Tryd.underlying2) (by kernel_rfl) rfl))))) (by kernel_rfl)) h0
  obtain ⟨a0_0, e_a0_0⟩ : ∃ z : Int, z = x0.1 := ⟨_, rfl⟩
  obtain ⟨a0_1, e_a0_1⟩ : ∃ z : Int, z = x0.2.1 := ⟨_, rfl⟩
  obtain ⟨a0_2, e_a0_2⟩ : ∃ z : Int, z = x0.2.2.1 := ⟨_, rfl⟩
  obtain ⟨a0_3, e_a0_3⟩ : ∃ z : Int, z = x0.2.2.2.1 := ⟨_, rfl⟩
  obtain ⟨a0_4, e_a0_4⟩ : ∃ z : Int, z = x0.2.2.2.2 := ⟨_, rfl⟩
  obtain ⟨_, _, hcs0, rfl, ⟨_, _, rfl, rfl, ⟨_, _, rfl, rfl, ⟨_, _, rfl, rfl, rfl⟩⟩⟩⟩ := hK0
  obtain ⟨w0_0, ⟨w0_1, ⟨w0_2, ⟨w0_3, w0_4⟩⟩⟩⟩ := hw0
  rw [← e_a0_0] at w0_0
  rw [← e_a0_1] at w0_1
  rw [← e_a0_2] at w0_2
  rw [← e_a0_3] at w0_3
  rw [← e_a0_4] at w0_4
  have hv0 : Value.agg cs0 = .agg #[.int .i64 a0_0, .int .i64 a0_1, .int .i64 a0_2, .int .i64 a0_3, .int .i64 a0_4] := by
    rw [agg_of_cells hcs0]
    simp only [List.append_assoc, List.cons_append, List.nil_append, e_a0_0, e_a0_1, e_a0_2, e_a0_3, e_a0_4]
  clear hcs0
  rw [hv0] at hW' k0 ⊢
  clear hA0 hval0
  obtain ⟨k, h⟩ := Pure.FnExactSoilText a0_0 a0_1 a0_2 a0_3 a0_4 w0_0 w0_1 w0_2 w0_3 w0_4
  refine (laws_FnExactSoilText.calls k a0_0 a0_1 a0_2 a0_3 a0_4 W  h (tab_of_laid hL)).mono fun e W' ⟨he, bel⟩ => ?_
  subst he
  exact ⟨_, rfl, _, _, _, [], _, [], hW', trodAll_mk1 (shut_bool Tryd.underlying4 _), (trodAll_cons_mk (Below.trod laidOut (by kernel_rfl) (of_decide_eq_true (by kernel_rfl)) k0 bel lt0) trodAll_mk0), rfl, bel.frame _, fun h => by cases h⟩
theorem over : Rows.fnExactSoilTextRow.holds Tryd.pinned (OpenSpec.ofChange Rows.fnExactSoilTextSpec) :=
  OpenClaim.holds_of_wide 3 Tryd.f3 rfl rfl rfl rfl rfl rfl rfl ⟨rfl, rfl, rfl, rfl, rfl⟩ rfl rfl rfl rfl rfl (by kernel_rfl) Tryd.func3 (by kernel_rfl)
    (of_decide_eq_true (by kernel_rfl)) (by unfold Func.isWrapper; first | (rw [if_pos (by decide +kernel)]; kernel_rfl) | (rw [if_neg (by decide +kernel)]; exact ⟨rfl, rfl⟩))
    (fun os started H enc _ => lifted os started H enc)
theorem proved : Rows.FnExactSoilTextSaid := over
end Go.Proofs.YtadfgfjpadbfdaaDoor.fnExactSoilText
namespace Go.Proofs.YtadfgfjpadbfdaaDoor
theorem fnExactSoilText_holds : Rows.FnExactSoilTextCardSaid :=
  Claim7.holds_tied_plain_at .later [] [.data, .data, .data] true (true, "637a82d12a055ed84ee0b00f4706826dd7336f39d818dd0eac060501d0d385c7") false fnExactSoilText.proved (fun _ h => by cases h) (by kernel_rfl) (fun _ h => by cases h) fnExactSoilText_row_tie rfl ⟨rfl, rfl⟩ (by kernel_rfl) rfl
    (fun f fn hf hfn => by
      obtain rfl : f = 3 := Option.some.inj ((show Tryd.prog.funcNamed "loop.example/g00051/laws.FnExactSoilText" = some 3 by kernel_rfl).symm.trans hf) |>.symm
      obtain rfl : fn = Tryd.f3 := (Option.some.inj (Tryd.func3.symm.trans hfn)).symm
      exact ⟨by kernel_rfl, fun j t ht => by
        rw [Tryd.params3] at ht
        have hm : t ∈ [23] := by simpa using Array.mem_of_getElem? ht
        have hall : ([23].all fun u => !Tryd.prog.wantsStandIn u) = true := by kernel_rfl
        exact (show Tryd.prog.wantsStandIn t = false by simpa using List.all_eq_true.1 hall t hm)⟩)
    (by kernel_rfl)
end Go.Proofs.YtadfgfjpadbfdaaDoor
