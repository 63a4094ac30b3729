/- The row of the law FnExactTitle, and its tied card: for every input the call returns true, and each argument reads behind the call as it read before. Condition: the three listed tables of the library read as the program's text lays them (the card ties them; the tie is given). -/
import Derived.Test.YtgdlmbnnfngieaaDoorRows
import Derived.Test.YtgdlmbnnfngieaaDoorOpens
import Derived.Test.YtgdlmbnnfngieaaDoorStatFnExactTitle
import Derived.Test.YtgdlmbnnfngieaaDoorPureFnExactTitle
import Derived.Test.YtgdlmbnnfngieaaDoorCards
import Derived.Test.YtgdlmbnnfngieaaDoorTie
import Derived.Lib.LaidTab
import Derived.Lib.LaidU8
import Derived.LaidMore
import Derived.Lay
import Derived.SevenTiedAt
import Derived.Stop.Joined
import Derived.WalkKit
import Derived.ProofKit
import Derived.OpenShut
import Derived.ShutString
import Derived.ChangeOld
import Derived.Below
import Derived.SizedLaws
import Derived.Carry
namespace Go.Proofs.YtgdlmbnnfngieaaDoor.fnExactTitle
open Go.ChangeShapes Go.WideShapes Go.RowKit Go.Proofs.YtgdlmbnnfngieaaDoorW.PrintWords Go.Proofs.YtgdlmbnnfngieaaDoor.Opn
open Go.ChangeMaps (open_string shut_string)
open Go.Proofs.YtgdlmbnnfngieaaDoor.QFnExactTitle
set_option linter.unusedVariables false
set_option linter.unusedSimpArgs false
theorem own : ownKnob Tryd.prog.godebug = none := by kernel_rfl
theorem laidOut : laidOutB Tryd.prog = true := by kernel_rfl
theorem datumF : (Rows.laid_unicode_utf8_first : DataW Unit) = Lib.firstData := by kernel_rfl
theorem datumA : (Rows.laid_unicode_utf8_acceptRanges : DataW Unit) = Lib.acceptData := by kernel_rfl
/-- What the condition gives: utf8's two tables. -/
theorem tab_of_laid {W : World} (h : laidMetH Tryd.prog Rows.fnExactTitleRow.laid W) : Lib.Utf8Tabs 1 2 W := by
  rw [MakeChecks.laidMetH_plain _ _ _ (by kernel_rfl)] at h
  have h3 : Lib.VarReads Tryd.prog W "unicode/utf8.first" Lib.firstData := by rw [← datumF]; exact Lib.laidMet.reads h (List.Mem.tail _ (List.Mem.head _))
  have h4 : Lib.VarReads Tryd.prog W "unicode/utf8.acceptRanges" Lib.acceptData := by rw [← datumA]; exact Lib.laidMet.reads h (List.Mem.head _)
  have u5 : Tryd.prog.underlying 5 = some (.int .u8) := by kernel_rfl
  have s5 : Tryd.prog.cellsOf 5 = 1 := by kernel_rfl
  have sS : Tryd.prog.cellsOf 77 = 2 := by kernel_rfl
  obtain ⟨fs, uS, hfs, hf0, hf1⟩ : ∃ fs, Tryd.prog.underlying 77 = some (.struct fs) ∧ fs.size = 2 ∧ (fs[0]?).map (fun f => (f.type, f.offset)) = some (5, 0) ∧ (fs[1]?).map (fun f => (f.type, f.offset)) = some (5, 1) := ⟨_, rfl, rfl, rfl, rfl⟩
  refine ⟨fun c hc => ?_, fun i hi => ?_⟩
  · obtain ⟨g, t, cs, fuel, p, hg, hty, hvar, hd⟩ := h3
    obtain rfl := Option.some.inj ((show Tryd.prog.globalNamed "unicode/utf8.first" = some 1 by kernel_rfl).symm.trans hg)
    obtain rfl := Option.some.inj ((show (Tryd.prog.globals[1]?).map (·.type) = some 74 by kernel_rfl).symm.trans hty)
    have hcs := Lib.cells_of_tab (show Tryd.prog.underlying 74 = some (.array 256 5) by kernel_rfl) u5 s5 (by kernel_rfl) hd
    have h0 := World.var?_cell hg hvar c
    rw [h0, ← Array.getElem?_toList, hcs]
    simp [Lib.firstTab, hc]
  · obtain ⟨g, t, cs, fuel, p, hg, hty, hvar, hd⟩ := h4
    obtain rfl := Option.some.inj ((show Tryd.prog.globalNamed "unicode/utf8.acceptRanges" = some 2 by kernel_rfl).symm.trans hg)
    obtain rfl := Option.some.inj ((show (Tryd.prog.globals[2]?).map (·.type) = some 78 by kernel_rfl).symm.trans hty)
    obtain ⟨fuel', d, q, hdi, he⟩ := Lib.array_elem (show Tryd.prog.underlying 78 = some (.array 16 77) by kernel_rfl) hd i hi
    simp only [List.getElem?_map, List.getElem?_range hi, Option.map_some, Option.some.injEq] at hdi
    subst hdi
    rw [sS] at he
    have hcs := Lib.ints_of_struct uS (fun j f hj => by
      match j, hj with
      | 0, hj => rw [hj] at hf0; simp at hf0; obtain ⟨e1, e2⟩ := hf0; rw [e1]; exact ⟨u5, e2, s5⟩
      | 1, hj => rw [hj] at hf1; simp at hf1; obtain ⟨e1, e2⟩ := hf1; rw [e1]; exact ⟨u5, e2, s5⟩
      | j + 2, hj => rw [Array.getElem?_eq_none (by omega)] at hj; cases hj) (by rw [sS, hfs]) he
    have e0 := congrArg (·[0]?) hcs
    have e1 := congrArg (·[1]?) hcs
    simp only [List.getElem?_take, List.getElem?_drop] at e0 e1
    constructor
    · rw [World.var?_cell hg hvar (2 * i), ← Array.getElem?_toList]
      simpa [Nat.mul_comm] using e0
    · rw [World.var?_cell hg hvar (2 * i + 1), ← Array.getElem?_toList]
      simpa [Nat.mul_comm] using e1
set_option maxHeartbeats 1000000 in
set_option maxRecDepth 100000 in
theorem lifted (os : Os) (started : os.Started) (H : Type) (enc : TypeId × Value → H) :
    ReturnsInHanded {} Tryd.checked os 4 .any (fun w args => (Rows.fnExactTitleSpec.pre enc Tryd.prog Tryd.f4 Rows.fnExactTitleRow.domain false w args ∧ laidMetH Tryd.prog Rows.fnExactTitleRow.laid w) ∧ sizedMet enc Tryd.prog Tryd.f4 (OpenSpec.ofChange Rows.fnExactTitleSpec) false w args) (Rows.fnExactTitleSpec.post enc Tryd.prog Tryd.f4 false true false false) := by
  refine returnsInHanded_of_change_and (C := Tryd.checked) (X := fun w _ => laidMetH Tryd.prog Rows.fnExactTitleRow.laid w) (fun _ _ _ hh h => h.of_heap hh) own started (by kernel_rfl) Tryd.func4
    (ChangeSpec.witness_shaped (enc := enc) (C := Tryd.checked) (os := os) (X := fun w _ => laidMetH Tryd.prog Rows.fnExactTitleRow.laid w) false (World.laidAll Tryd.prog os Rows.fnExactTitleRow.laid) #[.string ByteArray.empty, .int .i64 0] 8 (World.laidAll_os _ _ _)
      (World.shaped_of_ZipB (by kernel_rfl) (by kernel_rfl)) (by kernel_rfl) (by kernel_rfl) (by kernel_rfl)
      (by rw [MakeChecks.laidMetH_plain _ _ _ (by kernel_rfl)]; exact laidMet_laidAll _ (by kernel_rfl) (by kernel_rfl))) ?_
  intro W base args ds gs before hval0 hW hcnd _ hL _
  have hval : ∀ (j : Nat) t v, Tryd.f4.params[j]? = some t → args[j]? = some v → Value.okWide Tryd.prog W .any base t v := hval0
  have hW' := hW
  obtain ⟨p, q, hA0, hV, rfl, hfz, hnd⟩ := hW
  have hA : DataW.TrodAll enc Tryd.prog W 0 (fun _ => true) true Tryd.f4.params.toList args.toList ds p := hA0
  rw [Tryd.params4] at hA hval
  obtain ⟨v0, vs0, d0, ds0, p0, q0, hargs, rfl, rfl, h0, r0⟩ := trodAll_cons hA
  obtain ⟨v1, vs1, d1, ds1, p1, q1, rfl, rfl, rfl, h1, r1⟩ := trodAll_cons r0
  obtain ⟨rfl, rfl, rfl⟩ := trodAll_nil r1
  obtain rfl : args = #[v0, v1] := by cases args; simp_all
  obtain ⟨rfl, rfl⟩ := trodVars_none hV
  have k0 := h0
  have lt0 : ∀ x ∈ p0, x.block < W.heap.size := by obtain ⟨m, hm⟩ := k0; exact DataW.trod_lt m _ _ _ hm
  obtain ⟨a0, rfl, _, _, w0⟩ := open_string Tryd.underlying9 (hval 0 9 v0 rfl rfl) h0
  have k1 := h1
  have lt1 : ∀ x ∈ p1, x.block < W.heap.size := by obtain ⟨m, hm⟩ := k1; exact DataW.trod_lt m _ _ _ hm
  obtain ⟨a1, rfl, _, _, w1⟩ := open_int Tryd.underlying2 (hval 1 2 v1 rfl rfl) h1
  clear hA0 hval0
  obtain ⟨k, h⟩ := Pure.FnExactTitle a0 a1 w0 w1
  refine (laws_FnExactTitle.calls k a0 a1 W  h (tab_of_laid hL)).mono fun e W' ⟨he, bel⟩ => ?_
  subst he
  exact ⟨_, rfl, _, _, _, [], _, [], hW', trodAll_mk1 (shut_bool Tryd.underlying4 _), (trodAll_cons_mk (Below.trod laidOut (by kernel_rfl) (of_decide_eq_true (by kernel_rfl)) k0 bel lt0) (trodAll_cons_mk (Below.trod laidOut (by kernel_rfl) (of_decide_eq_true (by kernel_rfl)) k1 bel lt1) trodAll_mk0)), rfl, bel.frame _, fun h => by cases h⟩
theorem over : Rows.fnExactTitleRow.holds Tryd.pinned (OpenSpec.ofChange Rows.fnExactTitleSpec) :=
  OpenClaim.holds_of_wide 4 Tryd.f4 rfl rfl rfl rfl rfl rfl rfl ⟨rfl, rfl, rfl, rfl, rfl⟩ rfl rfl rfl rfl rfl (by kernel_rfl) Tryd.func4 (by kernel_rfl)
    (of_decide_eq_true (by kernel_rfl)) (by unfold Func.isWrapper; first | (rw [if_pos (by decide +kernel)]; kernel_rfl) | (rw [if_neg (by decide +kernel)]; exact ⟨rfl, rfl⟩))
    (fun os started H enc _ => lifted os started H enc)
theorem proved : Rows.FnExactTitleSaid := over
end Go.Proofs.YtgdlmbnnfngieaaDoor.fnExactTitle
namespace Go.Proofs.YtgdlmbnnfngieaaDoor
theorem fnExactTitle_holds : Rows.FnExactTitleCardSaid :=
  Claim7.holds_tied_plain_at .later [] [.data, .pinned] true (true, "8e9c81b537d7e8a5bb085f4f384955fa23cc6aa048949099ec2731d8edd46ed1") false fnExactTitle.proved (fun _ h => by cases h) (by kernel_rfl) (fun _ h => by cases h) fnExactTitle_row_tie rfl ⟨rfl, rfl⟩ (by kernel_rfl) rfl
    (fun f fn hf hfn => by
      obtain rfl : f = 4 := Option.some.inj ((show Tryd.prog.funcNamed "loop.example/g00051/laws.FnExactTitle" = some 4 by kernel_rfl).symm.trans hf) |>.symm
      obtain rfl : fn = Tryd.f4 := (Option.some.inj (Tryd.func4.symm.trans hfn)).symm
      exact ⟨by kernel_rfl, fun j t ht => by
        rw [Tryd.params4] at ht
        have hm : t ∈ [9, 2] := by simpa using Array.mem_of_getElem? ht
        have hall : ([9, 2].all fun u => !Tryd.prog.wantsStandIn u) = true := by kernel_rfl
        exact (show Tryd.prog.wantsStandIn t = false by simpa using List.all_eq_true.1 hall t hm)⟩)
    (by kernel_rfl)
end Go.Proofs.YtgdlmbnnfngieaaDoor
