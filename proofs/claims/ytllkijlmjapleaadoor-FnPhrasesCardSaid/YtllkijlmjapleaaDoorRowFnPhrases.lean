/- The row of the law FnPhrases, and its tied card: for every input the call returns true, and each argument reads behind the call as it read before. Condition: the three listed tables of the library read as the program's text lays them (the card ties them; the tie is given). -/
import Derived.Test.YtllkijlmjapleaaDoorRows
import Derived.Test.YtllkijlmjapleaaDoorOpens
import Derived.Test.YtllkijlmjapleaaDoorStatFnPhrases
import Derived.Test.YtllkijlmjapleaaDoorPureFnPhrases
import Derived.Test.YtllkijlmjapleaaDoorCards
import Derived.Test.YtllkijlmjapleaaDoorTie
import Derived.Lib.LaidTab
import Derived.Lib.LaidU8
import Derived.OpenVars
import Derived.ChangeVars
import Derived.LaidMore
import Derived.Lay
import Derived.SevenTiedAt
import Derived.Stop.Joined
import Derived.WalkKit
import Derived.ProofKit
import Derived.OpenShut
import Derived.ShutString
import Derived.ChangeOld
import Derived.Below
import Derived.SizedLaws
import Derived.Carry
namespace Go.Proofs.YtllkijlmjapleaaDoor.fnPhrases
open Go.ChangeShapes Go.WideShapes Go.RowKit Go.Proofs.YtllkijlmjapleaaDoorW.PrintWords Go.Proofs.YtllkijlmjapleaaDoor.Opn
open Go.ChangeMaps (open_string shut_string)
open Go.Proofs.YtllkijlmjapleaaDoor.QFnPhrases
set_option linter.unusedVariables false
set_option linter.unusedSimpArgs false
theorem own : ownKnob Tryd.prog.godebug = none := by kernel_rfl
theorem laidOut : laidOutB Tryd.prog = true := by kernel_rfl
theorem datum : (Rows.laid_internal_strconv_uint64pow10 : DataW Unit) = Lib.tabData .u64 Lib.pow10Tab := by kernel_rfl
/-- What the condition gives: the table of powers. -/
theorem tab_of_laid {W : World} (h : laidMetH Tryd.prog Rows.fnPhrasesRow.laid W) : Lib.TabIs Tryd.prog W "internal/strconv.uint64pow10" .u64 Lib.pow10Tab := by
  rw [MakeChecks.laidMetH_plain _ _ _ (by kernel_rfl)] at h
  have h3 : Lib.VarReads Tryd.prog W "internal/strconv.uint64pow10" (Lib.tabData .u64 Lib.pow10Tab) := by rw [← datum]; exact Lib.laidMet.reads h (List.Mem.tail _ (List.Mem.tail _ (List.Mem.head _)))
  obtain ⟨g, t, cs, fuel, p, hg, ht, hv, hd⟩ := h3
  obtain rfl := Option.some.inj ((show Tryd.prog.globalNamed "internal/strconv.uint64pow10" = some 1 by kernel_rfl).symm.trans hg)
  obtain rfl := Option.some.inj ((show (Tryd.prog.globals[1]?).map (·.type) = some 71 by kernel_rfl).symm.trans ht)
  have e := Lib.cells_of_tab (show Tryd.prog.underlying 71 = some (.array 20 62) by kernel_rfl) (show Tryd.prog.underlying 62 = some (.int .u64) by kernel_rfl) (by kernel_rfl) (by kernel_rfl) hd
  unfold Lib.TabIs
  rw [hv, ← e]
def tstr (i : Nat) : DataW Unit := .lit (.string (tongueTab.getD i ByteArray.empty).data.toList)
def tongData : DataW Unit := .agg ((List.range 4).map fun e => .agg [tstr (22 * e), tstr (22 * e + 1), tstr (22 * e + 2), tstr (22 * e + 3), tstr (22 * e + 4), tstr (22 * e + 5), tstr (22 * e + 6), tstr (22 * e + 7), tstr (22 * e + 8), .agg ((List.range 9).map fun j => tstr (22 * e + 9 + j)), .agg ((List.range 4).map fun j => tstr (22 * e + 18 + j))])
theorem datumT : (Rows.laid_loop_example_g00051_impl_tongues : DataW Unit) = tongData := by kernel_rfl
theorem str_leaf {W : World} {fuel : Nat} {cs : List Value} {i : Nat} {p : List MemPlace} (h : DataW.trod (fun _ => ()) Tryd.prog W 0 (fun _ => true) false fuel 9 cs = some (tstr i, p)) : cs = [.string (tongueTab.getD i ByteArray.empty)] := by
  obtain ⟨s, hc, hx, _⟩ := DataW.trod_string (show Tryd.prog.underlying 9 = some .string by kernel_rfl) h
  rw [hc]
  have e : (tongueTab.getD i ByteArray.empty).data.toList = s.data.toList := by
    simp only [tstr, Prod.mk.injEq, DataW.lit.injEq, Lit.string.injEq] at hx
    exact hx.1
  have e2 : (tongueTab.getD i ByteArray.empty) = s := by
    cases s
    generalize tongueTab.getD i ByteArray.empty = q at e ⊢
    cases q
    simp only at e
    rw [ByteArray.mk.injEq]
    exact Array.toList_inj.1 e
  rw [e2]
theorem str_arr {W : World} {fuel n t b : Nat} {cs : List Value} {p : List MemPlace} (ht : Tryd.prog.underlying t = some (.array n 9)) (h : DataW.trod (fun _ => ()) Tryd.prog W 0 (fun _ => true) false fuel t cs = some (.agg ((List.range n).map fun j => tstr (b + j)), p)) (j : Nat) (hj : j < n) : cs[j]? = some (.string (tongueTab.getD (b + j) ByteArray.empty)) := by
  obtain ⟨f2, d, q, hd, he⟩ := Lib.array_elem ht h j hj
  simp only [List.getElem?_map, List.getElem?_range hj, Option.map_some, Option.some.injEq] at hd
  subst hd
  rw [show Tryd.prog.cellsOf 9 = 1 by kernel_rfl, Nat.mul_one] at he
  have e := congrArg (·[0]?) (str_leaf he)
  simpa [List.getElem?_take, List.getElem?_drop] using e
theorem one_at {cs : List Value} {k : Nat} {v : Value} (h : (cs.drop k).take 1 = [v]) : cs[k]? = some v := by
  have e := congrArg (·[0]?) h
  simpa [List.getElem?_take, List.getElem?_drop] using e
theorem part_at {cs : List Value} {o n j : Nat} {v : Value} (h : ((cs.drop o).take n)[j]? = some v) : cs[o + j]? = some v := by
  rw [List.getElem?_take] at h
  split at h
  · rwa [List.getElem?_drop] at h
  · cases h
theorem tong_elem {W : World} {fuel e : Nat} {cs : List Value} {p : List MemPlace} (h : DataW.trod (fun _ => ()) Tryd.prog W 0 (fun _ => true) false fuel 44 cs = some (.agg [tstr (22 * e), tstr (22 * e + 1), tstr (22 * e + 2), tstr (22 * e + 3), tstr (22 * e + 4), tstr (22 * e + 5), tstr (22 * e + 6), tstr (22 * e + 7), tstr (22 * e + 8), .agg ((List.range 9).map fun j => tstr (22 * e + 9 + j)), .agg ((List.range 4).map fun j => tstr (22 * e + 18 + j))], p)) :
    ∀ j, j < 22 → cs[j]? = some (.string (tongueTab.getD (22 * e + j) ByteArray.empty)) := by
  obtain ⟨xs, n, rfl, hx, hl, hxl, hall⟩ := DataW.trod_struct Tryd.underlying44 h
  have hxl' : xs.length = 11 := hxl
  obtain ⟨x0, x1, x2, x3, x4, x5, x6, x7, x8, x9, x10, rfl⟩ : ∃ x0 x1 x2 x3 x4 x5 x6 x7 x8 x9 x10, xs = [x0, x1, x2, x3, x4, x5, x6, x7, x8, x9, x10] := by
    match xs, hxl' with
    | [x0, x1, x2, x3, x4, x5, x6, x7, x8, x9, x10], _ => exact ⟨_, _, _, _, _, _, _, _, _, _, _, rfl⟩
  have hx1 := congrArg Prod.fst hx
  simp only [List.map_cons, List.map_nil, DataW.agg.injEq, List.cons.injEq, and_true] at hx1
  obtain ⟨e0, e1, e2, e3, e4, e5, e6, e7, e8, e9, e10⟩ := hx1
  have c9 : Tryd.prog.cellsOf 9 = 1 := by kernel_rfl
  have g : ∀ (k i : Nat) (x : DataW Unit × List MemPlace), DataW.trod (fun _ => ()) Tryd.prog W 0 (fun _ => true) false n 9 ((cs.drop k).take (Tryd.prog.cellsOf 9)) = some x → tstr i = x.1 → cs[k]? = some (.string (tongueTab.getD i ByteArray.empty)) := by
    intro k i x hh ei
    rw [c9] at hh
    obtain ⟨x1, x2⟩ := x
    simp only at ei
    subst ei
    exact one_at (str_leaf hh)
  intro j hj
  by_cases h9 : j < 9
  · have hc : j = 0 ∨ j = 1 ∨ j = 2 ∨ j = 3 ∨ j = 4 ∨ j = 5 ∨ j = 6 ∨ j = 7 ∨ j = 8 := by omega
    rcases hc with rfl | rfl | rfl | rfl | rfl | rfl | rfl | rfl | rfl
    · exact g 0 _ _ (hall 0 _ rfl) e0
    · exact g 1 _ _ (hall 1 _ rfl) e1
    · exact g 2 _ _ (hall 2 _ rfl) e2
    · exact g 3 _ _ (hall 3 _ rfl) e3
    · exact g 4 _ _ (hall 4 _ rfl) e4
    · exact g 5 _ _ (hall 5 _ rfl) e5
    · exact g 6 _ _ (hall 6 _ rfl) e6
    · exact g 7 _ _ (hall 7 _ rfl) e7
    · exact g 8 _ _ (hall 8 _ rfl) e8
  · by_cases h18 : j < 18
    · have hd : DataW.trod (fun _ => ()) Tryd.prog W 0 (fun _ => true) false n 41 ((cs.drop 9).take (Tryd.prog.cellsOf 41)) = some x9 := hall 9 _ rfl
      obtain ⟨x91, x92⟩ := x9
      simp only at e9
      subst e9
      have := part_at (str_arr (show Tryd.prog.underlying 41 = some (.array 9 9) by kernel_rfl) hd (j - 9) (by omega))
      rw [show 9 + (j - 9) = j by omega, show 22 * e + 9 + (j - 9) = 22 * e + j by omega] at this
      exact this
    · have hd : DataW.trod (fun _ => ()) Tryd.prog W 0 (fun _ => true) false n 42 ((cs.drop 18).take (Tryd.prog.cellsOf 42)) = some x10 := hall 10 _ rfl
      obtain ⟨x91, x92⟩ := x10
      simp only at e10
      subst e10
      have := part_at (str_arr (show Tryd.prog.underlying 42 = some (.array 4 9) by kernel_rfl) hd (j - 18) (by omega))
      rw [show 18 + (j - 18) = j by omega, show 22 * e + 18 + (j - 18) = 22 * e + j by omega] at this
      exact this
/-- What the condition gives: impl's tongues. -/
theorem tong_of_laid {W : World} (h : laidMetH Tryd.prog Rows.fnPhrasesRow.laid W) : TongIs W := by
  rw [MakeChecks.laidMetH_plain _ _ _ (by kernel_rfl)] at h
  have h3 : Lib.VarReads Tryd.prog W "loop.example/g00051/impl.tongues" tongData := by rw [← datumT]; exact Lib.laidMet.reads h (List.Mem.tail _ (List.Mem.tail _ (List.Mem.tail _ (List.Mem.head _))))
  obtain ⟨g, t, cs, fuel, p, hg, ht, hv, hd⟩ := h3
  obtain rfl := Option.some.inj ((show Tryd.prog.globalNamed "loop.example/g00051/impl.tongues" = some 0 by kernel_rfl).symm.trans hg)
  obtain rfl := Option.some.inj ((show (Tryd.prog.globals[0]?).map (·.type) = some 45 by kernel_rfl).symm.trans ht)
  intro i hi
  obtain ⟨f2, d, q, hdi, he⟩ := Lib.array_elem (show Tryd.prog.underlying 45 = some (.array 4 44) by kernel_rfl) hd (i / 22) (by omega)
  simp only [List.getElem?_map, List.getElem?_range (show i / 22 < 4 by omega), Option.map_some, Option.some.injEq] at hdi
  subst hdi
  rw [show Tryd.prog.cellsOf 44 = 22 by kernel_rfl] at he
  have e := part_at (tong_elem he (i % 22) (by omega))
  rw [show i / 22 * 22 + i % 22 = i by omega, show 22 * (i / 22) + i % 22 = i by omega, Array.getElem?_toList] at e
  rw [World.var?_cell hg hv i]
  exact e
set_option maxHeartbeats 1000000 in
set_option maxRecDepth 100000 in
theorem lifted (os : Os) (started : os.Started) (H : Type) (enc : TypeId × Value → H) :
    ReturnsInHanded {} Tryd.checked os 5 .any (fun w args => (Rows.fnPhrasesSpec.pre enc Tryd.prog Tryd.f5 Rows.fnPhrasesRow.domain false w args ∧ laidMetH Tryd.prog Rows.fnPhrasesRow.laid w) ∧ sizedMet enc Tryd.prog Tryd.f5 (OpenSpec.ofChange Rows.fnPhrasesSpec) false w args) (Rows.fnPhrasesSpec.post enc Tryd.prog Tryd.f5 false true false false) := by
  refine returnsInHanded_of_change_and (C := Tryd.checked) (X := fun w _ => laidMetH Tryd.prog Rows.fnPhrasesRow.laid w) (fun _ _ _ hh h => h.of_heap hh) own started (by kernel_rfl) Tryd.func5
    (ChangeSpec.witness_shaped (enc := enc) (C := Tryd.checked) (os := os) (X := fun w _ => laidMetH Tryd.prog Rows.fnPhrasesRow.laid w) false (World.laidAll Tryd.prog os Rows.fnPhrasesRow.laid) #[.slice none 0 0, .slice none 0 0] 8 (World.laidAll_os _ _ _)
      (World.shaped_of_ZipB (by kernel_rfl) (by kernel_rfl)) (by kernel_rfl) (by kernel_rfl) (by kernel_rfl)
      (by rw [MakeChecks.laidMetH_plain _ _ _ (by kernel_rfl)]; exact laidMet_laidAll _ (by kernel_rfl) (by kernel_rfl))) ?_
  intro W base args ds gs before hval0 hW hcnd _ hL _
  have hval : ∀ (j : Nat) t v, Tryd.f5.params[j]? = some t → args[j]? = some v → Value.okWide Tryd.prog W .any base t v := hval0
  have hW' := hW
  obtain ⟨p, q, hA0, hV, rfl, hfz, hnd⟩ := hW
  have hA : DataW.TrodAll enc Tryd.prog W 0 (fun _ => true) true Tryd.f5.params.toList args.toList ds p := hA0
  rw [Tryd.params5] at hA hval
  obtain ⟨v0, vs0, d0, ds0, p0, q0, hargs, rfl, rfl, h0, r0⟩ := trodAll_cons hA
  obtain ⟨v1, vs1, d1, ds1, p1, q1, rfl, rfl, rfl, h1, r1⟩ := trodAll_cons r0
  obtain ⟨rfl, rfl, rfl⟩ := trodAll_nil r1
  obtain rfl : args = #[v0, v1] := by cases args; simp_all
  have hV1 : DataW.TrodVars enc Tryd.prog W (fun _ => true) ["loop.example/g00051/impl.tongues"] gs q := hV
  obtain ⟨gx_, tx_, csx_, fx_, d_, px_, rfl, _, _, _, _, _⟩ := trodVars_one hV1
  have k0 := h0
  have lt0 : ∀ x ∈ p0, x.block < W.heap.size := by obtain ⟨m, hm⟩ := k0; exact DataW.trod_lt m _ _ _ hm
  obtain ⟨A0, len0_, c0, rfl⟩ := okWide_slice Tryd.underlying32 (hval 0 32 v0 rfl rfl)
  obtain ⟨l0, ⟨A0', c0', e0, hl0, hr0⟩, w0⟩ := open_whole (opens_slice Tryd.underlying32 (opens_int Tryd.underlying5) (by kernel_rfl)) h0
  simp only [Value.cells, List.cons.injEq, Value.slice.injEq, and_true] at e0
  obtain ⟨rfl, rfl, rfl⟩ := e0
  have k1 := h1
  have lt1 : ∀ x ∈ p1, x.block < W.heap.size := by obtain ⟨m, hm⟩ := k1; exact DataW.trod_lt m _ _ _ hm
  obtain ⟨A1, len1_, c1, rfl⟩ := okWide_slice Tryd.underlying32 (hval 1 32 v1 rfl rfl)
  obtain ⟨l1, ⟨A1', c1', e1, hl1, hr1⟩, w1⟩ := open_whole (opens_slice Tryd.underlying32 (opens_int Tryd.underlying5) (by kernel_rfl)) h1
  simp only [Value.cells, List.cons.injEq, Value.slice.injEq, and_true] at e1
  obtain ⟨rfl, rfl, rfl⟩ := e1
  clear hA0 hval0
  obtain ⟨k, h⟩ := Pure.FnPhrases l0 l1 w0 w1
  refine (laws_FnPhrases.calls k A0 c0 l0 A1 c1 l1 true W hr0 hl0 hr1 hl1 h (tab_of_laid hL) (tong_of_laid hL)).mono fun e W' ⟨he, bel⟩ => ?_
  subst he
  exact ⟨_, rfl, _, _, _, [], _, _, hW', trodAll_mk1 (shut_bool Tryd.underlying4 _), (trodAll_cons_mk (Below.trod laidOut (by kernel_rfl) (of_decide_eq_true (by kernel_rfl)) k0 bel lt0) (trodAll_cons_mk (Below.trod laidOut (by kernel_rfl) (of_decide_eq_true (by kernel_rfl)) k1 bel lt1) trodAll_mk0)), Below.trodVars laidOut bel (by kernel_rfl) hV1, bel.frame _, fun h => by cases h⟩
theorem over : Rows.fnPhrasesRow.holds Tryd.pinned (OpenSpec.ofChange Rows.fnPhrasesSpec) :=
  OpenClaim.holds_of_wide 5 Tryd.f5 rfl rfl rfl rfl rfl rfl rfl ⟨rfl, rfl, rfl, rfl, rfl⟩ rfl rfl rfl rfl rfl (by kernel_rfl) Tryd.func5 (by kernel_rfl)
    (of_decide_eq_true (by kernel_rfl)) (by unfold Func.isWrapper; first | (rw [if_pos (by decide +kernel)]; kernel_rfl) | (rw [if_neg (by decide +kernel)]; exact ⟨rfl, rfl⟩))
    (fun os started H enc _ => lifted os started H enc)
theorem proved : Rows.FnPhrasesSaid := over
end Go.Proofs.YtllkijlmjapleaaDoor.fnPhrases
namespace Go.Proofs.YtllkijlmjapleaaDoor
theorem fnPhrases_holds : Rows.FnPhrasesCardSaid :=
  Claim7.holds_tied_plain_at .later [] [.data, .data, .data, .data] true (true, "f9cdb5aac343849ecb966b4b3b26b23fb42f411ddbf8decad7e334907170e79e") false fnPhrases.proved (fun _ h => by cases h) (by kernel_rfl) (fun _ h => by cases h) fnPhrases_row_tie rfl ⟨rfl, rfl⟩ (by kernel_rfl) rfl
    (fun f fn hf hfn => by
      obtain rfl : f = 5 := Option.some.inj ((show Tryd.prog.funcNamed "loop.example/g00051/laws.FnPhrases" = some 5 by kernel_rfl).symm.trans hf) |>.symm
      obtain rfl : fn = Tryd.f5 := (Option.some.inj (Tryd.func5.symm.trans hfn)).symm
      exact ⟨by kernel_rfl, fun j t ht => by
        rw [Tryd.params5] at ht
        have hm : t ∈ [32, 32] := by simpa using Array.mem_of_getElem? ht
        have hall : ([32, 32].all fun u => !Tryd.prog.wantsStandIn u) = true := by kernel_rfl
        exact (show Tryd.prog.wantsStandIn t = false by simpa using List.all_eq_true.1 hall t hm)⟩)
    (by kernel_rfl)
end Go.Proofs.YtllkijlmjapleaaDoor
