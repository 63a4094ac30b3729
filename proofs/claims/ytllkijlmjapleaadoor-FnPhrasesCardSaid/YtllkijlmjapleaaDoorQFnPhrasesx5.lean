-- Written by a program of this session out of the printer's texts and contracts of its own.
import Derived.Test.YtllkijlmjapleaaDoorQFnPhrasesx0
import Derived.Test.YtllkijlmjapleaaDoorQFnPhrasesx4
namespace Go.Proofs.YtllkijlmjapleaaDoor.QFnPhrases
open Go.RowKit Go.Proofs.YtllkijlmjapleaaDoorW.PrintWords Go.Proofs.YtllkijlmjapleaaDoorW.PrintLast Go.Proofs.YtllkijlmjapleaaDoorW.PrintMore
attribute [local go_sem] max2_int min2_int max_two min_two max_three min_three max_four min_four   -- for this text's walks alone
set_option linter.unusedVariables false
set_option linter.unusedSimpArgs false

/-! ### a tongue's 22 strings -/
def tgAt (a0_0 a0_1 a0_2 a0_3 a0_4 a0_5 a0_6 a0_7 a0_8 a0_9 a0_10 a0_11 a0_12 a0_13 a0_14 a0_15 a0_16 a0_17 a0_18 a0_19 a0_20 a0_21 : ByteArray) (j : Nat) : ByteArray := ([a0_0, a0_1, a0_2, a0_3, a0_4, a0_5, a0_6, a0_7, a0_8, a0_9, a0_10, a0_11, a0_12, a0_13, a0_14, a0_15, a0_16, a0_17, a0_18, a0_19, a0_20, a0_21] : List ByteArray).getD j ByteArray.empty
theorem strs_cell (L : List ByteArray) (j : Nat) (h : j < L.length) : (L.map Value.string).toArray[j]? = some (.string (L.getD j ByteArray.empty)) := by simp [List.getElem?_toArray, h]
theorem tgAt_cell (a0_0 a0_1 a0_2 a0_3 a0_4 a0_5 a0_6 a0_7 a0_8 a0_9 a0_10 a0_11 a0_12 a0_13 a0_14 a0_15 a0_16 a0_17 a0_18 a0_19 a0_20 a0_21 : ByteArray) (j : Nat) (h : j < 22) : (#[.string a0_0, .string a0_1, .string a0_2, .string a0_3, .string a0_4, .string a0_5, .string a0_6, .string a0_7, .string a0_8, .string a0_9, .string a0_10, .string a0_11, .string a0_12, .string a0_13, .string a0_14, .string a0_15, .string a0_16, .string a0_17, .string a0_18, .string a0_19, .string a0_20, .string a0_21] : Array Value)[j]? = some (.string (tgAt a0_0 a0_1 a0_2 a0_3 a0_4 a0_5 a0_6 a0_7 a0_8 a0_9 a0_10 a0_11 a0_12 a0_13 a0_14 a0_15 a0_16 a0_17 a0_18 a0_19 a0_20 a0_21 j)) := strs_cell [a0_0, a0_1, a0_2, a0_3, a0_4, a0_5, a0_6, a0_7, a0_8, a0_9, a0_10, a0_11, a0_12, a0_13, a0_14, a0_15, a0_16, a0_17, a0_18, a0_19, a0_20, a0_21] j h

/-! ### impl_tongue_wind: function 22 -/
def impl_tongue_wind.j0 : Nat → Int → Int → ByteArray → ByteArray → ByteArray → ByteArray → ByteArray → ByteArray → ByteArray → ByteArray → ByteArray → ByteArray → ByteArray → ByteArray → ByteArray → ByteArray → ByteArray → ByteArray → ByteArray → ByteArray → ByteArray → ByteArray → ByteArray → ByteArray → ByteArray → Option (ByteArray)
  | 0, _, _, _, _, _, _, _, _, _, _, _, _, _, _, _, _, _, _, _, _, _, _, _, _, _ => none
  | k + 1, x2, x3, x9, x176000, x176001, x176002, x176003, x176004, x176005, x176006, x176007, x176008, x176009, x176010, x176011, x176012, x176013, x176014, x176015, x176016, x176017, x176018, x176019, x176020, x176021 => if x3 > x2 then ((impl_dec.f x3).bind fun t177 => (if x176003.size + t177.size ≤ 9223372036854775807 then (if x9.size + (x176003 ++ t177).size ≤ 9223372036854775807 then (if (x9 ++ (x176003 ++ t177)).size + 1 ≤ 9223372036854775807 then (some ((x9 ++ (x176003 ++ t177)) ++ (⟨#[46]⟩ : ByteArray))) else (none)) else (none)) else (none))) else (if x3 < x2 then ((impl_dec.f x3).bind fun t178 => (if x176004.size + t178.size ≤ 9223372036854775807 then (if x9.size + (x176004 ++ t178).size ≤ 9223372036854775807 then (if (x9 ++ (x176004 ++ t178)).size + 1 ≤ 9223372036854775807 then (some ((x9 ++ (x176004 ++ t178)) ++ (⟨#[46]⟩ : ByteArray))) else (none)) else (none)) else (none))) else (if x9.size + 1 ≤ 9223372036854775807 then (some (x9 ++ (⟨#[46]⟩ : ByteArray))) else (none)))
def impl_tongue_wind.f (k : Nat) (a0_0 : ByteArray) (a0_1 : ByteArray) (a0_2 : ByteArray) (a0_3 : ByteArray) (a0_4 : ByteArray) (a0_5 : ByteArray) (a0_6 : ByteArray) (a0_7 : ByteArray) (a0_8 : ByteArray) (a0_9 : ByteArray) (a0_10 : ByteArray) (a0_11 : ByteArray) (a0_12 : ByteArray) (a0_13 : ByteArray) (a0_14 : ByteArray) (a0_15 : ByteArray) (a0_16 : ByteArray) (a0_17 : ByteArray) (a0_18 : ByteArray) (a0_19 : ByteArray) (a0_20 : ByteArray) (a0_21 : ByteArray) (a1 : Int) (a2 : Int) (a3 : Int) : Option (ByteArray) := if a1 > 0 then (if a1 < 9 then (if a0_1.size + (tgAt a0_0 a0_1 a0_2 a0_3 a0_4 a0_5 a0_6 a0_7 a0_8 a0_9 a0_10 a0_11 a0_12 a0_13 a0_14 a0_15 a0_16 a0_17 a0_18 a0_19 a0_20 a0_21 (9 + a1.toNat)).size ≤ 9223372036854775807 then (if (a0_1 ++ (tgAt a0_0 a0_1 a0_2 a0_3 a0_4 a0_5 a0_6 a0_7 a0_8 a0_9 a0_10 a0_11 a0_12 a0_13 a0_14 a0_15 a0_16 a0_17 a0_18 a0_19 a0_20 a0_21 (9 + a1.toNat))).size + a0_2.size ≤ 9223372036854775807 then ((impl_dec.f a2).bind fun t176 => (if ((a0_1 ++ (tgAt a0_0 a0_1 a0_2 a0_3 a0_4 a0_5 a0_6 a0_7 a0_8 a0_9 a0_10 a0_11 a0_12 a0_13 a0_14 a0_15 a0_16 a0_17 a0_18 a0_19 a0_20 a0_21 (9 + a1.toNat))) ++ a0_2).size + t176.size ≤ 9223372036854775807 then (impl_tongue_wind.j0 k a2 a3 (((a0_1 ++ (tgAt a0_0 a0_1 a0_2 a0_3 a0_4 a0_5 a0_6 a0_7 a0_8 a0_9 a0_10 a0_11 a0_12 a0_13 a0_14 a0_15 a0_16 a0_17 a0_18 a0_19 a0_20 a0_21 (9 + a1.toNat))) ++ a0_2) ++ t176) a0_0 a0_1 a0_2 a0_3 a0_4 a0_5 a0_6 a0_7 a0_8 a0_9 a0_10 a0_11 a0_12 a0_13 a0_14 a0_15 a0_16 a0_17 a0_18 a0_19 a0_20 a0_21) else (none))) else (none)) else (none)) else (none)) else (impl_tongue_wind.j0 k a2 a3 a0_0 a0_0 a0_1 a0_2 a0_3 a0_4 a0_5 a0_6 a0_7 a0_8 a0_9 a0_10 a0_11 a0_12 a0_13 a0_14 a0_15 a0_16 a0_17 a0_18 a0_19 a0_20 a0_21)
theorem impl_tongue_wind.mono_l : ∀ k, (∀ y0 y1 y2 y3 y4 y5 y6 y7 y8 y9 y10 y11 y12 y13 y14 y15 y16 y17 y18 y19 y20 y21 y22 y23 y24, LeO (impl_tongue_wind.j0 k y0 y1 y2 y3 y4 y5 y6 y7 y8 y9 y10 y11 y12 y13 y14 y15 y16 y17 y18 y19 y20 y21 y22 y23 y24) (impl_tongue_wind.j0 (k + 1) y0 y1 y2 y3 y4 y5 y6 y7 y8 y9 y10 y11 y12 y13 y14 y15 y16 y17 y18 y19 y20 y21 y22 y23 y24))
  | 0 => fun _ _ _ _ _ _ _ _ _ _ _ _ _ _ _ _ _ _ _ _ _ _ _ _ _ r h => by simp [impl_tongue_wind.j0] at h
  | k + 1 => by
    have ih0 := impl_tongue_wind.mono_l k
    · intro y0 y1 y2 y3 y4 y5 y6 y7 y8 y9 y10 y11 y12 y13 y14 y15 y16 y17 y18 y19 y20 y21 y22 y23 y24
      unfold impl_tongue_wind.j0
      repeat' first
      | (with_reducible exact ih0 _ _ _ _ _ _ _ _ _ _ _ _ _ _ _ _ _ _ _ _ _ _ _ _ _)
      | (with_reducible exact LeO.refl _)
      | (with_reducible exact LeO.none _)
      | (with_reducible refine LeO.ite ?_ ?_)
      | (with_reducible refine LeO.bind ?_ (fun _ => ?_))
      | exact ih0 _ _ _ _ _ _ _ _ _ _ _ _ _ _ _ _ _ _ _ _ _ _ _ _ _
      | exact LeO.none _
      | refine LeO.ite ?_ ?_
      | refine LeO.bind ?_ (fun _ => ?_)
theorem impl_tongue_wind.mono : ∀ a0 a1 a2 a3 a4 a5 a6 a7 a8 a9 a10 a11 a12 a13 a14 a15 a16 a17 a18 a19 a20 a21 a22 a23 a24 k, LeO (impl_tongue_wind.f k a0 a1 a2 a3 a4 a5 a6 a7 a8 a9 a10 a11 a12 a13 a14 a15 a16 a17 a18 a19 a20 a21 a22 a23 a24) (impl_tongue_wind.f (k + 1) a0 a1 a2 a3 a4 a5 a6 a7 a8 a9 a10 a11 a12 a13 a14 a15 a16 a17 a18 a19 a20 a21 a22 a23 a24) := by
  intro a0 a1 a2 a3 a4 a5 a6 a7 a8 a9 a10 a11 a12 a13 a14 a15 a16 a17 a18 a19 a20 a21 a22 a23 a24 k
  have ih0 := impl_tongue_wind.mono_l k
  unfold impl_tongue_wind.f
  repeat' first
      | (with_reducible exact ih0 _ _ _ _ _ _ _ _ _ _ _ _ _ _ _ _ _ _ _ _ _ _ _ _ _)
      | (with_reducible exact LeO.refl _)
      | (with_reducible exact LeO.none _)
      | (with_reducible refine LeO.ite ?_ ?_)
      | (with_reducible refine LeO.bind ?_ (fun _ => ?_))
      | exact ih0 _ _ _ _ _ _ _ _ _ _ _ _ _ _ _ _ _ _ _ _ _ _ _ _ _
      | exact LeO.none _
      | refine LeO.ite ?_ ?_
      | refine LeO.bind ?_ (fun _ => ?_)
def impl_tongue_wind.T3 : Bool × List (List Nat × List Nat) := (true, [([], []), ([0], [0]), ([], []), ([], []), ([3, 2], [2, 3]), ([4], [4]), ([1, 5], [1, 5]), ([], []), ([7], [7]), ([6, 8], [6, 8]), ([], []), ([10], [10]), ([9, 11], [9, 11]), ([12, 11, 0, 1, 2, 3, 4, 5, 6, 7, 8, 9, 10, 11, 12], [12])])
def impl_tongue_wind.B3 : List Nat := [0, 1, 0, 0, 12, 28, 63, 0, 128, 511, 0, 1024, 4095, 8191]
theorem impl_tongue_wind.tab3 : rtab .any (opsOf Tryd.f22 3) = impl_tongue_wind.T3 := by kernel_rfl
theorem impl_tongue_wind.bits3 : waitsOk impl_tongue_wind.T3.2 impl_tongue_wind.B3 = true := by kernel_rfl
def impl_tongue_wind.T5 : Bool × List (List Nat × List Nat) := (true, [([], []), ([], []), ([1], [1]), ([], []), ([3], [3]), ([2, 4], [2, 4]), ([0, 5], [0, 5]), ([6, 4, 0, 1, 2, 3, 4, 5, 6], [0, 6])])
def impl_tongue_wind.B5 : List Nat := [0, 0, 2, 0, 8, 30, 63, 127]
theorem impl_tongue_wind.tab5 : rtab .any (opsOf Tryd.f22 5) = impl_tongue_wind.T5 := by kernel_rfl
theorem impl_tongue_wind.bits5 : waitsOk impl_tongue_wind.T5.2 impl_tongue_wind.B5 = true := by kernel_rfl
def impl_tongue_wind.T7 : Bool × List (List Nat × List Nat) := (true, [([], []), ([], []), ([1], [1]), ([], []), ([3], [3]), ([2, 4], [2, 4]), ([0, 5], [0, 5]), ([6, 4, 0, 1, 2, 3, 4, 5, 6], [0, 6])])
def impl_tongue_wind.B7 : List Nat := [0, 0, 2, 0, 8, 30, 63, 127]
theorem impl_tongue_wind.tab7 : rtab .any (opsOf Tryd.f22 7) = impl_tongue_wind.T7 := by kernel_rfl
theorem impl_tongue_wind.bits7 : waitsOk impl_tongue_wind.T7.2 impl_tongue_wind.B7 = true := by kernel_rfl
set_option maxHeartbeats 8000000 in
set_option maxRecDepth 100000 in
theorem impl_tongue_wind.calls (k : Nat) (a0_0 : ByteArray) (a0_1 : ByteArray) (a0_2 : ByteArray) (a0_3 : ByteArray) (a0_4 : ByteArray) (a0_5 : ByteArray) (a0_6 : ByteArray) (a0_7 : ByteArray) (a0_8 : ByteArray) (a0_9 : ByteArray) (a0_10 : ByteArray) (a0_11 : ByteArray) (a0_12 : ByteArray) (a0_13 : ByteArray) (a0_14 : ByteArray) (a0_15 : ByteArray) (a0_16 : ByteArray) (a0_17 : ByteArray) (a0_18 : ByteArray) (a0_19 : ByteArray) (a0_20 : ByteArray) (a0_21 : ByteArray) (a1 : Int) (a2 : Int) (a3 : Int) (r : ByteArray) (w : World) (h : impl_tongue_wind.f k a0_0 a0_1 a0_2 a0_3 a0_4 a0_5 a0_6 a0_7 a0_8 a0_9 a0_10 a0_11 a0_12 a0_13 a0_14 a0_15 a0_16 a0_17 a0_18 a0_19 a0_20 a0_21 a1 a2 a3 = some r) (hT : Lib.TabIs Tryd.prog w "internal/strconv.uint64pow10" .u64 Lib.pow10Tab) :
    Calls Tryd.prog 22 #[.agg #[.string a0_0, .string a0_1, .string a0_2, .string a0_3, .string a0_4, .string a0_5, .string a0_6, .string a0_7, .string a0_8, .string a0_9, .string a0_10, .string a0_11, .string a0_12, .string a0_13, .string a0_14, .string a0_15, .string a0_16, .string a0_17, .string a0_18, .string a0_19, .string a0_20, .string a0_21], .int .i64 a1, .int .i64 a2, .int .i64 a3] w fun e w' => e = .returned (.string r) ∧ Below w.heap.size w w' := by
  have HTb := Aside0.mk hT; clear hT
  have hu44 := Tryd.underlying44
  have HB := Aside0.mk (Below.refl w.heap.size w)
  have H : (if a1 > 0 then (if a1 < 9 then (if a0_1.size + (tgAt a0_0 a0_1 a0_2 a0_3 a0_4 a0_5 a0_6 a0_7 a0_8 a0_9 a0_10 a0_11 a0_12 a0_13 a0_14 a0_15 a0_16 a0_17 a0_18 a0_19 a0_20 a0_21 (9 + a1.toNat)).size ≤ 9223372036854775807 then (if (a0_1 ++ (tgAt a0_0 a0_1 a0_2 a0_3 a0_4 a0_5 a0_6 a0_7 a0_8 a0_9 a0_10 a0_11 a0_12 a0_13 a0_14 a0_15 a0_16 a0_17 a0_18 a0_19 a0_20 a0_21 (9 + a1.toNat))).size + a0_2.size ≤ 9223372036854775807 then ((impl_dec.f a2).bind fun t176 => (if ((a0_1 ++ (tgAt a0_0 a0_1 a0_2 a0_3 a0_4 a0_5 a0_6 a0_7 a0_8 a0_9 a0_10 a0_11 a0_12 a0_13 a0_14 a0_15 a0_16 a0_17 a0_18 a0_19 a0_20 a0_21 (9 + a1.toNat))) ++ a0_2).size + t176.size ≤ 9223372036854775807 then (impl_tongue_wind.j0 k a2 a3 (((a0_1 ++ (tgAt a0_0 a0_1 a0_2 a0_3 a0_4 a0_5 a0_6 a0_7 a0_8 a0_9 a0_10 a0_11 a0_12 a0_13 a0_14 a0_15 a0_16 a0_17 a0_18 a0_19 a0_20 a0_21 (9 + a1.toNat))) ++ a0_2) ++ t176) a0_0 a0_1 a0_2 a0_3 a0_4 a0_5 a0_6 a0_7 a0_8 a0_9 a0_10 a0_11 a0_12 a0_13 a0_14 a0_15 a0_16 a0_17 a0_18 a0_19 a0_20 a0_21) else (none))) else (none)) else (none)) else (none)) else (impl_tongue_wind.j0 k a2 a3 a0_0 a0_0 a0_1 a0_2 a0_3 a0_4 a0_5 a0_6 a0_7 a0_8 a0_9 a0_10 a0_11 a0_12 a0_13 a0_14 a0_15 a0_16 a0_17 a0_18 a0_19 a0_20 a0_21)) = some r := h
  clear h
  have HC5 := Aside0.mk H
  clear H
  go_enter Tryd.func22, Tryd.ntmps22
  go_upto_if 13 with (first | ((with_reducible refine gate_dst (N := 4) rfl ?_); refine box_event ?hg (N := 4) ?hd (cs := #[.string a0_0, .string a0_1, .string a0_2, .string a0_3, .string a0_4, .string a0_5, .string a0_6, .string a0_7, .string a0_8, .string a0_9, .string a0_10, .string a0_11, .string a0_12, .string a0_13, .string a0_14, .string a0_15, .string a0_16, .string a0_17, .string a0_18, .string a0_19, .string a0_20, .string a0_21]) (t := 44) ?hr ?_; (case hd => rfl); (case hg => rfl); (case hr => first | (go_simp; done) | (go_simp; rfl)); intro gb175 hg w6 hbox hb; have n0_ := Aside0.mk (below_step (by repeat (first | (with_reducible first | exact HB.out | apply below_alloc | apply pw_below_drewN | apply below_drew1) | exact HB.out)) hb); have n1_ := Aside0.mk (hbox); have n2_ := Aside0.mk ((by rw [hg]; exact (below_size (by repeat (first | (with_reducible first | exact HB.out | apply below_alloc | apply pw_below_drewN | apply below_drew1) | exact HB.out))) : w.heap.size ≤ gb175)); have n3_ := Aside0.mk ((by rw [hg]; exact (below_size (by repeat (first | (with_reducible first | exact HB.out | apply below_alloc | apply pw_below_drewN | apply below_drew1) | exact HB.out))) : w.heap.size ≤ gb175)); clear HB; have HB := n0_; have BK175 := n1_; have GW175 := n2_; have GE175 := n3_; clear n0_ n1_ n2_ n3_; clear hb hbox hg; have hcz7_0 : w6.cell? ⟨gb175, 0, none⟩ = some (.string a0_0) := (blk_cell BK175.out 0).trans rfl; have hcz7_1 : w6.cell? ⟨gb175, 1, none⟩ = some (.string a0_1) := (blk_cell BK175.out 1).trans rfl; have hcz7_2 : w6.cell? ⟨gb175, 2, none⟩ = some (.string a0_2) := (blk_cell BK175.out 2).trans rfl; have hcz7_3 : w6.cell? ⟨gb175, 3, none⟩ = some (.string a0_3) := (blk_cell BK175.out 3).trans rfl; have hcz7_4 : w6.cell? ⟨gb175, 4, none⟩ = some (.string a0_4) := (blk_cell BK175.out 4).trans rfl; have hcz7_5 : w6.cell? ⟨gb175, 5, none⟩ = some (.string a0_5) := (blk_cell BK175.out 5).trans rfl; have hcz7_6 : w6.cell? ⟨gb175, 6, none⟩ = some (.string a0_6) := (blk_cell BK175.out 6).trans rfl; have hcz7_7 : w6.cell? ⟨gb175, 7, none⟩ = some (.string a0_7) := (blk_cell BK175.out 7).trans rfl; have hcz7_8 : w6.cell? ⟨gb175, 8, none⟩ = some (.string a0_8) := (blk_cell BK175.out 8).trans rfl; have hcz7_9 : w6.cell? ⟨gb175, 9, none⟩ = some (.string a0_9) := (blk_cell BK175.out 9).trans rfl; have hcz7_10 : w6.cell? ⟨gb175, 10, none⟩ = some (.string a0_10) := (blk_cell BK175.out 10).trans rfl; have hcz7_11 : w6.cell? ⟨gb175, 11, none⟩ = some (.string a0_11) := (blk_cell BK175.out 11).trans rfl; have hcz7_12 : w6.cell? ⟨gb175, 12, none⟩ = some (.string a0_12) := (blk_cell BK175.out 12).trans rfl; have hcz7_13 : w6.cell? ⟨gb175, 13, none⟩ = some (.string a0_13) := (blk_cell BK175.out 13).trans rfl; have hcz7_14 : w6.cell? ⟨gb175, 14, none⟩ = some (.string a0_14) := (blk_cell BK175.out 14).trans rfl; have hcz7_15 : w6.cell? ⟨gb175, 15, none⟩ = some (.string a0_15) := (blk_cell BK175.out 15).trans rfl; have hcz7_16 : w6.cell? ⟨gb175, 16, none⟩ = some (.string a0_16) := (blk_cell BK175.out 16).trans rfl; have hcz7_17 : w6.cell? ⟨gb175, 17, none⟩ = some (.string a0_17) := (blk_cell BK175.out 17).trans rfl; have hcz7_18 : w6.cell? ⟨gb175, 18, none⟩ = some (.string a0_18) := (blk_cell BK175.out 18).trans rfl; have hcz7_19 : w6.cell? ⟨gb175, 19, none⟩ = some (.string a0_19) := (blk_cell BK175.out 19).trans rfl; have hcz7_20 : w6.cell? ⟨gb175, 20, none⟩ = some (.string a0_20) := (blk_cell BK175.out 20).trans rfl; have hcz7_21 : w6.cell? ⟨gb175, 21, none⟩ = some (.string a0_21) := (blk_cell BK175.out 21).trans rfl; have hfz7_0 := blk_frozen BK175.out 0; have hfz7_1 := blk_frozen BK175.out 1; have hfz7_2 := blk_frozen BK175.out 2; have hfz7_3 := blk_frozen BK175.out 3; have hfz7_4 := blk_frozen BK175.out 4; have hfz7_5 := blk_frozen BK175.out 5; have hfz7_6 := blk_frozen BK175.out 6; have hfz7_7 := blk_frozen BK175.out 7; have hfz7_8 := blk_frozen BK175.out 8; have hfz7_9 := blk_frozen BK175.out 9; have hfz7_10 := blk_frozen BK175.out 10; have hfz7_11 := blk_frozen BK175.out 11; have hfz7_12 := blk_frozen BK175.out 12; have hfz7_13 := blk_frozen BK175.out 13; have hfz7_14 := blk_frozen BK175.out 14; have hfz7_15 := blk_frozen BK175.out 15; have hfz7_16 := blk_frozen BK175.out 16; have hfz7_17 := blk_frozen BK175.out 17; have hfz7_18 := blk_frozen BK175.out 18; have hfz7_19 := blk_frozen BK175.out 19; have hfz7_20 := blk_frozen BK175.out 20; have hfz7_21 := blk_frozen BK175.out 21))
  (try simp only [Act.put, List.setIfInBounds_toArray, List.set_cons_zero, List.set_cons_succ])
  go_cut [9] (fun v9 wc => ∃ (kq : Nat) (x9_4 : ByteArray), v9 = .string x9_4 ∧ Aside0 (impl_tongue_wind.j0 kq a2 a3 x9_4 a0_0 a0_1 a0_2 a0_3 a0_4 a0_5 a0_6 a0_7 a0_8 a0_9 a0_10 a0_11 a0_12 a0_13 a0_14 a0_15 a0_16 a0_17 a0_18 a0_19 a0_20 a0_21 = some r) ∧ Aside0 (kq ≤ k) ∧ Aside0 (wc.heap[gb175]? = some (.cells #[.string a0_0, .string a0_1, .string a0_2, .string a0_3, .string a0_4, .string a0_5, .string a0_6, .string a0_7, .string a0_8, .string a0_9, .string a0_10, .string a0_11, .string a0_12, .string a0_13, .string a0_14, .string a0_15, .string a0_16, .string a0_17, .string a0_18, .string a0_19, .string a0_20, .string a0_21] 44 (0, 0))) ∧ Aside0 (Below w.heap.size w wc))
  case first =>
    have H := HC5.out
    clear HC5
    by_cases c8 : a1 > 0
    · rw [if_pos c8] at H
      have lo_ : 0 < a1 := c8
      have hi_ : a1 < 9 := by
        by_cases h : a1 < 9
        · exact h
        · rw [if_neg h] at H; exact absurd H (by simp)
      rw [if_pos hi_] at H
      have hsd := tgAt_cell a0_0 a0_1 a0_2 a0_3 a0_4 a0_5 a0_6 a0_7 a0_8 a0_9 a0_10 a0_11 a0_12 a0_13 a0_14 a0_15 a0_16 a0_17 a0_18 a0_19 a0_20 a0_21 (9 + a1.toNat) (by omega)
      generalize tgAt a0_0 a0_1 a0_2 a0_3 a0_4 a0_5 a0_6 a0_7 a0_8 a0_9 a0_10 a0_11 a0_12 a0_13 a0_14 a0_15 a0_16 a0_17 a0_18 a0_19 a0_20 a0_21 (9 + a1.toNat) = sd at H hsd
      have hsdc := Aside0.mk hsd
      clear hsd
      have lo0_ : 0 ≤ a1 := by omega
      have ixd_ : decide (0 ≤ a1 ∧ a1 < 9) = true := decide_eq_true ⟨lo0_, hi_⟩
      have c8b0 : decide (0 < a1) = true := decide_eq_true c8
      clear c8
      (first | rw [c8b0] | (simp only [i64_w, i32_w]; rw [c8b0]) | skip)
      by_cases c9 : a0_1.size + sd.size ≤ 9223372036854775807
      · rw [if_pos c9] at H
        have c9b0 := eq_true c9
        have c9b1 : decide (a0_1.size + sd.size ≤ 9223372036854775807) = true := decide_eq_true c9
        try have c9b2 : (9223372036854775807 < a0_1.size + sd.size) = False := eq_false (Nat.not_lt.2 c9)
        by_cases c10 : (a0_1 ++ sd).size + a0_2.size ≤ 9223372036854775807
        · rw [if_pos c10] at H
          have c10b0 := eq_true c10
          have c10b1 : decide ((a0_1 ++ sd).size + a0_2.size ≤ 9223372036854775807) = true := decide_eq_true c10
          try have c10b2 : (9223372036854775807 < (a0_1 ++ sd).size + a0_2.size) = False := eq_false (Nat.not_lt.2 c10)
          (try (have c10b3 := c10b2; simp only [ByteArray.size_append] at c10b3))
          replace H := Option.bind_eq_some_iff.mp H
          obtain ⟨t176, A110, H⟩ := H
          replace H : (if ((a0_1 ++ sd) ++ a0_2).size + t176.size ≤ 9223372036854775807 then (impl_tongue_wind.j0 k a2 a3 (((a0_1 ++ sd) ++ a0_2) ++ t176) a0_0 a0_1 a0_2 a0_3 a0_4 a0_5 a0_6 a0_7 a0_8 a0_9 a0_10 a0_11 a0_12 a0_13 a0_14 a0_15 a0_16 a0_17 a0_18 a0_19 a0_20 a0_21) else (none)) = some r := H
          have A11 := Aside0.mk A110
          clear A110
          by_cases c12 : ((a0_1 ++ sd) ++ a0_2).size + t176.size ≤ 9223372036854775807
          · rw [if_pos c12] at H
            have c12b0 := eq_true c12
            have c12b1 : decide (((a0_1 ++ sd) ++ a0_2).size + t176.size ≤ 9223372036854775807) = true := decide_eq_true c12
            try have c12b2 : (9223372036854775807 < ((a0_1 ++ sd) ++ a0_2).size + t176.size) = False := eq_false (Nat.not_lt.2 c12)
            (try (have c12b3 := c12b2; simp only [ByteArray.size_append] at c12b3))
            have H' := Aside0.mk H
            clear H
            try go_wp2
            have n0_ := Aside0.mk (blk_drew BK175.out)
            have n1_ := Aside0.mk (below_drew1 HB.out)
            clear BK175
            clear HB
            have BK175 := n0_
            have HB := n1_
            clear n0_ n1_
            refine start_ (n := 14) (S := fun w' => w'.cell? ⟨gb175, 0, none⟩ = some (.string a0_0) ∧ w'.cell? ⟨gb175, 1, none⟩ = some (.string a0_1) ∧ w'.cell? ⟨gb175, 2, none⟩ = some (.string a0_2) ∧ w'.cell? ⟨gb175, 3, none⟩ = some (.string a0_3) ∧ w'.cell? ⟨gb175, 4, none⟩ = some (.string a0_4) ∧ w'.cell? ⟨gb175, 5, none⟩ = some (.string a0_5) ∧ w'.cell? ⟨gb175, 6, none⟩ = some (.string a0_6) ∧ w'.cell? ⟨gb175, 7, none⟩ = some (.string a0_7) ∧ w'.cell? ⟨gb175, 8, none⟩ = some (.string a0_8) ∧ w'.cell? ⟨gb175, 9, none⟩ = some (.string a0_9) ∧ w'.cell? ⟨gb175, 9 + a1.toNat, none⟩ = some (.string sd) ∧ w'.cell? ⟨gb175, 11, none⟩ = some (.string a0_11) ∧ w'.cell? ⟨gb175, 12, none⟩ = some (.string a0_12) ∧ w'.cell? ⟨gb175, 13, none⟩ = some (.string a0_13) ∧ w'.cell? ⟨gb175, 14, none⟩ = some (.string a0_14) ∧ w'.cell? ⟨gb175, 15, none⟩ = some (.string a0_15) ∧ w'.cell? ⟨gb175, 16, none⟩ = some (.string a0_16) ∧ w'.cell? ⟨gb175, 17, none⟩ = some (.string a0_17) ∧ w'.cell? ⟨gb175, 18, none⟩ = some (.string a0_18) ∧ w'.cell? ⟨gb175, 19, none⟩ = some (.string a0_19) ∧ w'.cell? ⟨gb175, 20, none⟩ = some (.string a0_20) ∧ w'.cell? ⟨gb175, 21, none⟩ = some (.string a0_21)) (ds := []) #[false, false, false, false, false, false, false, false, false, false, false, false, false, false] (by kernel_rfl) rfl rfl ⟨(blk_cell BK175.out 0).trans rfl, (blk_cell BK175.out 1).trans rfl, (blk_cell BK175.out 2).trans rfl, (blk_cell BK175.out 3).trans rfl, (blk_cell BK175.out 4).trans rfl, (blk_cell BK175.out 5).trans rfl, (blk_cell BK175.out 6).trans rfl, (blk_cell BK175.out 7).trans rfl, (blk_cell BK175.out 8).trans rfl, (blk_cell BK175.out 9).trans rfl, (blk_cell BK175.out (9 + a1.toNat)).trans hsdc.out, (blk_cell BK175.out 11).trans rfl, (blk_cell BK175.out 12).trans rfl, (blk_cell BK175.out 13).trans rfl, (blk_cell BK175.out 14).trans rfl, (blk_cell BK175.out 15).trans rfl, (blk_cell BK175.out 16).trans rfl, (blk_cell BK175.out 17).trans rfl, (blk_cell BK175.out 18).trans rfl, (blk_cell BK175.out 19).trans rfl, (blk_cell BK175.out 20).trans rfl, (blk_cell BK175.out 21).trans rfl⟩ (fun hHeld => ?_); refine with_tabW impl_tongue_wind.tab3 impl_tongue_wind.bits3 (fun HT_ HW_ => ?_)
            generalize w6.drew = w13 at BK175 HB hHeld ⊢
            refine pure_ (i := 0) (N := some 14) (v := ?_) (a' := ?_) #[true, false, false, false, false, false, false, false, false, false, false, false, false, false] rfl rfl (any_of HT_.out (by kernel_rfl)) (fun _ _ _ h => h) (Or.inl ⟨by rfl, ?_⟩) ?_ ?_
            rotate_left
            · intro w'
              go_simp
              with_reducible rfl
            rotate_left
            · simp only [Act.put, List.setIfInBounds_toArray, List.set_cons_zero, List.set_cons_succ, i64_w, i32_w]
              rfl
            refine pure_ (i := 2) (N := some 16) (v := ?_) (a' := ?_) #[true, false, true, false, false, false, false, false, false, false, false, false, false, false] rfl rfl (any_of HT_.out (by kernel_rfl)) (fun _ _ _ h => h) (Or.inl ⟨by rfl, ?_⟩) ?_ ?_
            rotate_left
            · intro w'
              go_simp
              with_reducible rfl
            rotate_left
            · simp only [Act.put, List.setIfInBounds_toArray, List.set_cons_zero, List.set_cons_succ, i64_w, i32_w]
              rfl
            refine pure_ (i := 3) (N := some 17) (v := ?_) (a' := ?_) #[true, false, true, true, false, false, false, false, false, false, false, false, false, false] rfl rfl (any_of HT_.out (by kernel_rfl)) (fun _ _ _ h => h) (Or.inl ⟨by rfl, ?_⟩) ?_ ?_
            rotate_left
            · intro w'
              go_simp
              with_reducible rfl
            rotate_left
            · simp only [Act.put, List.setIfInBounds_toArray, List.set_cons_zero, List.set_cons_succ, i64_w, i32_w]
              rfl
            refine pure_ (i := 4) (N := some 18) (v := ?_) (a' := ?_) #[true, false, true, true, true, false, false, false, false, false, false, false, false, false] rfl rfl (any_of HT_.out (by kernel_rfl)) (fun _ _ _ h => h) (Or.inl ⟨by rfl, ?_⟩) ?_ ?_
            rotate_left
            · intro w'
              go_simp
              with_reducible rfl
            rotate_left
            · simp only [Act.put, List.setIfInBounds_toArray, List.set_cons_zero, List.set_cons_succ, i64_w, i32_w]
              rfl
            refine pure_ (i := 7) (N := some 21) (v := ?_) (a' := ?_) #[true, false, true, true, true, false, false, true, false, false, false, false, false, false] rfl rfl (any_of HT_.out (by kernel_rfl)) (fun _ _ _ h => h) (Or.inl ⟨by rfl, ?_⟩) ?_ ?_
            rotate_left
            · intro w'
              go_simp
              with_reducible rfl
            rotate_left
            · simp only [Act.put, List.setIfInBounds_toArray, List.set_cons_zero, List.set_cons_succ, i64_w, i32_w]
              rfl
            refine pure_ (i := 10) (N := some 24) (v := ?_) (a' := ?_) #[true, false, true, true, true, false, false, true, false, false, true, false, false, false] rfl rfl (any_of HT_.out (by kernel_rfl)) (fun _ _ _ h => h) (Or.inl ⟨by rfl, ?_⟩) ?_ ?_
            rotate_left
            · intro w'
              go_simp
              with_reducible rfl
            rotate_left
            · simp only [Act.put, List.setIfInBounds_toArray, List.set_cons_zero, List.set_cons_succ, i64_w, i32_w]
              rfl
            refine take_ (i := 1) (N := some 15) (v := ?_) (a' := ?_) #[true, true, true, true, true, false, false, true, false, false, true, false, false, false] rfl rfl (take_ofW HT_.out HW_.out (by kernel_rfl)) (fun _ _ _ h => h) (Or.inl ⟨by rfl, ?_⟩) hHeld ?_ ?_
            rotate_left
            · rintro w' ⟨s0, s1, s2, s3, s4, s5, s6, s7, s8, s9, s10, s11, s12, s13, s14, s15, s16, s17, s18, s19, s20, s21⟩
              go_simp
              with_reducible rfl
            rotate_left
            · simp only [Act.put, List.setIfInBounds_toArray, List.set_cons_zero, List.set_cons_succ, i64_w, i32_w]
              rfl
            refine take_ (i := 5) (N := some 19) (v := ?_) (a' := ?_) #[true, true, true, true, true, true, false, true, false, false, true, false, false, false] rfl rfl (take_ofW HT_.out HW_.out (by kernel_rfl)) (fun _ _ _ h => h) (Or.inl ⟨by rfl, ?_⟩) hHeld ?_ ?_
            rotate_left
            · rintro w' ⟨s0, s1, s2, s3, s4, s5, s6, s7, s8, s9, s10, s11, s12, s13, s14, s15, s16, s17, s18, s19, s20, s21⟩
              go_simp
              with_reducible rfl
            rotate_left
            · simp only [Act.put, List.setIfInBounds_toArray, List.set_cons_zero, List.set_cons_succ, i64_w, i32_w]
              rfl
            refine pure_ (i := 6) (N := some 20) (v := ?_) (a' := ?_) #[true, true, true, true, true, true, true, true, false, false, true, false, false, false] rfl rfl (any_of HT_.out (by kernel_rfl)) (fun _ _ _ h => h) (Or.inl ⟨by rfl, ?_⟩) ?_ ?_
            rotate_left
            · intro w'
              go_simp
              with_reducible rfl
            rotate_left
            · simp only [Act.put, List.setIfInBounds_toArray, List.set_cons_zero, List.set_cons_succ, i64_w, i32_w]
              rfl
            refine take_ (i := 8) (N := some 22) (v := ?_) (a' := ?_) #[true, true, true, true, true, true, true, true, true, false, true, false, false, false] rfl rfl (take_ofW HT_.out HW_.out (by kernel_rfl)) (fun _ _ _ h => h) (Or.inl ⟨by rfl, ?_⟩) hHeld ?_ ?_
            rotate_left
            · rintro w' ⟨s0, s1, s2, s3, s4, s5, s6, s7, s8, s9, s10, s11, s12, s13, s14, s15, s16, s17, s18, s19, s20, s21⟩
              go_simp
              with_reducible rfl
            rotate_left
            · simp only [Act.put, List.setIfInBounds_toArray, List.set_cons_zero, List.set_cons_succ, i64_w, i32_w]
              rfl
            refine pure_ (i := 9) (N := some 23) (v := ?_) (a' := ?_) #[true, true, true, true, true, true, true, true, true, true, true, false, false, false] rfl rfl (any_of HT_.out (by kernel_rfl)) (fun _ _ _ h => h) (Or.inl ⟨by rfl, ?_⟩) ?_ ?_
            rotate_left
            · intro w'
              go_simp
              with_reducible rfl
            rotate_left
            · simp only [Act.put, List.setIfInBounds_toArray, List.set_cons_zero, List.set_cons_succ, i64_w, i32_w]
              rfl
            refine one_ (i := 11) (N := some 25) #[true, true, true, true, true, true, true, true, true, true, true, true, false, false] rfl rfl (one_of HT_.out (by kernel_rfl)) (by decide) (fun K hK => ?_)
            refine goes_ Tryd.func32 (by kernel_rfl) rfl #[.int .i64 a2] (by rfl) rfl rfl (by (try simp only [List.map_toArray, List.map_cons, List.map_nil]); first | done | rfl | (simp only [List.length_drop, List.length_take]; rfl)) ?_
            with_reducible refine (impl_dec.calls a2 t176 _ A11.out (tab_on HTb.out (by repeat (first | (with_reducible first | exact HB.out | apply below_alloc | apply pw_below_drewN | apply below_drew1 | refine below_set ?_ GE175.out) | exact HB.out)))).mono ?_
            rintro e w14 ⟨rfl, hb⟩
            refine ⟨_, rfl, ?_⟩
            have n0_ := Aside0.mk (blk_below (g := gb175) (o := .cells #[.string a0_0, .string a0_1, .string a0_2, .string a0_3, .string a0_4, .string a0_5, .string a0_6, .string a0_7, .string a0_8, .string a0_9, .string a0_10, .string a0_11, .string a0_12, .string a0_13, .string a0_14, .string a0_15, .string a0_16, .string a0_17, .string a0_18, .string a0_19, .string a0_20, .string a0_21] 44 (0, 0)) (by (with_reducible repeat (first | refine blk_drewN ?_ _ | refine blk_drew ?_ | refine blk_alloc ?_ _)); exact BK175.out) hb)
            have n1_ := Aside0.mk (below_step (by repeat (first | (with_reducible first | exact HB.out | apply below_alloc | apply pw_below_drewN | apply below_drew1 | refine below_set ?_ GE175.out) | exact HB.out)) hb)
            clear BK175
            clear HB
            have BK175 := n0_
            have HB := n1_
            clear n0_ n1_
            (try clear hb)
            (try clear hb2)
            (try clear hk)
            (try clear hi)
            refine hK.out _ _ ⟨(blk_cell BK175.out 0).trans rfl, (blk_cell BK175.out 1).trans rfl, (blk_cell BK175.out 2).trans rfl, (blk_cell BK175.out 3).trans rfl, (blk_cell BK175.out 4).trans rfl, (blk_cell BK175.out 5).trans rfl, (blk_cell BK175.out 6).trans rfl, (blk_cell BK175.out 7).trans rfl, (blk_cell BK175.out 8).trans rfl, (blk_cell BK175.out 9).trans rfl, (blk_cell BK175.out (9 + a1.toNat)).trans hsdc.out, (blk_cell BK175.out 11).trans rfl, (blk_cell BK175.out 12).trans rfl, (blk_cell BK175.out 13).trans rfl, (blk_cell BK175.out 14).trans rfl, (blk_cell BK175.out 15).trans rfl, (blk_cell BK175.out 16).trans rfl, (blk_cell BK175.out 17).trans rfl, (blk_cell BK175.out 18).trans rfl, (blk_cell BK175.out 19).trans rfl, (blk_cell BK175.out 20).trans rfl, (blk_cell BK175.out 21).trans rfl⟩ (fun hHeld => ?_)
            clear hK K
            refine norm_ (a' := ?_) ?_ ?_
            rotate_left
            · show Act.put _ (some 25) _ = _
              simp only [Act.put, List.setIfInBounds_toArray, List.set_cons_zero, List.set_cons_succ, i64_w, i32_w]
              rfl
            refine pure_ (i := 12) (N := some 26) (v := ?_) (a' := ?_) #[true, true, true, true, true, true, true, true, true, true, true, true, true, false] rfl rfl (any_of HT_.out (by kernel_rfl)) (fun _ _ _ h => h) (Or.inl ⟨by rfl, ?_⟩) ?_ ?_
            rotate_left
            · intro w'
              go_simp
              with_reducible rfl
            rotate_left
            · simp only [Act.put, List.setIfInBounds_toArray, List.set_cons_zero, List.set_cons_succ, i64_w, i32_w]
              rfl
            refine pure_ (i := 13) (N := some 9) (v := ?_) (a' := ?_) #[true, true, true, true, true, true, true, true, true, true, true, true, true, true] rfl rfl (any_of HT_.out (by kernel_rfl)) (fun _ _ _ h => h) (Or.inl ⟨by rfl, ?_⟩) ?_ ?_
            rotate_left
            · intro w'
              go_simp
              with_reducible rfl
            rotate_left
            · simp only [Act.put, List.setIfInBounds_toArray, List.set_cons_zero, List.set_cons_succ, i64_w, i32_w]
              rfl
            refine done_ (done_of HT_.out (by kernel_rfl)) ?_
            try go_wp2
            go_meet
            case rel => exact ⟨_, (((a0_1 ++ sd) ++ a0_2) ++ t176), (by first | rfl | (simp; done) | (simp [*]; done)), H', ⟨by first | omega | exact Nat.le_refl _⟩, ⟨by (with_reducible repeat (first | refine blk_drewN ?_ _ | refine blk_drew ?_ | refine blk_alloc ?_ _)); exact BK175.out⟩, ⟨by repeat (first | (with_reducible first | exact HB.out | apply below_alloc | apply pw_below_drewN | apply below_drew1 | refine below_set ?_ GE175.out) | exact HB.out)⟩⟩
          · rw [if_neg c12] at H
            exact absurd H (by simp)
        · rw [if_neg c10] at H
          exact absurd H (by simp)
      · rw [if_neg c9] at H
        exact absurd H (by simp)
    · rw [if_neg c8] at H
      have c8b0 : decide (0 < a1) = false := decide_eq_false c8
      clear c8
      (first | rw [c8b0] | (simp only [i64_w, i32_w]; rw [c8b0]) | skip)
      have H' := Aside0.mk H
      clear H
      go_wp2
      go_meet
      case rel => exact ⟨_, (a0_0), (by first | rfl | (simp; done) | (simp [*]; done)), H', ⟨by first | omega | exact Nat.le_refl _⟩, ⟨by (with_reducible repeat (first | refine blk_drewN ?_ _ | refine blk_drew ?_ | refine blk_alloc ?_ _)); exact BK175.out⟩, ⟨by repeat (first | (with_reducible first | exact HB.out | apply below_alloc | apply pw_below_drewN | apply below_drew1 | refine below_set ?_ GE175.out) | exact HB.out)⟩⟩
  case rest =>
    clear HC5
    try clear c1
    try clear c2
    try clear p2
    try clear c3
    try clear c8
    try clear c8b0
    try clear c9
    try clear c9b0
    try clear c9b1
    try clear c9b2
    try clear c10
    try clear c10b0
    try clear c10b1
    try clear c10b2
    try clear c12
    try clear c12b0
    try clear c12b1
    try clear c12b2
    try clear hcz7_0
    try clear hcz7_1
    try clear hcz7_10
    try clear hcz7_11
    try clear hcz7_12
    try clear hcz7_13
    try clear hcz7_14
    try clear hcz7_15
    try clear hcz7_16
    try clear hcz7_17
    try clear hcz7_18
    try clear hcz7_19
    try clear hcz7_2
    try clear hcz7_20
    try clear hcz7_21
    try clear hcz7_3
    try clear hcz7_4
    try clear hcz7_5
    try clear hcz7_6
    try clear hcz7_7
    try clear hcz7_8
    try clear hcz7_9
    try clear hfz7_0
    try clear hfz7_1
    try clear hfz7_10
    try clear hfz7_11
    try clear hfz7_12
    try clear hfz7_13
    try clear hfz7_14
    try clear hfz7_15
    try clear hfz7_16
    try clear hfz7_17
    try clear hfz7_18
    try clear hfz7_19
    try clear hfz7_2
    try clear hfz7_20
    try clear hfz7_21
    try clear hfz7_3
    try clear hfz7_4
    try clear hfz7_5
    try clear hfz7_6
    try clear hfz7_7
    try clear hfz7_8
    try clear hfz7_9
    obtain ⟨kq, x9_4, rfl, HA, HJ4, BK175, HB⟩ := hcut
    cases kq with
    | zero => exact absurd HA.out (by simp [impl_tongue_wind.j0])
    | succ kj4 =>
      have H := HA.out
      clear HA
      simp only [impl_tongue_wind.j0] at H
      by_cases c15 : a3 > a2
      · rw [if_pos c15] at H
        have c15b0 : decide (a2 < a3) = true := decide_eq_true c15
        clear c15
        replace H := Option.bind_eq_some_iff.mp H
        obtain ⟨t177, A160, H⟩ := H
        replace H : (if a0_3.size + t177.size ≤ 9223372036854775807 then (if x9_4.size + (a0_3 ++ t177).size ≤ 9223372036854775807 then (if (x9_4 ++ (a0_3 ++ t177)).size + 1 ≤ 9223372036854775807 then (some ((x9_4 ++ (a0_3 ++ t177)) ++ (⟨#[46]⟩ : ByteArray))) else (none)) else (none)) else (none)) = some r := H
        have A16 := Aside0.mk A160
        clear A160
        by_cases c17 : a0_3.size + t177.size ≤ 9223372036854775807
        · rw [if_pos c17] at H
          have c17b0 := eq_true c17
          have c17b1 : decide (a0_3.size + t177.size ≤ 9223372036854775807) = true := decide_eq_true c17
          try have c17b2 : (9223372036854775807 < a0_3.size + t177.size) = False := eq_false (Nat.not_lt.2 c17)
          by_cases c18 : x9_4.size + (a0_3 ++ t177).size ≤ 9223372036854775807
          · rw [if_pos c18] at H
            have c18b0 := eq_true c18
            have c18b1 : decide (x9_4.size + (a0_3 ++ t177).size ≤ 9223372036854775807) = true := decide_eq_true c18
            try have c18b2 : (9223372036854775807 < x9_4.size + (a0_3 ++ t177).size) = False := eq_false (Nat.not_lt.2 c18)
            (try (have c18b3 := c18b2; simp only [ByteArray.size_append] at c18b3))
            by_cases c19 : (x9_4 ++ (a0_3 ++ t177)).size + 1 ≤ 9223372036854775807
            · rw [if_pos c19] at H
              have c19b0 := eq_true c19
              have c19b1 : decide ((x9_4 ++ (a0_3 ++ t177)).size + 1 ≤ 9223372036854775807) = true := decide_eq_true c19
              try have c19b2 : (9223372036854775807 < (x9_4 ++ (a0_3 ++ t177)).size + 1) = False := eq_false (Nat.not_lt.2 c19)
              (try (have c19b3 := c19b2; simp only [ByteArray.size_append] at c19b3))
              obtain rfl := Option.some.inj H
              try go_wp2
              have n0_ := Aside0.mk (blk_drew BK175.out)
              have n1_ := Aside0.mk (below_drew1 HB.out)
              clear BK175
              clear HB
              have BK175 := n0_
              have HB := n1_
              clear n0_ n1_
              refine start_ (n := 8) (S := fun w' => w'.cell? ⟨gb175, 0, none⟩ = some (.string a0_0) ∧ w'.cell? ⟨gb175, 1, none⟩ = some (.string a0_1) ∧ w'.cell? ⟨gb175, 2, none⟩ = some (.string a0_2) ∧ w'.cell? ⟨gb175, 3, none⟩ = some (.string a0_3) ∧ w'.cell? ⟨gb175, 4, none⟩ = some (.string a0_4) ∧ w'.cell? ⟨gb175, 5, none⟩ = some (.string a0_5) ∧ w'.cell? ⟨gb175, 6, none⟩ = some (.string a0_6) ∧ w'.cell? ⟨gb175, 7, none⟩ = some (.string a0_7) ∧ w'.cell? ⟨gb175, 8, none⟩ = some (.string a0_8) ∧ w'.cell? ⟨gb175, 9, none⟩ = some (.string a0_9) ∧ w'.cell? ⟨gb175, 10, none⟩ = some (.string a0_10) ∧ w'.cell? ⟨gb175, 11, none⟩ = some (.string a0_11) ∧ w'.cell? ⟨gb175, 12, none⟩ = some (.string a0_12) ∧ w'.cell? ⟨gb175, 13, none⟩ = some (.string a0_13) ∧ w'.cell? ⟨gb175, 14, none⟩ = some (.string a0_14) ∧ w'.cell? ⟨gb175, 15, none⟩ = some (.string a0_15) ∧ w'.cell? ⟨gb175, 16, none⟩ = some (.string a0_16) ∧ w'.cell? ⟨gb175, 17, none⟩ = some (.string a0_17) ∧ w'.cell? ⟨gb175, 18, none⟩ = some (.string a0_18) ∧ w'.cell? ⟨gb175, 19, none⟩ = some (.string a0_19) ∧ w'.cell? ⟨gb175, 20, none⟩ = some (.string a0_20) ∧ w'.cell? ⟨gb175, 21, none⟩ = some (.string a0_21)) (ds := []) #[false, false, false, false, false, false, false, false] (by kernel_rfl) rfl rfl ⟨(blk_cell BK175.out 0).trans rfl, (blk_cell BK175.out 1).trans rfl, (blk_cell BK175.out 2).trans rfl, (blk_cell BK175.out 3).trans rfl, (blk_cell BK175.out 4).trans rfl, (blk_cell BK175.out 5).trans rfl, (blk_cell BK175.out 6).trans rfl, (blk_cell BK175.out 7).trans rfl, (blk_cell BK175.out 8).trans rfl, (blk_cell BK175.out 9).trans rfl, (blk_cell BK175.out 10).trans rfl, (blk_cell BK175.out 11).trans rfl, (blk_cell BK175.out 12).trans rfl, (blk_cell BK175.out 13).trans rfl, (blk_cell BK175.out 14).trans rfl, (blk_cell BK175.out 15).trans rfl, (blk_cell BK175.out 16).trans rfl, (blk_cell BK175.out 17).trans rfl, (blk_cell BK175.out 18).trans rfl, (blk_cell BK175.out 19).trans rfl, (blk_cell BK175.out 20).trans rfl, (blk_cell BK175.out 21).trans rfl⟩ (fun hHeld => ?_); refine with_tabW impl_tongue_wind.tab5 impl_tongue_wind.bits5 (fun HT_ HW_ => ?_)
              generalize wc.drew = w20 at BK175 HB hHeld ⊢
              refine pure_ (i := 0) (N := some 31) (v := ?_) (a' := ?_) #[true, false, false, false, false, false, false, false] rfl rfl (any_of HT_.out (by kernel_rfl)) (fun _ _ _ h => h) (Or.inl ⟨by rfl, ?_⟩) ?_ ?_
              rotate_left
              · intro w'
                go_simp
                with_reducible rfl
              rotate_left
              · simp only [Act.put, List.setIfInBounds_toArray, List.set_cons_zero, List.set_cons_succ, i64_w, i32_w]
                rfl
              refine pure_ (i := 1) (N := some 32) (v := ?_) (a' := ?_) #[true, true, false, false, false, false, false, false] rfl rfl (any_of HT_.out (by kernel_rfl)) (fun _ _ _ h => h) (Or.inl ⟨by rfl, ?_⟩) ?_ ?_
              rotate_left
              · intro w'
                go_simp
                with_reducible rfl
              rotate_left
              · simp only [Act.put, List.setIfInBounds_toArray, List.set_cons_zero, List.set_cons_succ, i64_w, i32_w]
                rfl
              refine pure_ (i := 3) (N := some 34) (v := ?_) (a' := ?_) #[true, true, false, true, false, false, false, false] rfl rfl (any_of HT_.out (by kernel_rfl)) (fun _ _ _ h => h) (Or.inl ⟨by rfl, ?_⟩) ?_ ?_
              rotate_left
              · intro w'
                go_simp
                with_reducible rfl
              rotate_left
              · simp only [Act.put, List.setIfInBounds_toArray, List.set_cons_zero, List.set_cons_succ, i64_w, i32_w]
                rfl
              refine take_ (i := 2) (N := some 33) (v := ?_) (a' := ?_) #[true, true, true, true, false, false, false, false] rfl rfl (take_ofW HT_.out HW_.out (by kernel_rfl)) (fun _ _ _ h => h) (Or.inl ⟨by rfl, ?_⟩) hHeld ?_ ?_
              rotate_left
              · rintro w' ⟨s0, s1, s2, s3, s4, s5, s6, s7, s8, s9, s10, s11, s12, s13, s14, s15, s16, s17, s18, s19, s20, s21⟩
                go_simp
                with_reducible rfl
              rotate_left
              · simp only [Act.put, List.setIfInBounds_toArray, List.set_cons_zero, List.set_cons_succ, i64_w, i32_w]
                rfl
              refine one_ (i := 4) (N := some 35) #[true, true, true, true, true, false, false, false] rfl rfl (one_of HT_.out (by kernel_rfl)) (by decide) (fun K hK => ?_)
              refine goes_ Tryd.func32 (by kernel_rfl) rfl #[.int .i64 a3] (by rfl) rfl rfl (by (try simp only [List.map_toArray, List.map_cons, List.map_nil]); first | done | rfl | (simp only [List.length_drop, List.length_take]; rfl)) ?_
              with_reducible refine (impl_dec.calls a3 t177 _ A16.out (tab_on HTb.out (by repeat (first | (with_reducible first | exact HB.out | apply below_alloc | apply pw_below_drewN | apply below_drew1 | refine below_set ?_ GE175.out) | exact HB.out)))).mono ?_
              rintro e w21 ⟨rfl, hb⟩
              refine ⟨_, rfl, ?_⟩
              have n0_ := Aside0.mk (blk_below (g := gb175) (o := .cells #[.string a0_0, .string a0_1, .string a0_2, .string a0_3, .string a0_4, .string a0_5, .string a0_6, .string a0_7, .string a0_8, .string a0_9, .string a0_10, .string a0_11, .string a0_12, .string a0_13, .string a0_14, .string a0_15, .string a0_16, .string a0_17, .string a0_18, .string a0_19, .string a0_20, .string a0_21] 44 (0, 0)) (by (with_reducible repeat (first | refine blk_drewN ?_ _ | refine blk_drew ?_ | refine blk_alloc ?_ _)); exact BK175.out) hb)
              have n1_ := Aside0.mk (below_step (by repeat (first | (with_reducible first | exact HB.out | apply below_alloc | apply pw_below_drewN | apply below_drew1 | refine below_set ?_ GE175.out) | exact HB.out)) hb)
              clear BK175
              clear HB
              have BK175 := n0_
              have HB := n1_
              clear n0_ n1_
              (try clear hb)
              (try clear hb2)
              (try clear hk)
              (try clear hi)
              refine hK.out _ _ ⟨(blk_cell BK175.out 0).trans rfl, (blk_cell BK175.out 1).trans rfl, (blk_cell BK175.out 2).trans rfl, (blk_cell BK175.out 3).trans rfl, (blk_cell BK175.out 4).trans rfl, (blk_cell BK175.out 5).trans rfl, (blk_cell BK175.out 6).trans rfl, (blk_cell BK175.out 7).trans rfl, (blk_cell BK175.out 8).trans rfl, (blk_cell BK175.out 9).trans rfl, (blk_cell BK175.out 10).trans rfl, (blk_cell BK175.out 11).trans rfl, (blk_cell BK175.out 12).trans rfl, (blk_cell BK175.out 13).trans rfl, (blk_cell BK175.out 14).trans rfl, (blk_cell BK175.out 15).trans rfl, (blk_cell BK175.out 16).trans rfl, (blk_cell BK175.out 17).trans rfl, (blk_cell BK175.out 18).trans rfl, (blk_cell BK175.out 19).trans rfl, (blk_cell BK175.out 20).trans rfl, (blk_cell BK175.out 21).trans rfl⟩ (fun hHeld => ?_)
              clear hK K
              refine norm_ (a' := ?_) ?_ ?_
              rotate_left
              · show Act.put _ (some 35) _ = _
                simp only [Act.put, List.setIfInBounds_toArray, List.set_cons_zero, List.set_cons_succ, i64_w, i32_w]
                rfl
              refine pure_ (i := 5) (N := some 36) (v := ?_) (a' := ?_) #[true, true, true, true, true, true, false, false] rfl rfl (any_of HT_.out (by kernel_rfl)) (fun _ _ _ h => h) (Or.inl ⟨by rfl, ?_⟩) ?_ ?_
              rotate_left
              · intro w'
                go_simp
                with_reducible rfl
              rotate_left
              · simp only [Act.put, List.setIfInBounds_toArray, List.set_cons_zero, List.set_cons_succ, i64_w, i32_w]
                rfl
              refine pure_ (i := 6) (N := some 37) (v := ?_) (a' := ?_) #[true, true, true, true, true, true, true, false] rfl rfl (any_of HT_.out (by kernel_rfl)) (fun _ _ _ h => h) (Or.inl ⟨by rfl, ?_⟩) ?_ ?_
              rotate_left
              · intro w'
                go_simp
                with_reducible rfl
              rotate_left
              · simp only [Act.put, List.setIfInBounds_toArray, List.set_cons_zero, List.set_cons_succ, i64_w, i32_w]
                rfl
              refine pure_ (i := 7) (N := some 9) (v := ?_) (a' := ?_) #[true, true, true, true, true, true, true, true] rfl rfl (any_of HT_.out (by kernel_rfl)) (fun _ _ _ h => h) (Or.inl ⟨by rfl, ?_⟩) ?_ ?_
              rotate_left
              · intro w'
                go_simp
                with_reducible rfl
              rotate_left
              · simp only [Act.put, List.setIfInBounds_toArray, List.set_cons_zero, List.set_cons_succ, i64_w, i32_w]
                rfl
              refine done_ (done_of HT_.out (by kernel_rfl)) ?_
              try go_wp2
              go_ret
              exact ⟨by first | rfl | (simp [errW_none, errW_some] <;> rfl) | (simp [*, errW_none, errW_some] <;> rfl), by repeat (first | (with_reducible first | exact HB.out | apply below_alloc | apply pw_below_drewN | apply below_drew1 | refine below_set ?_ GE175.out) | exact HB.out)⟩
            · rw [if_neg c19] at H
              exact absurd H (by simp)
          · rw [if_neg c18] at H
            exact absurd H (by simp)
        · rw [if_neg c17] at H
          exact absurd H (by simp)
      · rw [if_neg c15] at H
        have c15b0 : decide (a2 < a3) = false := decide_eq_false c15
        clear c15
        by_cases c22 : a3 < a2
        · rw [if_pos c22] at H
          have c22b0 : decide (a3 < a2) = true := decide_eq_true c22
          clear c22
          replace H := Option.bind_eq_some_iff.mp H
          obtain ⟨t178, A230, H⟩ := H
          replace H : (if a0_4.size + t178.size ≤ 9223372036854775807 then (if x9_4.size + (a0_4 ++ t178).size ≤ 9223372036854775807 then (if (x9_4 ++ (a0_4 ++ t178)).size + 1 ≤ 9223372036854775807 then (some ((x9_4 ++ (a0_4 ++ t178)) ++ (⟨#[46]⟩ : ByteArray))) else (none)) else (none)) else (none)) = some r := H
          have A23 := Aside0.mk A230
          clear A230
          by_cases c24 : a0_4.size + t178.size ≤ 9223372036854775807
          · rw [if_pos c24] at H
            have c24b0 := eq_true c24
            have c24b1 : decide (a0_4.size + t178.size ≤ 9223372036854775807) = true := decide_eq_true c24
            try have c24b2 : (9223372036854775807 < a0_4.size + t178.size) = False := eq_false (Nat.not_lt.2 c24)
            by_cases c25 : x9_4.size + (a0_4 ++ t178).size ≤ 9223372036854775807
            · rw [if_pos c25] at H
              have c25b0 := eq_true c25
              have c25b1 : decide (x9_4.size + (a0_4 ++ t178).size ≤ 9223372036854775807) = true := decide_eq_true c25
              try have c25b2 : (9223372036854775807 < x9_4.size + (a0_4 ++ t178).size) = False := eq_false (Nat.not_lt.2 c25)
              (try (have c25b3 := c25b2; simp only [ByteArray.size_append] at c25b3))
              by_cases c26 : (x9_4 ++ (a0_4 ++ t178)).size + 1 ≤ 9223372036854775807
              · rw [if_pos c26] at H
                have c26b0 := eq_true c26
                have c26b1 : decide ((x9_4 ++ (a0_4 ++ t178)).size + 1 ≤ 9223372036854775807) = true := decide_eq_true c26
                try have c26b2 : (9223372036854775807 < (x9_4 ++ (a0_4 ++ t178)).size + 1) = False := eq_false (Nat.not_lt.2 c26)
                (try (have c26b3 := c26b2; simp only [ByteArray.size_append] at c26b3))
                obtain rfl := Option.some.inj H
                try go_wp2
                have n0_ := Aside0.mk (blk_drew BK175.out)
                have n1_ := Aside0.mk (below_drew1 HB.out)
                clear BK175
                clear HB
                have BK175 := n0_
                have HB := n1_
                clear n0_ n1_
                refine start_ (n := 8) (S := fun w' => w'.cell? ⟨gb175, 0, none⟩ = some (.string a0_0) ∧ w'.cell? ⟨gb175, 1, none⟩ = some (.string a0_1) ∧ w'.cell? ⟨gb175, 2, none⟩ = some (.string a0_2) ∧ w'.cell? ⟨gb175, 3, none⟩ = some (.string a0_3) ∧ w'.cell? ⟨gb175, 4, none⟩ = some (.string a0_4) ∧ w'.cell? ⟨gb175, 5, none⟩ = some (.string a0_5) ∧ w'.cell? ⟨gb175, 6, none⟩ = some (.string a0_6) ∧ w'.cell? ⟨gb175, 7, none⟩ = some (.string a0_7) ∧ w'.cell? ⟨gb175, 8, none⟩ = some (.string a0_8) ∧ w'.cell? ⟨gb175, 9, none⟩ = some (.string a0_9) ∧ w'.cell? ⟨gb175, 10, none⟩ = some (.string a0_10) ∧ w'.cell? ⟨gb175, 11, none⟩ = some (.string a0_11) ∧ w'.cell? ⟨gb175, 12, none⟩ = some (.string a0_12) ∧ w'.cell? ⟨gb175, 13, none⟩ = some (.string a0_13) ∧ w'.cell? ⟨gb175, 14, none⟩ = some (.string a0_14) ∧ w'.cell? ⟨gb175, 15, none⟩ = some (.string a0_15) ∧ w'.cell? ⟨gb175, 16, none⟩ = some (.string a0_16) ∧ w'.cell? ⟨gb175, 17, none⟩ = some (.string a0_17) ∧ w'.cell? ⟨gb175, 18, none⟩ = some (.string a0_18) ∧ w'.cell? ⟨gb175, 19, none⟩ = some (.string a0_19) ∧ w'.cell? ⟨gb175, 20, none⟩ = some (.string a0_20) ∧ w'.cell? ⟨gb175, 21, none⟩ = some (.string a0_21)) (ds := []) #[false, false, false, false, false, false, false, false] (by kernel_rfl) rfl rfl ⟨(blk_cell BK175.out 0).trans rfl, (blk_cell BK175.out 1).trans rfl, (blk_cell BK175.out 2).trans rfl, (blk_cell BK175.out 3).trans rfl, (blk_cell BK175.out 4).trans rfl, (blk_cell BK175.out 5).trans rfl, (blk_cell BK175.out 6).trans rfl, (blk_cell BK175.out 7).trans rfl, (blk_cell BK175.out 8).trans rfl, (blk_cell BK175.out 9).trans rfl, (blk_cell BK175.out 10).trans rfl, (blk_cell BK175.out 11).trans rfl, (blk_cell BK175.out 12).trans rfl, (blk_cell BK175.out 13).trans rfl, (blk_cell BK175.out 14).trans rfl, (blk_cell BK175.out 15).trans rfl, (blk_cell BK175.out 16).trans rfl, (blk_cell BK175.out 17).trans rfl, (blk_cell BK175.out 18).trans rfl, (blk_cell BK175.out 19).trans rfl, (blk_cell BK175.out 20).trans rfl, (blk_cell BK175.out 21).trans rfl⟩ (fun hHeld => ?_); refine with_tabW impl_tongue_wind.tab7 impl_tongue_wind.bits7 (fun HT_ HW_ => ?_)
                generalize wc.drew = w27 at BK175 HB hHeld ⊢
                refine pure_ (i := 0) (N := some 42) (v := ?_) (a' := ?_) #[true, false, false, false, false, false, false, false] rfl rfl (any_of HT_.out (by kernel_rfl)) (fun _ _ _ h => h) (Or.inl ⟨by rfl, ?_⟩) ?_ ?_
                rotate_left
                · intro w'
                  go_simp
                  with_reducible rfl
                rotate_left
                · simp only [Act.put, List.setIfInBounds_toArray, List.set_cons_zero, List.set_cons_succ, i64_w, i32_w]
                  rfl
                refine pure_ (i := 1) (N := some 43) (v := ?_) (a' := ?_) #[true, true, false, false, false, false, false, false] rfl rfl (any_of HT_.out (by kernel_rfl)) (fun _ _ _ h => h) (Or.inl ⟨by rfl, ?_⟩) ?_ ?_
                rotate_left
                · intro w'
                  go_simp
                  with_reducible rfl
                rotate_left
                · simp only [Act.put, List.setIfInBounds_toArray, List.set_cons_zero, List.set_cons_succ, i64_w, i32_w]
                  rfl
                refine pure_ (i := 3) (N := some 45) (v := ?_) (a' := ?_) #[true, true, false, true, false, false, false, false] rfl rfl (any_of HT_.out (by kernel_rfl)) (fun _ _ _ h => h) (Or.inl ⟨by rfl, ?_⟩) ?_ ?_
                rotate_left
                · intro w'
                  go_simp
                  with_reducible rfl
                rotate_left
                · simp only [Act.put, List.setIfInBounds_toArray, List.set_cons_zero, List.set_cons_succ, i64_w, i32_w]
                  rfl
                refine take_ (i := 2) (N := some 44) (v := ?_) (a' := ?_) #[true, true, true, true, false, false, false, false] rfl rfl (take_ofW HT_.out HW_.out (by kernel_rfl)) (fun _ _ _ h => h) (Or.inl ⟨by rfl, ?_⟩) hHeld ?_ ?_
                rotate_left
                · rintro w' ⟨s0, s1, s2, s3, s4, s5, s6, s7, s8, s9, s10, s11, s12, s13, s14, s15, s16, s17, s18, s19, s20, s21⟩
                  go_simp
                  with_reducible rfl
                rotate_left
                · simp only [Act.put, List.setIfInBounds_toArray, List.set_cons_zero, List.set_cons_succ, i64_w, i32_w]
                  rfl
                refine one_ (i := 4) (N := some 46) #[true, true, true, true, true, false, false, false] rfl rfl (one_of HT_.out (by kernel_rfl)) (by decide) (fun K hK => ?_)
                refine goes_ Tryd.func32 (by kernel_rfl) rfl #[.int .i64 a3] (by rfl) rfl rfl (by (try simp only [List.map_toArray, List.map_cons, List.map_nil]); first | done | rfl | (simp only [List.length_drop, List.length_take]; rfl)) ?_
                with_reducible refine (impl_dec.calls a3 t178 _ A23.out (tab_on HTb.out (by repeat (first | (with_reducible first | exact HB.out | apply below_alloc | apply pw_below_drewN | apply below_drew1 | refine below_set ?_ GE175.out) | exact HB.out)))).mono ?_
                rintro e w28 ⟨rfl, hb⟩
                refine ⟨_, rfl, ?_⟩
                have n0_ := Aside0.mk (blk_below (g := gb175) (o := .cells #[.string a0_0, .string a0_1, .string a0_2, .string a0_3, .string a0_4, .string a0_5, .string a0_6, .string a0_7, .string a0_8, .string a0_9, .string a0_10, .string a0_11, .string a0_12, .string a0_13, .string a0_14, .string a0_15, .string a0_16, .string a0_17, .string a0_18, .string a0_19, .string a0_20, .string a0_21] 44 (0, 0)) (by (with_reducible repeat (first | refine blk_drewN ?_ _ | refine blk_drew ?_ | refine blk_alloc ?_ _)); exact BK175.out) hb)
                have n1_ := Aside0.mk (below_step (by repeat (first | (with_reducible first | exact HB.out | apply below_alloc | apply pw_below_drewN | apply below_drew1 | refine below_set ?_ GE175.out) | exact HB.out)) hb)
                clear BK175
                clear HB
                have BK175 := n0_
                have HB := n1_
                clear n0_ n1_
                (try clear hb)
                (try clear hb2)
                (try clear hk)
                (try clear hi)
                refine hK.out _ _ ⟨(blk_cell BK175.out 0).trans rfl, (blk_cell BK175.out 1).trans rfl, (blk_cell BK175.out 2).trans rfl, (blk_cell BK175.out 3).trans rfl, (blk_cell BK175.out 4).trans rfl, (blk_cell BK175.out 5).trans rfl, (blk_cell BK175.out 6).trans rfl, (blk_cell BK175.out 7).trans rfl, (blk_cell BK175.out 8).trans rfl, (blk_cell BK175.out 9).trans rfl, (blk_cell BK175.out 10).trans rfl, (blk_cell BK175.out 11).trans rfl, (blk_cell BK175.out 12).trans rfl, (blk_cell BK175.out 13).trans rfl, (blk_cell BK175.out 14).trans rfl, (blk_cell BK175.out 15).trans rfl, (blk_cell BK175.out 16).trans rfl, (blk_cell BK175.out 17).trans rfl, (blk_cell BK175.out 18).trans rfl, (blk_cell BK175.out 19).trans rfl, (blk_cell BK175.out 20).trans rfl, (blk_cell BK175.out 21).trans rfl⟩ (fun hHeld => ?_)
                clear hK K
                refine norm_ (a' := ?_) ?_ ?_
                rotate_left
                · show Act.put _ (some 46) _ = _
                  simp only [Act.put, List.setIfInBounds_toArray, List.set_cons_zero, List.set_cons_succ, i64_w, i32_w]
                  rfl
                refine pure_ (i := 5) (N := some 47) (v := ?_) (a' := ?_) #[true, true, true, true, true, true, false, false] rfl rfl (any_of HT_.out (by kernel_rfl)) (fun _ _ _ h => h) (Or.inl ⟨by rfl, ?_⟩) ?_ ?_
                rotate_left
                · intro w'
                  go_simp
                  with_reducible rfl
                rotate_left
                · simp only [Act.put, List.setIfInBounds_toArray, List.set_cons_zero, List.set_cons_succ, i64_w, i32_w]
                  rfl
                refine pure_ (i := 6) (N := some 48) (v := ?_) (a' := ?_) #[true, true, true, true, true, true, true, false] rfl rfl (any_of HT_.out (by kernel_rfl)) (fun _ _ _ h => h) (Or.inl ⟨by rfl, ?_⟩) ?_ ?_
                rotate_left
                · intro w'
                  go_simp
                  with_reducible rfl
                rotate_left
                · simp only [Act.put, List.setIfInBounds_toArray, List.set_cons_zero, List.set_cons_succ, i64_w, i32_w]
                  rfl
                refine pure_ (i := 7) (N := some 9) (v := ?_) (a' := ?_) #[true, true, true, true, true, true, true, true] rfl rfl (any_of HT_.out (by kernel_rfl)) (fun _ _ _ h => h) (Or.inl ⟨by rfl, ?_⟩) ?_ ?_
                rotate_left
                · intro w'
                  go_simp
                  with_reducible rfl
                rotate_left
                · simp only [Act.put, List.setIfInBounds_toArray, List.set_cons_zero, List.set_cons_succ, i64_w, i32_w]
                  rfl
                refine done_ (done_of HT_.out (by kernel_rfl)) ?_
                try go_wp2
                go_ret
                exact ⟨by first | rfl | (simp [errW_none, errW_some] <;> rfl) | (simp [*, errW_none, errW_some] <;> rfl), by repeat (first | (with_reducible first | exact HB.out | apply below_alloc | apply pw_below_drewN | apply below_drew1 | refine below_set ?_ GE175.out) | exact HB.out)⟩
              · rw [if_neg c26] at H
                exact absurd H (by simp)
            · rw [if_neg c25] at H
              exact absurd H (by simp)
          · rw [if_neg c24] at H
            exact absurd H (by simp)
        · rw [if_neg c22] at H
          have c22b0 : decide (a3 < a2) = false := decide_eq_false c22
          clear c22
          by_cases c29 : x9_4.size + 1 ≤ 9223372036854775807
          · rw [if_pos c29] at H
            have c29b0 := eq_true c29
            have c29b1 : decide (x9_4.size + 1 ≤ 9223372036854775807) = true := decide_eq_true c29
            try have c29b2 : (9223372036854775807 < x9_4.size + 1) = False := eq_false (Nat.not_lt.2 c29)
            obtain rfl := Option.some.inj H
            go_wp2
            go_ret
            exact ⟨by first | rfl | (simp [errW_none, errW_some] <;> rfl) | (simp [*, errW_none, errW_some] <;> rfl), by repeat (first | (with_reducible first | exact HB.out | apply below_alloc | apply pw_below_drewN | apply below_drew1 | refine below_set ?_ GE175.out) | exact HB.out)⟩
          · rw [if_neg c29] at H
            exact absurd H (by simp)

end Go.Proofs.YtllkijlmjapleaaDoor.QFnPhrases
