-- Written by a program of this session out of the printer's texts and contracts of its own.
import Derived.Test.YtllkijlmjapleaaDoorQFnExactReadPhrasex0
import Derived.Test.YtllkijlmjapleaaDoorQFnExactReadPhrasex5
namespace Go.Proofs.YtllkijlmjapleaaDoor.QFnExactReadPhrase
open Go.RowKit Go.Proofs.YtllkijlmjapleaaDoorW.PrintWords Go.Proofs.YtllkijlmjapleaaDoorW.PrintLast Go.Proofs.YtllkijlmjapleaaDoorW.PrintMore
attribute [local go_sem] max2_int min2_int max_two min_two max_three min_three max_four min_four   -- for this text's walks alone
set_option linter.unusedVariables false
set_option linter.unusedSimpArgs false

/-! ### impl_tongue_rain: function 23 -/
def impl_tongue_rain.f (a0_0 : ByteArray) (a0_1 : ByteArray) (a0_2 : ByteArray) (a0_3 : ByteArray) (a0_4 : ByteArray) (a0_5 : ByteArray) (a0_6 : ByteArray) (a0_7 : ByteArray) (a0_8 : ByteArray) (a0_9 : ByteArray) (a0_10 : ByteArray) (a0_11 : ByteArray) (a0_12 : ByteArray) (a0_13 : ByteArray) (a0_14 : ByteArray) (a0_15 : ByteArray) (a0_16 : ByteArray) (a0_17 : ByteArray) (a0_18 : ByteArray) (a0_19 : ByteArray) (a0_20 : ByteArray) (a0_21 : ByteArray) (a1 : Int) (a2 : Int) : Option (ByteArray) := if a1 = 0 then (if a0_5.size + 1 ≤ 9223372036854775807 then (some (a0_5 ++ (⟨#[46]⟩ : ByteArray))) else (none)) else (if 0 < a1 then (if a1 < 4 then (if a2 = 1 then (if (tgAt a0_0 a0_1 a0_2 a0_3 a0_4 a0_5 a0_6 a0_7 a0_8 a0_9 a0_10 a0_11 a0_12 a0_13 a0_14 a0_15 a0_16 a0_17 a0_18 a0_19 a0_20 a0_21 (18 + a1.toNat)).size + a0_6.size ≤ 9223372036854775807 then ((impl_dec.f a2).bind fun t185 => (if ((tgAt a0_0 a0_1 a0_2 a0_3 a0_4 a0_5 a0_6 a0_7 a0_8 a0_9 a0_10 a0_11 a0_12 a0_13 a0_14 a0_15 a0_16 a0_17 a0_18 a0_19 a0_20 a0_21 (18 + a1.toNat)) ++ a0_6).size + t185.size ≤ 9223372036854775807 then (if (((tgAt a0_0 a0_1 a0_2 a0_3 a0_4 a0_5 a0_6 a0_7 a0_8 a0_9 a0_10 a0_11 a0_12 a0_13 a0_14 a0_15 a0_16 a0_17 a0_18 a0_19 a0_20 a0_21 (18 + a1.toNat)) ++ a0_6) ++ t185).size + 1 ≤ 9223372036854775807 then (if ((((tgAt a0_0 a0_1 a0_2 a0_3 a0_4 a0_5 a0_6 a0_7 a0_8 a0_9 a0_10 a0_11 a0_12 a0_13 a0_14 a0_15 a0_16 a0_17 a0_18 a0_19 a0_20 a0_21 (18 + a1.toNat)) ++ a0_6) ++ t185) ++ (⟨#[32]⟩ : ByteArray)).size + a0_7.size ≤ 9223372036854775807 then (if (((((tgAt a0_0 a0_1 a0_2 a0_3 a0_4 a0_5 a0_6 a0_7 a0_8 a0_9 a0_10 a0_11 a0_12 a0_13 a0_14 a0_15 a0_16 a0_17 a0_18 a0_19 a0_20 a0_21 (18 + a1.toNat)) ++ a0_6) ++ t185) ++ (⟨#[32]⟩ : ByteArray)) ++ a0_7).size + 1 ≤ 9223372036854775807 then (some ((((((tgAt a0_0 a0_1 a0_2 a0_3 a0_4 a0_5 a0_6 a0_7 a0_8 a0_9 a0_10 a0_11 a0_12 a0_13 a0_14 a0_15 a0_16 a0_17 a0_18 a0_19 a0_20 a0_21 (18 + a1.toNat)) ++ a0_6) ++ t185) ++ (⟨#[32]⟩ : ByteArray)) ++ a0_7) ++ (⟨#[46]⟩ : ByteArray))) else (none)) else (none)) else (none)) else (none))) else (none)) else (if (tgAt a0_0 a0_1 a0_2 a0_3 a0_4 a0_5 a0_6 a0_7 a0_8 a0_9 a0_10 a0_11 a0_12 a0_13 a0_14 a0_15 a0_16 a0_17 a0_18 a0_19 a0_20 a0_21 (18 + a1.toNat)).size + a0_6.size ≤ 9223372036854775807 then ((impl_dec.f a2).bind fun t186 => (if ((tgAt a0_0 a0_1 a0_2 a0_3 a0_4 a0_5 a0_6 a0_7 a0_8 a0_9 a0_10 a0_11 a0_12 a0_13 a0_14 a0_15 a0_16 a0_17 a0_18 a0_19 a0_20 a0_21 (18 + a1.toNat)) ++ a0_6).size + t186.size ≤ 9223372036854775807 then (if (((tgAt a0_0 a0_1 a0_2 a0_3 a0_4 a0_5 a0_6 a0_7 a0_8 a0_9 a0_10 a0_11 a0_12 a0_13 a0_14 a0_15 a0_16 a0_17 a0_18 a0_19 a0_20 a0_21 (18 + a1.toNat)) ++ a0_6) ++ t186).size + 1 ≤ 9223372036854775807 then (if ((((tgAt a0_0 a0_1 a0_2 a0_3 a0_4 a0_5 a0_6 a0_7 a0_8 a0_9 a0_10 a0_11 a0_12 a0_13 a0_14 a0_15 a0_16 a0_17 a0_18 a0_19 a0_20 a0_21 (18 + a1.toNat)) ++ a0_6) ++ t186) ++ (⟨#[32]⟩ : ByteArray)).size + a0_8.size ≤ 9223372036854775807 then (if (((((tgAt a0_0 a0_1 a0_2 a0_3 a0_4 a0_5 a0_6 a0_7 a0_8 a0_9 a0_10 a0_11 a0_12 a0_13 a0_14 a0_15 a0_16 a0_17 a0_18 a0_19 a0_20 a0_21 (18 + a1.toNat)) ++ a0_6) ++ t186) ++ (⟨#[32]⟩ : ByteArray)) ++ a0_8).size + 1 ≤ 9223372036854775807 then (some ((((((tgAt a0_0 a0_1 a0_2 a0_3 a0_4 a0_5 a0_6 a0_7 a0_8 a0_9 a0_10 a0_11 a0_12 a0_13 a0_14 a0_15 a0_16 a0_17 a0_18 a0_19 a0_20 a0_21 (18 + a1.toNat)) ++ a0_6) ++ t186) ++ (⟨#[32]⟩ : ByteArray)) ++ a0_8) ++ (⟨#[46]⟩ : ByteArray))) else (none)) else (none)) else (none)) else (none))) else (none))) else (none)) else (none))
def impl_tongue_rain.T6 : Bool × List (List Nat × List Nat) := (true, [([], []), ([], []), ([1, 0], [0, 1]), ([2], [2]), ([], []), ([4], [4]), ([3, 5], [3, 5]), ([], []), ([7], [7]), ([6, 8], [6, 8]), ([9], [9]), ([], []), ([10, 11], [10, 11]), ([12], [12]), ([13, 8, 0, 1, 2, 3, 4, 5, 6, 7, 8, 9, 10, 11, 12, 13], [13])])
def impl_tongue_rain.B6 : List Nat := [0, 0, 3, 7, 0, 16, 63, 0, 128, 511, 1023, 0, 4095, 8191, 16383]
theorem impl_tongue_rain.tab6 : rtab .any (opsOf Tryd.f23 6) = impl_tongue_rain.T6 := by kernel_rfl
theorem impl_tongue_rain.bits6 : waitsOk impl_tongue_rain.T6.2 impl_tongue_rain.B6 = true := by kernel_rfl
set_option maxHeartbeats 8000000 in
set_option maxRecDepth 100000 in
theorem impl_tongue_rain.calls (a0_0 : ByteArray) (a0_1 : ByteArray) (a0_2 : ByteArray) (a0_3 : ByteArray) (a0_4 : ByteArray) (a0_5 : ByteArray) (a0_6 : ByteArray) (a0_7 : ByteArray) (a0_8 : ByteArray) (a0_9 : ByteArray) (a0_10 : ByteArray) (a0_11 : ByteArray) (a0_12 : ByteArray) (a0_13 : ByteArray) (a0_14 : ByteArray) (a0_15 : ByteArray) (a0_16 : ByteArray) (a0_17 : ByteArray) (a0_18 : ByteArray) (a0_19 : ByteArray) (a0_20 : ByteArray) (a0_21 : ByteArray) (a1 : Int) (a2 : Int) (r : ByteArray) (w : World) (h : impl_tongue_rain.f a0_0 a0_1 a0_2 a0_3 a0_4 a0_5 a0_6 a0_7 a0_8 a0_9 a0_10 a0_11 a0_12 a0_13 a0_14 a0_15 a0_16 a0_17 a0_18 a0_19 a0_20 a0_21 a1 a2 = some r) (hT : Lib.TabIs Tryd.prog w "internal/strconv.uint64pow10" .u64 Lib.pow10Tab) :
    Calls Tryd.prog 23 #[.agg #[.string a0_0, .string a0_1, .string a0_2, .string a0_3, .string a0_4, .string a0_5, .string a0_6, .string a0_7, .string a0_8, .string a0_9, .string a0_10, .string a0_11, .string a0_12, .string a0_13, .string a0_14, .string a0_15, .string a0_16, .string a0_17, .string a0_18, .string a0_19, .string a0_20, .string a0_21], .int .i64 a1, .int .i64 a2] w fun e w' => e = .returned (.string r) ∧ Below w.heap.size w w' := by
  have HTb := Aside0.mk hT; clear hT
  have hu44 := Tryd.underlying44
  have HB := Aside0.mk (Below.refl w.heap.size w)
  have H : (if a1 = 0 then (if a0_5.size + 1 ≤ 9223372036854775807 then (some (a0_5 ++ (⟨#[46]⟩ : ByteArray))) else (none)) else (if 0 < a1 then (if a1 < 4 then (if a2 = 1 then (if (tgAt a0_0 a0_1 a0_2 a0_3 a0_4 a0_5 a0_6 a0_7 a0_8 a0_9 a0_10 a0_11 a0_12 a0_13 a0_14 a0_15 a0_16 a0_17 a0_18 a0_19 a0_20 a0_21 (18 + a1.toNat)).size + a0_6.size ≤ 9223372036854775807 then ((impl_dec.f a2).bind fun t185 => (if ((tgAt a0_0 a0_1 a0_2 a0_3 a0_4 a0_5 a0_6 a0_7 a0_8 a0_9 a0_10 a0_11 a0_12 a0_13 a0_14 a0_15 a0_16 a0_17 a0_18 a0_19 a0_20 a0_21 (18 + a1.toNat)) ++ a0_6).size + t185.size ≤ 9223372036854775807 then (if (((tgAt a0_0 a0_1 a0_2 a0_3 a0_4 a0_5 a0_6 a0_7 a0_8 a0_9 a0_10 a0_11 a0_12 a0_13 a0_14 a0_15 a0_16 a0_17 a0_18 a0_19 a0_20 a0_21 (18 + a1.toNat)) ++ a0_6) ++ t185).size + 1 ≤ 9223372036854775807 then (if ((((tgAt a0_0 a0_1 a0_2 a0_3 a0_4 a0_5 a0_6 a0_7 a0_8 a0_9 a0_10 a0_11 a0_12 a0_13 a0_14 a0_15 a0_16 a0_17 a0_18 a0_19 a0_20 a0_21 (18 + a1.toNat)) ++ a0_6) ++ t185) ++ (⟨#[32]⟩ : ByteArray)).size + a0_7.size ≤ 9223372036854775807 then (if (((((tgAt a0_0 a0_1 a0_2 a0_3 a0_4 a0_5 a0_6 a0_7 a0_8 a0_9 a0_10 a0_11 a0_12 a0_13 a0_14 a0_15 a0_16 a0_17 a0_18 a0_19 a0_20 a0_21 (18 + a1.toNat)) ++ a0_6) ++ t185) ++ (⟨#[32]⟩ : ByteArray)) ++ a0_7).size + 1 ≤ 9223372036854775807 then (some ((((((tgAt a0_0 a0_1 a0_2 a0_3 a0_4 a0_5 a0_6 a0_7 a0_8 a0_9 a0_10 a0_11 a0_12 a0_13 a0_14 a0_15 a0_16 a0_17 a0_18 a0_19 a0_20 a0_21 (18 + a1.toNat)) ++ a0_6) ++ t185) ++ (⟨#[32]⟩ : ByteArray)) ++ a0_7) ++ (⟨#[46]⟩ : ByteArray))) else (none)) else (none)) else (none)) else (none))) else (none)) else (if (tgAt a0_0 a0_1 a0_2 a0_3 a0_4 a0_5 a0_6 a0_7 a0_8 a0_9 a0_10 a0_11 a0_12 a0_13 a0_14 a0_15 a0_16 a0_17 a0_18 a0_19 a0_20 a0_21 (18 + a1.toNat)).size + a0_6.size ≤ 9223372036854775807 then ((impl_dec.f a2).bind fun t186 => (if ((tgAt a0_0 a0_1 a0_2 a0_3 a0_4 a0_5 a0_6 a0_7 a0_8 a0_9 a0_10 a0_11 a0_12 a0_13 a0_14 a0_15 a0_16 a0_17 a0_18 a0_19 a0_20 a0_21 (18 + a1.toNat)) ++ a0_6).size + t186.size ≤ 9223372036854775807 then (if (((tgAt a0_0 a0_1 a0_2 a0_3 a0_4 a0_5 a0_6 a0_7 a0_8 a0_9 a0_10 a0_11 a0_12 a0_13 a0_14 a0_15 a0_16 a0_17 a0_18 a0_19 a0_20 a0_21 (18 + a1.toNat)) ++ a0_6) ++ t186).size + 1 ≤ 9223372036854775807 then (if ((((tgAt a0_0 a0_1 a0_2 a0_3 a0_4 a0_5 a0_6 a0_7 a0_8 a0_9 a0_10 a0_11 a0_12 a0_13 a0_14 a0_15 a0_16 a0_17 a0_18 a0_19 a0_20 a0_21 (18 + a1.toNat)) ++ a0_6) ++ t186) ++ (⟨#[32]⟩ : ByteArray)).size + a0_8.size ≤ 9223372036854775807 then (if (((((tgAt a0_0 a0_1 a0_2 a0_3 a0_4 a0_5 a0_6 a0_7 a0_8 a0_9 a0_10 a0_11 a0_12 a0_13 a0_14 a0_15 a0_16 a0_17 a0_18 a0_19 a0_20 a0_21 (18 + a1.toNat)) ++ a0_6) ++ t186) ++ (⟨#[32]⟩ : ByteArray)) ++ a0_8).size + 1 ≤ 9223372036854775807 then (some ((((((tgAt a0_0 a0_1 a0_2 a0_3 a0_4 a0_5 a0_6 a0_7 a0_8 a0_9 a0_10 a0_11 a0_12 a0_13 a0_14 a0_15 a0_16 a0_17 a0_18 a0_19 a0_20 a0_21 (18 + a1.toNat)) ++ a0_6) ++ t186) ++ (⟨#[32]⟩ : ByteArray)) ++ a0_8) ++ (⟨#[46]⟩ : ByteArray))) else (none)) else (none)) else (none)) else (none))) else (none))) else (none)) else (none))) = some r := h
  clear h
  by_cases c4 : a1 = 0
  · rw [if_pos c4] at H
    have c4b0 : (a1 == 0) = true := beq_iff_eq.mpr c4
    have c4b1 : (a1 != 0) = false := bne_eq_false_iff_eq.mpr c4
    clear c4
    by_cases c5 : a0_5.size + 1 ≤ 9223372036854775807
    · rw [if_pos c5] at H
      have c5b0 := eq_true c5
      have c5b1 : decide (a0_5.size + 1 ≤ 9223372036854775807) = true := decide_eq_true c5
      try have c5b2 : (9223372036854775807 < a0_5.size + 1) = False := eq_false (Nat.not_lt.2 c5)
      obtain rfl := Option.some.inj H
      go_enter Tryd.func23, Tryd.ntmps23
      go_wp2_with (first | ((with_reducible refine gate_dst (N := 3) rfl ?_); refine box_event ?hg (N := 3) ?hd (cs := #[.string a0_0, .string a0_1, .string a0_2, .string a0_3, .string a0_4, .string a0_5, .string a0_6, .string a0_7, .string a0_8, .string a0_9, .string a0_10, .string a0_11, .string a0_12, .string a0_13, .string a0_14, .string a0_15, .string a0_16, .string a0_17, .string a0_18, .string a0_19, .string a0_20, .string a0_21]) (t := 44) ?hr ?_; (case hd => rfl); (case hg => rfl); (case hr => first | (go_simp; done) | (go_simp; rfl)); intro gb184 hg w6 hbox hb; have n0_ := Aside0.mk (below_step (by repeat (first | (with_reducible first | exact HB.out | apply below_alloc | apply pw_below_drewN | apply below_drew1) | exact HB.out)) hb); have n1_ := Aside0.mk (hbox); have n2_ := Aside0.mk ((by rw [hg]; exact (below_size (by repeat (first | (with_reducible first | exact HB.out | apply below_alloc | apply pw_below_drewN | apply below_drew1) | exact HB.out))) : w.heap.size ≤ gb184)); have n3_ := Aside0.mk ((by rw [hg]; exact (below_size (by repeat (first | (with_reducible first | exact HB.out | apply below_alloc | apply pw_below_drewN | apply below_drew1) | exact HB.out))) : w.heap.size ≤ gb184)); clear HB; have HB := n0_; have BK184 := n1_; have GW184 := n2_; have GE184 := n3_; clear n0_ n1_ n2_ n3_; clear hb hbox hg; have hcz7_0 : w6.cell? ⟨gb184, 0, none⟩ = some (.string a0_0) := (blk_cell BK184.out 0).trans rfl; have hcz7_1 : w6.cell? ⟨gb184, 1, none⟩ = some (.string a0_1) := (blk_cell BK184.out 1).trans rfl; have hcz7_2 : w6.cell? ⟨gb184, 2, none⟩ = some (.string a0_2) := (blk_cell BK184.out 2).trans rfl; have hcz7_3 : w6.cell? ⟨gb184, 3, none⟩ = some (.string a0_3) := (blk_cell BK184.out 3).trans rfl; have hcz7_4 : w6.cell? ⟨gb184, 4, none⟩ = some (.string a0_4) := (blk_cell BK184.out 4).trans rfl; have hcz7_5 : w6.cell? ⟨gb184, 5, none⟩ = some (.string a0_5) := (blk_cell BK184.out 5).trans rfl; have hcz7_6 : w6.cell? ⟨gb184, 6, none⟩ = some (.string a0_6) := (blk_cell BK184.out 6).trans rfl; have hcz7_7 : w6.cell? ⟨gb184, 7, none⟩ = some (.string a0_7) := (blk_cell BK184.out 7).trans rfl; have hcz7_8 : w6.cell? ⟨gb184, 8, none⟩ = some (.string a0_8) := (blk_cell BK184.out 8).trans rfl; have hcz7_9 : w6.cell? ⟨gb184, 9, none⟩ = some (.string a0_9) := (blk_cell BK184.out 9).trans rfl; have hcz7_10 : w6.cell? ⟨gb184, 10, none⟩ = some (.string a0_10) := (blk_cell BK184.out 10).trans rfl; have hcz7_11 : w6.cell? ⟨gb184, 11, none⟩ = some (.string a0_11) := (blk_cell BK184.out 11).trans rfl; have hcz7_12 : w6.cell? ⟨gb184, 12, none⟩ = some (.string a0_12) := (blk_cell BK184.out 12).trans rfl; have hcz7_13 : w6.cell? ⟨gb184, 13, none⟩ = some (.string a0_13) := (blk_cell BK184.out 13).trans rfl; have hcz7_14 : w6.cell? ⟨gb184, 14, none⟩ = some (.string a0_14) := (blk_cell BK184.out 14).trans rfl; have hcz7_15 : w6.cell? ⟨gb184, 15, none⟩ = some (.string a0_15) := (blk_cell BK184.out 15).trans rfl; have hcz7_16 : w6.cell? ⟨gb184, 16, none⟩ = some (.string a0_16) := (blk_cell BK184.out 16).trans rfl; have hcz7_17 : w6.cell? ⟨gb184, 17, none⟩ = some (.string a0_17) := (blk_cell BK184.out 17).trans rfl; have hcz7_18 : w6.cell? ⟨gb184, 18, none⟩ = some (.string a0_18) := (blk_cell BK184.out 18).trans rfl; have hcz7_19 : w6.cell? ⟨gb184, 19, none⟩ = some (.string a0_19) := (blk_cell BK184.out 19).trans rfl; have hcz7_20 : w6.cell? ⟨gb184, 20, none⟩ = some (.string a0_20) := (blk_cell BK184.out 20).trans rfl; have hcz7_21 : w6.cell? ⟨gb184, 21, none⟩ = some (.string a0_21) := (blk_cell BK184.out 21).trans rfl; have hfz7_0 := blk_frozen BK184.out 0; have hfz7_1 := blk_frozen BK184.out 1; have hfz7_2 := blk_frozen BK184.out 2; have hfz7_3 := blk_frozen BK184.out 3; have hfz7_4 := blk_frozen BK184.out 4; have hfz7_5 := blk_frozen BK184.out 5; have hfz7_6 := blk_frozen BK184.out 6; have hfz7_7 := blk_frozen BK184.out 7; have hfz7_8 := blk_frozen BK184.out 8; have hfz7_9 := blk_frozen BK184.out 9; have hfz7_10 := blk_frozen BK184.out 10; have hfz7_11 := blk_frozen BK184.out 11; have hfz7_12 := blk_frozen BK184.out 12; have hfz7_13 := blk_frozen BK184.out 13; have hfz7_14 := blk_frozen BK184.out 14; have hfz7_15 := blk_frozen BK184.out 15; have hfz7_16 := blk_frozen BK184.out 16; have hfz7_17 := blk_frozen BK184.out 17; have hfz7_18 := blk_frozen BK184.out 18; have hfz7_19 := blk_frozen BK184.out 19; have hfz7_20 := blk_frozen BK184.out 20; have hfz7_21 := blk_frozen BK184.out 21))
      go_ret
      exact ⟨by first | rfl | (simp [errW_none, errW_some] <;> rfl) | (simp [*, errW_none, errW_some] <;> rfl), by repeat (first | (with_reducible first | exact HB.out | apply below_alloc | apply pw_below_drewN | apply below_drew1 | refine below_set ?_ GE184.out) | exact HB.out)⟩
    · rw [if_neg c5] at H
      exact absurd H (by simp)
  · rw [if_neg c4] at H
    have lo_ : 0 < a1 := by
      by_cases h : 0 < a1
      · exact h
      · rw [if_neg h] at H; exact absurd H (by simp)
    rw [if_pos lo_] at H
    have hi_ : a1 < 4 := by
      by_cases h : a1 < 4
      · exact h
      · rw [if_neg h] at H; exact absurd H (by simp)
    rw [if_pos hi_] at H
    have hsd := tgAt_cell a0_0 a0_1 a0_2 a0_3 a0_4 a0_5 a0_6 a0_7 a0_8 a0_9 a0_10 a0_11 a0_12 a0_13 a0_14 a0_15 a0_16 a0_17 a0_18 a0_19 a0_20 a0_21 (18 + a1.toNat) (by omega)
    generalize tgAt a0_0 a0_1 a0_2 a0_3 a0_4 a0_5 a0_6 a0_7 a0_8 a0_9 a0_10 a0_11 a0_12 a0_13 a0_14 a0_15 a0_16 a0_17 a0_18 a0_19 a0_20 a0_21 (18 + a1.toNat) = sd at H hsd
    have hsdc := Aside0.mk hsd
    clear hsd
    have lo0_ : 0 ≤ a1 := by omega
    have ixd_ : decide (0 ≤ a1 ∧ a1 < 4) = true := decide_eq_true ⟨lo0_, hi_⟩
    have c4b0 : (a1 == 0) = false := beq_eq_false_iff_ne.mpr c4
    have c4b1 : (a1 != 0) = true := bne_iff_ne.mpr c4
    by_cases c8 : a2 = 1
    · rw [if_pos c8] at H
      have c8b0 : (a2 == 1) = true := beq_iff_eq.mpr c8
      have c8b1 : (a2 != 1) = false := bne_eq_false_iff_eq.mpr c8
      clear c8
      by_cases c9 : sd.size + a0_6.size ≤ 9223372036854775807
      · rw [if_pos c9] at H
        have c9b0 := eq_true c9
        have c9b1 : decide (sd.size + a0_6.size ≤ 9223372036854775807) = true := decide_eq_true c9
        try have c9b2 : (9223372036854775807 < sd.size + a0_6.size) = False := eq_false (Nat.not_lt.2 c9)
        replace H := Option.bind_eq_some_iff.mp H
        obtain ⟨t185, A100, H⟩ := H
        replace H : (if (sd ++ a0_6).size + t185.size ≤ 9223372036854775807 then (if ((sd ++ a0_6) ++ t185).size + 1 ≤ 9223372036854775807 then (if (((sd ++ a0_6) ++ t185) ++ (⟨#[32]⟩ : ByteArray)).size + a0_7.size ≤ 9223372036854775807 then (if ((((sd ++ a0_6) ++ t185) ++ (⟨#[32]⟩ : ByteArray)) ++ a0_7).size + 1 ≤ 9223372036854775807 then (some (((((sd ++ a0_6) ++ t185) ++ (⟨#[32]⟩ : ByteArray)) ++ a0_7) ++ (⟨#[46]⟩ : ByteArray))) else (none)) else (none)) else (none)) else (none)) = some r := H
        have A10 := Aside0.mk A100
        clear A100
        by_cases c11 : (sd ++ a0_6).size + t185.size ≤ 9223372036854775807
        · rw [if_pos c11] at H
          have c11b0 := eq_true c11
          have c11b1 : decide ((sd ++ a0_6).size + t185.size ≤ 9223372036854775807) = true := decide_eq_true c11
          try have c11b2 : (9223372036854775807 < (sd ++ a0_6).size + t185.size) = False := eq_false (Nat.not_lt.2 c11)
          (try (have c11b3 := c11b2; simp only [ByteArray.size_append] at c11b3))
          by_cases c12 : ((sd ++ a0_6) ++ t185).size + 1 ≤ 9223372036854775807
          · rw [if_pos c12] at H
            have c12b0 := eq_true c12
            have c12b1 : decide (((sd ++ a0_6) ++ t185).size + 1 ≤ 9223372036854775807) = true := decide_eq_true c12
            try have c12b2 : (9223372036854775807 < ((sd ++ a0_6) ++ t185).size + 1) = False := eq_false (Nat.not_lt.2 c12)
            (try (have c12b3 := c12b2; simp only [ByteArray.size_append] at c12b3))
            by_cases c13 : (((sd ++ a0_6) ++ t185) ++ (⟨#[32]⟩ : ByteArray)).size + a0_7.size ≤ 9223372036854775807
            · rw [if_pos c13] at H
              have c13b0 := eq_true c13
              have c13b1 : decide ((((sd ++ a0_6) ++ t185) ++ (⟨#[32]⟩ : ByteArray)).size + a0_7.size ≤ 9223372036854775807) = true := decide_eq_true c13
              try have c13b2 : (9223372036854775807 < (((sd ++ a0_6) ++ t185) ++ (⟨#[32]⟩ : ByteArray)).size + a0_7.size) = False := eq_false (Nat.not_lt.2 c13)
              (try (have c13b3 := c13b2; simp only [ByteArray.size_append, show (⟨#[32]⟩ : ByteArray).size = 1 from rfl] at c13b3))
              by_cases c14 : ((((sd ++ a0_6) ++ t185) ++ (⟨#[32]⟩ : ByteArray)) ++ a0_7).size + 1 ≤ 9223372036854775807
              · rw [if_pos c14] at H
                have c14b0 := eq_true c14
                have c14b1 : decide (((((sd ++ a0_6) ++ t185) ++ (⟨#[32]⟩ : ByteArray)) ++ a0_7).size + 1 ≤ 9223372036854775807) = true := decide_eq_true c14
                try have c14b2 : (9223372036854775807 < ((((sd ++ a0_6) ++ t185) ++ (⟨#[32]⟩ : ByteArray)) ++ a0_7).size + 1) = False := eq_false (Nat.not_lt.2 c14)
                (try (have c14b3 := c14b2; simp only [ByteArray.size_append, show (⟨#[32]⟩ : ByteArray).size = 1 from rfl] at c14b3))
                obtain rfl := Option.some.inj H
                go_enter Tryd.func23, Tryd.ntmps23
                try go_wp2_with (first | ((with_reducible refine gate_dst (N := 3) rfl ?_); refine box_event ?hg (N := 3) ?hd (cs := #[.string a0_0, .string a0_1, .string a0_2, .string a0_3, .string a0_4, .string a0_5, .string a0_6, .string a0_7, .string a0_8, .string a0_9, .string a0_10, .string a0_11, .string a0_12, .string a0_13, .string a0_14, .string a0_15, .string a0_16, .string a0_17, .string a0_18, .string a0_19, .string a0_20, .string a0_21]) (t := 44) ?hr ?_; (case hd => rfl); (case hg => rfl); (case hr => first | (go_simp; done) | (go_simp; rfl)); intro gb184 hg w15 hbox hb; have n0_ := Aside0.mk (below_step (by repeat (first | (with_reducible first | exact HB.out | apply below_alloc | apply pw_below_drewN | apply below_drew1) | exact HB.out)) hb); have n1_ := Aside0.mk (hbox); have n2_ := Aside0.mk ((by rw [hg]; exact (below_size (by repeat (first | (with_reducible first | exact HB.out | apply below_alloc | apply pw_below_drewN | apply below_drew1) | exact HB.out))) : w.heap.size ≤ gb184)); have n3_ := Aside0.mk ((by rw [hg]; exact (below_size (by repeat (first | (with_reducible first | exact HB.out | apply below_alloc | apply pw_below_drewN | apply below_drew1) | exact HB.out))) : w.heap.size ≤ gb184)); clear HB; have HB := n0_; have BK184 := n1_; have GW184 := n2_; have GE184 := n3_; clear n0_ n1_ n2_ n3_; clear hb hbox hg; have hcz16_0 : w15.cell? ⟨gb184, 0, none⟩ = some (.string a0_0) := (blk_cell BK184.out 0).trans rfl; have hcz16_1 : w15.cell? ⟨gb184, 1, none⟩ = some (.string a0_1) := (blk_cell BK184.out 1).trans rfl; have hcz16_2 : w15.cell? ⟨gb184, 2, none⟩ = some (.string a0_2) := (blk_cell BK184.out 2).trans rfl; have hcz16_3 : w15.cell? ⟨gb184, 3, none⟩ = some (.string a0_3) := (blk_cell BK184.out 3).trans rfl; have hcz16_4 : w15.cell? ⟨gb184, 4, none⟩ = some (.string a0_4) := (blk_cell BK184.out 4).trans rfl; have hcz16_5 : w15.cell? ⟨gb184, 5, none⟩ = some (.string a0_5) := (blk_cell BK184.out 5).trans rfl; have hcz16_6 : w15.cell? ⟨gb184, 6, none⟩ = some (.string a0_6) := (blk_cell BK184.out 6).trans rfl; have hcz16_7 : w15.cell? ⟨gb184, 7, none⟩ = some (.string a0_7) := (blk_cell BK184.out 7).trans rfl; have hcz16_8 : w15.cell? ⟨gb184, 8, none⟩ = some (.string a0_8) := (blk_cell BK184.out 8).trans rfl; have hcz16_9 : w15.cell? ⟨gb184, 9, none⟩ = some (.string a0_9) := (blk_cell BK184.out 9).trans rfl; have hcz16_10 : w15.cell? ⟨gb184, 10, none⟩ = some (.string a0_10) := (blk_cell BK184.out 10).trans rfl; have hcz16_11 : w15.cell? ⟨gb184, 11, none⟩ = some (.string a0_11) := (blk_cell BK184.out 11).trans rfl; have hcz16_12 : w15.cell? ⟨gb184, 12, none⟩ = some (.string a0_12) := (blk_cell BK184.out 12).trans rfl; have hcz16_13 : w15.cell? ⟨gb184, 13, none⟩ = some (.string a0_13) := (blk_cell BK184.out 13).trans rfl; have hcz16_14 : w15.cell? ⟨gb184, 14, none⟩ = some (.string a0_14) := (blk_cell BK184.out 14).trans rfl; have hcz16_15 : w15.cell? ⟨gb184, 15, none⟩ = some (.string a0_15) := (blk_cell BK184.out 15).trans rfl; have hcz16_16 : w15.cell? ⟨gb184, 16, none⟩ = some (.string a0_16) := (blk_cell BK184.out 16).trans rfl; have hcz16_17 : w15.cell? ⟨gb184, 17, none⟩ = some (.string a0_17) := (blk_cell BK184.out 17).trans rfl; have hcz16_18 : w15.cell? ⟨gb184, 18, none⟩ = some (.string a0_18) := (blk_cell BK184.out 18).trans rfl; have hcz16_19 : w15.cell? ⟨gb184, 18 + a1.toNat, none⟩ = some (.string sd) := (blk_cell BK184.out (18 + a1.toNat)).trans hsdc.out; have hcz16_20 : w15.cell? ⟨gb184, 20, none⟩ = some (.string a0_20) := (blk_cell BK184.out 20).trans rfl; have hcz16_21 : w15.cell? ⟨gb184, 21, none⟩ = some (.string a0_21) := (blk_cell BK184.out 21).trans rfl; have hfz16_0 := blk_frozen BK184.out 0; have hfz16_1 := blk_frozen BK184.out 1; have hfz16_2 := blk_frozen BK184.out 2; have hfz16_3 := blk_frozen BK184.out 3; have hfz16_4 := blk_frozen BK184.out 4; have hfz16_5 := blk_frozen BK184.out 5; have hfz16_6 := blk_frozen BK184.out 6; have hfz16_7 := blk_frozen BK184.out 7; have hfz16_8 := blk_frozen BK184.out 8; have hfz16_9 := blk_frozen BK184.out 9; have hfz16_10 := blk_frozen BK184.out 10; have hfz16_11 := blk_frozen BK184.out 11; have hfz16_12 := blk_frozen BK184.out 12; have hfz16_13 := blk_frozen BK184.out 13; have hfz16_14 := blk_frozen BK184.out 14; have hfz16_15 := blk_frozen BK184.out 15; have hfz16_16 := blk_frozen BK184.out 16; have hfz16_17 := blk_frozen BK184.out 17; have hfz16_18 := blk_frozen BK184.out 18; have hfz16_19 := blk_frozen BK184.out 19; have hfz16_20 := blk_frozen BK184.out 20; have hfz16_21 := blk_frozen BK184.out 21))
                have n0_ := Aside0.mk (blk_drew BK184.out)
                have n1_ := Aside0.mk (below_drew1 HB.out)
                clear BK184
                clear HB
                have BK184 := n0_
                have HB := n1_
                clear n0_ n1_
                refine start_ (n := 15) (S := fun w' => w'.cell? ⟨gb184, 0, none⟩ = some (.string a0_0) ∧ w'.cell? ⟨gb184, 1, none⟩ = some (.string a0_1) ∧ w'.cell? ⟨gb184, 2, none⟩ = some (.string a0_2) ∧ w'.cell? ⟨gb184, 3, none⟩ = some (.string a0_3) ∧ w'.cell? ⟨gb184, 4, none⟩ = some (.string a0_4) ∧ w'.cell? ⟨gb184, 5, none⟩ = some (.string a0_5) ∧ w'.cell? ⟨gb184, 6, none⟩ = some (.string a0_6) ∧ w'.cell? ⟨gb184, 7, none⟩ = some (.string a0_7) ∧ w'.cell? ⟨gb184, 8, none⟩ = some (.string a0_8) ∧ w'.cell? ⟨gb184, 9, none⟩ = some (.string a0_9) ∧ w'.cell? ⟨gb184, 10, none⟩ = some (.string a0_10) ∧ w'.cell? ⟨gb184, 11, none⟩ = some (.string a0_11) ∧ w'.cell? ⟨gb184, 12, none⟩ = some (.string a0_12) ∧ w'.cell? ⟨gb184, 13, none⟩ = some (.string a0_13) ∧ w'.cell? ⟨gb184, 14, none⟩ = some (.string a0_14) ∧ w'.cell? ⟨gb184, 15, none⟩ = some (.string a0_15) ∧ w'.cell? ⟨gb184, 16, none⟩ = some (.string a0_16) ∧ w'.cell? ⟨gb184, 17, none⟩ = some (.string a0_17) ∧ w'.cell? ⟨gb184, 18, none⟩ = some (.string a0_18) ∧ w'.cell? ⟨gb184, 18 + a1.toNat, none⟩ = some (.string sd) ∧ w'.cell? ⟨gb184, 20, none⟩ = some (.string a0_20) ∧ w'.cell? ⟨gb184, 21, none⟩ = some (.string a0_21)) (ds := []) #[false, false, false, false, false, false, false, false, false, false, false, false, false, false, false] (by kernel_rfl) rfl rfl ⟨(blk_cell BK184.out 0).trans rfl, (blk_cell BK184.out 1).trans rfl, (blk_cell BK184.out 2).trans rfl, (blk_cell BK184.out 3).trans rfl, (blk_cell BK184.out 4).trans rfl, (blk_cell BK184.out 5).trans rfl, (blk_cell BK184.out 6).trans rfl, (blk_cell BK184.out 7).trans rfl, (blk_cell BK184.out 8).trans rfl, (blk_cell BK184.out 9).trans rfl, (blk_cell BK184.out 10).trans rfl, (blk_cell BK184.out 11).trans rfl, (blk_cell BK184.out 12).trans rfl, (blk_cell BK184.out 13).trans rfl, (blk_cell BK184.out 14).trans rfl, (blk_cell BK184.out 15).trans rfl, (blk_cell BK184.out 16).trans rfl, (blk_cell BK184.out 17).trans rfl, (blk_cell BK184.out 18).trans rfl, (blk_cell BK184.out (18 + a1.toNat)).trans hsdc.out, (blk_cell BK184.out 20).trans rfl, (blk_cell BK184.out 21).trans rfl⟩ (fun hHeld => ?_); refine with_tabW impl_tongue_rain.tab6 impl_tongue_rain.bits6 (fun HT_ HW_ => ?_)
                generalize w15.drew = w17 at BK184 HB hHeld ⊢
                refine pure_ (i := 0) (N := some 19) (v := ?_) (a' := ?_) #[true, false, false, false, false, false, false, false, false, false, false, false, false, false, false] rfl rfl (any_of HT_.out (by kernel_rfl)) (fun _ _ _ h => h) (Or.inl ⟨by rfl, ?_⟩) ?_ ?_
                rotate_left
                · intro w'
                  go_simp
                  with_reducible rfl
                rotate_left
                · simp only [Act.put, List.setIfInBounds_toArray, List.set_cons_zero, List.set_cons_succ, i64_w, i32_w]
                  rfl
                refine pure_ (i := 1) (N := some 20) (v := ?_) (a' := ?_) #[true, true, false, false, false, false, false, false, false, false, false, false, false, false, false] rfl rfl (any_of HT_.out (by kernel_rfl)) (fun _ _ _ h => h) (Or.inl ⟨by rfl, ?_⟩) ?_ ?_
                rotate_left
                · intro w'
                  go_simp
                  with_reducible rfl
                rotate_left
                · simp only [Act.put, List.setIfInBounds_toArray, List.set_cons_zero, List.set_cons_succ, i64_w, i32_w]
                  rfl
                refine pure_ (i := 2) (N := some 21) (v := ?_) (a' := ?_) #[true, true, true, false, false, false, false, false, false, false, false, false, false, false, false] rfl rfl (any_of HT_.out (by kernel_rfl)) (fun _ _ _ h => h) (Or.inl ⟨by rfl, ?_⟩) ?_ ?_
                rotate_left
                · intro w'
                  go_simp
                  with_reducible rfl
                rotate_left
                · simp only [Act.put, List.setIfInBounds_toArray, List.set_cons_zero, List.set_cons_succ, i64_w, i32_w]
                  rfl
                refine pure_ (i := 4) (N := some 23) (v := ?_) (a' := ?_) #[true, true, true, false, true, false, false, false, false, false, false, false, false, false, false] rfl rfl (any_of HT_.out (by kernel_rfl)) (fun _ _ _ h => h) (Or.inl ⟨by rfl, ?_⟩) ?_ ?_
                rotate_left
                · intro w'
                  go_simp
                  with_reducible rfl
                rotate_left
                · simp only [Act.put, List.setIfInBounds_toArray, List.set_cons_zero, List.set_cons_succ, i64_w, i32_w]
                  rfl
                refine pure_ (i := 7) (N := some 26) (v := ?_) (a' := ?_) #[true, true, true, false, true, false, false, true, false, false, false, false, false, false, false] rfl rfl (any_of HT_.out (by kernel_rfl)) (fun _ _ _ h => h) (Or.inl ⟨by rfl, ?_⟩) ?_ ?_
                rotate_left
                · intro w'
                  go_simp
                  with_reducible rfl
                rotate_left
                · simp only [Act.put, List.setIfInBounds_toArray, List.set_cons_zero, List.set_cons_succ, i64_w, i32_w]
                  rfl
                refine pure_ (i := 11) (N := some 30) (v := ?_) (a' := ?_) #[true, true, true, false, true, false, false, true, false, false, false, true, false, false, false] rfl rfl (any_of HT_.out (by kernel_rfl)) (fun _ _ _ h => h) (Or.inl ⟨by rfl, ?_⟩) ?_ ?_
                rotate_left
                · intro w'
                  go_simp
                  with_reducible rfl
                rotate_left
                · simp only [Act.put, List.setIfInBounds_toArray, List.set_cons_zero, List.set_cons_succ, i64_w, i32_w]
                  rfl
                refine take_ (i := 3) (N := some 22) (v := ?_) (a' := ?_) #[true, true, true, true, true, false, false, true, false, false, false, true, false, false, false] rfl rfl (take_ofW HT_.out HW_.out (by kernel_rfl)) (fun _ _ _ h => h) (Or.inl ⟨by rfl, ?_⟩) hHeld ?_ ?_
                rotate_left
                · rintro w' ⟨s0, s1, s2, s3, s4, s5, s6, s7, s8, s9, s10, s11, s12, s13, s14, s15, s16, s17, s18, s19, s20, s21⟩
                  go_simp
                  with_reducible rfl
                rotate_left
                · simp only [Act.put, List.setIfInBounds_toArray, List.set_cons_zero, List.set_cons_succ, i64_w, i32_w]
                  rfl
                refine take_ (i := 5) (N := some 24) (v := ?_) (a' := ?_) #[true, true, true, true, true, true, false, true, false, false, false, true, false, false, false] rfl rfl (take_ofW HT_.out HW_.out (by kernel_rfl)) (fun _ _ _ h => h) (Or.inl ⟨by rfl, ?_⟩) hHeld ?_ ?_
                rotate_left
                · rintro w' ⟨s0, s1, s2, s3, s4, s5, s6, s7, s8, s9, s10, s11, s12, s13, s14, s15, s16, s17, s18, s19, s20, s21⟩
                  go_simp
                  with_reducible rfl
                rotate_left
                · simp only [Act.put, List.setIfInBounds_toArray, List.set_cons_zero, List.set_cons_succ, i64_w, i32_w]
                  rfl
                refine pure_ (i := 6) (N := some 25) (v := ?_) (a' := ?_) #[true, true, true, true, true, true, true, true, false, false, false, true, false, false, false] rfl rfl (any_of HT_.out (by kernel_rfl)) (fun _ _ _ h => h) (Or.inl ⟨by rfl, ?_⟩) ?_ ?_
                rotate_left
                · intro w'
                  go_simp
                  with_reducible rfl
                rotate_left
                · simp only [Act.put, List.setIfInBounds_toArray, List.set_cons_zero, List.set_cons_succ, i64_w, i32_w]
                  rfl
                refine one_ (i := 8) (N := some 27) #[true, true, true, true, true, true, true, true, true, false, false, true, false, false, false] rfl rfl (one_of HT_.out (by kernel_rfl)) (by decide) (fun K hK => ?_)
                refine goes_ Tryd.func32 (by kernel_rfl) rfl #[.int .i64 a2] (by rfl) rfl rfl (by (try simp only [List.map_toArray, List.map_cons, List.map_nil]); first | done | rfl | (simp only [List.length_drop, List.length_take]; rfl)) ?_
                with_reducible refine (impl_dec.calls a2 t185 _ A10.out (tab_on HTb.out (by repeat (first | (with_reducible first | exact HB.out | apply below_alloc | apply pw_below_drewN | apply below_drew1 | refine below_set ?_ GE184.out) | exact HB.out)))).mono ?_
                rintro e w18 ⟨rfl, hb⟩
                refine ⟨_, rfl, ?_⟩
                have n0_ := Aside0.mk (blk_below (g := gb184) (o := .cells #[.string a0_0, .string a0_1, .string a0_2, .string a0_3, .string a0_4, .string a0_5, .string a0_6, .string a0_7, .string a0_8, .string a0_9, .string a0_10, .string a0_11, .string a0_12, .string a0_13, .string a0_14, .string a0_15, .string a0_16, .string a0_17, .string a0_18, .string a0_19, .string a0_20, .string a0_21] 44 (0, 0)) (by (with_reducible repeat (first | refine blk_drewN ?_ _ | refine blk_drew ?_ | refine blk_alloc ?_ _)); exact BK184.out) hb)
                have n1_ := Aside0.mk (below_step (by repeat (first | (with_reducible first | exact HB.out | apply below_alloc | apply pw_below_drewN | apply below_drew1 | refine below_set ?_ GE184.out) | exact HB.out)) hb)
                clear BK184
                clear HB
                have BK184 := n0_
                have HB := n1_
                clear n0_ n1_
                (try clear hb)
                (try clear hb2)
                (try clear hk)
                (try clear hi)
                refine hK.out _ _ ⟨(blk_cell BK184.out 0).trans rfl, (blk_cell BK184.out 1).trans rfl, (blk_cell BK184.out 2).trans rfl, (blk_cell BK184.out 3).trans rfl, (blk_cell BK184.out 4).trans rfl, (blk_cell BK184.out 5).trans rfl, (blk_cell BK184.out 6).trans rfl, (blk_cell BK184.out 7).trans rfl, (blk_cell BK184.out 8).trans rfl, (blk_cell BK184.out 9).trans rfl, (blk_cell BK184.out 10).trans rfl, (blk_cell BK184.out 11).trans rfl, (blk_cell BK184.out 12).trans rfl, (blk_cell BK184.out 13).trans rfl, (blk_cell BK184.out 14).trans rfl, (blk_cell BK184.out 15).trans rfl, (blk_cell BK184.out 16).trans rfl, (blk_cell BK184.out 17).trans rfl, (blk_cell BK184.out 18).trans rfl, (blk_cell BK184.out (18 + a1.toNat)).trans hsdc.out, (blk_cell BK184.out 20).trans rfl, (blk_cell BK184.out 21).trans rfl⟩ (fun hHeld => ?_)
                clear hK K
                refine norm_ (a' := ?_) ?_ ?_
                rotate_left
                · show Act.put _ (some 27) _ = _
                  simp only [Act.put, List.setIfInBounds_toArray, List.set_cons_zero, List.set_cons_succ, i64_w, i32_w]
                  rfl
                refine pure_ (i := 9) (N := some 28) (v := ?_) (a' := ?_) #[true, true, true, true, true, true, true, true, true, true, false, true, false, false, false] rfl rfl (any_of HT_.out (by kernel_rfl)) (fun _ _ _ h => h) (Or.inl ⟨by rfl, ?_⟩) ?_ ?_
                rotate_left
                · intro w'
                  go_simp
                  with_reducible rfl
                rotate_left
                · simp only [Act.put, List.setIfInBounds_toArray, List.set_cons_zero, List.set_cons_succ, i64_w, i32_w]
                  rfl
                refine pure_ (i := 10) (N := some 29) (v := ?_) (a' := ?_) #[true, true, true, true, true, true, true, true, true, true, true, true, false, false, false] rfl rfl (any_of HT_.out (by kernel_rfl)) (fun _ _ _ h => h) (Or.inl ⟨by rfl, ?_⟩) ?_ ?_
                rotate_left
                · intro w'
                  go_simp
                  with_reducible rfl
                rotate_left
                · simp only [Act.put, List.setIfInBounds_toArray, List.set_cons_zero, List.set_cons_succ, i64_w, i32_w]
                  rfl
                refine pure_ (i := 12) (N := some 31) (v := ?_) (a' := ?_) #[true, true, true, true, true, true, true, true, true, true, true, true, true, false, false] rfl rfl (any_of HT_.out (by kernel_rfl)) (fun _ _ _ h => h) (Or.inl ⟨by rfl, ?_⟩) ?_ ?_
                rotate_left
                · intro w'
                  go_simp
                  with_reducible rfl
                rotate_left
                · simp only [Act.put, List.setIfInBounds_toArray, List.set_cons_zero, List.set_cons_succ, i64_w, i32_w]
                  rfl
                refine pure_ (i := 13) (N := some 32) (v := ?_) (a' := ?_) #[true, true, true, true, true, true, true, true, true, true, true, true, true, true, false] rfl rfl (any_of HT_.out (by kernel_rfl)) (fun _ _ _ h => h) (Or.inl ⟨by rfl, ?_⟩) ?_ ?_
                rotate_left
                · intro w'
                  go_simp
                  with_reducible rfl
                rotate_left
                · simp only [Act.put, List.setIfInBounds_toArray, List.set_cons_zero, List.set_cons_succ, i64_w, i32_w]
                  rfl
                refine pure_ (i := 14) (N := some 6) (v := ?_) (a' := ?_) #[true, true, true, true, true, true, true, true, true, true, true, true, true, true, true] rfl rfl (any_of HT_.out (by kernel_rfl)) (fun _ _ _ h => h) (Or.inl ⟨by rfl, ?_⟩) ?_ ?_
                rotate_left
                · intro w'
                  go_simp
                  with_reducible rfl
                rotate_left
                · simp only [Act.put, List.setIfInBounds_toArray, List.set_cons_zero, List.set_cons_succ, i64_w, i32_w]
                  rfl
                refine done_ (done_of HT_.out (by kernel_rfl)) ?_
                try go_wp2
                go_ret
                exact ⟨by first | rfl | (simp [errW_none, errW_some] <;> rfl) | (simp [*, errW_none, errW_some] <;> rfl), by repeat (first | (with_reducible first | exact HB.out | apply below_alloc | apply pw_below_drewN | apply below_drew1 | refine below_set ?_ GE184.out) | exact HB.out)⟩
              · rw [if_neg c14] at H
                exact absurd H (by simp)
            · rw [if_neg c13] at H
              exact absurd H (by simp)
          · rw [if_neg c12] at H
            exact absurd H (by simp)
        · rw [if_neg c11] at H
          exact absurd H (by simp)
      · rw [if_neg c9] at H
        exact absurd H (by simp)
    · rw [if_neg c8] at H
      have c8b0 : (a2 == 1) = false := beq_eq_false_iff_ne.mpr c8
      have c8b1 : (a2 != 1) = true := bne_iff_ne.mpr c8
      by_cases c19 : sd.size + a0_6.size ≤ 9223372036854775807
      · rw [if_pos c19] at H
        have c19b0 := eq_true c19
        have c19b1 : decide (sd.size + a0_6.size ≤ 9223372036854775807) = true := decide_eq_true c19
        try have c19b2 : (9223372036854775807 < sd.size + a0_6.size) = False := eq_false (Nat.not_lt.2 c19)
        replace H := Option.bind_eq_some_iff.mp H
        obtain ⟨t186, A200, H⟩ := H
        replace H : (if (sd ++ a0_6).size + t186.size ≤ 9223372036854775807 then (if ((sd ++ a0_6) ++ t186).size + 1 ≤ 9223372036854775807 then (if (((sd ++ a0_6) ++ t186) ++ (⟨#[32]⟩ : ByteArray)).size + a0_8.size ≤ 9223372036854775807 then (if ((((sd ++ a0_6) ++ t186) ++ (⟨#[32]⟩ : ByteArray)) ++ a0_8).size + 1 ≤ 9223372036854775807 then (some (((((sd ++ a0_6) ++ t186) ++ (⟨#[32]⟩ : ByteArray)) ++ a0_8) ++ (⟨#[46]⟩ : ByteArray))) else (none)) else (none)) else (none)) else (none)) = some r := H
        have A20 := Aside0.mk A200
        clear A200
        by_cases c21 : (sd ++ a0_6).size + t186.size ≤ 9223372036854775807
        · rw [if_pos c21] at H
          have c21b0 := eq_true c21
          have c21b1 : decide ((sd ++ a0_6).size + t186.size ≤ 9223372036854775807) = true := decide_eq_true c21
          try have c21b2 : (9223372036854775807 < (sd ++ a0_6).size + t186.size) = False := eq_false (Nat.not_lt.2 c21)
          (try (have c21b3 := c21b2; simp only [ByteArray.size_append] at c21b3))
          by_cases c22 : ((sd ++ a0_6) ++ t186).size + 1 ≤ 9223372036854775807
          · rw [if_pos c22] at H
            have c22b0 := eq_true c22
            have c22b1 : decide (((sd ++ a0_6) ++ t186).size + 1 ≤ 9223372036854775807) = true := decide_eq_true c22
            try have c22b2 : (9223372036854775807 < ((sd ++ a0_6) ++ t186).size + 1) = False := eq_false (Nat.not_lt.2 c22)
            (try (have c22b3 := c22b2; simp only [ByteArray.size_append] at c22b3))
            by_cases c23 : (((sd ++ a0_6) ++ t186) ++ (⟨#[32]⟩ : ByteArray)).size + a0_8.size ≤ 9223372036854775807
            · rw [if_pos c23] at H
              have c23b0 := eq_true c23
              have c23b1 : decide ((((sd ++ a0_6) ++ t186) ++ (⟨#[32]⟩ : ByteArray)).size + a0_8.size ≤ 9223372036854775807) = true := decide_eq_true c23
              try have c23b2 : (9223372036854775807 < (((sd ++ a0_6) ++ t186) ++ (⟨#[32]⟩ : ByteArray)).size + a0_8.size) = False := eq_false (Nat.not_lt.2 c23)
              (try (have c23b3 := c23b2; simp only [ByteArray.size_append, show (⟨#[32]⟩ : ByteArray).size = 1 from rfl] at c23b3))
              by_cases c24 : ((((sd ++ a0_6) ++ t186) ++ (⟨#[32]⟩ : ByteArray)) ++ a0_8).size + 1 ≤ 9223372036854775807
              · rw [if_pos c24] at H
                have c24b0 := eq_true c24
                have c24b1 : decide (((((sd ++ a0_6) ++ t186) ++ (⟨#[32]⟩ : ByteArray)) ++ a0_8).size + 1 ≤ 9223372036854775807) = true := decide_eq_true c24
                try have c24b2 : (9223372036854775807 < ((((sd ++ a0_6) ++ t186) ++ (⟨#[32]⟩ : ByteArray)) ++ a0_8).size + 1) = False := eq_false (Nat.not_lt.2 c24)
                (try (have c24b3 := c24b2; simp only [ByteArray.size_append, show (⟨#[32]⟩ : ByteArray).size = 1 from rfl] at c24b3))
                obtain rfl := Option.some.inj H
                go_enter Tryd.func23, Tryd.ntmps23
                try go_wp2_with (first | ((with_reducible refine gate_dst (N := 3) rfl ?_); refine box_event ?hg (N := 3) ?hd (cs := #[.string a0_0, .string a0_1, .string a0_2, .string a0_3, .string a0_4, .string a0_5, .string a0_6, .string a0_7, .string a0_8, .string a0_9, .string a0_10, .string a0_11, .string a0_12, .string a0_13, .string a0_14, .string a0_15, .string a0_16, .string a0_17, .string a0_18, .string a0_19, .string a0_20, .string a0_21]) (t := 44) ?hr ?_; (case hd => rfl); (case hg => rfl); (case hr => first | (go_simp; done) | (go_simp; rfl)); intro gb184 hg w25 hbox hb; have n0_ := Aside0.mk (below_step (by repeat (first | (with_reducible first | exact HB.out | apply below_alloc | apply pw_below_drewN | apply below_drew1) | exact HB.out)) hb); have n1_ := Aside0.mk (hbox); have n2_ := Aside0.mk ((by rw [hg]; exact (below_size (by repeat (first | (with_reducible first | exact HB.out | apply below_alloc | apply pw_below_drewN | apply below_drew1) | exact HB.out))) : w.heap.size ≤ gb184)); have n3_ := Aside0.mk ((by rw [hg]; exact (below_size (by repeat (first | (with_reducible first | exact HB.out | apply below_alloc | apply pw_below_drewN | apply below_drew1) | exact HB.out))) : w.heap.size ≤ gb184)); clear HB; have HB := n0_; have BK184 := n1_; have GW184 := n2_; have GE184 := n3_; clear n0_ n1_ n2_ n3_; clear hb hbox hg; have hcz26_0 : w25.cell? ⟨gb184, 0, none⟩ = some (.string a0_0) := (blk_cell BK184.out 0).trans rfl; have hcz26_1 : w25.cell? ⟨gb184, 1, none⟩ = some (.string a0_1) := (blk_cell BK184.out 1).trans rfl; have hcz26_2 : w25.cell? ⟨gb184, 2, none⟩ = some (.string a0_2) := (blk_cell BK184.out 2).trans rfl; have hcz26_3 : w25.cell? ⟨gb184, 3, none⟩ = some (.string a0_3) := (blk_cell BK184.out 3).trans rfl; have hcz26_4 : w25.cell? ⟨gb184, 4, none⟩ = some (.string a0_4) := (blk_cell BK184.out 4).trans rfl; have hcz26_5 : w25.cell? ⟨gb184, 5, none⟩ = some (.string a0_5) := (blk_cell BK184.out 5).trans rfl; have hcz26_6 : w25.cell? ⟨gb184, 6, none⟩ = some (.string a0_6) := (blk_cell BK184.out 6).trans rfl; have hcz26_7 : w25.cell? ⟨gb184, 7, none⟩ = some (.string a0_7) := (blk_cell BK184.out 7).trans rfl; have hcz26_8 : w25.cell? ⟨gb184, 8, none⟩ = some (.string a0_8) := (blk_cell BK184.out 8).trans rfl; have hcz26_9 : w25.cell? ⟨gb184, 9, none⟩ = some (.string a0_9) := (blk_cell BK184.out 9).trans rfl; have hcz26_10 : w25.cell? ⟨gb184, 10, none⟩ = some (.string a0_10) := (blk_cell BK184.out 10).trans rfl; have hcz26_11 : w25.cell? ⟨gb184, 11, none⟩ = some (.string a0_11) := (blk_cell BK184.out 11).trans rfl; have hcz26_12 : w25.cell? ⟨gb184, 12, none⟩ = some (.string a0_12) := (blk_cell BK184.out 12).trans rfl; have hcz26_13 : w25.cell? ⟨gb184, 13, none⟩ = some (.string a0_13) := (blk_cell BK184.out 13).trans rfl; have hcz26_14 : w25.cell? ⟨gb184, 14, none⟩ = some (.string a0_14) := (blk_cell BK184.out 14).trans rfl; have hcz26_15 : w25.cell? ⟨gb184, 15, none⟩ = some (.string a0_15) := (blk_cell BK184.out 15).trans rfl; have hcz26_16 : w25.cell? ⟨gb184, 16, none⟩ = some (.string a0_16) := (blk_cell BK184.out 16).trans rfl; have hcz26_17 : w25.cell? ⟨gb184, 17, none⟩ = some (.string a0_17) := (blk_cell BK184.out 17).trans rfl; have hcz26_18 : w25.cell? ⟨gb184, 18, none⟩ = some (.string a0_18) := (blk_cell BK184.out 18).trans rfl; have hcz26_19 : w25.cell? ⟨gb184, 18 + a1.toNat, none⟩ = some (.string sd) := (blk_cell BK184.out (18 + a1.toNat)).trans hsdc.out; have hcz26_20 : w25.cell? ⟨gb184, 20, none⟩ = some (.string a0_20) := (blk_cell BK184.out 20).trans rfl; have hcz26_21 : w25.cell? ⟨gb184, 21, none⟩ = some (.string a0_21) := (blk_cell BK184.out 21).trans rfl; have hfz26_0 := blk_frozen BK184.out 0; have hfz26_1 := blk_frozen BK184.out 1; have hfz26_2 := blk_frozen BK184.out 2; have hfz26_3 := blk_frozen BK184.out 3; have hfz26_4 := blk_frozen BK184.out 4; have hfz26_5 := blk_frozen BK184.out 5; have hfz26_6 := blk_frozen BK184.out 6; have hfz26_7 := blk_frozen BK184.out 7; have hfz26_8 := blk_frozen BK184.out 8; have hfz26_9 := blk_frozen BK184.out 9; have hfz26_10 := blk_frozen BK184.out 10; have hfz26_11 := blk_frozen BK184.out 11; have hfz26_12 := blk_frozen BK184.out 12; have hfz26_13 := blk_frozen BK184.out 13; have hfz26_14 := blk_frozen BK184.out 14; have hfz26_15 := blk_frozen BK184.out 15; have hfz26_16 := blk_frozen BK184.out 16; have hfz26_17 := blk_frozen BK184.out 17; have hfz26_18 := blk_frozen BK184.out 18; have hfz26_19 := blk_frozen BK184.out 19; have hfz26_20 := blk_frozen BK184.out 20; have hfz26_21 := blk_frozen BK184.out 21))
                have n0_ := Aside0.mk (blk_drew BK184.out)
                have n1_ := Aside0.mk (below_drew1 HB.out)
                clear BK184
                clear HB
                have BK184 := n0_
                have HB := n1_
                clear n0_ n1_
                refine start_ (n := 15) (S := fun w' => w'.cell? ⟨gb184, 0, none⟩ = some (.string a0_0) ∧ w'.cell? ⟨gb184, 1, none⟩ = some (.string a0_1) ∧ w'.cell? ⟨gb184, 2, none⟩ = some (.string a0_2) ∧ w'.cell? ⟨gb184, 3, none⟩ = some (.string a0_3) ∧ w'.cell? ⟨gb184, 4, none⟩ = some (.string a0_4) ∧ w'.cell? ⟨gb184, 5, none⟩ = some (.string a0_5) ∧ w'.cell? ⟨gb184, 6, none⟩ = some (.string a0_6) ∧ w'.cell? ⟨gb184, 7, none⟩ = some (.string a0_7) ∧ w'.cell? ⟨gb184, 8, none⟩ = some (.string a0_8) ∧ w'.cell? ⟨gb184, 9, none⟩ = some (.string a0_9) ∧ w'.cell? ⟨gb184, 10, none⟩ = some (.string a0_10) ∧ w'.cell? ⟨gb184, 11, none⟩ = some (.string a0_11) ∧ w'.cell? ⟨gb184, 12, none⟩ = some (.string a0_12) ∧ w'.cell? ⟨gb184, 13, none⟩ = some (.string a0_13) ∧ w'.cell? ⟨gb184, 14, none⟩ = some (.string a0_14) ∧ w'.cell? ⟨gb184, 15, none⟩ = some (.string a0_15) ∧ w'.cell? ⟨gb184, 16, none⟩ = some (.string a0_16) ∧ w'.cell? ⟨gb184, 17, none⟩ = some (.string a0_17) ∧ w'.cell? ⟨gb184, 18, none⟩ = some (.string a0_18) ∧ w'.cell? ⟨gb184, 18 + a1.toNat, none⟩ = some (.string sd) ∧ w'.cell? ⟨gb184, 20, none⟩ = some (.string a0_20) ∧ w'.cell? ⟨gb184, 21, none⟩ = some (.string a0_21)) (ds := []) #[false, false, false, false, false, false, false, false, false, false, false, false, false, false, false] (by kernel_rfl) rfl rfl ⟨(blk_cell BK184.out 0).trans rfl, (blk_cell BK184.out 1).trans rfl, (blk_cell BK184.out 2).trans rfl, (blk_cell BK184.out 3).trans rfl, (blk_cell BK184.out 4).trans rfl, (blk_cell BK184.out 5).trans rfl, (blk_cell BK184.out 6).trans rfl, (blk_cell BK184.out 7).trans rfl, (blk_cell BK184.out 8).trans rfl, (blk_cell BK184.out 9).trans rfl, (blk_cell BK184.out 10).trans rfl, (blk_cell BK184.out 11).trans rfl, (blk_cell BK184.out 12).trans rfl, (blk_cell BK184.out 13).trans rfl, (blk_cell BK184.out 14).trans rfl, (blk_cell BK184.out 15).trans rfl, (blk_cell BK184.out 16).trans rfl, (blk_cell BK184.out 17).trans rfl, (blk_cell BK184.out 18).trans rfl, (blk_cell BK184.out (18 + a1.toNat)).trans hsdc.out, (blk_cell BK184.out 20).trans rfl, (blk_cell BK184.out 21).trans rfl⟩ (fun hHeld => ?_); refine with_tabW impl_tongue_rain.tab6 impl_tongue_rain.bits6 (fun HT_ HW_ => ?_)
                generalize w25.drew = w27 at BK184 HB hHeld ⊢
                refine pure_ (i := 0) (N := some 19) (v := ?_) (a' := ?_) #[true, false, false, false, false, false, false, false, false, false, false, false, false, false, false] rfl rfl (any_of HT_.out (by kernel_rfl)) (fun _ _ _ h => h) (Or.inl ⟨by rfl, ?_⟩) ?_ ?_
                rotate_left
                · intro w'
                  go_simp
                  with_reducible rfl
                rotate_left
                · simp only [Act.put, List.setIfInBounds_toArray, List.set_cons_zero, List.set_cons_succ, i64_w, i32_w]
                  rfl
                refine pure_ (i := 1) (N := some 20) (v := ?_) (a' := ?_) #[true, true, false, false, false, false, false, false, false, false, false, false, false, false, false] rfl rfl (any_of HT_.out (by kernel_rfl)) (fun _ _ _ h => h) (Or.inl ⟨by rfl, ?_⟩) ?_ ?_
                rotate_left
                · intro w'
                  go_simp
                  with_reducible rfl
                rotate_left
                · simp only [Act.put, List.setIfInBounds_toArray, List.set_cons_zero, List.set_cons_succ, i64_w, i32_w]
                  rfl
                refine pure_ (i := 2) (N := some 21) (v := ?_) (a' := ?_) #[true, true, true, false, false, false, false, false, false, false, false, false, false, false, false] rfl rfl (any_of HT_.out (by kernel_rfl)) (fun _ _ _ h => h) (Or.inl ⟨by rfl, ?_⟩) ?_ ?_
                rotate_left
                · intro w'
                  go_simp
                  with_reducible rfl
                rotate_left
                · simp only [Act.put, List.setIfInBounds_toArray, List.set_cons_zero, List.set_cons_succ, i64_w, i32_w]
                  rfl
                refine pure_ (i := 4) (N := some 23) (v := ?_) (a' := ?_) #[true, true, true, false, true, false, false, false, false, false, false, false, false, false, false] rfl rfl (any_of HT_.out (by kernel_rfl)) (fun _ _ _ h => h) (Or.inl ⟨by rfl, ?_⟩) ?_ ?_
                rotate_left
                · intro w'
                  go_simp
                  with_reducible rfl
                rotate_left
                · simp only [Act.put, List.setIfInBounds_toArray, List.set_cons_zero, List.set_cons_succ, i64_w, i32_w]
                  rfl
                refine pure_ (i := 7) (N := some 26) (v := ?_) (a' := ?_) #[true, true, true, false, true, false, false, true, false, false, false, false, false, false, false] rfl rfl (any_of HT_.out (by kernel_rfl)) (fun _ _ _ h => h) (Or.inl ⟨by rfl, ?_⟩) ?_ ?_
                rotate_left
                · intro w'
                  go_simp
                  with_reducible rfl
                rotate_left
                · simp only [Act.put, List.setIfInBounds_toArray, List.set_cons_zero, List.set_cons_succ, i64_w, i32_w]
                  rfl
                refine pure_ (i := 11) (N := some 30) (v := ?_) (a' := ?_) #[true, true, true, false, true, false, false, true, false, false, false, true, false, false, false] rfl rfl (any_of HT_.out (by kernel_rfl)) (fun _ _ _ h => h) (Or.inl ⟨by rfl, ?_⟩) ?_ ?_
                rotate_left
                · intro w'
                  go_simp
                  with_reducible rfl
                rotate_left
                · simp only [Act.put, List.setIfInBounds_toArray, List.set_cons_zero, List.set_cons_succ, i64_w, i32_w]
                  rfl
                refine take_ (i := 3) (N := some 22) (v := ?_) (a' := ?_) #[true, true, true, true, true, false, false, true, false, false, false, true, false, false, false] rfl rfl (take_ofW HT_.out HW_.out (by kernel_rfl)) (fun _ _ _ h => h) (Or.inl ⟨by rfl, ?_⟩) hHeld ?_ ?_
                rotate_left
                · rintro w' ⟨s0, s1, s2, s3, s4, s5, s6, s7, s8, s9, s10, s11, s12, s13, s14, s15, s16, s17, s18, s19, s20, s21⟩
                  go_simp
                  with_reducible rfl
                rotate_left
                · simp only [Act.put, List.setIfInBounds_toArray, List.set_cons_zero, List.set_cons_succ, i64_w, i32_w]
                  rfl
                refine take_ (i := 5) (N := some 24) (v := ?_) (a' := ?_) #[true, true, true, true, true, true, false, true, false, false, false, true, false, false, false] rfl rfl (take_ofW HT_.out HW_.out (by kernel_rfl)) (fun _ _ _ h => h) (Or.inl ⟨by rfl, ?_⟩) hHeld ?_ ?_
                rotate_left
                · rintro w' ⟨s0, s1, s2, s3, s4, s5, s6, s7, s8, s9, s10, s11, s12, s13, s14, s15, s16, s17, s18, s19, s20, s21⟩
                  go_simp
                  with_reducible rfl
                rotate_left
                · simp only [Act.put, List.setIfInBounds_toArray, List.set_cons_zero, List.set_cons_succ, i64_w, i32_w]
                  rfl
                refine pure_ (i := 6) (N := some 25) (v := ?_) (a' := ?_) #[true, true, true, true, true, true, true, true, false, false, false, true, false, false, false] rfl rfl (any_of HT_.out (by kernel_rfl)) (fun _ _ _ h => h) (Or.inl ⟨by rfl, ?_⟩) ?_ ?_
                rotate_left
                · intro w'
                  go_simp
                  with_reducible rfl
                rotate_left
                · simp only [Act.put, List.setIfInBounds_toArray, List.set_cons_zero, List.set_cons_succ, i64_w, i32_w]
                  rfl
                refine one_ (i := 8) (N := some 27) #[true, true, true, true, true, true, true, true, true, false, false, true, false, false, false] rfl rfl (one_of HT_.out (by kernel_rfl)) (by decide) (fun K hK => ?_)
                refine goes_ Tryd.func32 (by kernel_rfl) rfl #[.int .i64 a2] (by rfl) rfl rfl (by (try simp only [List.map_toArray, List.map_cons, List.map_nil]); first | done | rfl | (simp only [List.length_drop, List.length_take]; rfl)) ?_
                with_reducible refine (impl_dec.calls a2 t186 _ A20.out (tab_on HTb.out (by repeat (first | (with_reducible first | exact HB.out | apply below_alloc | apply pw_below_drewN | apply below_drew1 | refine below_set ?_ GE184.out) | exact HB.out)))).mono ?_
                rintro e w28 ⟨rfl, hb⟩
                refine ⟨_, rfl, ?_⟩
                have n0_ := Aside0.mk (blk_below (g := gb184) (o := .cells #[.string a0_0, .string a0_1, .string a0_2, .string a0_3, .string a0_4, .string a0_5, .string a0_6, .string a0_7, .string a0_8, .string a0_9, .string a0_10, .string a0_11, .string a0_12, .string a0_13, .string a0_14, .string a0_15, .string a0_16, .string a0_17, .string a0_18, .string a0_19, .string a0_20, .string a0_21] 44 (0, 0)) (by (with_reducible repeat (first | refine blk_drewN ?_ _ | refine blk_drew ?_ | refine blk_alloc ?_ _)); exact BK184.out) hb)
                have n1_ := Aside0.mk (below_step (by repeat (first | (with_reducible first | exact HB.out | apply below_alloc | apply pw_below_drewN | apply below_drew1 | refine below_set ?_ GE184.out) | exact HB.out)) hb)
                clear BK184
                clear HB
                have BK184 := n0_
                have HB := n1_
                clear n0_ n1_
                (try clear hb)
                (try clear hb2)
                (try clear hk)
                (try clear hi)
                refine hK.out _ _ ⟨(blk_cell BK184.out 0).trans rfl, (blk_cell BK184.out 1).trans rfl, (blk_cell BK184.out 2).trans rfl, (blk_cell BK184.out 3).trans rfl, (blk_cell BK184.out 4).trans rfl, (blk_cell BK184.out 5).trans rfl, (blk_cell BK184.out 6).trans rfl, (blk_cell BK184.out 7).trans rfl, (blk_cell BK184.out 8).trans rfl, (blk_cell BK184.out 9).trans rfl, (blk_cell BK184.out 10).trans rfl, (blk_cell BK184.out 11).trans rfl, (blk_cell BK184.out 12).trans rfl, (blk_cell BK184.out 13).trans rfl, (blk_cell BK184.out 14).trans rfl, (blk_cell BK184.out 15).trans rfl, (blk_cell BK184.out 16).trans rfl, (blk_cell BK184.out 17).trans rfl, (blk_cell BK184.out 18).trans rfl, (blk_cell BK184.out (18 + a1.toNat)).trans hsdc.out, (blk_cell BK184.out 20).trans rfl, (blk_cell BK184.out 21).trans rfl⟩ (fun hHeld => ?_)
                clear hK K
                refine norm_ (a' := ?_) ?_ ?_
                rotate_left
                · show Act.put _ (some 27) _ = _
                  simp only [Act.put, List.setIfInBounds_toArray, List.set_cons_zero, List.set_cons_succ, i64_w, i32_w]
                  rfl
                refine pure_ (i := 9) (N := some 28) (v := ?_) (a' := ?_) #[true, true, true, true, true, true, true, true, true, true, false, true, false, false, false] rfl rfl (any_of HT_.out (by kernel_rfl)) (fun _ _ _ h => h) (Or.inl ⟨by rfl, ?_⟩) ?_ ?_
                rotate_left
                · intro w'
                  go_simp
                  with_reducible rfl
                rotate_left
                · simp only [Act.put, List.setIfInBounds_toArray, List.set_cons_zero, List.set_cons_succ, i64_w, i32_w]
                  rfl
                refine pure_ (i := 10) (N := some 29) (v := ?_) (a' := ?_) #[true, true, true, true, true, true, true, true, true, true, true, true, false, false, false] rfl rfl (any_of HT_.out (by kernel_rfl)) (fun _ _ _ h => h) (Or.inl ⟨by rfl, ?_⟩) ?_ ?_
                rotate_left
                · intro w'
                  go_simp
                  with_reducible rfl
                rotate_left
                · simp only [Act.put, List.setIfInBounds_toArray, List.set_cons_zero, List.set_cons_succ, i64_w, i32_w]
                  rfl
                refine pure_ (i := 12) (N := some 31) (v := ?_) (a' := ?_) #[true, true, true, true, true, true, true, true, true, true, true, true, true, false, false] rfl rfl (any_of HT_.out (by kernel_rfl)) (fun _ _ _ h => h) (Or.inl ⟨by rfl, ?_⟩) ?_ ?_
                rotate_left
                · intro w'
                  go_simp
                  with_reducible rfl
                rotate_left
                · simp only [Act.put, List.setIfInBounds_toArray, List.set_cons_zero, List.set_cons_succ, i64_w, i32_w]
                  rfl
                refine pure_ (i := 13) (N := some 32) (v := ?_) (a' := ?_) #[true, true, true, true, true, true, true, true, true, true, true, true, true, true, false] rfl rfl (any_of HT_.out (by kernel_rfl)) (fun _ _ _ h => h) (Or.inl ⟨by rfl, ?_⟩) ?_ ?_
                rotate_left
                · intro w'
                  go_simp
                  with_reducible rfl
                rotate_left
                · simp only [Act.put, List.setIfInBounds_toArray, List.set_cons_zero, List.set_cons_succ, i64_w, i32_w]
                  rfl
                refine pure_ (i := 14) (N := some 6) (v := ?_) (a' := ?_) #[true, true, true, true, true, true, true, true, true, true, true, true, true, true, true] rfl rfl (any_of HT_.out (by kernel_rfl)) (fun _ _ _ h => h) (Or.inl ⟨by rfl, ?_⟩) ?_ ?_
                rotate_left
                · intro w'
                  go_simp
                  with_reducible rfl
                rotate_left
                · simp only [Act.put, List.setIfInBounds_toArray, List.set_cons_zero, List.set_cons_succ, i64_w, i32_w]
                  rfl
                refine done_ (done_of HT_.out (by kernel_rfl)) ?_
                try go_wp2
                go_ret
                exact ⟨by first | rfl | (simp [errW_none, errW_some] <;> rfl) | (simp [*, errW_none, errW_some] <;> rfl), by repeat (first | (with_reducible first | exact HB.out | apply below_alloc | apply pw_below_drewN | apply below_drew1 | refine below_set ?_ GE184.out) | exact HB.out)⟩
              · rw [if_neg c24] at H
                exact absurd H (by simp)
            · rw [if_neg c23] at H
              exact absurd H (by simp)
          · rw [if_neg c22] at H
            exact absurd H (by simp)
        · rw [if_neg c21] at H
          exact absurd H (by simp)
      · rw [if_neg c19] at H
        exact absurd H (by simp)

/-! ### stringslite_HasPrefix: function 36 -/
def stringslite_HasPrefix.f (a0 : ByteArray) (a1 : ByteArray) : Option (Bool) := if (a0.size : Int) ≥ (a1.size : Int) then (if 0 ≤ (a1.size : Int) then (if (a1.size : Int) ≤ (a0.size : Int) then (some ((a0.extract 0 ((a1.size : Int) : Int).toNat).toList == a1.toList)) else (none)) else (none)) else (some false)
set_option maxHeartbeats 8000000 in
set_option maxRecDepth 100000 in
theorem stringslite_HasPrefix.calls (a0 : ByteArray) (a1 : ByteArray) (r : Bool) (w : World) (h : stringslite_HasPrefix.f a0 a1 = some r) :
    Calls Tryd.prog 36 #[.string a0, .string a1] w fun e w' => e = .returned (.bool r) ∧ Drawn0 w w' := by
  have H : (if (a0.size : Int) ≥ (a1.size : Int) then (if 0 ≤ (a1.size : Int) then (if (a1.size : Int) ≤ (a0.size : Int) then (some ((a0.extract 0 ((a1.size : Int) : Int).toNat).toList == a1.toList)) else (none)) else (none)) else (some false)) = some r := h
  clear h
  by_cases c3 : (a0.size : Int) ≥ (a1.size : Int)
  · rw [if_pos c3] at H
    have c3b0 : decide ((a1.size : Int) ≤ (a0.size : Int)) = true := decide_eq_true c3
    have c3b1 : decide (a1.size ≤ a0.size) = true := decide_eq_true (Int.ofNat_le.mp c3)
    clear c3
    by_cases c4 : 0 ≤ (a1.size : Int)
    · rw [if_pos c4] at H
      have c4b0 := eq_true c4
      have c4b1 : decide (0 ≤ (a1.size : Int)) = true := decide_eq_true c4
      clear c4
      by_cases c5 : (a1.size : Int) ≤ (a0.size : Int)
      · rw [if_pos c5] at H
        have c5b0 := eq_true c5
        have c5b1 : decide ((a1.size : Int) ≤ (a0.size : Int)) = true := decide_eq_true c5
        clear c5
        obtain rfl := Option.some.inj H
        go_enter Tryd.func36, Tryd.ntmps36
        go_wp2
        go_ret
        exact ⟨by first | rfl | (simp; done) | (simp [*]; done), by repeat (first | exact Drawn0.refl _ | apply Drawn0.step)⟩
      · rw [if_neg c5] at H
        exact absurd H (by simp)
    · rw [if_neg c4] at H
      exact absurd H (by simp)
  · rw [if_neg c3] at H
    have c3b0 : decide ((a1.size : Int) ≤ (a0.size : Int)) = false := decide_eq_false c3
    have c3b1 : decide (a1.size ≤ a0.size) = false := decide_eq_false (fun h => c3 (Int.ofNat_le.mpr h))
    clear c3
    obtain rfl := Option.some.inj H
    go_enter Tryd.func36, Tryd.ntmps36
    go_wp2
    go_ret
    exact ⟨by first | rfl | (simp; done) | (simp [*]; done), by repeat (first | exact Drawn0.refl _ | apply Drawn0.step)⟩

/-! ### stringslite_CutPrefix: function 33 -/
def stringslite_CutPrefix.f (a0 : ByteArray) (a1 : ByteArray) : Option (ByteArray × Bool) := (stringslite_HasPrefix.f a0 a1).bind fun t187 => (if t187 = true then (if 0 ≤ (a1.size : Int) then (if (a1.size : Int) ≤ (a0.size : Int) then (some (a0.extract ((a1.size : Int) : Int).toNat a0.size, true)) else (none)) else (none)) else (some (a0, false)))
set_option maxHeartbeats 8000000 in
set_option maxRecDepth 100000 in
theorem stringslite_CutPrefix.calls (a0 : ByteArray) (a1 : ByteArray) (r1 : ByteArray) (r2 : Bool) (w : World) (h : stringslite_CutPrefix.f a0 a1 = some (r1, r2)) :
    Calls Tryd.prog 33 #[.string a0, .string a1] w fun e w' => e = .returned (.tuple #[.string r1, .bool r2]) ∧ Drawn0 w w' := by
  have H : ((stringslite_HasPrefix.f a0 a1).bind fun t187 => (if t187 = true then (if 0 ≤ (a1.size : Int) then (if (a1.size : Int) ≤ (a0.size : Int) then (some (a0.extract ((a1.size : Int) : Int).toNat a0.size, true)) else (none)) else (none)) else (some (a0, false)))) = some (r1, r2) := h
  clear h
  replace H := Option.bind_eq_some_iff.mp H
  obtain ⟨t187, A30, H⟩ := H
  replace H : (if t187 = true then (if 0 ≤ (a1.size : Int) then (if (a1.size : Int) ≤ (a0.size : Int) then (some (a0.extract ((a1.size : Int) : Int).toNat a0.size, true)) else (none)) else (none)) else (some (a0, false))) = some (r1, r2) := H
  have A3 := Aside0.mk A30
  clear A30
  by_cases c4 : t187 = true
  · subst c4
    have H1 : (if 0 ≤ (a1.size : Int) then (if (a1.size : Int) ≤ (a0.size : Int) then (some (a0.extract ((a1.size : Int) : Int).toNat a0.size, true)) else (none)) else (none)) = some (r1, r2) := by rw [if_pos rfl] at H; exact H
    clear H
    have H := H1
    clear H1
    by_cases c5 : 0 ≤ (a1.size : Int)
    · rw [if_pos c5] at H
      have c5b0 := eq_true c5
      have c5b1 : decide (0 ≤ (a1.size : Int)) = true := decide_eq_true c5
      clear c5
      by_cases c6 : (a1.size : Int) ≤ (a0.size : Int)
      · rw [if_pos c6] at H
        have c6b0 := eq_true c6
        have c6b1 : decide ((a1.size : Int) ≤ (a0.size : Int)) = true := decide_eq_true c6
        clear c6
        simp only [Option.some.injEq, Prod.mk.injEq] at H
        obtain ⟨rfl, rfl⟩ := H
        go_enter Tryd.func33, Tryd.ntmps33
        go_wp2_with (first | ((with_reducible refine gate_callee (f := 36) rfl ?_); refine goesL_ (some 8) rfl rfl Tryd.func36 (by kernel_rfl) rfl #[.string a0, .string a1] rfl (by (try simp only [List.map_toArray, List.map_cons, List.map_nil]); first | done | rfl | (simp only [List.length_drop, List.length_take]; rfl)) ?_; (with_reducible refine (stringslite_HasPrefix.calls a0 a1 true _ A3.out).mono ?_); rintro e w' ⟨rfl, ⟨nd, rfl⟩⟩; refine ⟨_, rfl, ?_⟩))
        go_ret2
        exact ⟨by first | rfl | (simp; done) | (simp [*]; done), by repeat (first | exact Drawn0.refl _ | apply Drawn0.step)⟩
      · rw [if_neg c6] at H
        exact absurd H (by simp)
    · rw [if_neg c5] at H
      exact absurd H (by simp)
  · replace c4 := Bool.eq_false_iff.mpr c4
    subst c4
    have H1 : (some (a0, false)) = some (r1, r2) := by rw [if_neg (show ¬ (false = true) by decide)] at H; exact H
    clear H
    have H := H1
    clear H1
    simp only [Option.some.injEq, Prod.mk.injEq] at H
    obtain ⟨rfl, rfl⟩ := H
    go_enter Tryd.func33, Tryd.ntmps33
    go_wp2_with (first | ((with_reducible refine gate_callee (f := 36) rfl ?_); refine goesL_ (some 8) rfl rfl Tryd.func36 (by kernel_rfl) rfl #[.string a0, .string a1] rfl (by (try simp only [List.map_toArray, List.map_cons, List.map_nil]); first | done | rfl | (simp only [List.length_drop, List.length_take]; rfl)) ?_; (with_reducible refine (stringslite_HasPrefix.calls a0 a1 false _ A3.out).mono ?_); rintro e w' ⟨rfl, ⟨nd, rfl⟩⟩; refine ⟨_, rfl, ?_⟩))
    go_ret2
    exact ⟨by first | rfl | (simp; done) | (simp [*]; done), by repeat (first | exact Drawn0.refl _ | apply Drawn0.step)⟩

/-! ### strings_CutPrefix: function 25 -/
def strings_CutPrefix.f (a0 : ByteArray) (a1 : ByteArray) : Option (ByteArray × Bool) := (stringslite_CutPrefix.f a0 a1).bind fun bt188 => (some (bt188.1, bt188.2))
set_option maxHeartbeats 8000000 in
set_option maxRecDepth 100000 in
theorem strings_CutPrefix.calls (a0 : ByteArray) (a1 : ByteArray) (r1 : ByteArray) (r2 : Bool) (w : World) (h : strings_CutPrefix.f a0 a1 = some (r1, r2)) :
    Calls Tryd.prog 25 #[.string a0, .string a1] w fun e w' => e = .returned (.tuple #[.string r1, .bool r2]) ∧ Drawn0 w w' := by
  have H : ((stringslite_CutPrefix.f a0 a1).bind fun bt188 => (some (bt188.1, bt188.2))) = some (r1, r2) := h
  clear h
  replace H := Option.bind_eq_some_iff.mp H
  obtain ⟨⟨t188, t189⟩, A30, H⟩ := H
  replace H : (some (t188, t189)) = some (r1, r2) := H
  have A3 := Aside0.mk A30
  clear A30
  simp only [Option.some.injEq, Prod.mk.injEq] at H
  obtain ⟨rfl, rfl⟩ := H
  go_enter Tryd.func25, Tryd.ntmps25
  go_wp2_with (first | ((with_reducible refine gate_callee (f := 33) rfl ?_); refine goesL_ (some 8) rfl rfl Tryd.func33 (by kernel_rfl) rfl #[.string a0, .string a1] rfl (by (try simp only [List.map_toArray, List.map_cons, List.map_nil]); first | done | rfl | (simp only [List.length_drop, List.length_take]; rfl)) ?_; (with_reducible refine (stringslite_CutPrefix.calls a0 a1 t188 t189 _ A3.out).mono ?_); rintro e w' ⟨rfl, ⟨nd, rfl⟩⟩; refine ⟨_, rfl, ?_⟩))
  go_ret2
  exact ⟨by first | rfl | (simp; done) | (simp [*]; done), by repeat (first | exact Drawn0.refl _ | apply Drawn0.step)⟩


/-! ### impl_tongueAt: the row of impl's tongues at a number (no function of the program: an operation on the global) -/
def tongueTab : List ByteArray := [(⟨#[]⟩ : ByteArray), (⟨#[]⟩ : ByteArray), (⟨#[]⟩ : ByteArray), (⟨#[]⟩ : ByteArray), (⟨#[]⟩ : ByteArray), (⟨#[]⟩ : ByteArray), (⟨#[]⟩ : ByteArray), (⟨#[]⟩ : ByteArray), (⟨#[]⟩ : ByteArray), (⟨#[]⟩ : ByteArray), (⟨#[]⟩ : ByteArray), (⟨#[]⟩ : ByteArray), (⟨#[]⟩ : ByteArray), (⟨#[]⟩ : ByteArray), (⟨#[]⟩ : ByteArray), (⟨#[]⟩ : ByteArray), (⟨#[]⟩ : ByteArray), (⟨#[]⟩ : ByteArray), (⟨#[]⟩ : ByteArray), (⟨#[]⟩ : ByteArray), (⟨#[]⟩ : ByteArray), (⟨#[]⟩ : ByteArray), (⟨#[99, 97, 108, 109]⟩ : ByteArray), (⟨#[]⟩ : ByteArray), (⟨#[32]⟩ : ByteArray), (⟨#[44, 32, 114, 105, 115, 105, 110, 103, 32, 116, 111, 32]⟩ : ByteArray), (⟨#[44, 32, 102, 97, 108, 108, 105, 110, 103, 32, 116, 111, 32]⟩ : ByteArray), (⟨#[100, 114, 121]⟩ : ByteArray), (⟨#[32, 105, 110, 32]⟩ : ByteArray), (⟨#[112, 108, 97, 99, 101]⟩ : ByteArray), (⟨#[112, 108, 97, 99, 101, 115]⟩ : ByteArray), (⟨#[]⟩ : ByteArray), (⟨#[110, 111, 114, 116, 104, 45, 101, 97, 115, 116]⟩ : ByteArray), (⟨#[101, 97, 115, 116]⟩ : ByteArray), (⟨#[115, 111, 117, 116, 104, 45, 101, 97, 115, 116]⟩ : ByteArray), (⟨#[115, 111, 117, 116, 104]⟩ : ByteArray), (⟨#[115, 111, 117, 116, 104, 45, 119, 101, 115, 116]⟩ : ByteArray), (⟨#[119, 101, 115, 116]⟩ : ByteArray), (⟨#[110, 111, 114, 116, 104, 45, 119, 101, 115, 116]⟩ : ByteArray), (⟨#[110, 111, 114, 116, 104]⟩ : ByteArray), (⟨#[]⟩ : ByteArray), (⟨#[114, 97, 105, 110]⟩ : ByteArray), (⟨#[115, 110, 111, 119]⟩ : ByteArray), (⟨#[104, 97, 105, 108]⟩ : ByteArray), (⟨#[119, 105, 110, 100, 115, 116, 105, 108, 108]⟩ : ByteArray), (⟨#[]⟩ : ByteArray), (⟨#[32, 83, 116, 195, 164, 114, 107, 101, 32]⟩ : ByteArray), (⟨#[44, 32, 122, 117, 110, 101, 104, 109, 101, 110, 100, 32]⟩ : ByteArray), (⟨#[44, 32, 97, 98, 110, 101, 104, 109, 101, 110, 100, 32]⟩ : ByteArray), (⟨#[116, 114, 111, 99, 107, 101, 110]⟩ : ByteArray), (⟨#[32, 97, 110, 32]⟩ : ByteArray), (⟨#[79, 114, 116]⟩ : ByteArray), (⟨#[79, 114, 116, 101, 110]⟩ : ByteArray), (⟨#[]⟩ : ByteArray), (⟨#[78, 111, 114, 100, 111, 115, 116]⟩ : ByteArray), (⟨#[79, 115, 116]⟩ : ByteArray), (⟨#[83, 195, 188, 100, 111, 115, 116]⟩ : ByteArray), (⟨#[83, 195, 188, 100]⟩ : ByteArray), (⟨#[83, 195, 188, 100, 119, 101, 115, 116]⟩ : ByteArray), (⟨#[87, 101, 115, 116]⟩ : ByteArray), (⟨#[78, 111, 114, 100, 119, 101, 115, 116]⟩ : ByteArray), (⟨#[78, 111, 114, 100]⟩ : ByteArray), (⟨#[]⟩ : ByteArray), (⟨#[82, 101, 103, 101, 110]⟩ : ByteArray), (⟨#[83, 99, 104, 110, 101, 101]⟩ : ByteArray), (⟨#[72, 97, 103, 101, 108]⟩ : ByteArray), (⟨#[99, 105, 115, 122, 97]⟩ : ByteArray), (⟨#[119, 105, 97, 116, 114, 32]⟩ : ByteArray), (⟨#[44, 32, 115, 105, 197, 130, 97, 32]⟩ : ByteArray), (⟨#[44, 32, 119, 122, 114, 111, 115, 116, 32, 100, 111, 32]⟩ : ByteArray), (⟨#[44, 32, 115, 112, 97, 100, 101, 107, 32, 100, 111, 32]⟩ : ByteArray), (⟨#[115, 117, 99, 104, 111]⟩ : ByteArray), (⟨#[32, 119, 32]⟩ : ByteArray), (⟨#[109, 105, 101, 106, 115, 99, 117]⟩ : ByteArray), (⟨#[109, 105, 101, 106, 115, 99, 97, 99, 104]⟩ : ByteArray), (⟨#[]⟩ : ByteArray), (⟨#[112, 195, 179, 197, 130, 110, 111, 99, 110, 111, 45, 119, 115, 99, 104, 111, 100, 110, 105]⟩ : ByteArray), (⟨#[119, 115, 99, 104, 111, 100, 110, 105]⟩ : ByteArray), (⟨#[112, 111, 197, 130, 117, 100, 110, 105, 111, 119, 111, 45, 119, 115, 99, 104, 111, 100, 110, 105]⟩ : ByteArray), (⟨#[112, 111, 197, 130, 117, 100, 110, 105, 111, 119, 121]⟩ : ByteArray), (⟨#[112, 111, 197, 130, 117, 100, 110, 105, 111, 119, 111, 45, 122, 97, 99, 104, 111, 100, 110, 105]⟩ : ByteArray), (⟨#[122, 97, 99, 104, 111, 100, 110, 105]⟩ : ByteArray), (⟨#[112, 195, 179, 197, 130, 110, 111, 99, 110, 111, 45, 122, 97, 99, 104, 111, 100, 110, 105]⟩ : ByteArray), (⟨#[112, 195, 179, 197, 130, 110, 111, 99, 110, 121]⟩ : ByteArray), (⟨#[]⟩ : ByteArray), (⟨#[100, 101, 115, 122, 99, 122]⟩ : ByteArray), (⟨#[197, 155, 110, 105, 101, 103]⟩ : ByteArray), (⟨#[103, 114, 97, 100]⟩ : ByteArray)]
def TongIs (w : World) : Prop := ∀ i, i < 88 → w.cell? ⟨0, i, none⟩ = some (.string (tongueTab.getD i ByteArray.empty))
theorem tong_on {w w1 : World} (hG : TongIs w) (hb : Below w.heap.size w w1) : TongIs w1 := fun i hi => (hb.cell (World.block_lt_of_cell? w _ (hG i hi))).trans (hG i hi)
def impl_tongueAt.f (a : Int) : Option (ByteArray × ByteArray × ByteArray × ByteArray × ByteArray × ByteArray × ByteArray × ByteArray × ByteArray × ByteArray × ByteArray × ByteArray × ByteArray × ByteArray × ByteArray × ByteArray × ByteArray × ByteArray × ByteArray × ByteArray × ByteArray × ByteArray) := if a = 1 then some ((⟨#[99, 97, 108, 109]⟩ : ByteArray), (⟨#[]⟩ : ByteArray), (⟨#[32]⟩ : ByteArray), (⟨#[44, 32, 114, 105, 115, 105, 110, 103, 32, 116, 111, 32]⟩ : ByteArray), (⟨#[44, 32, 102, 97, 108, 108, 105, 110, 103, 32, 116, 111, 32]⟩ : ByteArray), (⟨#[100, 114, 121]⟩ : ByteArray), (⟨#[32, 105, 110, 32]⟩ : ByteArray), (⟨#[112, 108, 97, 99, 101]⟩ : ByteArray), (⟨#[112, 108, 97, 99, 101, 115]⟩ : ByteArray), (⟨#[]⟩ : ByteArray), (⟨#[110, 111, 114, 116, 104, 45, 101, 97, 115, 116]⟩ : ByteArray), (⟨#[101, 97, 115, 116]⟩ : ByteArray), (⟨#[115, 111, 117, 116, 104, 45, 101, 97, 115, 116]⟩ : ByteArray), (⟨#[115, 111, 117, 116, 104]⟩ : ByteArray), (⟨#[115, 111, 117, 116, 104, 45, 119, 101, 115, 116]⟩ : ByteArray), (⟨#[119, 101, 115, 116]⟩ : ByteArray), (⟨#[110, 111, 114, 116, 104, 45, 119, 101, 115, 116]⟩ : ByteArray), (⟨#[110, 111, 114, 116, 104]⟩ : ByteArray), (⟨#[]⟩ : ByteArray), (⟨#[114, 97, 105, 110]⟩ : ByteArray), (⟨#[115, 110, 111, 119]⟩ : ByteArray), (⟨#[104, 97, 105, 108]⟩ : ByteArray)) else if a = 2 then some ((⟨#[119, 105, 110, 100, 115, 116, 105, 108, 108]⟩ : ByteArray), (⟨#[]⟩ : ByteArray), (⟨#[32, 83, 116, 195, 164, 114, 107, 101, 32]⟩ : ByteArray), (⟨#[44, 32, 122, 117, 110, 101, 104, 109, 101, 110, 100, 32]⟩ : ByteArray), (⟨#[44, 32, 97, 98, 110, 101, 104, 109, 101, 110, 100, 32]⟩ : ByteArray), (⟨#[116, 114, 111, 99, 107, 101, 110]⟩ : ByteArray), (⟨#[32, 97, 110, 32]⟩ : ByteArray), (⟨#[79, 114, 116]⟩ : ByteArray), (⟨#[79, 114, 116, 101, 110]⟩ : ByteArray), (⟨#[]⟩ : ByteArray), (⟨#[78, 111, 114, 100, 111, 115, 116]⟩ : ByteArray), (⟨#[79, 115, 116]⟩ : ByteArray), (⟨#[83, 195, 188, 100, 111, 115, 116]⟩ : ByteArray), (⟨#[83, 195, 188, 100]⟩ : ByteArray), (⟨#[83, 195, 188, 100, 119, 101, 115, 116]⟩ : ByteArray), (⟨#[87, 101, 115, 116]⟩ : ByteArray), (⟨#[78, 111, 114, 100, 119, 101, 115, 116]⟩ : ByteArray), (⟨#[78, 111, 114, 100]⟩ : ByteArray), (⟨#[]⟩ : ByteArray), (⟨#[82, 101, 103, 101, 110]⟩ : ByteArray), (⟨#[83, 99, 104, 110, 101, 101]⟩ : ByteArray), (⟨#[72, 97, 103, 101, 108]⟩ : ByteArray)) else if a = 3 then some ((⟨#[99, 105, 115, 122, 97]⟩ : ByteArray), (⟨#[119, 105, 97, 116, 114, 32]⟩ : ByteArray), (⟨#[44, 32, 115, 105, 197, 130, 97, 32]⟩ : ByteArray), (⟨#[44, 32, 119, 122, 114, 111, 115, 116, 32, 100, 111, 32]⟩ : ByteArray), (⟨#[44, 32, 115, 112, 97, 100, 101, 107, 32, 100, 111, 32]⟩ : ByteArray), (⟨#[115, 117, 99, 104, 111]⟩ : ByteArray), (⟨#[32, 119, 32]⟩ : ByteArray), (⟨#[109, 105, 101, 106, 115, 99, 117]⟩ : ByteArray), (⟨#[109, 105, 101, 106, 115, 99, 97, 99, 104]⟩ : ByteArray), (⟨#[]⟩ : ByteArray), (⟨#[112, 195, 179, 197, 130, 110, 111, 99, 110, 111, 45, 119, 115, 99, 104, 111, 100, 110, 105]⟩ : ByteArray), (⟨#[119, 115, 99, 104, 111, 100, 110, 105]⟩ : ByteArray), (⟨#[112, 111, 197, 130, 117, 100, 110, 105, 111, 119, 111, 45, 119, 115, 99, 104, 111, 100, 110, 105]⟩ : ByteArray), (⟨#[112, 111, 197, 130, 117, 100, 110, 105, 111, 119, 121]⟩ : ByteArray), (⟨#[112, 111, 197, 130, 117, 100, 110, 105, 111, 119, 111, 45, 122, 97, 99, 104, 111, 100, 110, 105]⟩ : ByteArray), (⟨#[122, 97, 99, 104, 111, 100, 110, 105]⟩ : ByteArray), (⟨#[112, 195, 179, 197, 130, 110, 111, 99, 110, 111, 45, 122, 97, 99, 104, 111, 100, 110, 105]⟩ : ByteArray), (⟨#[112, 195, 179, 197, 130, 110, 111, 99, 110, 121]⟩ : ByteArray), (⟨#[]⟩ : ByteArray), (⟨#[100, 101, 115, 122, 99, 122]⟩ : ByteArray), (⟨#[197, 155, 110, 105, 101, 103]⟩ : ByteArray), (⟨#[103, 114, 97, 100]⟩ : ByteArray)) else none
theorem tong_range {w : World} (hG : TongIs w) (o : Nat) (ho : o + 22 ≤ 88) : w.rangeAt 0 o (((tongueTab.drop o).take 22).map Value.string) := by
  intro j v hv
  rw [List.getElem?_map] at hv
  obtain ⟨x, hx, rfl⟩ := Option.map_eq_some_iff.1 hv
  have hj : j < 22 := by
    by_cases h : j < 22
    · exact h
    · rw [List.getElem?_eq_none (by rw [List.length_take]; omega)] at hx
      cases hx
  rw [List.getElem?_take, if_pos hj, List.getElem?_drop] at hx
  rw [hG (o + j) (by omega), List.getD_eq_getElem?_getD, hx]
  rfl
set_option maxRecDepth 100000 in
theorem tongueAt_range {a : Int} {t0 t1 t2 t3 t4 t5 t6 t7 t8 t9 t10 t11 t12 t13 t14 t15 t16 t17 t18 t19 t20 t21 : ByteArray} {w : World} (h : impl_tongueAt.f a = some (t0, t1, t2, t3, t4, t5, t6, t7, t8, t9, t10, t11, t12, t13, t14, t15, t16, t17, t18, t19, t20, t21)) (hG : TongIs w) :
    1 ≤ a ∧ a < 4 ∧ w.rangeAt 0 (a.toNat * 22) [.string t0, .string t1, .string t2, .string t3, .string t4, .string t5, .string t6, .string t7, .string t8, .string t9, .string t10, .string t11, .string t12, .string t13, .string t14, .string t15, .string t16, .string t17, .string t18, .string t19, .string t20, .string t21] := by
  unfold impl_tongueAt.f at h
  by_cases c1 : a = 1
  · subst c1
    rw [if_pos rfl] at h
    injection h with h
    simp only [Prod.mk.injEq] at h
    obtain ⟨rfl, rfl, rfl, rfl, rfl, rfl, rfl, rfl, rfl, rfl, rfl, rfl, rfl, rfl, rfl, rfl, rfl, rfl, rfl, rfl, rfl, rfl⟩ := h
    exact ⟨by decide, by decide, tong_range hG 22 (by decide)⟩
  · rw [if_neg c1] at h
    by_cases c2 : a = 2
    · subst c2
      rw [if_pos rfl] at h
      injection h with h
      simp only [Prod.mk.injEq] at h
      obtain ⟨rfl, rfl, rfl, rfl, rfl, rfl, rfl, rfl, rfl, rfl, rfl, rfl, rfl, rfl, rfl, rfl, rfl, rfl, rfl, rfl, rfl, rfl⟩ := h
      exact ⟨by decide, by decide, tong_range hG 44 (by decide)⟩
    · rw [if_neg c2] at h
      by_cases c3 : a = 3
      · subst c3
        rw [if_pos rfl] at h
        injection h with h
        simp only [Prod.mk.injEq] at h
        obtain ⟨rfl, rfl, rfl, rfl, rfl, rfl, rfl, rfl, rfl, rfl, rfl, rfl, rfl, rfl, rfl, rfl, rfl, rfl, rfl, rfl, rfl, rfl⟩ := h
        exact ⟨by decide, by decide, tong_range hG 66 (by decide)⟩
      · rw [if_neg c3] at h
        cases h
theorem info_tong : (Tryd.prog.info? 44).map (·.size) = some 22 := by kernel_rfl
theorem there_blk {w : World} {g : Nat} {t : TypeId} {cs : Array Value} (h : w.heap[g]? = some (.cells cs t (0, 0))) : w.there g 0 cs.size := fun j hj =>
  ⟨by rw [blk_cell h (0 + j), Nat.zero_add, Array.getElem?_eq_getElem hj]; rfl, blk_frozen h (0 + j)⟩
section
variable {P : Program} {ops : Array Oper} {rest : List Oper} {o : Oper} {a : Act} {Q : Exit → Act → World → Prop}
theorem range_blk {w : World} {g : Nat} {t : TypeId} {cs : Array Value} (h : w.heap[g]? = some (.cells cs t (0, 0))) : w.rangeAt g 0 cs.toList := fun j v hv => by
  rw [blk_cell h (0 + j), Nat.zero_add, ← Array.getElem?_toList]; exact hv
theorem range_nil {w : World} {b o : Nat} : w.rangeAt b o [] := fun j v h => by simp at h
theorem range_cons {w : World} {b o : Nat} {v : Value} {r : List Value} (h : w.cell? ⟨b, o, none⟩ = some v) (hr : w.rangeAt b (o + 1) r) : w.rangeAt b o (v :: r) := by
  intro j u hu
  cases j with
  | zero => simp at hu; subst hu; exact h
  | succ j =>
    have := hr j u (by simpa using hu)
    rw [show o + (j + 1) = o + 1 + j by omega]
    exact this
theorem tg_load_run {w : World} (ty : TypeId) (x : Operand) (ho : o.op = .load ty x) (b f : Nat) (hx : a.eval x = .pointer (some ⟨b, f, none⟩)) (cs : List Value) (d : TypeDesc) (hc : w.rangeAt b f cs)
    (hu : P.underlying ty = some d) (hd : d.isRow = true) (hi : (P.info? ty).map (·.size) = some cs.length) : (execOp a.eval o).run P w = .ok (.value (.agg cs.toArray)) w := by
  unfold execOp
  simp only [ho, hx, Instr.loadAt, Instr.sureAddr, Sem.run_bind, Sem.run_pure, Result.andThen_ok, run_loadVar_mid w b f ty cs d hc hu hd hi]
theorem tg_load_g {w : World} (hw : Region.wanted o (yielded ops a.tmps) = true) (ty : TypeId) (x : Operand) (ho : o.op = .load ty x) (b f : Nat) (hx : a.eval x = .pointer (some ⟨b, f, none⟩)) (cs : List Value) (d : TypeDesc) (hc : w.rangeAt b f cs)
    (hu : P.underlying ty = some d) (hd : d.isRow = true) (hi : (P.info? ty).map (·.size) = some cs.length) (h : wpList P ops Q rest (a.put o.dst (.agg cs.toArray)) w) : wpList P ops Q (o :: rest) a w :=
  wpList_step fun K hK => by simp only [hw, if_true]; exact wp_load_mid ty x ho b f hx cs d hc hu hd hi (hK _ _ h)
theorem tg_store {w W' : World} (hgd : o.guard = none) (hN : o.dst = none) (ty : TypeId) (x y : Operand) (ho : o.op = .store ty x y) (b : Nat) (cells : Array Value) (hx : a.eval x = .pointer (some ⟨b, 0, none⟩)) (hy : a.eval y = .agg cells)
    (n : Nat) (ht : w.there b 0 n) (hnn : n = cells.size) (hi : (P.info? ty).map (·.size) = some cells.size) (h1 : cells.toList.all (·.oneCell') = true) (hW : w.setCells b 0 cells.toList = W') (h : wpList P ops Q rest a W') : wpList P ops Q (o :: rest) a w := by
  subst hnn
  refine wpList_store_mid hgd ty x y ho b 0 cells hx hy ht hi (by rw [← Array.all_toList]; exact h1) ?_
  rw [hN, hW]
  exact h
end

end Go.Proofs.YtllkijlmjapleaaDoor.QFnExactReadPhrase
