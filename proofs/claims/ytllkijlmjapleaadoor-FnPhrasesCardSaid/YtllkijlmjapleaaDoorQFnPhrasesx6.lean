-- Written by a program of this session out of the printer's texts and contracts of its own.
import Derived.Test.YtllkijlmjapleaaDoorQFnPhrasesx0
import Derived.Test.YtllkijlmjapleaaDoorQFnPhrasesx4
import Derived.Test.YtllkijlmjapleaaDoorQFnPhrasesx5
namespace Go.Proofs.YtllkijlmjapleaaDoor.QFnPhrases
open Go.RowKit Go.Proofs.YtllkijlmjapleaaDoorW.PrintWords Go.Proofs.YtllkijlmjapleaaDoorW.PrintLast Go.Proofs.YtllkijlmjapleaaDoorW.PrintMore
attribute [local go_sem] max2_int min2_int max_two min_two max_three min_three max_four min_four   -- for this text's walks alone
set_option linter.unusedVariables false
set_option linter.unusedSimpArgs false

/-! ### impl_tongue_rain: function 23 -/
def impl_tongue_rain.f (a0_0 : ByteArray) (a0_1 : ByteArray) (a0_2 : ByteArray) (a0_3 : ByteArray) (a0_4 : ByteArray) (a0_5 : ByteArray) (a0_6 : ByteArray) (a0_7 : ByteArray) (a0_8 : ByteArray) (a0_9 : ByteArray) (a0_10 : ByteArray) (a0_11 : ByteArray) (a0_12 : ByteArray) (a0_13 : ByteArray) (a0_14 : ByteArray) (a0_15 : ByteArray) (a0_16 : ByteArray) (a0_17 : ByteArray) (a0_18 : ByteArray) (a0_19 : ByteArray) (a0_20 : ByteArray) (a0_21 : ByteArray) (a1 : Int) (a2 : Int) : Option (ByteArray) := if a1 = 0 then (if a0_5.size + 1 ≤ 9223372036854775807 then (some (a0_5 ++ (⟨#[46]⟩ : ByteArray))) else (none)) else (if 0 < a1 then (if a1 < 4 then (if a2 = 1 then (if (tgAt a0_0 a0_1 a0_2 a0_3 a0_4 a0_5 a0_6 a0_7 a0_8 a0_9 a0_10 a0_11 a0_12 a0_13 a0_14 a0_15 a0_16 a0_17 a0_18 a0_19 a0_20 a0_21 (18 + a1.toNat)).size + a0_6.size ≤ 9223372036854775807 then ((impl_dec.f a2).bind fun t180 => (if ((tgAt a0_0 a0_1 a0_2 a0_3 a0_4 a0_5 a0_6 a0_7 a0_8 a0_9 a0_10 a0_11 a0_12 a0_13 a0_14 a0_15 a0_16 a0_17 a0_18 a0_19 a0_20 a0_21 (18 + a1.toNat)) ++ a0_6).size + t180.size ≤ 9223372036854775807 then (if (((tgAt a0_0 a0_1 a0_2 a0_3 a0_4 a0_5 a0_6 a0_7 a0_8 a0_9 a0_10 a0_11 a0_12 a0_13 a0_14 a0_15 a0_16 a0_17 a0_18 a0_19 a0_20 a0_21 (18 + a1.toNat)) ++ a0_6) ++ t180).size + 1 ≤ 9223372036854775807 then (if ((((tgAt a0_0 a0_1 a0_2 a0_3 a0_4 a0_5 a0_6 a0_7 a0_8 a0_9 a0_10 a0_11 a0_12 a0_13 a0_14 a0_15 a0_16 a0_17 a0_18 a0_19 a0_20 a0_21 (18 + a1.toNat)) ++ a0_6) ++ t180) ++ (⟨#[32]⟩ : ByteArray)).size + a0_7.size ≤ 9223372036854775807 then (if (((((tgAt a0_0 a0_1 a0_2 a0_3 a0_4 a0_5 a0_6 a0_7 a0_8 a0_9 a0_10 a0_11 a0_12 a0_13 a0_14 a0_15 a0_16 a0_17 a0_18 a0_19 a0_20 a0_21 (18 + a1.toNat)) ++ a0_6) ++ t180) ++ (⟨#[32]⟩ : ByteArray)) ++ a0_7).size + 1 ≤ 9223372036854775807 then (some ((((((tgAt a0_0 a0_1 a0_2 a0_3 a0_4 a0_5 a0_6 a0_7 a0_8 a0_9 a0_10 a0_11 a0_12 a0_13 a0_14 a0_15 a0_16 a0_17 a0_18 a0_19 a0_20 a0_21 (18 + a1.toNat)) ++ a0_6) ++ t180) ++ (⟨#[32]⟩ : ByteArray)) ++ a0_7) ++ (⟨#[46]⟩ : ByteArray))) else (none)) else (none)) else (none)) else (none))) else (none)) else (if (tgAt a0_0 a0_1 a0_2 a0_3 a0_4 a0_5 a0_6 a0_7 a0_8 a0_9 a0_10 a0_11 a0_12 a0_13 a0_14 a0_15 a0_16 a0_17 a0_18 a0_19 a0_20 a0_21 (18 + a1.toNat)).size + a0_6.size ≤ 9223372036854775807 then ((impl_dec.f a2).bind fun t181 => (if ((tgAt a0_0 a0_1 a0_2 a0_3 a0_4 a0_5 a0_6 a0_7 a0_8 a0_9 a0_10 a0_11 a0_12 a0_13 a0_14 a0_15 a0_16 a0_17 a0_18 a0_19 a0_20 a0_21 (18 + a1.toNat)) ++ a0_6).size + t181.size ≤ 9223372036854775807 then (if (((tgAt a0_0 a0_1 a0_2 a0_3 a0_4 a0_5 a0_6 a0_7 a0_8 a0_9 a0_10 a0_11 a0_12 a0_13 a0_14 a0_15 a0_16 a0_17 a0_18 a0_19 a0_20 a0_21 (18 + a1.toNat)) ++ a0_6) ++ t181).size + 1 ≤ 9223372036854775807 then (if ((((tgAt a0_0 a0_1 a0_2 a0_3 a0_4 a0_5 a0_6 a0_7 a0_8 a0_9 a0_10 a0_11 a0_12 a0_13 a0_14 a0_15 a0_16 a0_17 a0_18 a0_19 a0_20 a0_21 (18 + a1.toNat)) ++ a0_6) ++ t181) ++ (⟨#[32]⟩ : ByteArray)).size + a0_8.size ≤ 9223372036854775807 then (if (((((tgAt a0_0 a0_1 a0_2 a0_3 a0_4 a0_5 a0_6 a0_7 a0_8 a0_9 a0_10 a0_11 a0_12 a0_13 a0_14 a0_15 a0_16 a0_17 a0_18 a0_19 a0_20 a0_21 (18 + a1.toNat)) ++ a0_6) ++ t181) ++ (⟨#[32]⟩ : ByteArray)) ++ a0_8).size + 1 ≤ 9223372036854775807 then (some ((((((tgAt a0_0 a0_1 a0_2 a0_3 a0_4 a0_5 a0_6 a0_7 a0_8 a0_9 a0_10 a0_11 a0_12 a0_13 a0_14 a0_15 a0_16 a0_17 a0_18 a0_19 a0_20 a0_21 (18 + a1.toNat)) ++ a0_6) ++ t181) ++ (⟨#[32]⟩ : ByteArray)) ++ a0_8) ++ (⟨#[46]⟩ : ByteArray))) else (none)) else (none)) else (none)) else (none))) else (none))) else (none)) else (none))
def impl_tongue_rain.T6 : Bool × List (List Nat × List Nat) := (true, [([], []), ([], []), ([1, 0], [0, 1]), ([2], [2]), ([], []), ([4], [4]), ([3, 5], [3, 5]), ([], []), ([7], [7]), ([6, 8], [6, 8]), ([9], [9]), ([], []), ([10, 11], [10, 11]), ([12], [12]), ([13, 8, 0, 1, 2, 3, 4, 5, 6, 7, 8, 9, 10, 11, 12, 13], [13])])
def impl_tongue_rain.B6 : List Nat := [0, 0, 3, 7, 0, 16, 63, 0, 128, 511, 1023, 0, 4095, 8191, 16383]
theorem impl_tongue_rain.tab6 : rtab .any (opsOf Tryd.f23 6) = impl_tongue_rain.T6 := by kernel_rfl
theorem impl_tongue_rain.bits6 : waitsOk impl_tongue_rain.T6.2 impl_tongue_rain.B6 = true := by kernel_rfl
set_option maxHeartbeats 8000000 in
set_option maxRecDepth 100000 in
theorem impl_tongue_rain.calls (a0_0 : ByteArray) (a0_1 : ByteArray) (a0_2 : ByteArray) (a0_3 : ByteArray) (a0_4 : ByteArray) (a0_5 : ByteArray) (a0_6 : ByteArray) (a0_7 : ByteArray) (a0_8 : ByteArray) (a0_9 : ByteArray) (a0_10 : ByteArray) (a0_11 : ByteArray) (a0_12 : ByteArray) (a0_13 : ByteArray) (a0_14 : ByteArray) (a0_15 : ByteArray) (a0_16 : ByteArray) (a0_17 : ByteArray) (a0_18 : ByteArray) (a0_19 : ByteArray) (a0_20 : ByteArray) (a0_21 : ByteArray) (a1 : Int) (a2 : Int) (r : ByteArray) (w : World) (h : impl_tongue_rain.f a0_0 a0_1 a0_2 a0_3 a0_4 a0_5 a0_6 a0_7 a0_8 a0_9 a0_10 a0_11 a0_12 a0_13 a0_14 a0_15 a0_16 a0_17 a0_18 a0_19 a0_20 a0_21 a1 a2 = some r) (hT : Lib.TabIs Tryd.prog w "internal/strconv.uint64pow10" .u64 Lib.pow10Tab) :
    Calls Tryd.prog 23 #[.agg #[.string a0_0, .string a0_1, .string a0_2, .string a0_3, .string a0_4, .string a0_5, .string a0_6, .string a0_7, .string a0_8, .string a0_9, .string a0_10, .string a0_11, .string a0_12, .string a0_13, .string a0_14, .string a0_15, .string a0_16, .string a0_17, .string a0_18, .string a0_19, .string a0_20, .string a0_21], .int .i64 a1, .int .i64 a2] w fun e w' => e = .returned (.string r) ∧ Below w.heap.size w w' := by
  have HTb := Aside0.mk hT; clear hT
  have hu44 := Tryd.underlying44
  have HB := Aside0.mk (Below.refl w.heap.size w)
  have H : (if a1 = 0 then (if a0_5.size + 1 ≤ 9223372036854775807 then (some (a0_5 ++ (⟨#[46]⟩ : ByteArray))) else (none)) else (if 0 < a1 then (if a1 < 4 then (if a2 = 1 then (if (tgAt a0_0 a0_1 a0_2 a0_3 a0_4 a0_5 a0_6 a0_7 a0_8 a0_9 a0_10 a0_11 a0_12 a0_13 a0_14 a0_15 a0_16 a0_17 a0_18 a0_19 a0_20 a0_21 (18 + a1.toNat)).size + a0_6.size ≤ 9223372036854775807 then ((impl_dec.f a2).bind fun t180 => (if ((tgAt a0_0 a0_1 a0_2 a0_3 a0_4 a0_5 a0_6 a0_7 a0_8 a0_9 a0_10 a0_11 a0_12 a0_13 a0_14 a0_15 a0_16 a0_17 a0_18 a0_19 a0_20 a0_21 (18 + a1.toNat)) ++ a0_6).size + t180.size ≤ 9223372036854775807 then (if (((tgAt a0_0 a0_1 a0_2 a0_3 a0_4 a0_5 a0_6 a0_7 a0_8 a0_9 a0_10 a0_11 a0_12 a0_13 a0_14 a0_15 a0_16 a0_17 a0_18 a0_19 a0_20 a0_21 (18 + a1.toNat)) ++ a0_6) ++ t180).size + 1 ≤ 9223372036854775807 then (if ((((tgAt a0_0 a0_1 a0_2 a0_3 a0_4 a0_5 a0_6 a0_7 a0_8 a0_9 a0_10 a0_11 a0_12 a0_13 a0_14 a0_15 a0_16 a0_17 a0_18 a0_19 a0_20 a0_21 (18 + a1.toNat)) ++ a0_6) ++ t180) ++ (⟨#[32]⟩ : ByteArray)).size + a0_7.size ≤ 9223372036854775807 then (if (((((tgAt a0_0 a0_1 a0_2 a0_3 a0_4 a0_5 a0_6 a0_7 a0_8 a0_9 a0_10 a0_11 a0_12 a0_13 a0_14 a0_15 a0_16 a0_17 a0_18 a0_19 a0_20 a0_21 (18 + a1.toNat)) ++ a0_6) ++ t180) ++ (⟨#[32]⟩ : ByteArray)) ++ a0_7).size + 1 ≤ 9223372036854775807 then (some ((((((tgAt a0_0 a0_1 a0_2 a0_3 a0_4 a0_5 a0_6 a0_7 a0_8 a0_9 a0_10 a0_11 a0_12 a0_13 a0_14 a0_15 a0_16 a0_17 a0_18 a0_19 a0_20 a0_21 (18 + a1.toNat)) ++ a0_6) ++ t180) ++ (⟨#[32]⟩ : ByteArray)) ++ a0_7) ++ (⟨#[46]⟩ : ByteArray))) else (none)) else (none)) else (none)) else (none))) else (none)) else (if (tgAt a0_0 a0_1 a0_2 a0_3 a0_4 a0_5 a0_6 a0_7 a0_8 a0_9 a0_10 a0_11 a0_12 a0_13 a0_14 a0_15 a0_16 a0_17 a0_18 a0_19 a0_20 a0_21 (18 + a1.toNat)).size + a0_6.size ≤ 9223372036854775807 then ((impl_dec.f a2).bind fun t181 => (if ((tgAt a0_0 a0_1 a0_2 a0_3 a0_4 a0_5 a0_6 a0_7 a0_8 a0_9 a0_10 a0_11 a0_12 a0_13 a0_14 a0_15 a0_16 a0_17 a0_18 a0_19 a0_20 a0_21 (18 + a1.toNat)) ++ a0_6).size + t181.size ≤ 9223372036854775807 then (if (((tgAt a0_0 a0_1 a0_2 a0_3 a0_4 a0_5 a0_6 a0_7 a0_8 a0_9 a0_10 a0_11 a0_12 a0_13 a0_14 a0_15 a0_16 a0_17 a0_18 a0_19 a0_20 a0_21 (18 + a1.toNat)) ++ a0_6) ++ t181).size + 1 ≤ 9223372036854775807 then (if ((((tgAt a0_0 a0_1 a0_2 a0_3 a0_4 a0_5 a0_6 a0_7 a0_8 a0_9 a0_10 a0_11 a0_12 a0_13 a0_14 a0_15 a0_16 a0_17 a0_18 a0_19 a0_20 a0_21 (18 + a1.toNat)) ++ a0_6) ++ t181) ++ (⟨#[32]⟩ : ByteArray)).size + a0_8.size ≤ 9223372036854775807 then (if (((((tgAt a0_0 a0_1 a0_2 a0_3 a0_4 a0_5 a0_6 a0_7 a0_8 a0_9 a0_10 a0_11 a0_12 a0_13 a0_14 a0_15 a0_16 a0_17 a0_18 a0_19 a0_20 a0_21 (18 + a1.toNat)) ++ a0_6) ++ t181) ++ (⟨#[32]⟩ : ByteArray)) ++ a0_8).size + 1 ≤ 9223372036854775807 then (some ((((((tgAt a0_0 a0_1 a0_2 a0_3 a0_4 a0_5 a0_6 a0_7 a0_8 a0_9 a0_10 a0_11 a0_12 a0_13 a0_14 a0_15 a0_16 a0_17 a0_18 a0_19 a0_20 a0_21 (18 + a1.toNat)) ++ a0_6) ++ t181) ++ (⟨#[32]⟩ : ByteArray)) ++ a0_8) ++ (⟨#[46]⟩ : ByteArray))) else (none)) else (none)) else (none)) else (none))) else (none))) else (none)) else (none))) = some r := h
  clear h
  by_cases c4 : a1 = 0
  · rw [if_pos c4] at H
    have c4b0 : (a1 == 0) = true := beq_iff_eq.mpr c4
    have c4b1 : (a1 != 0) = false := bne_eq_false_iff_eq.mpr c4
    clear c4
    by_cases c5 : a0_5.size + 1 ≤ 9223372036854775807
    · rw [if_pos c5] at H
      have c5b0 := eq_true c5
      have c5b1 : decide (a0_5.size + 1 ≤ 9223372036854775807) = true := decide_eq_true c5
      try have c5b2 : (9223372036854775807 < a0_5.size + 1) = False := eq_false (Nat.not_lt.2 c5)
      obtain rfl := Option.some.inj H
      go_enter Tryd.func23, Tryd.ntmps23
      go_wp2_with (first | ((with_reducible refine gate_dst (N := 3) rfl ?_); refine box_event ?hg (N := 3) ?hd (cs := #[.string a0_0, .string a0_1, .string a0_2, .string a0_3, .string a0_4, .string a0_5, .string a0_6, .string a0_7, .string a0_8, .string a0_9, .string a0_10, .string a0_11, .string a0_12, .string a0_13, .string a0_14, .string a0_15, .string a0_16, .string a0_17, .string a0_18, .string a0_19, .string a0_20, .string a0_21]) (t := 44) ?hr ?_; (case hd => rfl); (case hg => rfl); (case hr => first | (go_simp; done) | (go_simp; rfl)); intro gb179 hg w6 hbox hb; have n0_ := Aside0.mk (below_step (by repeat (first | (with_reducible first | exact HB.out | apply below_alloc | apply pw_below_drewN | apply below_drew1) | exact HB.out)) hb); have n1_ := Aside0.mk (hbox); have n2_ := Aside0.mk ((by rw [hg]; exact (below_size (by repeat (first | (with_reducible first | exact HB.out | apply below_alloc | apply pw_below_drewN | apply below_drew1) | exact HB.out))) : w.heap.size ≤ gb179)); have n3_ := Aside0.mk ((by rw [hg]; exact (below_size (by repeat (first | (with_reducible first | exact HB.out | apply below_alloc | apply pw_below_drewN | apply below_drew1) | exact HB.out))) : w.heap.size ≤ gb179)); clear HB; have HB := n0_; have BK179 := n1_; have GW179 := n2_; have GE179 := n3_; clear n0_ n1_ n2_ n3_; clear hb hbox hg; have hcz7_0 : w6.cell? ⟨gb179, 0, none⟩ = some (.string a0_0) := (blk_cell BK179.out 0).trans rfl; have hcz7_1 : w6.cell? ⟨gb179, 1, none⟩ = some (.string a0_1) := (blk_cell BK179.out 1).trans rfl; have hcz7_2 : w6.cell? ⟨gb179, 2, none⟩ = some (.string a0_2) := (blk_cell BK179.out 2).trans rfl; have hcz7_3 : w6.cell? ⟨gb179, 3, none⟩ = some (.string a0_3) := (blk_cell BK179.out 3).trans rfl; have hcz7_4 : w6.cell? ⟨gb179, 4, none⟩ = some (.string a0_4) := (blk_cell BK179.out 4).trans rfl; have hcz7_5 : w6.cell? ⟨gb179, 5, none⟩ = some (.string a0_5) := (blk_cell BK179.out 5).trans rfl; have hcz7_6 : w6.cell? ⟨gb179, 6, none⟩ = some (.string a0_6) := (blk_cell BK179.out 6).trans rfl; have hcz7_7 : w6.cell? ⟨gb179, 7, none⟩ = some (.string a0_7) := (blk_cell BK179.out 7).trans rfl; have hcz7_8 : w6.cell? ⟨gb179, 8, none⟩ = some (.string a0_8) := (blk_cell BK179.out 8).trans rfl; have hcz7_9 : w6.cell? ⟨gb179, 9, none⟩ = some (.string a0_9) := (blk_cell BK179.out 9).trans rfl; have hcz7_10 : w6.cell? ⟨gb179, 10, none⟩ = some (.string a0_10) := (blk_cell BK179.out 10).trans rfl; have hcz7_11 : w6.cell? ⟨gb179, 11, none⟩ = some (.string a0_11) := (blk_cell BK179.out 11).trans rfl; have hcz7_12 : w6.cell? ⟨gb179, 12, none⟩ = some (.string a0_12) := (blk_cell BK179.out 12).trans rfl; have hcz7_13 : w6.cell? ⟨gb179, 13, none⟩ = some (.string a0_13) := (blk_cell BK179.out 13).trans rfl; have hcz7_14 : w6.cell? ⟨gb179, 14, none⟩ = some (.string a0_14) := (blk_cell BK179.out 14).trans rfl; have hcz7_15 : w6.cell? ⟨gb179, 15, none⟩ = some (.string a0_15) := (blk_cell BK179.out 15).trans rfl; have hcz7_16 : w6.cell? ⟨gb179, 16, none⟩ = some (.string a0_16) := (blk_cell BK179.out 16).trans rfl; have hcz7_17 : w6.cell? ⟨gb179, 17, none⟩ = some (.string a0_17) := (blk_cell BK179.out 17).trans rfl; have hcz7_18 : w6.cell? ⟨gb179, 18, none⟩ = some (.string a0_18) := (blk_cell BK179.out 18).trans rfl; have hcz7_19 : w6.cell? ⟨gb179, 19, none⟩ = some (.string a0_19) := (blk_cell BK179.out 19).trans rfl; have hcz7_20 : w6.cell? ⟨gb179, 20, none⟩ = some (.string a0_20) := (blk_cell BK179.out 20).trans rfl; have hcz7_21 : w6.cell? ⟨gb179, 21, none⟩ = some (.string a0_21) := (blk_cell BK179.out 21).trans rfl; have hfz7_0 := blk_frozen BK179.out 0; have hfz7_1 := blk_frozen BK179.out 1; have hfz7_2 := blk_frozen BK179.out 2; have hfz7_3 := blk_frozen BK179.out 3; have hfz7_4 := blk_frozen BK179.out 4; have hfz7_5 := blk_frozen BK179.out 5; have hfz7_6 := blk_frozen BK179.out 6; have hfz7_7 := blk_frozen BK179.out 7; have hfz7_8 := blk_frozen BK179.out 8; have hfz7_9 := blk_frozen BK179.out 9; have hfz7_10 := blk_frozen BK179.out 10; have hfz7_11 := blk_frozen BK179.out 11; have hfz7_12 := blk_frozen BK179.out 12; have hfz7_13 := blk_frozen BK179.out 13; have hfz7_14 := blk_frozen BK179.out 14; have hfz7_15 := blk_frozen BK179.out 15; have hfz7_16 := blk_frozen BK179.out 16; have hfz7_17 := blk_frozen BK179.out 17; have hfz7_18 := blk_frozen BK179.out 18; have hfz7_19 := blk_frozen BK179.out 19; have hfz7_20 := blk_frozen BK179.out 20; have hfz7_21 := blk_frozen BK179.out 21))
      go_ret
      exact ⟨by first | rfl | (simp [errW_none, errW_some] <;> rfl) | (simp [*, errW_none, errW_some] <;> rfl), by repeat (first | (with_reducible first | exact HB.out | apply below_alloc | apply pw_below_drewN | apply below_drew1 | refine below_set ?_ GE179.out) | exact HB.out)⟩
    · rw [if_neg c5] at H
      exact absurd H (by simp)
  · rw [if_neg c4] at H
    have lo_ : 0 < a1 := by
      by_cases h : 0 < a1
      · exact h
      · rw [if_neg h] at H; exact absurd H (by simp)
    rw [if_pos lo_] at H
    have hi_ : a1 < 4 := by
      by_cases h : a1 < 4
      · exact h
      · rw [if_neg h] at H; exact absurd H (by simp)
    rw [if_pos hi_] at H
    have hsd := tgAt_cell a0_0 a0_1 a0_2 a0_3 a0_4 a0_5 a0_6 a0_7 a0_8 a0_9 a0_10 a0_11 a0_12 a0_13 a0_14 a0_15 a0_16 a0_17 a0_18 a0_19 a0_20 a0_21 (18 + a1.toNat) (by omega)
    generalize tgAt a0_0 a0_1 a0_2 a0_3 a0_4 a0_5 a0_6 a0_7 a0_8 a0_9 a0_10 a0_11 a0_12 a0_13 a0_14 a0_15 a0_16 a0_17 a0_18 a0_19 a0_20 a0_21 (18 + a1.toNat) = sd at H hsd
    have hsdc := Aside0.mk hsd
    clear hsd
    have lo0_ : 0 ≤ a1 := by omega
    have ixd_ : decide (0 ≤ a1 ∧ a1 < 4) = true := decide_eq_true ⟨lo0_, hi_⟩
    have c4b0 : (a1 == 0) = false := beq_eq_false_iff_ne.mpr c4
    have c4b1 : (a1 != 0) = true := bne_iff_ne.mpr c4
    by_cases c8 : a2 = 1
    · rw [if_pos c8] at H
      have c8b0 : (a2 == 1) = true := beq_iff_eq.mpr c8
      have c8b1 : (a2 != 1) = false := bne_eq_false_iff_eq.mpr c8
      clear c8
      by_cases c9 : sd.size + a0_6.size ≤ 9223372036854775807
      · rw [if_pos c9] at H
        have c9b0 := eq_true c9
        have c9b1 : decide (sd.size + a0_6.size ≤ 9223372036854775807) = true := decide_eq_true c9
        try have c9b2 : (9223372036854775807 < sd.size + a0_6.size) = False := eq_false (Nat.not_lt.2 c9)
        replace H := Option.bind_eq_some_iff.mp H
        obtain ⟨t180, A100, H⟩ := H
        replace H : (if (sd ++ a0_6).size + t180.size ≤ 9223372036854775807 then (if ((sd ++ a0_6) ++ t180).size + 1 ≤ 9223372036854775807 then (if (((sd ++ a0_6) ++ t180) ++ (⟨#[32]⟩ : ByteArray)).size + a0_7.size ≤ 9223372036854775807 then (if ((((sd ++ a0_6) ++ t180) ++ (⟨#[32]⟩ : ByteArray)) ++ a0_7).size + 1 ≤ 9223372036854775807 then (some (((((sd ++ a0_6) ++ t180) ++ (⟨#[32]⟩ : ByteArray)) ++ a0_7) ++ (⟨#[46]⟩ : ByteArray))) else (none)) else (none)) else (none)) else (none)) = some r := H
        have A10 := Aside0.mk A100
        clear A100
        by_cases c11 : (sd ++ a0_6).size + t180.size ≤ 9223372036854775807
        · rw [if_pos c11] at H
          have c11b0 := eq_true c11
          have c11b1 : decide ((sd ++ a0_6).size + t180.size ≤ 9223372036854775807) = true := decide_eq_true c11
          try have c11b2 : (9223372036854775807 < (sd ++ a0_6).size + t180.size) = False := eq_false (Nat.not_lt.2 c11)
          (try (have c11b3 := c11b2; simp only [ByteArray.size_append] at c11b3))
          by_cases c12 : ((sd ++ a0_6) ++ t180).size + 1 ≤ 9223372036854775807
          · rw [if_pos c12] at H
            have c12b0 := eq_true c12
            have c12b1 : decide (((sd ++ a0_6) ++ t180).size + 1 ≤ 9223372036854775807) = true := decide_eq_true c12
            try have c12b2 : (9223372036854775807 < ((sd ++ a0_6) ++ t180).size + 1) = False := eq_false (Nat.not_lt.2 c12)
            (try (have c12b3 := c12b2; simp only [ByteArray.size_append] at c12b3))
            by_cases c13 : (((sd ++ a0_6) ++ t180) ++ (⟨#[32]⟩ : ByteArray)).size + a0_7.size ≤ 9223372036854775807
            · rw [if_pos c13] at H
              have c13b0 := eq_true c13
              have c13b1 : decide ((((sd ++ a0_6) ++ t180) ++ (⟨#[32]⟩ : ByteArray)).size + a0_7.size ≤ 9223372036854775807) = true := decide_eq_true c13
              try have c13b2 : (9223372036854775807 < (((sd ++ a0_6) ++ t180) ++ (⟨#[32]⟩ : ByteArray)).size + a0_7.size) = False := eq_false (Nat.not_lt.2 c13)
              (try (have c13b3 := c13b2; simp only [ByteArray.size_append, show (⟨#[32]⟩ : ByteArray).size = 1 from rfl] at c13b3))
              by_cases c14 : ((((sd ++ a0_6) ++ t180) ++ (⟨#[32]⟩ : ByteArray)) ++ a0_7).size + 1 ≤ 9223372036854775807
              · rw [if_pos c14] at H
                have c14b0 := eq_true c14
                have c14b1 : decide (((((sd ++ a0_6) ++ t180) ++ (⟨#[32]⟩ : ByteArray)) ++ a0_7).size + 1 ≤ 9223372036854775807) = true := decide_eq_true c14
                try have c14b2 : (9223372036854775807 < ((((sd ++ a0_6) ++ t180) ++ (⟨#[32]⟩ : ByteArray)) ++ a0_7).size + 1) = False := eq_false (Nat.not_lt.2 c14)
                (try (have c14b3 := c14b2; simp only [ByteArray.size_append, show (⟨#[32]⟩ : ByteArray).size = 1 from rfl] at c14b3))
                obtain rfl := Option.some.inj H
                go_enter Tryd.func23, Tryd.ntmps23
                try go_wp2_with (first | ((with_reducible refine gate_dst (N := 3) rfl ?_); refine box_event ?hg (N := 3) ?hd (cs := #[.string a0_0, .string a0_1, .string a0_2, .string a0_3, .string a0_4, .string a0_5, .string a0_6, .string a0_7, .string a0_8, .string a0_9, .string a0_10, .string a0_11, .string a0_12, .string a0_13, .string a0_14, .string a0_15, .string a0_16, .string a0_17, .string a0_18, .string a0_19, .string a0_20, .string a0_21]) (t := 44) ?hr ?_; (case hd => rfl); (case hg => rfl); (case hr => first | (go_simp; done) | (go_simp; rfl)); intro gb179 hg w15 hbox hb; have n0_ := Aside0.mk (below_step (by repeat (first | (with_reducible first | exact HB.out | apply below_alloc | apply pw_below_drewN | apply below_drew1) | exact HB.out)) hb); have n1_ := Aside0.mk (hbox); have n2_ := Aside0.mk ((by rw [hg]; exact (below_size (by repeat (first | (with_reducible first | exact HB.out | apply below_alloc | apply pw_below_drewN | apply below_drew1) | exact HB.out))) : w.heap.size ≤ gb179)); have n3_ := Aside0.mk ((by rw [hg]; exact (below_size (by repeat (first | (with_reducible first | exact HB.out | apply below_alloc | apply pw_below_drewN | apply below_drew1) | exact HB.out))) : w.heap.size ≤ gb179)); clear HB; have HB := n0_; have BK179 := n1_; have GW179 := n2_; have GE179 := n3_; clear n0_ n1_ n2_ n3_; clear hb hbox hg; have hcz16_0 : w15.cell? ⟨gb179, 0, none⟩ = some (.string a0_0) := (blk_cell BK179.out 0).trans rfl; have hcz16_1 : w15.cell? ⟨gb179, 1, none⟩ = some (.string a0_1) := (blk_cell BK179.out 1).trans rfl; have hcz16_2 : w15.cell? ⟨gb179, 2, none⟩ = some (.string a0_2) := (blk_cell BK179.out 2).trans rfl; have hcz16_3 : w15.cell? ⟨gb179, 3, none⟩ = some (.string a0_3) := (blk_cell BK179.out 3).trans rfl; have hcz16_4 : w15.cell? ⟨gb179, 4, none⟩ = some (.string a0_4) := (blk_cell BK179.out 4).trans rfl; have hcz16_5 : w15.cell? ⟨gb179, 5, none⟩ = some (.string a0_5) := (blk_cell BK179.out 5).trans rfl; have hcz16_6 : w15.cell? ⟨gb179, 6, none⟩ = some (.string a0_6) := (blk_cell BK179.out 6).trans rfl; have hcz16_7 : w15.cell? ⟨gb179, 7, none⟩ = some (.string a0_7) := (blk_cell BK179.out 7).trans rfl; have hcz16_8 : w15.cell? ⟨gb179, 8, none⟩ = some (.string a0_8) := (blk_cell BK179.out 8).trans rfl; have hcz16_9 : w15.cell? ⟨gb179, 9, none⟩ = some (.string a0_9) := (blk_cell BK179.out 9).trans rfl; have hcz16_10 : w15.cell? ⟨gb179, 10, none⟩ = some (.string a0_10) := (blk_cell BK179.out 10).trans rfl; have hcz16_11 : w15.cell? ⟨gb179, 11, none⟩ = some (.string a0_11) := (blk_cell BK179.out 11).trans rfl; have hcz16_12 : w15.cell? ⟨gb179, 12, none⟩ = some (.string a0_12) := (blk_cell BK179.out 12).trans rfl; have hcz16_13 : w15.cell? ⟨gb179, 13, none⟩ = some (.string a0_13) := (blk_cell BK179.out 13).trans rfl; have hcz16_14 : w15.cell? ⟨gb179, 14, none⟩ = some (.string a0_14) := (blk_cell BK179.out 14).trans rfl; have hcz16_15 : w15.cell? ⟨gb179, 15, none⟩ = some (.string a0_15) := (blk_cell BK179.out 15).trans rfl; have hcz16_16 : w15.cell? ⟨gb179, 16, none⟩ = some (.string a0_16) := (blk_cell BK179.out 16).trans rfl; have hcz16_17 : w15.cell? ⟨gb179, 17, none⟩ = some (.string a0_17) := (blk_cell BK179.out 17).trans rfl; have hcz16_18 : w15.cell? ⟨gb179, 18, none⟩ = some (.string a0_18) := (blk_cell BK179.out 18).trans rfl; have hcz16_19 : w15.cell? ⟨gb179, 18 + a1.toNat, none⟩ = some (.string sd) := (blk_cell BK179.out (18 + a1.toNat)).trans hsdc.out; have hcz16_20 : w15.cell? ⟨gb179, 20, none⟩ = some (.string a0_20) := (blk_cell BK179.out 20).trans rfl; have hcz16_21 : w15.cell? ⟨gb179, 21, none⟩ = some (.string a0_21) := (blk_cell BK179.out 21).trans rfl; have hfz16_0 := blk_frozen BK179.out 0; have hfz16_1 := blk_frozen BK179.out 1; have hfz16_2 := blk_frozen BK179.out 2; have hfz16_3 := blk_frozen BK179.out 3; have hfz16_4 := blk_frozen BK179.out 4; have hfz16_5 := blk_frozen BK179.out 5; have hfz16_6 := blk_frozen BK179.out 6; have hfz16_7 := blk_frozen BK179.out 7; have hfz16_8 := blk_frozen BK179.out 8; have hfz16_9 := blk_frozen BK179.out 9; have hfz16_10 := blk_frozen BK179.out 10; have hfz16_11 := blk_frozen BK179.out 11; have hfz16_12 := blk_frozen BK179.out 12; have hfz16_13 := blk_frozen BK179.out 13; have hfz16_14 := blk_frozen BK179.out 14; have hfz16_15 := blk_frozen BK179.out 15; have hfz16_16 := blk_frozen BK179.out 16; have hfz16_17 := blk_frozen BK179.out 17; have hfz16_18 := blk_frozen BK179.out 18; have hfz16_19 := blk_frozen BK179.out 19; have hfz16_20 := blk_frozen BK179.out 20; have hfz16_21 := blk_frozen BK179.out 21))
                have n0_ := Aside0.mk (blk_drew BK179.out)
                have n1_ := Aside0.mk (below_drew1 HB.out)
                clear BK179
                clear HB
                have BK179 := n0_
                have HB := n1_
                clear n0_ n1_
                refine start_ (n := 15) (S := fun w' => w'.cell? ⟨gb179, 0, none⟩ = some (.string a0_0) ∧ w'.cell? ⟨gb179, 1, none⟩ = some (.string a0_1) ∧ w'.cell? ⟨gb179, 2, none⟩ = some (.string a0_2) ∧ w'.cell? ⟨gb179, 3, none⟩ = some (.string a0_3) ∧ w'.cell? ⟨gb179, 4, none⟩ = some (.string a0_4) ∧ w'.cell? ⟨gb179, 5, none⟩ = some (.string a0_5) ∧ w'.cell? ⟨gb179, 6, none⟩ = some (.string a0_6) ∧ w'.cell? ⟨gb179, 7, none⟩ = some (.string a0_7) ∧ w'.cell? ⟨gb179, 8, none⟩ = some (.string a0_8) ∧ w'.cell? ⟨gb179, 9, none⟩ = some (.string a0_9) ∧ w'.cell? ⟨gb179, 10, none⟩ = some (.string a0_10) ∧ w'.cell? ⟨gb179, 11, none⟩ = some (.string a0_11) ∧ w'.cell? ⟨gb179, 12, none⟩ = some (.string a0_12) ∧ w'.cell? ⟨gb179, 13, none⟩ = some (.string a0_13) ∧ w'.cell? ⟨gb179, 14, none⟩ = some (.string a0_14) ∧ w'.cell? ⟨gb179, 15, none⟩ = some (.string a0_15) ∧ w'.cell? ⟨gb179, 16, none⟩ = some (.string a0_16) ∧ w'.cell? ⟨gb179, 17, none⟩ = some (.string a0_17) ∧ w'.cell? ⟨gb179, 18, none⟩ = some (.string a0_18) ∧ w'.cell? ⟨gb179, 18 + a1.toNat, none⟩ = some (.string sd) ∧ w'.cell? ⟨gb179, 20, none⟩ = some (.string a0_20) ∧ w'.cell? ⟨gb179, 21, none⟩ = some (.string a0_21)) (ds := []) #[false, false, false, false, false, false, false, false, false, false, false, false, false, false, false] (by kernel_rfl) rfl rfl ⟨(blk_cell BK179.out 0).trans rfl, (blk_cell BK179.out 1).trans rfl, (blk_cell BK179.out 2).trans rfl, (blk_cell BK179.out 3).trans rfl, (blk_cell BK179.out 4).trans rfl, (blk_cell BK179.out 5).trans rfl, (blk_cell BK179.out 6).trans rfl, (blk_cell BK179.out 7).trans rfl, (blk_cell BK179.out 8).trans rfl, (blk_cell BK179.out 9).trans rfl, (blk_cell BK179.out 10).trans rfl, (blk_cell BK179.out 11).trans rfl, (blk_cell BK179.out 12).trans rfl, (blk_cell BK179.out 13).trans rfl, (blk_cell BK179.out 14).trans rfl, (blk_cell BK179.out 15).trans rfl, (blk_cell BK179.out 16).trans rfl, (blk_cell BK179.out 17).trans rfl, (blk_cell BK179.out 18).trans rfl, (blk_cell BK179.out (18 + a1.toNat)).trans hsdc.out, (blk_cell BK179.out 20).trans rfl, (blk_cell BK179.out 21).trans rfl⟩ (fun hHeld => ?_); refine with_tabW impl_tongue_rain.tab6 impl_tongue_rain.bits6 (fun HT_ HW_ => ?_)
                generalize w15.drew = w17 at BK179 HB hHeld ⊢
                refine pure_ (i := 0) (N := some 19) (v := ?_) (a' := ?_) #[true, false, false, false, false, false, false, false, false, false, false, false, false, false, false] rfl rfl (any_of HT_.out (by kernel_rfl)) (fun _ _ _ h => h) (Or.inl ⟨by rfl, ?_⟩) ?_ ?_
                rotate_left
                · intro w'
                  go_simp
                  with_reducible rfl
                rotate_left
                · simp only [Act.put, List.setIfInBounds_toArray, List.set_cons_zero, List.set_cons_succ, i64_w, i32_w]
                  rfl
                refine pure_ (i := 1) (N := some 20) (v := ?_) (a' := ?_) #[true, true, false, false, false, false, false, false, false, false, false, false, false, false, false] rfl rfl (any_of HT_.out (by kernel_rfl)) (fun _ _ _ h => h) (Or.inl ⟨by rfl, ?_⟩) ?_ ?_
                rotate_left
                · intro w'
                  go_simp
                  with_reducible rfl
                rotate_left
                · simp only [Act.put, List.setIfInBounds_toArray, List.set_cons_zero, List.set_cons_succ, i64_w, i32_w]
                  rfl
                refine pure_ (i := 2) (N := some 21) (v := ?_) (a' := ?_) #[true, true, true, false, false, false, false, false, false, false, false, false, false, false, false] rfl rfl (any_of HT_.out (by kernel_rfl)) (fun _ _ _ h => h) (Or.inl ⟨by rfl, ?_⟩) ?_ ?_
                rotate_left
                · intro w'
                  go_simp
                  with_reducible rfl
                rotate_left
                · simp only [Act.put, List.setIfInBounds_toArray, List.set_cons_zero, List.set_cons_succ, i64_w, i32_w]
                  rfl
                refine pure_ (i := 4) (N := some 23) (v := ?_) (a' := ?_) #[true, true, true, false, true, false, false, false, false, false, false, false, false, false, false] rfl rfl (any_of HT_.out (by kernel_rfl)) (fun _ _ _ h => h) (Or.inl ⟨by rfl, ?_⟩) ?_ ?_
                rotate_left
                · intro w'
                  go_simp
                  with_reducible rfl
                rotate_left
                · simp only [Act.put, List.setIfInBounds_toArray, List.set_cons_zero, List.set_cons_succ, i64_w, i32_w]
                  rfl
                refine pure_ (i := 7) (N := some 26) (v := ?_) (a' := ?_) #[true, true, true, false, true, false, false, true, false, false, false, false, false, false, false] rfl rfl (any_of HT_.out (by kernel_rfl)) (fun _ _ _ h => h) (Or.inl ⟨by rfl, ?_⟩) ?_ ?_
                rotate_left
                · intro w'
                  go_simp
                  with_reducible rfl
                rotate_left
                · simp only [Act.put, List.setIfInBounds_toArray, List.set_cons_zero, List.set_cons_succ, i64_w, i32_w]
                  rfl
                refine pure_ (i := 11) (N := some 30) (v := ?_) (a' := ?_) #[true, true, true, false, true, false, false, true, false, false, false, true, false, false, false] rfl rfl (any_of HT_.out (by kernel_rfl)) (fun _ _ _ h => h) (Or.inl ⟨by rfl, ?_⟩) ?_ ?_
                rotate_left
                · intro w'
                  go_simp
                  with_reducible rfl
                rotate_left
                · simp only [Act.put, List.setIfInBounds_toArray, List.set_cons_zero, List.set_cons_succ, i64_w, i32_w]
                  rfl
                refine take_ (i := 3) (N := some 22) (v := ?_) (a' := ?_) #[true, true, true, true, true, false, false, true, false, false, false, true, false, false, false] rfl rfl (take_ofW HT_.out HW_.out (by kernel_rfl)) (fun _ _ _ h => h) (Or.inl ⟨by rfl, ?_⟩) hHeld ?_ ?_
                rotate_left
                · rintro w' ⟨s0, s1, s2, s3, s4, s5, s6, s7, s8, s9, s10, s11, s12, s13, s14, s15, s16, s17, s18, s19, s20, s21⟩
                  go_simp
                  with_reducible rfl
                rotate_left
                · simp only [Act.put, List.setIfInBounds_toArray, List.set_cons_zero, List.set_cons_succ, i64_w, i32_w]
                  rfl
                refine take_ (i := 5) (N := some 24) (v := ?_) (a' := ?_) #[true, true, true, true, true, true, false, true, false, false, false, true, false, false, false] rfl rfl (take_ofW HT_.out HW_.out (by kernel_rfl)) (fun _ _ _ h => h) (Or.inl ⟨by rfl, ?_⟩) hHeld ?_ ?_
                rotate_left
                · rintro w' ⟨s0, s1, s2, s3, s4, s5, s6, s7, s8, s9, s10, s11, s12, s13, s14, s15, s16, s17, s18, s19, s20, s21⟩
                  go_simp
                  with_reducible rfl
                rotate_left
                · simp only [Act.put, List.setIfInBounds_toArray, List.set_cons_zero, List.set_cons_succ, i64_w, i32_w]
                  rfl
                refine pure_ (i := 6) (N := some 25) (v := ?_) (a' := ?_) #[true, true, true, true, true, true, true, true, false, false, false, true, false, false, false] rfl rfl (any_of HT_.out (by kernel_rfl)) (fun _ _ _ h => h) (Or.inl ⟨by rfl, ?_⟩) ?_ ?_
                rotate_left
                · intro w'
                  go_simp
                  with_reducible rfl
                rotate_left
                · simp only [Act.put, List.setIfInBounds_toArray, List.set_cons_zero, List.set_cons_succ, i64_w, i32_w]
                  rfl
                refine one_ (i := 8) (N := some 27) #[true, true, true, true, true, true, true, true, true, false, false, true, false, false, false] rfl rfl (one_of HT_.out (by kernel_rfl)) (by decide) (fun K hK => ?_)
                refine goes_ Tryd.func32 (by kernel_rfl) rfl #[.int .i64 a2] (by rfl) rfl rfl (by (try simp only [List.map_toArray, List.map_cons, List.map_nil]); first | done | rfl | (simp only [List.length_drop, List.length_take]; rfl)) ?_
                with_reducible refine (impl_dec.calls a2 t180 _ A10.out (tab_on HTb.out (by repeat (first | (with_reducible first | exact HB.out | apply below_alloc | apply pw_below_drewN | apply below_drew1 | refine below_set ?_ GE179.out) | exact HB.out)))).mono ?_
                rintro e w18 ⟨rfl, hb⟩
                refine ⟨_, rfl, ?_⟩
                have n0_ := Aside0.mk (blk_below (g := gb179) (o := .cells #[.string a0_0, .string a0_1, .string a0_2, .string a0_3, .string a0_4, .string a0_5, .string a0_6, .string a0_7, .string a0_8, .string a0_9, .string a0_10, .string a0_11, .string a0_12, .string a0_13, .string a0_14, .string a0_15, .string a0_16, .string a0_17, .string a0_18, .string a0_19, .string a0_20, .string a0_21] 44 (0, 0)) (by (with_reducible repeat (first | refine blk_drewN ?_ _ | refine blk_drew ?_ | refine blk_alloc ?_ _)); exact BK179.out) hb)
                have n1_ := Aside0.mk (below_step (by repeat (first | (with_reducible first | exact HB.out | apply below_alloc | apply pw_below_drewN | apply below_drew1 | refine below_set ?_ GE179.out) | exact HB.out)) hb)
                clear BK179
                clear HB
                have BK179 := n0_
                have HB := n1_
                clear n0_ n1_
                (try clear hb)
                (try clear hb2)
                (try clear hk)
                (try clear hi)
                refine hK.out _ _ ⟨(blk_cell BK179.out 0).trans rfl, (blk_cell BK179.out 1).trans rfl, (blk_cell BK179.out 2).trans rfl, (blk_cell BK179.out 3).trans rfl, (blk_cell BK179.out 4).trans rfl, (blk_cell BK179.out 5).trans rfl, (blk_cell BK179.out 6).trans rfl, (blk_cell BK179.out 7).trans rfl, (blk_cell BK179.out 8).trans rfl, (blk_cell BK179.out 9).trans rfl, (blk_cell BK179.out 10).trans rfl, (blk_cell BK179.out 11).trans rfl, (blk_cell BK179.out 12).trans rfl, (blk_cell BK179.out 13).trans rfl, (blk_cell BK179.out 14).trans rfl, (blk_cell BK179.out 15).trans rfl, (blk_cell BK179.out 16).trans rfl, (blk_cell BK179.out 17).trans rfl, (blk_cell BK179.out 18).trans rfl, (blk_cell BK179.out (18 + a1.toNat)).trans hsdc.out, (blk_cell BK179.out 20).trans rfl, (blk_cell BK179.out 21).trans rfl⟩ (fun hHeld => ?_)
                clear hK K
                refine norm_ (a' := ?_) ?_ ?_
                rotate_left
                · show Act.put _ (some 27) _ = _
                  simp only [Act.put, List.setIfInBounds_toArray, List.set_cons_zero, List.set_cons_succ, i64_w, i32_w]
                  rfl
                refine pure_ (i := 9) (N := some 28) (v := ?_) (a' := ?_) #[true, true, true, true, true, true, true, true, true, true, false, true, false, false, false] rfl rfl (any_of HT_.out (by kernel_rfl)) (fun _ _ _ h => h) (Or.inl ⟨by rfl, ?_⟩) ?_ ?_
                rotate_left
                · intro w'
                  go_simp
                  with_reducible rfl
                rotate_left
                · simp only [Act.put, List.setIfInBounds_toArray, List.set_cons_zero, List.set_cons_succ, i64_w, i32_w]
                  rfl
                refine pure_ (i := 10) (N := some 29) (v := ?_) (a' := ?_) #[true, true, true, true, true, true, true, true, true, true, true, true, false, false, false] rfl rfl (any_of HT_.out (by kernel_rfl)) (fun _ _ _ h => h) (Or.inl ⟨by rfl, ?_⟩) ?_ ?_
                rotate_left
                · intro w'
                  go_simp
                  with_reducible rfl
                rotate_left
                · simp only [Act.put, List.setIfInBounds_toArray, List.set_cons_zero, List.set_cons_succ, i64_w, i32_w]
                  rfl
                refine pure_ (i := 12) (N := some 31) (v := ?_) (a' := ?_) #[true, true, true, true, true, true, true, true, true, true, true, true, true, false, false] rfl rfl (any_of HT_.out (by kernel_rfl)) (fun _ _ _ h => h) (Or.inl ⟨by rfl, ?_⟩) ?_ ?_
                rotate_left
                · intro w'
                  go_simp
                  with_reducible rfl
                rotate_left
                · simp only [Act.put, List.setIfInBounds_toArray, List.set_cons_zero, List.set_cons_succ, i64_w, i32_w]
                  rfl
                refine pure_ (i := 13) (N := some 32) (v := ?_) (a' := ?_) #[true, true, true, true, true, true, true, true, true, true, true, true, true, true, false] rfl rfl (any_of HT_.out (by kernel_rfl)) (fun _ _ _ h => h) (Or.inl ⟨by rfl, ?_⟩) ?_ ?_
                rotate_left
                · intro w'
                  go_simp
                  with_reducible rfl
                rotate_left
                · simp only [Act.put, List.setIfInBounds_toArray, List.set_cons_zero, List.set_cons_succ, i64_w, i32_w]
                  rfl
                refine pure_ (i := 14) (N := some 6) (v := ?_) (a' := ?_) #[true, true, true, true, true, true, true, true, true, true, true, true, true, true, true] rfl rfl (any_of HT_.out (by kernel_rfl)) (fun _ _ _ h => h) (Or.inl ⟨by rfl, ?_⟩) ?_ ?_
                rotate_left
                · intro w'
                  go_simp
                  with_reducible rfl
                rotate_left
                · simp only [Act.put, List.setIfInBounds_toArray, List.set_cons_zero, List.set_cons_succ, i64_w, i32_w]
                  rfl
                refine done_ (done_of HT_.out (by kernel_rfl)) ?_
                try go_wp2
                go_ret
                exact ⟨by first | rfl | (simp [errW_none, errW_some] <;> rfl) | (simp [*, errW_none, errW_some] <;> rfl), by repeat (first | (with_reducible first | exact HB.out | apply below_alloc | apply pw_below_drewN | apply below_drew1 | refine below_set ?_ GE179.out) | exact HB.out)⟩
              · rw [if_neg c14] at H
                exact absurd H (by simp)
            · rw [if_neg c13] at H
              exact absurd H (by simp)
          · rw [if_neg c12] at H
            exact absurd H (by simp)
        · rw [if_neg c11] at H
          exact absurd H (by simp)
      · rw [if_neg c9] at H
        exact absurd H (by simp)
    · rw [if_neg c8] at H
      have c8b0 : (a2 == 1) = false := beq_eq_false_iff_ne.mpr c8
      have c8b1 : (a2 != 1) = true := bne_iff_ne.mpr c8
      by_cases c19 : sd.size + a0_6.size ≤ 9223372036854775807
      · rw [if_pos c19] at H
        have c19b0 := eq_true c19
        have c19b1 : decide (sd.size + a0_6.size ≤ 9223372036854775807) = true := decide_eq_true c19
        try have c19b2 : (9223372036854775807 < sd.size + a0_6.size) = False := eq_false (Nat.not_lt.2 c19)
        replace H := Option.bind_eq_some_iff.mp H
        obtain ⟨t181, A200, H⟩ := H
        replace H : (if (sd ++ a0_6).size + t181.size ≤ 9223372036854775807 then (if ((sd ++ a0_6) ++ t181).size + 1 ≤ 9223372036854775807 then (if (((sd ++ a0_6) ++ t181) ++ (⟨#[32]⟩ : ByteArray)).size + a0_8.size ≤ 9223372036854775807 then (if ((((sd ++ a0_6) ++ t181) ++ (⟨#[32]⟩ : ByteArray)) ++ a0_8).size + 1 ≤ 9223372036854775807 then (some (((((sd ++ a0_6) ++ t181) ++ (⟨#[32]⟩ : ByteArray)) ++ a0_8) ++ (⟨#[46]⟩ : ByteArray))) else (none)) else (none)) else (none)) else (none)) = some r := H
        have A20 := Aside0.mk A200
        clear A200
        by_cases c21 : (sd ++ a0_6).size + t181.size ≤ 9223372036854775807
        · rw [if_pos c21] at H
          have c21b0 := eq_true c21
          have c21b1 : decide ((sd ++ a0_6).size + t181.size ≤ 9223372036854775807) = true := decide_eq_true c21
          try have c21b2 : (9223372036854775807 < (sd ++ a0_6).size + t181.size) = False := eq_false (Nat.not_lt.2 c21)
          (try (have c21b3 := c21b2; simp only [ByteArray.size_append] at c21b3))
          by_cases c22 : ((sd ++ a0_6) ++ t181).size + 1 ≤ 9223372036854775807
          · rw [if_pos c22] at H
            have c22b0 := eq_true c22
            have c22b1 : decide (((sd ++ a0_6) ++ t181).size + 1 ≤ 9223372036854775807) = true := decide_eq_true c22
            try have c22b2 : (9223372036854775807 < ((sd ++ a0_6) ++ t181).size + 1) = False := eq_false (Nat.not_lt.2 c22)
            (try (have c22b3 := c22b2; simp only [ByteArray.size_append] at c22b3))
            by_cases c23 : (((sd ++ a0_6) ++ t181) ++ (⟨#[32]⟩ : ByteArray)).size + a0_8.size ≤ 9223372036854775807
            · rw [if_pos c23] at H
              have c23b0 := eq_true c23
              have c23b1 : decide ((((sd ++ a0_6) ++ t181) ++ (⟨#[32]⟩ : ByteArray)).size + a0_8.size ≤ 9223372036854775807) = true := decide_eq_true c23
              try have c23b2 : (9223372036854775807 < (((sd ++ a0_6) ++ t181) ++ (⟨#[32]⟩ : ByteArray)).size + a0_8.size) = False := eq_false (Nat.not_lt.2 c23)
              (try (have c23b3 := c23b2; simp only [ByteArray.size_append, show (⟨#[32]⟩ : ByteArray).size = 1 from rfl] at c23b3))
              by_cases c24 : ((((sd ++ a0_6) ++ t181) ++ (⟨#[32]⟩ : ByteArray)) ++ a0_8).size + 1 ≤ 9223372036854775807
              · rw [if_pos c24] at H
                have c24b0 := eq_true c24
                have c24b1 : decide (((((sd ++ a0_6) ++ t181) ++ (⟨#[32]⟩ : ByteArray)) ++ a0_8).size + 1 ≤ 9223372036854775807) = true := decide_eq_true c24
                try have c24b2 : (9223372036854775807 < ((((sd ++ a0_6) ++ t181) ++ (⟨#[32]⟩ : ByteArray)) ++ a0_8).size + 1) = False := eq_false (Nat.not_lt.2 c24)
                (try (have c24b3 := c24b2; simp only [ByteArray.size_append, show (⟨#[32]⟩ : ByteArray).size = 1 from rfl] at c24b3))
                obtain rfl := Option.some.inj H
                go_enter Tryd.func23, Tryd.ntmps23
                try go_wp2_with (first | ((with_reducible refine gate_dst (N := 3) rfl ?_); refine box_event ?hg (N := 3) ?hd (cs := #[.string a0_0, .string a0_1, .string a0_2, .string a0_3, .string a0_4, .string a0_5, .string a0_6, .string a0_7, .string a0_8, .string a0_9, .string a0_10, .string a0_11, .string a0_12, .string a0_13, .string a0_14, .string a0_15, .string a0_16, .string a0_17, .string a0_18, .string a0_19, .string a0_20, .string a0_21]) (t := 44) ?hr ?_; (case hd => rfl); (case hg => rfl); (case hr => first | (go_simp; done) | (go_simp; rfl)); intro gb179 hg w25 hbox hb; have n0_ := Aside0.mk (below_step (by repeat (first | (with_reducible first | exact HB.out | apply below_alloc | apply pw_below_drewN | apply below_drew1) | exact HB.out)) hb); have n1_ := Aside0.mk (hbox); have n2_ := Aside0.mk ((by rw [hg]; exact (below_size (by repeat (first | (with_reducible first | exact HB.out | apply below_alloc | apply pw_below_drewN | apply below_drew1) | exact HB.out))) : w.heap.size ≤ gb179)); have n3_ := Aside0.mk ((by rw [hg]; exact (below_size (by repeat (first | (with_reducible first | exact HB.out | apply below_alloc | apply pw_below_drewN | apply below_drew1) | exact HB.out))) : w.heap.size ≤ gb179)); clear HB; have HB := n0_; have BK179 := n1_; have GW179 := n2_; have GE179 := n3_; clear n0_ n1_ n2_ n3_; clear hb hbox hg; have hcz26_0 : w25.cell? ⟨gb179, 0, none⟩ = some (.string a0_0) := (blk_cell BK179.out 0).trans rfl; have hcz26_1 : w25.cell? ⟨gb179, 1, none⟩ = some (.string a0_1) := (blk_cell BK179.out 1).trans rfl; have hcz26_2 : w25.cell? ⟨gb179, 2, none⟩ = some (.string a0_2) := (blk_cell BK179.out 2).trans rfl; have hcz26_3 : w25.cell? ⟨gb179, 3, none⟩ = some (.string a0_3) := (blk_cell BK179.out 3).trans rfl; have hcz26_4 : w25.cell? ⟨gb179, 4, none⟩ = some (.string a0_4) := (blk_cell BK179.out 4).trans rfl; have hcz26_5 : w25.cell? ⟨gb179, 5, none⟩ = some (.string a0_5) := (blk_cell BK179.out 5).trans rfl; have hcz26_6 : w25.cell? ⟨gb179, 6, none⟩ = some (.string a0_6) := (blk_cell BK179.out 6).trans rfl; have hcz26_7 : w25.cell? ⟨gb179, 7, none⟩ = some (.string a0_7) := (blk_cell BK179.out 7).trans rfl; have hcz26_8 : w25.cell? ⟨gb179, 8, none⟩ = some (.string a0_8) := (blk_cell BK179.out 8).trans rfl; have hcz26_9 : w25.cell? ⟨gb179, 9, none⟩ = some (.string a0_9) := (blk_cell BK179.out 9).trans rfl; have hcz26_10 : w25.cell? ⟨gb179, 10, none⟩ = some (.string a0_10) := (blk_cell BK179.out 10).trans rfl; have hcz26_11 : w25.cell? ⟨gb179, 11, none⟩ = some (.string a0_11) := (blk_cell BK179.out 11).trans rfl; have hcz26_12 : w25.cell? ⟨gb179, 12, none⟩ = some (.string a0_12) := (blk_cell BK179.out 12).trans rfl; have hcz26_13 : w25.cell? ⟨gb179, 13, none⟩ = some (.string a0_13) := (blk_cell BK179.out 13).trans rfl; have hcz26_14 : w25.cell? ⟨gb179, 14, none⟩ = some (.string a0_14) := (blk_cell BK179.out 14).trans rfl; have hcz26_15 : w25.cell? ⟨gb179, 15, none⟩ = some (.string a0_15) := (blk_cell BK179.out 15).trans rfl; have hcz26_16 : w25.cell? ⟨gb179, 16, none⟩ = some (.string a0_16) := (blk_cell BK179.out 16).trans rfl; have hcz26_17 : w25.cell? ⟨gb179, 17, none⟩ = some (.string a0_17) := (blk_cell BK179.out 17).trans rfl; have hcz26_18 : w25.cell? ⟨gb179, 18, none⟩ = some (.string a0_18) := (blk_cell BK179.out 18).trans rfl; have hcz26_19 : w25.cell? ⟨gb179, 18 + a1.toNat, none⟩ = some (.string sd) := (blk_cell BK179.out (18 + a1.toNat)).trans hsdc.out; have hcz26_20 : w25.cell? ⟨gb179, 20, none⟩ = some (.string a0_20) := (blk_cell BK179.out 20).trans rfl; have hcz26_21 : w25.cell? ⟨gb179, 21, none⟩ = some (.string a0_21) := (blk_cell BK179.out 21).trans rfl; have hfz26_0 := blk_frozen BK179.out 0; have hfz26_1 := blk_frozen BK179.out 1; have hfz26_2 := blk_frozen BK179.out 2; have hfz26_3 := blk_frozen BK179.out 3; have hfz26_4 := blk_frozen BK179.out 4; have hfz26_5 := blk_frozen BK179.out 5; have hfz26_6 := blk_frozen BK179.out 6; have hfz26_7 := blk_frozen BK179.out 7; have hfz26_8 := blk_frozen BK179.out 8; have hfz26_9 := blk_frozen BK179.out 9; have hfz26_10 := blk_frozen BK179.out 10; have hfz26_11 := blk_frozen BK179.out 11; have hfz26_12 := blk_frozen BK179.out 12; have hfz26_13 := blk_frozen BK179.out 13; have hfz26_14 := blk_frozen BK179.out 14; have hfz26_15 := blk_frozen BK179.out 15; have hfz26_16 := blk_frozen BK179.out 16; have hfz26_17 := blk_frozen BK179.out 17; have hfz26_18 := blk_frozen BK179.out 18; have hfz26_19 := blk_frozen BK179.out 19; have hfz26_20 := blk_frozen BK179.out 20; have hfz26_21 := blk_frozen BK179.out 21))
                have n0_ := Aside0.mk (blk_drew BK179.out)
                have n1_ := Aside0.mk (below_drew1 HB.out)
                clear BK179
                clear HB
                have BK179 := n0_
                have HB := n1_
                clear n0_ n1_
                refine start_ (n := 15) (S := fun w' => w'.cell? ⟨gb179, 0, none⟩ = some (.string a0_0) ∧ w'.cell? ⟨gb179, 1, none⟩ = some (.string a0_1) ∧ w'.cell? ⟨gb179, 2, none⟩ = some (.string a0_2) ∧ w'.cell? ⟨gb179, 3, none⟩ = some (.string a0_3) ∧ w'.cell? ⟨gb179, 4, none⟩ = some (.string a0_4) ∧ w'.cell? ⟨gb179, 5, none⟩ = some (.string a0_5) ∧ w'.cell? ⟨gb179, 6, none⟩ = some (.string a0_6) ∧ w'.cell? ⟨gb179, 7, none⟩ = some (.string a0_7) ∧ w'.cell? ⟨gb179, 8, none⟩ = some (.string a0_8) ∧ w'.cell? ⟨gb179, 9, none⟩ = some (.string a0_9) ∧ w'.cell? ⟨gb179, 10, none⟩ = some (.string a0_10) ∧ w'.cell? ⟨gb179, 11, none⟩ = some (.string a0_11) ∧ w'.cell? ⟨gb179, 12, none⟩ = some (.string a0_12) ∧ w'.cell? ⟨gb179, 13, none⟩ = some (.string a0_13) ∧ w'.cell? ⟨gb179, 14, none⟩ = some (.string a0_14) ∧ w'.cell? ⟨gb179, 15, none⟩ = some (.string a0_15) ∧ w'.cell? ⟨gb179, 16, none⟩ = some (.string a0_16) ∧ w'.cell? ⟨gb179, 17, none⟩ = some (.string a0_17) ∧ w'.cell? ⟨gb179, 18, none⟩ = some (.string a0_18) ∧ w'.cell? ⟨gb179, 18 + a1.toNat, none⟩ = some (.string sd) ∧ w'.cell? ⟨gb179, 20, none⟩ = some (.string a0_20) ∧ w'.cell? ⟨gb179, 21, none⟩ = some (.string a0_21)) (ds := []) #[false, false, false, false, false, false, false, false, false, false, false, false, false, false, false] (by kernel_rfl) rfl rfl ⟨(blk_cell BK179.out 0).trans rfl, (blk_cell BK179.out 1).trans rfl, (blk_cell BK179.out 2).trans rfl, (blk_cell BK179.out 3).trans rfl, (blk_cell BK179.out 4).trans rfl, (blk_cell BK179.out 5).trans rfl, (blk_cell BK179.out 6).trans rfl, (blk_cell BK179.out 7).trans rfl, (blk_cell BK179.out 8).trans rfl, (blk_cell BK179.out 9).trans rfl, (blk_cell BK179.out 10).trans rfl, (blk_cell BK179.out 11).trans rfl, (blk_cell BK179.out 12).trans rfl, (blk_cell BK179.out 13).trans rfl, (blk_cell BK179.out 14).trans rfl, (blk_cell BK179.out 15).trans rfl, (blk_cell BK179.out 16).trans rfl, (blk_cell BK179.out 17).trans rfl, (blk_cell BK179.out 18).trans rfl, (blk_cell BK179.out (18 + a1.toNat)).trans hsdc.out, (blk_cell BK179.out 20).trans rfl, (blk_cell BK179.out 21).trans rfl⟩ (fun hHeld => ?_); refine with_tabW impl_tongue_rain.tab6 impl_tongue_rain.bits6 (fun HT_ HW_ => ?_)
                generalize w25.drew = w27 at BK179 HB hHeld ⊢
                refine pure_ (i := 0) (N := some 19) (v := ?_) (a' := ?_) #[true, false, false, false, false, false, false, false, false, false, false, false, false, false, false] rfl rfl (any_of HT_.out (by kernel_rfl)) (fun _ _ _ h => h) (Or.inl ⟨by rfl, ?_⟩) ?_ ?_
                rotate_left
                · intro w'
                  go_simp
                  with_reducible rfl
                rotate_left
                · simp only [Act.put, List.setIfInBounds_toArray, List.set_cons_zero, List.set_cons_succ, i64_w, i32_w]
                  rfl
                refine pure_ (i := 1) (N := some 20) (v := ?_) (a' := ?_) #[true, true, false, false, false, false, false, false, false, false, false, false, false, false, false] rfl rfl (any_of HT_.out (by kernel_rfl)) (fun _ _ _ h => h) (Or.inl ⟨by rfl, ?_⟩) ?_ ?_
                rotate_left
                · intro w'
                  go_simp
                  with_reducible rfl
                rotate_left
                · simp only [Act.put, List.setIfInBounds_toArray, List.set_cons_zero, List.set_cons_succ, i64_w, i32_w]
                  rfl
                refine pure_ (i := 2) (N := some 21) (v := ?_) (a' := ?_) #[true, true, true, false, false, false, false, false, false, false, false, false, false, false, false] rfl rfl (any_of HT_.out (by kernel_rfl)) (fun _ _ _ h => h) (Or.inl ⟨by rfl, ?_⟩) ?_ ?_
                rotate_left
                · intro w'
                  go_simp
                  with_reducible rfl
                rotate_left
                · simp only [Act.put, List.setIfInBounds_toArray, List.set_cons_zero, List.set_cons_succ, i64_w, i32_w]
                  rfl
                refine pure_ (i := 4) (N := some 23) (v := ?_) (a' := ?_) #[true, true, true, false, true, false, false, false, false, false, false, false, false, false, false] rfl rfl (any_of HT_.out (by kernel_rfl)) (fun _ _ _ h => h) (Or.inl ⟨by rfl, ?_⟩) ?_ ?_
                rotate_left
                · intro w'
                  go_simp
                  with_reducible rfl
                rotate_left
                · simp only [Act.put, List.setIfInBounds_toArray, List.set_cons_zero, List.set_cons_succ, i64_w, i32_w]
                  rfl
                refine pure_ (i := 7) (N := some 26) (v := ?_) (a' := ?_) #[true, true, true, false, true, false, false, true, false, false, false, false, false, false, false] rfl rfl (any_of HT_.out (by kernel_rfl)) (fun _ _ _ h => h) (Or.inl ⟨by rfl, ?_⟩) ?_ ?_
                rotate_left
                · intro w'
                  go_simp
                  with_reducible rfl
                rotate_left
                · simp only [Act.put, List.setIfInBounds_toArray, List.set_cons_zero, List.set_cons_succ, i64_w, i32_w]
                  rfl
                refine pure_ (i := 11) (N := some 30) (v := ?_) (a' := ?_) #[true, true, true, false, true, false, false, true, false, false, false, true, false, false, false] rfl rfl (any_of HT_.out (by kernel_rfl)) (fun _ _ _ h => h) (Or.inl ⟨by rfl, ?_⟩) ?_ ?_
                rotate_left
                · intro w'
                  go_simp
                  with_reducible rfl
                rotate_left
                · simp only [Act.put, List.setIfInBounds_toArray, List.set_cons_zero, List.set_cons_succ, i64_w, i32_w]
                  rfl
                refine take_ (i := 3) (N := some 22) (v := ?_) (a' := ?_) #[true, true, true, true, true, false, false, true, false, false, false, true, false, false, false] rfl rfl (take_ofW HT_.out HW_.out (by kernel_rfl)) (fun _ _ _ h => h) (Or.inl ⟨by rfl, ?_⟩) hHeld ?_ ?_
                rotate_left
                · rintro w' ⟨s0, s1, s2, s3, s4, s5, s6, s7, s8, s9, s10, s11, s12, s13, s14, s15, s16, s17, s18, s19, s20, s21⟩
                  go_simp
                  with_reducible rfl
                rotate_left
                · simp only [Act.put, List.setIfInBounds_toArray, List.set_cons_zero, List.set_cons_succ, i64_w, i32_w]
                  rfl
                refine take_ (i := 5) (N := some 24) (v := ?_) (a' := ?_) #[true, true, true, true, true, true, false, true, false, false, false, true, false, false, false] rfl rfl (take_ofW HT_.out HW_.out (by kernel_rfl)) (fun _ _ _ h => h) (Or.inl ⟨by rfl, ?_⟩) hHeld ?_ ?_
                rotate_left
                · rintro w' ⟨s0, s1, s2, s3, s4, s5, s6, s7, s8, s9, s10, s11, s12, s13, s14, s15, s16, s17, s18, s19, s20, s21⟩
                  go_simp
                  with_reducible rfl
                rotate_left
                · simp only [Act.put, List.setIfInBounds_toArray, List.set_cons_zero, List.set_cons_succ, i64_w, i32_w]
                  rfl
                refine pure_ (i := 6) (N := some 25) (v := ?_) (a' := ?_) #[true, true, true, true, true, true, true, true, false, false, false, true, false, false, false] rfl rfl (any_of HT_.out (by kernel_rfl)) (fun _ _ _ h => h) (Or.inl ⟨by rfl, ?_⟩) ?_ ?_
                rotate_left
                · intro w'
                  go_simp
                  with_reducible rfl
                rotate_left
                · simp only [Act.put, List.setIfInBounds_toArray, List.set_cons_zero, List.set_cons_succ, i64_w, i32_w]
                  rfl
                refine one_ (i := 8) (N := some 27) #[true, true, true, true, true, true, true, true, true, false, false, true, false, false, false] rfl rfl (one_of HT_.out (by kernel_rfl)) (by decide) (fun K hK => ?_)
                refine goes_ Tryd.func32 (by kernel_rfl) rfl #[.int .i64 a2] (by rfl) rfl rfl (by (try simp only [List.map_toArray, List.map_cons, List.map_nil]); first | done | rfl | (simp only [List.length_drop, List.length_take]; rfl)) ?_
                with_reducible refine (impl_dec.calls a2 t181 _ A20.out (tab_on HTb.out (by repeat (first | (with_reducible first | exact HB.out | apply below_alloc | apply pw_below_drewN | apply below_drew1 | refine below_set ?_ GE179.out) | exact HB.out)))).mono ?_
                rintro e w28 ⟨rfl, hb⟩
                refine ⟨_, rfl, ?_⟩
                have n0_ := Aside0.mk (blk_below (g := gb179) (o := .cells #[.string a0_0, .string a0_1, .string a0_2, .string a0_3, .string a0_4, .string a0_5, .string a0_6, .string a0_7, .string a0_8, .string a0_9, .string a0_10, .string a0_11, .string a0_12, .string a0_13, .string a0_14, .string a0_15, .string a0_16, .string a0_17, .string a0_18, .string a0_19, .string a0_20, .string a0_21] 44 (0, 0)) (by (with_reducible repeat (first | refine blk_drewN ?_ _ | refine blk_drew ?_ | refine blk_alloc ?_ _)); exact BK179.out) hb)
                have n1_ := Aside0.mk (below_step (by repeat (first | (with_reducible first | exact HB.out | apply below_alloc | apply pw_below_drewN | apply below_drew1 | refine below_set ?_ GE179.out) | exact HB.out)) hb)
                clear BK179
                clear HB
                have BK179 := n0_
                have HB := n1_
                clear n0_ n1_
                (try clear hb)
                (try clear hb2)
                (try clear hk)
                (try clear hi)
                refine hK.out _ _ ⟨(blk_cell BK179.out 0).trans rfl, (blk_cell BK179.out 1).trans rfl, (blk_cell BK179.out 2).trans rfl, (blk_cell BK179.out 3).trans rfl, (blk_cell BK179.out 4).trans rfl, (blk_cell BK179.out 5).trans rfl, (blk_cell BK179.out 6).trans rfl, (blk_cell BK179.out 7).trans rfl, (blk_cell BK179.out 8).trans rfl, (blk_cell BK179.out 9).trans rfl, (blk_cell BK179.out 10).trans rfl, (blk_cell BK179.out 11).trans rfl, (blk_cell BK179.out 12).trans rfl, (blk_cell BK179.out 13).trans rfl, (blk_cell BK179.out 14).trans rfl, (blk_cell BK179.out 15).trans rfl, (blk_cell BK179.out 16).trans rfl, (blk_cell BK179.out 17).trans rfl, (blk_cell BK179.out 18).trans rfl, (blk_cell BK179.out (18 + a1.toNat)).trans hsdc.out, (blk_cell BK179.out 20).trans rfl, (blk_cell BK179.out 21).trans rfl⟩ (fun hHeld => ?_)
                clear hK K
                refine norm_ (a' := ?_) ?_ ?_
                rotate_left
                · show Act.put _ (some 27) _ = _
                  simp only [Act.put, List.setIfInBounds_toArray, List.set_cons_zero, List.set_cons_succ, i64_w, i32_w]
                  rfl
                refine pure_ (i := 9) (N := some 28) (v := ?_) (a' := ?_) #[true, true, true, true, true, true, true, true, true, true, false, true, false, false, false] rfl rfl (any_of HT_.out (by kernel_rfl)) (fun _ _ _ h => h) (Or.inl ⟨by rfl, ?_⟩) ?_ ?_
                rotate_left
                · intro w'
                  go_simp
                  with_reducible rfl
                rotate_left
                · simp only [Act.put, List.setIfInBounds_toArray, List.set_cons_zero, List.set_cons_succ, i64_w, i32_w]
                  rfl
                refine pure_ (i := 10) (N := some 29) (v := ?_) (a' := ?_) #[true, true, true, true, true, true, true, true, true, true, true, true, false, false, false] rfl rfl (any_of HT_.out (by kernel_rfl)) (fun _ _ _ h => h) (Or.inl ⟨by rfl, ?_⟩) ?_ ?_
                rotate_left
                · intro w'
                  go_simp
                  with_reducible rfl
                rotate_left
                · simp only [Act.put, List.setIfInBounds_toArray, List.set_cons_zero, List.set_cons_succ, i64_w, i32_w]
                  rfl
                refine pure_ (i := 12) (N := some 31) (v := ?_) (a' := ?_) #[true, true, true, true, true, true, true, true, true, true, true, true, true, false, false] rfl rfl (any_of HT_.out (by kernel_rfl)) (fun _ _ _ h => h) (Or.inl ⟨by rfl, ?_⟩) ?_ ?_
                rotate_left
                · intro w'
                  go_simp
                  with_reducible rfl
                rotate_left
                · simp only [Act.put, List.setIfInBounds_toArray, List.set_cons_zero, List.set_cons_succ, i64_w, i32_w]
                  rfl
                refine pure_ (i := 13) (N := some 32) (v := ?_) (a' := ?_) #[true, true, true, true, true, true, true, true, true, true, true, true, true, true, false] rfl rfl (any_of HT_.out (by kernel_rfl)) (fun _ _ _ h => h) (Or.inl ⟨by rfl, ?_⟩) ?_ ?_
                rotate_left
                · intro w'
                  go_simp
                  with_reducible rfl
                rotate_left
                · simp only [Act.put, List.setIfInBounds_toArray, List.set_cons_zero, List.set_cons_succ, i64_w, i32_w]
                  rfl
                refine pure_ (i := 14) (N := some 6) (v := ?_) (a' := ?_) #[true, true, true, true, true, true, true, true, true, true, true, true, true, true, true] rfl rfl (any_of HT_.out (by kernel_rfl)) (fun _ _ _ h => h) (Or.inl ⟨by rfl, ?_⟩) ?_ ?_
                rotate_left
                · intro w'
                  go_simp
                  with_reducible rfl
                rotate_left
                · simp only [Act.put, List.setIfInBounds_toArray, List.set_cons_zero, List.set_cons_succ, i64_w, i32_w]
                  rfl
                refine done_ (done_of HT_.out (by kernel_rfl)) ?_
                try go_wp2
                go_ret
                exact ⟨by first | rfl | (simp [errW_none, errW_some] <;> rfl) | (simp [*, errW_none, errW_some] <;> rfl), by repeat (first | (with_reducible first | exact HB.out | apply below_alloc | apply pw_below_drewN | apply below_drew1 | refine below_set ?_ GE179.out) | exact HB.out)⟩
              · rw [if_neg c24] at H
                exact absurd H (by simp)
            · rw [if_neg c23] at H
              exact absurd H (by simp)
          · rw [if_neg c22] at H
            exact absurd H (by simp)
        · rw [if_neg c21] at H
          exact absurd H (by simp)
      · rw [if_neg c19] at H
        exact absurd H (by simp)


/-! ### impl_tongueAt: the row of impl's tongues at a number (no function of the program: an operation on the global) -/
def tongueTab : List ByteArray := [(⟨#[]⟩ : ByteArray), (⟨#[]⟩ : ByteArray), (⟨#[]⟩ : ByteArray), (⟨#[]⟩ : ByteArray), (⟨#[]⟩ : ByteArray), (⟨#[]⟩ : ByteArray), (⟨#[]⟩ : ByteArray), (⟨#[]⟩ : ByteArray), (⟨#[]⟩ : ByteArray), (⟨#[]⟩ : ByteArray), (⟨#[]⟩ : ByteArray), (⟨#[]⟩ : ByteArray), (⟨#[]⟩ : ByteArray), (⟨#[]⟩ : ByteArray), (⟨#[]⟩ : ByteArray), (⟨#[]⟩ : ByteArray), (⟨#[]⟩ : ByteArray), (⟨#[]⟩ : ByteArray), (⟨#[]⟩ : ByteArray), (⟨#[]⟩ : ByteArray), (⟨#[]⟩ : ByteArray), (⟨#[]⟩ : ByteArray), (⟨#[99, 97, 108, 109]⟩ : ByteArray), (⟨#[]⟩ : ByteArray), (⟨#[32]⟩ : ByteArray), (⟨#[44, 32, 114, 105, 115, 105, 110, 103, 32, 116, 111, 32]⟩ : ByteArray), (⟨#[44, 32, 102, 97, 108, 108, 105, 110, 103, 32, 116, 111, 32]⟩ : ByteArray), (⟨#[100, 114, 121]⟩ : ByteArray), (⟨#[32, 105, 110, 32]⟩ : ByteArray), (⟨#[112, 108, 97, 99, 101]⟩ : ByteArray), (⟨#[112, 108, 97, 99, 101, 115]⟩ : ByteArray), (⟨#[]⟩ : ByteArray), (⟨#[110, 111, 114, 116, 104, 45, 101, 97, 115, 116]⟩ : ByteArray), (⟨#[101, 97, 115, 116]⟩ : ByteArray), (⟨#[115, 111, 117, 116, 104, 45, 101, 97, 115, 116]⟩ : ByteArray), (⟨#[115, 111, 117, 116, 104]⟩ : ByteArray), (⟨#[115, 111, 117, 116, 104, 45, 119, 101, 115, 116]⟩ : ByteArray), (⟨#[119, 101, 115, 116]⟩ : ByteArray), (⟨#[110, 111, 114, 116, 104, 45, 119, 101, 115, 116]⟩ : ByteArray), (⟨#[110, 111, 114, 116, 104]⟩ : ByteArray), (⟨#[]⟩ : ByteArray), (⟨#[114, 97, 105, 110]⟩ : ByteArray), (⟨#[115, 110, 111, 119]⟩ : ByteArray), (⟨#[104, 97, 105, 108]⟩ : ByteArray), (⟨#[119, 105, 110, 100, 115, 116, 105, 108, 108]⟩ : ByteArray), (⟨#[]⟩ : ByteArray), (⟨#[32, 83, 116, 195, 164, 114, 107, 101, 32]⟩ : ByteArray), (⟨#[44, 32, 122, 117, 110, 101, 104, 109, 101, 110, 100, 32]⟩ : ByteArray), (⟨#[44, 32, 97, 98, 110, 101, 104, 109, 101, 110, 100, 32]⟩ : ByteArray), (⟨#[116, 114, 111, 99, 107, 101, 110]⟩ : ByteArray), (⟨#[32, 97, 110, 32]⟩ : ByteArray), (⟨#[79, 114, 116]⟩ : ByteArray), (⟨#[79, 114, 116, 101, 110]⟩ : ByteArray), (⟨#[]⟩ : ByteArray), (⟨#[78, 111, 114, 100, 111, 115, 116]⟩ : ByteArray), (⟨#[79, 115, 116]⟩ : ByteArray), (⟨#[83, 195, 188, 100, 111, 115, 116]⟩ : ByteArray), (⟨#[83, 195, 188, 100]⟩ : ByteArray), (⟨#[83, 195, 188, 100, 119, 101, 115, 116]⟩ : ByteArray), (⟨#[87, 101, 115, 116]⟩ : ByteArray), (⟨#[78, 111, 114, 100, 119, 101, 115, 116]⟩ : ByteArray), (⟨#[78, 111, 114, 100]⟩ : ByteArray), (⟨#[]⟩ : ByteArray), (⟨#[82, 101, 103, 101, 110]⟩ : ByteArray), (⟨#[83, 99, 104, 110, 101, 101]⟩ : ByteArray), (⟨#[72, 97, 103, 101, 108]⟩ : ByteArray), (⟨#[99, 105, 115, 122, 97]⟩ : ByteArray), (⟨#[119, 105, 97, 116, 114, 32]⟩ : ByteArray), (⟨#[44, 32, 115, 105, 197, 130, 97, 32]⟩ : ByteArray), (⟨#[44, 32, 119, 122, 114, 111, 115, 116, 32, 100, 111, 32]⟩ : ByteArray), (⟨#[44, 32, 115, 112, 97, 100, 101, 107, 32, 100, 111, 32]⟩ : ByteArray), (⟨#[115, 117, 99, 104, 111]⟩ : ByteArray), (⟨#[32, 119, 32]⟩ : ByteArray), (⟨#[109, 105, 101, 106, 115, 99, 117]⟩ : ByteArray), (⟨#[109, 105, 101, 106, 115, 99, 97, 99, 104]⟩ : ByteArray), (⟨#[]⟩ : ByteArray), (⟨#[112, 195, 179, 197, 130, 110, 111, 99, 110, 111, 45, 119, 115, 99, 104, 111, 100, 110, 105]⟩ : ByteArray), (⟨#[119, 115, 99, 104, 111, 100, 110, 105]⟩ : ByteArray), (⟨#[112, 111, 197, 130, 117, 100, 110, 105, 111, 119, 111, 45, 119, 115, 99, 104, 111, 100, 110, 105]⟩ : ByteArray), (⟨#[112, 111, 197, 130, 117, 100, 110, 105, 111, 119, 121]⟩ : ByteArray), (⟨#[112, 111, 197, 130, 117, 100, 110, 105, 111, 119, 111, 45, 122, 97, 99, 104, 111, 100, 110, 105]⟩ : ByteArray), (⟨#[122, 97, 99, 104, 111, 100, 110, 105]⟩ : ByteArray), (⟨#[112, 195, 179, 197, 130, 110, 111, 99, 110, 111, 45, 122, 97, 99, 104, 111, 100, 110, 105]⟩ : ByteArray), (⟨#[112, 195, 179, 197, 130, 110, 111, 99, 110, 121]⟩ : ByteArray), (⟨#[]⟩ : ByteArray), (⟨#[100, 101, 115, 122, 99, 122]⟩ : ByteArray), (⟨#[197, 155, 110, 105, 101, 103]⟩ : ByteArray), (⟨#[103, 114, 97, 100]⟩ : ByteArray)]
def TongIs (w : World) : Prop := ∀ i, i < 88 → w.cell? ⟨0, i, none⟩ = some (.string (tongueTab.getD i ByteArray.empty))
theorem tong_on {w w1 : World} (hG : TongIs w) (hb : Below w.heap.size w w1) : TongIs w1 := fun i hi => (hb.cell (World.block_lt_of_cell? w _ (hG i hi))).trans (hG i hi)
def impl_tongueAt.f (a : Int) : Option (ByteArray × ByteArray × ByteArray × ByteArray × ByteArray × ByteArray × ByteArray × ByteArray × ByteArray × ByteArray × ByteArray × ByteArray × ByteArray × ByteArray × ByteArray × ByteArray × ByteArray × ByteArray × ByteArray × ByteArray × ByteArray × ByteArray) := if a = 1 then some ((⟨#[99, 97, 108, 109]⟩ : ByteArray), (⟨#[]⟩ : ByteArray), (⟨#[32]⟩ : ByteArray), (⟨#[44, 32, 114, 105, 115, 105, 110, 103, 32, 116, 111, 32]⟩ : ByteArray), (⟨#[44, 32, 102, 97, 108, 108, 105, 110, 103, 32, 116, 111, 32]⟩ : ByteArray), (⟨#[100, 114, 121]⟩ : ByteArray), (⟨#[32, 105, 110, 32]⟩ : ByteArray), (⟨#[112, 108, 97, 99, 101]⟩ : ByteArray), (⟨#[112, 108, 97, 99, 101, 115]⟩ : ByteArray), (⟨#[]⟩ : ByteArray), (⟨#[110, 111, 114, 116, 104, 45, 101, 97, 115, 116]⟩ : ByteArray), (⟨#[101, 97, 115, 116]⟩ : ByteArray), (⟨#[115, 111, 117, 116, 104, 45, 101, 97, 115, 116]⟩ : ByteArray), (⟨#[115, 111, 117, 116, 104]⟩ : ByteArray), (⟨#[115, 111, 117, 116, 104, 45, 119, 101, 115, 116]⟩ : ByteArray), (⟨#[119, 101, 115, 116]⟩ : ByteArray), (⟨#[110, 111, 114, 116, 104, 45, 119, 101, 115, 116]⟩ : ByteArray), (⟨#[110, 111, 114, 116, 104]⟩ : ByteArray), (⟨#[]⟩ : ByteArray), (⟨#[114, 97, 105, 110]⟩ : ByteArray), (⟨#[115, 110, 111, 119]⟩ : ByteArray), (⟨#[104, 97, 105, 108]⟩ : ByteArray)) else if a = 2 then some ((⟨#[119, 105, 110, 100, 115, 116, 105, 108, 108]⟩ : ByteArray), (⟨#[]⟩ : ByteArray), (⟨#[32, 83, 116, 195, 164, 114, 107, 101, 32]⟩ : ByteArray), (⟨#[44, 32, 122, 117, 110, 101, 104, 109, 101, 110, 100, 32]⟩ : ByteArray), (⟨#[44, 32, 97, 98, 110, 101, 104, 109, 101, 110, 100, 32]⟩ : ByteArray), (⟨#[116, 114, 111, 99, 107, 101, 110]⟩ : ByteArray), (⟨#[32, 97, 110, 32]⟩ : ByteArray), (⟨#[79, 114, 116]⟩ : ByteArray), (⟨#[79, 114, 116, 101, 110]⟩ : ByteArray), (⟨#[]⟩ : ByteArray), (⟨#[78, 111, 114, 100, 111, 115, 116]⟩ : ByteArray), (⟨#[79, 115, 116]⟩ : ByteArray), (⟨#[83, 195, 188, 100, 111, 115, 116]⟩ : ByteArray), (⟨#[83, 195, 188, 100]⟩ : ByteArray), (⟨#[83, 195, 188, 100, 119, 101, 115, 116]⟩ : ByteArray), (⟨#[87, 101, 115, 116]⟩ : ByteArray), (⟨#[78, 111, 114, 100, 119, 101, 115, 116]⟩ : ByteArray), (⟨#[78, 111, 114, 100]⟩ : ByteArray), (⟨#[]⟩ : ByteArray), (⟨#[82, 101, 103, 101, 110]⟩ : ByteArray), (⟨#[83, 99, 104, 110, 101, 101]⟩ : ByteArray), (⟨#[72, 97, 103, 101, 108]⟩ : ByteArray)) else if a = 3 then some ((⟨#[99, 105, 115, 122, 97]⟩ : ByteArray), (⟨#[119, 105, 97, 116, 114, 32]⟩ : ByteArray), (⟨#[44, 32, 115, 105, 197, 130, 97, 32]⟩ : ByteArray), (⟨#[44, 32, 119, 122, 114, 111, 115, 116, 32, 100, 111, 32]⟩ : ByteArray), (⟨#[44, 32, 115, 112, 97, 100, 101, 107, 32, 100, 111, 32]⟩ : ByteArray), (⟨#[115, 117, 99, 104, 111]⟩ : ByteArray), (⟨#[32, 119, 32]⟩ : ByteArray), (⟨#[109, 105, 101, 106, 115, 99, 117]⟩ : ByteArray), (⟨#[109, 105, 101, 106, 115, 99, 97, 99, 104]⟩ : ByteArray), (⟨#[]⟩ : ByteArray), (⟨#[112, 195, 179, 197, 130, 110, 111, 99, 110, 111, 45, 119, 115, 99, 104, 111, 100, 110, 105]⟩ : ByteArray), (⟨#[119, 115, 99, 104, 111, 100, 110, 105]⟩ : ByteArray), (⟨#[112, 111, 197, 130, 117, 100, 110, 105, 111, 119, 111, 45, 119, 115, 99, 104, 111, 100, 110, 105]⟩ : ByteArray), (⟨#[112, 111, 197, 130, 117, 100, 110, 105, 111, 119, 121]⟩ : ByteArray), (⟨#[112, 111, 197, 130, 117, 100, 110, 105, 111, 119, 111, 45, 122, 97, 99, 104, 111, 100, 110, 105]⟩ : ByteArray), (⟨#[122, 97, 99, 104, 111, 100, 110, 105]⟩ : ByteArray), (⟨#[112, 195, 179, 197, 130, 110, 111, 99, 110, 111, 45, 122, 97, 99, 104, 111, 100, 110, 105]⟩ : ByteArray), (⟨#[112, 195, 179, 197, 130, 110, 111, 99, 110, 121]⟩ : ByteArray), (⟨#[]⟩ : ByteArray), (⟨#[100, 101, 115, 122, 99, 122]⟩ : ByteArray), (⟨#[197, 155, 110, 105, 101, 103]⟩ : ByteArray), (⟨#[103, 114, 97, 100]⟩ : ByteArray)) else none
theorem tong_range {w : World} (hG : TongIs w) (o : Nat) (ho : o + 22 ≤ 88) : w.rangeAt 0 o (((tongueTab.drop o).take 22).map Value.string) := by
  intro j v hv
  rw [List.getElem?_map] at hv
  obtain ⟨x, hx, rfl⟩ := Option.map_eq_some_iff.1 hv
  have hj : j < 22 := by
    by_cases h : j < 22
    · exact h
    · rw [List.getElem?_eq_none (by rw [List.length_take]; omega)] at hx
      cases hx
  rw [List.getElem?_take, if_pos hj, List.getElem?_drop] at hx
  rw [hG (o + j) (by omega), List.getD_eq_getElem?_getD, hx]
  rfl
set_option maxRecDepth 100000 in
theorem tongueAt_range {a : Int} {t0 t1 t2 t3 t4 t5 t6 t7 t8 t9 t10 t11 t12 t13 t14 t15 t16 t17 t18 t19 t20 t21 : ByteArray} {w : World} (h : impl_tongueAt.f a = some (t0, t1, t2, t3, t4, t5, t6, t7, t8, t9, t10, t11, t12, t13, t14, t15, t16, t17, t18, t19, t20, t21)) (hG : TongIs w) :
    1 ≤ a ∧ a < 4 ∧ w.rangeAt 0 (a.toNat * 22) [.string t0, .string t1, .string t2, .string t3, .string t4, .string t5, .string t6, .string t7, .string t8, .string t9, .string t10, .string t11, .string t12, .string t13, .string t14, .string t15, .string t16, .string t17, .string t18, .string t19, .string t20, .string t21] := by
  unfold impl_tongueAt.f at h
  by_cases c1 : a = 1
  · subst c1
    rw [if_pos rfl] at h
    injection h with h
    simp only [Prod.mk.injEq] at h
    obtain ⟨rfl, rfl, rfl, rfl, rfl, rfl, rfl, rfl, rfl, rfl, rfl, rfl, rfl, rfl, rfl, rfl, rfl, rfl, rfl, rfl, rfl, rfl⟩ := h
    exact ⟨by decide, by decide, tong_range hG 22 (by decide)⟩
  · rw [if_neg c1] at h
    by_cases c2 : a = 2
    · subst c2
      rw [if_pos rfl] at h
      injection h with h
      simp only [Prod.mk.injEq] at h
      obtain ⟨rfl, rfl, rfl, rfl, rfl, rfl, rfl, rfl, rfl, rfl, rfl, rfl, rfl, rfl, rfl, rfl, rfl, rfl, rfl, rfl, rfl, rfl⟩ := h
      exact ⟨by decide, by decide, tong_range hG 44 (by decide)⟩
    · rw [if_neg c2] at h
      by_cases c3 : a = 3
      · subst c3
        rw [if_pos rfl] at h
        injection h with h
        simp only [Prod.mk.injEq] at h
        obtain ⟨rfl, rfl, rfl, rfl, rfl, rfl, rfl, rfl, rfl, rfl, rfl, rfl, rfl, rfl, rfl, rfl, rfl, rfl, rfl, rfl, rfl, rfl⟩ := h
        exact ⟨by decide, by decide, tong_range hG 66 (by decide)⟩
      · rw [if_neg c3] at h
        cases h
theorem info_tong : (Tryd.prog.info? 44).map (·.size) = some 22 := by kernel_rfl
theorem there_blk {w : World} {g : Nat} {t : TypeId} {cs : Array Value} (h : w.heap[g]? = some (.cells cs t (0, 0))) : w.there g 0 cs.size := fun j hj =>
  ⟨by rw [blk_cell h (0 + j), Nat.zero_add, Array.getElem?_eq_getElem hj]; rfl, blk_frozen h (0 + j)⟩
section
variable {P : Program} {ops : Array Oper} {rest : List Oper} {o : Oper} {a : Act} {Q : Exit → Act → World → Prop}
theorem range_blk {w : World} {g : Nat} {t : TypeId} {cs : Array Value} (h : w.heap[g]? = some (.cells cs t (0, 0))) : w.rangeAt g 0 cs.toList := fun j v hv => by
  rw [blk_cell h (0 + j), Nat.zero_add, ← Array.getElem?_toList]; exact hv
theorem range_nil {w : World} {b o : Nat} : w.rangeAt b o [] := fun j v h => by simp at h
theorem range_cons {w : World} {b o : Nat} {v : Value} {r : List Value} (h : w.cell? ⟨b, o, none⟩ = some v) (hr : w.rangeAt b (o + 1) r) : w.rangeAt b o (v :: r) := by
  intro j u hu
  cases j with
  | zero => simp at hu; subst hu; exact h
  | succ j =>
    have := hr j u (by simpa using hu)
    rw [show o + (j + 1) = o + 1 + j by omega]
    exact this
theorem tg_load_run {w : World} (ty : TypeId) (x : Operand) (ho : o.op = .load ty x) (b f : Nat) (hx : a.eval x = .pointer (some ⟨b, f, none⟩)) (cs : List Value) (d : TypeDesc) (hc : w.rangeAt b f cs)
    (hu : P.underlying ty = some d) (hd : d.isRow = true) (hi : (P.info? ty).map (·.size) = some cs.length) : (execOp a.eval o).run P w = .ok (.value (.agg cs.toArray)) w := by
  unfold execOp
  simp only [ho, hx, Instr.loadAt, Instr.sureAddr, Sem.run_bind, Sem.run_pure, Result.andThen_ok, run_loadVar_mid w b f ty cs d hc hu hd hi]
theorem tg_load_g {w : World} (hw : Region.wanted o (yielded ops a.tmps) = true) (ty : TypeId) (x : Operand) (ho : o.op = .load ty x) (b f : Nat) (hx : a.eval x = .pointer (some ⟨b, f, none⟩)) (cs : List Value) (d : TypeDesc) (hc : w.rangeAt b f cs)
    (hu : P.underlying ty = some d) (hd : d.isRow = true) (hi : (P.info? ty).map (·.size) = some cs.length) (h : wpList P ops Q rest (a.put o.dst (.agg cs.toArray)) w) : wpList P ops Q (o :: rest) a w :=
  wpList_step fun K hK => by simp only [hw, if_true]; exact wp_load_mid ty x ho b f hx cs d hc hu hd hi (hK _ _ h)
theorem tg_store {w W' : World} (hgd : o.guard = none) (hN : o.dst = none) (ty : TypeId) (x y : Operand) (ho : o.op = .store ty x y) (b : Nat) (cells : Array Value) (hx : a.eval x = .pointer (some ⟨b, 0, none⟩)) (hy : a.eval y = .agg cells)
    (n : Nat) (ht : w.there b 0 n) (hnn : n = cells.size) (hi : (P.info? ty).map (·.size) = some cells.size) (h1 : cells.toList.all (·.oneCell') = true) (hW : w.setCells b 0 cells.toList = W') (h : wpList P ops Q rest a W') : wpList P ops Q (o :: rest) a w := by
  subst hnn
  refine wpList_store_mid hgd ty x y ho b 0 cells hx hy ht hi (by rw [← Array.all_toList]; exact h1) ?_
  rw [hN, hW]
  exact h
end

/-! ### impl_Phrase: function 8 -/
def impl_Phrase.j0 : Nat → Int → Bool → Int → Int → Int → Int → Int → Option (ByteArray)
  | 0, _, _, _, _, _, _, _ => none
  | k + 1, x1, x13, x183000, x183001, x183002, x183003, x183004 => if x13 = true then (some (⟨#[]⟩ : ByteArray)) else ((impl_tongueAt.f x1).bind fun bt185 => ((impl_tongue_wind.f k bt185.1 bt185.2.1 bt185.2.2.1 bt185.2.2.2.1 bt185.2.2.2.2.1 bt185.2.2.2.2.2.1 bt185.2.2.2.2.2.2.1 bt185.2.2.2.2.2.2.2.1 bt185.2.2.2.2.2.2.2.2.1 bt185.2.2.2.2.2.2.2.2.2.1 bt185.2.2.2.2.2.2.2.2.2.2.1 bt185.2.2.2.2.2.2.2.2.2.2.2.1 bt185.2.2.2.2.2.2.2.2.2.2.2.2.1 bt185.2.2.2.2.2.2.2.2.2.2.2.2.2.1 bt185.2.2.2.2.2.2.2.2.2.2.2.2.2.2.1 bt185.2.2.2.2.2.2.2.2.2.2.2.2.2.2.2.1 bt185.2.2.2.2.2.2.2.2.2.2.2.2.2.2.2.2.1 bt185.2.2.2.2.2.2.2.2.2.2.2.2.2.2.2.2.2.1 bt185.2.2.2.2.2.2.2.2.2.2.2.2.2.2.2.2.2.2.1 bt185.2.2.2.2.2.2.2.2.2.2.2.2.2.2.2.2.2.2.2.1 bt185.2.2.2.2.2.2.2.2.2.2.2.2.2.2.2.2.2.2.2.2.1 bt185.2.2.2.2.2.2.2.2.2.2.2.2.2.2.2.2.2.2.2.2.2 x183000 x183001 x183002).bind fun t208 => (if t208.size + 1 ≤ 9223372036854775807 then ((impl_tongue_rain.f bt185.1 bt185.2.1 bt185.2.2.1 bt185.2.2.2.1 bt185.2.2.2.2.1 bt185.2.2.2.2.2.1 bt185.2.2.2.2.2.2.1 bt185.2.2.2.2.2.2.2.1 bt185.2.2.2.2.2.2.2.2.1 bt185.2.2.2.2.2.2.2.2.2.1 bt185.2.2.2.2.2.2.2.2.2.2.1 bt185.2.2.2.2.2.2.2.2.2.2.2.1 bt185.2.2.2.2.2.2.2.2.2.2.2.2.1 bt185.2.2.2.2.2.2.2.2.2.2.2.2.2.1 bt185.2.2.2.2.2.2.2.2.2.2.2.2.2.2.1 bt185.2.2.2.2.2.2.2.2.2.2.2.2.2.2.2.1 bt185.2.2.2.2.2.2.2.2.2.2.2.2.2.2.2.2.1 bt185.2.2.2.2.2.2.2.2.2.2.2.2.2.2.2.2.2.1 bt185.2.2.2.2.2.2.2.2.2.2.2.2.2.2.2.2.2.2.1 bt185.2.2.2.2.2.2.2.2.2.2.2.2.2.2.2.2.2.2.2.1 bt185.2.2.2.2.2.2.2.2.2.2.2.2.2.2.2.2.2.2.2.2.1 bt185.2.2.2.2.2.2.2.2.2.2.2.2.2.2.2.2.2.2.2.2.2 x183003 x183004).bind fun t209 => (if (t208 ++ (⟨#[32]⟩ : ByteArray)).size + t209.size ≤ 9223372036854775807 then (some ((t208 ++ (⟨#[32]⟩ : ByteArray)) ++ t209)) else (none))) else (none))))
def impl_Phrase.f (k : Nat) (a0_0 : Int) (a0_1 : Int) (a0_2 : Int) (a0_3 : Int) (a0_4 : Int) (a1 : Int) : Option (ByteArray) := (impl_in.f a1 1 3).bind fun t183 => (if t183 = true then ((impl_sayOk.f a0_0 a0_1 a0_2 a0_3 a0_4).bind fun t184 => (impl_Phrase.j0 k a1 (!t184) a0_0 a0_1 a0_2 a0_3 a0_4)) else (impl_Phrase.j0 k a1 true a0_0 a0_1 a0_2 a0_3 a0_4))
theorem impl_Phrase.mono_l : ∀ k, (∀ y0 y1 y2 y3 y4 y5 y6, LeO (impl_Phrase.j0 k y0 y1 y2 y3 y4 y5 y6) (impl_Phrase.j0 (k + 1) y0 y1 y2 y3 y4 y5 y6))
  | 0 => fun _ _ _ _ _ _ _ r h => by simp [impl_Phrase.j0] at h
  | k + 1 => by
    have ih0 := impl_Phrase.mono_l k
    · intro y0 y1 y2 y3 y4 y5 y6
      unfold impl_Phrase.j0
      repeat' first
      | (with_reducible exact ih0 _ _ _ _ _ _ _)
      | (with_reducible exact impl_tongue_wind.mono _ _ _ _ _ _ _ _ _ _ _ _ _ _ _ _ _ _ _ _ _ _ _ _ _ _)
      | (with_reducible exact LeO.refl _)
      | (with_reducible exact LeO.none _)
      | (with_reducible refine LeO.ite ?_ ?_)
      | (with_reducible refine LeO.bind ?_ (fun _ => ?_))
      | exact ih0 _ _ _ _ _ _ _
      | exact impl_tongue_wind.mono _ _ _ _ _ _ _ _ _ _ _ _ _ _ _ _ _ _ _ _ _ _ _ _ _ _
      | exact LeO.none _
      | refine LeO.ite ?_ ?_
      | refine LeO.bind ?_ (fun _ => ?_)
theorem impl_Phrase.mono : ∀ a0 a1 a2 a3 a4 a5 k, LeO (impl_Phrase.f k a0 a1 a2 a3 a4 a5) (impl_Phrase.f (k + 1) a0 a1 a2 a3 a4 a5) := by
  intro a0 a1 a2 a3 a4 a5 k
  have ih0 := impl_Phrase.mono_l k
  unfold impl_Phrase.f
  repeat' first
      | (with_reducible exact ih0 _ _ _ _ _ _ _)
      | (with_reducible exact impl_tongue_wind.mono _ _ _ _ _ _ _ _ _ _ _ _ _ _ _ _ _ _ _ _ _ _ _ _ _ _)
      | (with_reducible exact LeO.refl _)
      | (with_reducible exact LeO.none _)
      | (with_reducible refine LeO.ite ?_ ?_)
      | (with_reducible refine LeO.bind ?_ (fun _ => ?_))
      | exact ih0 _ _ _ _ _ _ _
      | exact impl_tongue_wind.mono _ _ _ _ _ _ _ _ _ _ _ _ _ _ _ _ _ _ _ _ _ _ _ _ _ _
      | exact LeO.none _
      | refine LeO.ite ?_ ?_
      | refine LeO.bind ?_ (fun _ => ?_)
def impl_Phrase.T4 : Bool × List (List Nat × List Nat) := (true, [([], []), ([], []), ([1], [1]), ([], []), ([3], [3]), ([], []), ([5], [5]), ([0, 2, 4, 6], [0, 2, 4, 6]), ([7], [7]), ([], []), ([], []), ([10], [10]), ([], []), ([12], [12]), ([9, 11, 13, 7], [9, 11, 13]), ([8, 14], [8, 14]), ([15, 14, 0, 1, 2, 3, 4, 5, 6, 7, 8, 9, 10, 11, 12, 13, 14, 15], [15])])
def impl_Phrase.B4 : List Nat := [0, 0, 2, 0, 8, 0, 32, 127, 255, 0, 0, 1024, 0, 4096, 16127, 32767, 65535]
theorem impl_Phrase.tab4 : rtab .any (opsOf Tryd.f8 4) = impl_Phrase.T4 := by kernel_rfl
theorem impl_Phrase.bits4 : waitsOk impl_Phrase.T4.2 impl_Phrase.B4 = true := by kernel_rfl
set_option maxHeartbeats 8000000 in
set_option maxRecDepth 100000 in
theorem impl_Phrase.calls (k : Nat) (a0_0 : Int) (a0_1 : Int) (a0_2 : Int) (a0_3 : Int) (a0_4 : Int) (a1 : Int) (r : ByteArray) (w : World) (h : impl_Phrase.f k a0_0 a0_1 a0_2 a0_3 a0_4 a1 = some r) (hT : Lib.TabIs Tryd.prog w "internal/strconv.uint64pow10" .u64 Lib.pow10Tab) (hG : TongIs w) :
    Calls Tryd.prog 8 #[.agg #[.int .i64 a0_0, .int .i64 a0_1, .int .i64 a0_2, .int .i64 a0_3, .int .i64 a0_4], .int .i64 a1] w fun e w' => e = .returned (.string r) ∧ Below w.heap.size w w' := by
  have HGb := Aside0.mk hG; clear hG
  have HTb := Aside0.mk hT; clear hT
  have hu25 := Tryd.underlying25
  have hu44 := Tryd.underlying44
  have HB := Aside0.mk (Below.refl w.heap.size w)
  have H : ((impl_in.f a1 1 3).bind fun t183 => (if t183 = true then ((impl_sayOk.f a0_0 a0_1 a0_2 a0_3 a0_4).bind fun t184 => (impl_Phrase.j0 k a1 (!t184) a0_0 a0_1 a0_2 a0_3 a0_4)) else (impl_Phrase.j0 k a1 true a0_0 a0_1 a0_2 a0_3 a0_4))) = some r := h
  clear h
  have HC3 := Aside0.mk H
  clear H
  go_enter Tryd.func8, Tryd.ntmps8
  go_upto_region 1 with (first | ((with_reducible refine gate_dst (N := 2) rfl ?_); refine box_event ?hg (N := 2) ?hd (cs := #[.int .i64 a0_0, .int .i64 a0_1, .int .i64 a0_2, .int .i64 a0_3, .int .i64 a0_4]) (t := 25) ?hr ?_; (case hd => rfl); (case hg => rfl); (case hr => first | (go_simp; done) | (go_simp; rfl)); intro gb182 hg w4 hbox hb; have n0_ := Aside0.mk (below_step (by repeat (first | (with_reducible first | exact HB.out | apply below_alloc | apply pw_below_drewN | apply below_drew1) | exact HB.out)) hb); have n1_ := Aside0.mk (hbox); have n2_ := Aside0.mk ((by rw [hg]; exact (below_size (by repeat (first | (with_reducible first | exact HB.out | apply below_alloc | apply pw_below_drewN | apply below_drew1) | exact HB.out))) : w.heap.size ≤ gb182)); have n3_ := Aside0.mk ((by rw [hg]; exact (below_size (by repeat (first | (with_reducible first | exact HB.out | apply below_alloc | apply pw_below_drewN | apply below_drew1) | exact HB.out))) : w.heap.size ≤ gb182)); clear HB; have HB := n0_; have BK182 := n1_; have GW182 := n2_; have GE182 := n3_; clear n0_ n1_ n2_ n3_; clear hb hbox hg))
  (try simp only [Act.put, List.setIfInBounds_toArray, List.set_cons_zero, List.set_cons_succ])
  go_cut [13] (fun v13 wc => ∃ (kq : Nat) (x13_2 : Bool), v13 = .bool x13_2 ∧ Aside0 (impl_Phrase.j0 kq a1 x13_2 a0_0 a0_1 a0_2 a0_3 a0_4 = some r) ∧ Aside0 (kq ≤ k) ∧ Aside0 (wc.heap[gb182]? = some (.cells #[.int .i64 a0_0, .int .i64 a0_1, .int .i64 a0_2, .int .i64 a0_3, .int .i64 a0_4] 25 (0, 0))) ∧ Aside0 (Below w.heap.size w wc))
  case first =>
    have H := HC3.out
    clear HC3
    replace H := Option.bind_eq_some_iff.mp H
    obtain ⟨t183, A50, H⟩ := H
    replace H : (if t183 = true then ((impl_sayOk.f a0_0 a0_1 a0_2 a0_3 a0_4).bind fun t184 => (impl_Phrase.j0 k a1 (!t184) a0_0 a0_1 a0_2 a0_3 a0_4)) else (impl_Phrase.j0 k a1 true a0_0 a0_1 a0_2 a0_3 a0_4)) = some r := H
    have A5 := Aside0.mk A50
    clear A50
    by_cases c6 : t183 = true
    · subst c6
      have H1 : ((impl_sayOk.f a0_0 a0_1 a0_2 a0_3 a0_4).bind fun t184 => (impl_Phrase.j0 k a1 (!t184) a0_0 a0_1 a0_2 a0_3 a0_4)) = some r := by rw [if_pos rfl] at H; exact H
      clear H
      have H := H1
      clear H1
      replace H := Option.bind_eq_some_iff.mp H
      obtain ⟨t184, A70, H⟩ := H
      replace H : (impl_Phrase.j0 k a1 (!t184) a0_0 a0_1 a0_2 a0_3 a0_4) = some r := H
      have A7 := Aside0.mk A70
      clear A70
      have H' := Aside0.mk H
      clear H
      go_wp2_with (first | ((with_reducible refine gate_callee (f := 20) rfl ?_); refine goesL_ (some 7) rfl rfl Tryd.func20 (by kernel_rfl) rfl #[.int .i64 a1, .int .i64 1, .int .i64 3] rfl (by (try simp only [List.map_toArray, List.map_cons, List.map_nil]); first | done | rfl | (simp only [List.length_drop, List.length_take]; rfl)) ?_; (with_reducible refine (impl_in.calls a1 1 3 true _ A5.out).mono ?_); rintro e w' ⟨rfl, ⟨nd, rfl⟩⟩; refine ⟨_, rfl, ?_⟩; have hcz8_0 : w4.cell? ⟨gb182, 0, none⟩ = some (.int .i64 a0_0) := (blk_cell BK182.out 0).trans rfl; have hcz8_1 : w4.cell? ⟨gb182, 1, none⟩ = some (.int .i64 a0_1) := (blk_cell BK182.out 1).trans rfl; have hcz8_2 : w4.cell? ⟨gb182, 2, none⟩ = some (.int .i64 a0_2) := (blk_cell BK182.out 2).trans rfl; have hcz8_3 : w4.cell? ⟨gb182, 3, none⟩ = some (.int .i64 a0_3) := (blk_cell BK182.out 3).trans rfl; have hcz8_4 : w4.cell? ⟨gb182, 4, none⟩ = some (.int .i64 a0_4) := (blk_cell BK182.out 4).trans rfl; have hfz8_0 := blk_frozen BK182.out 0; have hfz8_1 := blk_frozen BK182.out 1; have hfz8_2 := blk_frozen BK182.out 2; have hfz8_3 := blk_frozen BK182.out 3; have hfz8_4 := blk_frozen BK182.out 4) | (go_at_call 21; (with_reducible refine (impl_sayOk.calls a0_0 a0_1 a0_2 a0_3 a0_4 t184 _ A7.out).mono ?_); rintro e w9 ⟨rfl, hb⟩; have n0_ := Aside0.mk (blk_below (g := gb182) (o := .cells #[.int .i64 a0_0, .int .i64 a0_1, .int .i64 a0_2, .int .i64 a0_3, .int .i64 a0_4] 25 (0, 0)) (by (with_reducible repeat (first | refine blk_drewN ?_ _ | refine blk_drew ?_ | refine blk_alloc ?_ _)); exact BK182.out) hb); have n1_ := Aside0.mk (below_step (by repeat (first | (with_reducible first | exact HB.out | apply below_alloc | apply pw_below_drewN | apply below_drew1 | refine below_set ?_ GE182.out) | exact HB.out)) hb); clear BK182; clear HB; have BK182 := n0_; have HB := n1_; clear n0_ n1_; (try clear hb); (try clear hb2); (try clear hk); (try clear hi)))
      go_meet
      case rel => exact ⟨_, (!t184), (by first | rfl | (simp; done) | (simp [*]; done)), H', ⟨by first | omega | exact Nat.le_refl _⟩, ⟨by (with_reducible repeat (first | refine blk_drewN ?_ _ | refine blk_drew ?_ | refine blk_alloc ?_ _)); exact BK182.out⟩, ⟨by repeat (first | (with_reducible first | exact HB.out | apply below_alloc | apply pw_below_drewN | apply below_drew1 | refine below_set ?_ GE182.out) | exact HB.out)⟩⟩
    · replace c6 := Bool.eq_false_iff.mpr c6
      subst c6
      have H1 : (impl_Phrase.j0 k a1 true a0_0 a0_1 a0_2 a0_3 a0_4) = some r := by rw [if_neg (show ¬ (false = true) by decide)] at H; exact H
      clear H
      have H := H1
      clear H1
      have H' := Aside0.mk H
      clear H
      go_wp2_with (first | ((with_reducible refine gate_callee (f := 20) rfl ?_); refine goesL_ (some 7) rfl rfl Tryd.func20 (by kernel_rfl) rfl #[.int .i64 a1, .int .i64 1, .int .i64 3] rfl (by (try simp only [List.map_toArray, List.map_cons, List.map_nil]); first | done | rfl | (simp only [List.length_drop, List.length_take]; rfl)) ?_; (with_reducible refine (impl_in.calls a1 1 3 false _ A5.out).mono ?_); rintro e w' ⟨rfl, ⟨nd, rfl⟩⟩; refine ⟨_, rfl, ?_⟩))
      go_meet
      case rel => exact ⟨_, (true), (by first | rfl | (simp; done) | (simp [*]; done)), H', ⟨by first | omega | exact Nat.le_refl _⟩, ⟨by (with_reducible repeat (first | refine blk_drewN ?_ _ | refine blk_drew ?_ | refine blk_alloc ?_ _)); exact BK182.out⟩, ⟨by repeat (first | (with_reducible first | exact HB.out | apply below_alloc | apply pw_below_drewN | apply below_drew1 | refine below_set ?_ GE182.out) | exact HB.out)⟩⟩
  case rest =>
    clear HC3
    try clear c2
    try clear p2
    try clear c6
    try clear c8
    try clear hcz8_0
    try clear hcz8_1
    try clear hcz8_2
    try clear hcz8_3
    try clear hcz8_4
    try clear hfz8_0
    try clear hfz8_1
    try clear hfz8_2
    try clear hfz8_3
    try clear hfz8_4
    obtain ⟨kq, x13_2, rfl, HA, HJ2, BK182, HB⟩ := hcut
    cases kq with
    | zero => exact absurd HA.out (by simp [impl_Phrase.j0])
    | succ kj2 =>
      have H := HA.out
      clear HA
      simp only [impl_Phrase.j0] at H
      by_cases c10 : x13_2 = true
      · subst c10
        have H1 : (some (⟨#[]⟩ : ByteArray)) = some r := by rw [if_pos rfl] at H; exact H
        clear H
        have H := H1
        clear H1
        obtain rfl := Option.some.inj H
        go_wp2
        go_ret
        exact ⟨by first | rfl | (simp [errW_none, errW_some] <;> rfl) | (simp [*, errW_none, errW_some] <;> rfl), by repeat (first | (with_reducible first | exact HB.out | apply below_alloc | apply pw_below_drewN | apply below_drew1 | refine below_set ?_ GE182.out) | exact HB.out)⟩
      · replace c10 := Bool.eq_false_iff.mpr c10
        subst c10
        have H1 : ((impl_tongueAt.f a1).bind fun bt185 => ((impl_tongue_wind.f kj2 bt185.1 bt185.2.1 bt185.2.2.1 bt185.2.2.2.1 bt185.2.2.2.2.1 bt185.2.2.2.2.2.1 bt185.2.2.2.2.2.2.1 bt185.2.2.2.2.2.2.2.1 bt185.2.2.2.2.2.2.2.2.1 bt185.2.2.2.2.2.2.2.2.2.1 bt185.2.2.2.2.2.2.2.2.2.2.1 bt185.2.2.2.2.2.2.2.2.2.2.2.1 bt185.2.2.2.2.2.2.2.2.2.2.2.2.1 bt185.2.2.2.2.2.2.2.2.2.2.2.2.2.1 bt185.2.2.2.2.2.2.2.2.2.2.2.2.2.2.1 bt185.2.2.2.2.2.2.2.2.2.2.2.2.2.2.2.1 bt185.2.2.2.2.2.2.2.2.2.2.2.2.2.2.2.2.1 bt185.2.2.2.2.2.2.2.2.2.2.2.2.2.2.2.2.2.1 bt185.2.2.2.2.2.2.2.2.2.2.2.2.2.2.2.2.2.2.1 bt185.2.2.2.2.2.2.2.2.2.2.2.2.2.2.2.2.2.2.2.1 bt185.2.2.2.2.2.2.2.2.2.2.2.2.2.2.2.2.2.2.2.2.1 bt185.2.2.2.2.2.2.2.2.2.2.2.2.2.2.2.2.2.2.2.2.2 a0_0 a0_1 a0_2).bind fun t208 => (if t208.size + 1 ≤ 9223372036854775807 then ((impl_tongue_rain.f bt185.1 bt185.2.1 bt185.2.2.1 bt185.2.2.2.1 bt185.2.2.2.2.1 bt185.2.2.2.2.2.1 bt185.2.2.2.2.2.2.1 bt185.2.2.2.2.2.2.2.1 bt185.2.2.2.2.2.2.2.2.1 bt185.2.2.2.2.2.2.2.2.2.1 bt185.2.2.2.2.2.2.2.2.2.2.1 bt185.2.2.2.2.2.2.2.2.2.2.2.1 bt185.2.2.2.2.2.2.2.2.2.2.2.2.1 bt185.2.2.2.2.2.2.2.2.2.2.2.2.2.1 bt185.2.2.2.2.2.2.2.2.2.2.2.2.2.2.1 bt185.2.2.2.2.2.2.2.2.2.2.2.2.2.2.2.1 bt185.2.2.2.2.2.2.2.2.2.2.2.2.2.2.2.2.1 bt185.2.2.2.2.2.2.2.2.2.2.2.2.2.2.2.2.2.1 bt185.2.2.2.2.2.2.2.2.2.2.2.2.2.2.2.2.2.2.1 bt185.2.2.2.2.2.2.2.2.2.2.2.2.2.2.2.2.2.2.2.1 bt185.2.2.2.2.2.2.2.2.2.2.2.2.2.2.2.2.2.2.2.2.1 bt185.2.2.2.2.2.2.2.2.2.2.2.2.2.2.2.2.2.2.2.2.2 a0_3 a0_4).bind fun t209 => (if (t208 ++ (⟨#[32]⟩ : ByteArray)).size + t209.size ≤ 9223372036854775807 then (some ((t208 ++ (⟨#[32]⟩ : ByteArray)) ++ t209)) else (none))) else (none)))) = some r := by rw [if_neg (show ¬ (false = true) by decide)] at H; exact H
        clear H
        have H := H1
        clear H1
        replace H := Option.bind_eq_some_iff.mp H
        obtain ⟨⟨t185, t186, t187, t188, t189, t190, t191, t192, t193, t194, t195, t196, t197, t198, t199, t200, t201, t202, t203, t204, t205, t206⟩, A110, H⟩ := H
        replace H : ((impl_tongue_wind.f kj2 t185 t186 t187 t188 t189 t190 t191 t192 t193 t194 t195 t196 t197 t198 t199 t200 t201 t202 t203 t204 t205 t206 a0_0 a0_1 a0_2).bind fun t208 => (if t208.size + 1 ≤ 9223372036854775807 then ((impl_tongue_rain.f t185 t186 t187 t188 t189 t190 t191 t192 t193 t194 t195 t196 t197 t198 t199 t200 t201 t202 t203 t204 t205 t206 a0_3 a0_4).bind fun t209 => (if (t208 ++ (⟨#[32]⟩ : ByteArray)).size + t209.size ≤ 9223372036854775807 then (some ((t208 ++ (⟨#[32]⟩ : ByteArray)) ++ t209)) else (none))) else (none))) = some r := H
        have A11 := Aside0.mk A110
        clear A110
        replace H := Option.bind_eq_some_iff.mp H
        obtain ⟨t208, A120, H⟩ := H
        replace H : (if t208.size + 1 ≤ 9223372036854775807 then ((impl_tongue_rain.f t185 t186 t187 t188 t189 t190 t191 t192 t193 t194 t195 t196 t197 t198 t199 t200 t201 t202 t203 t204 t205 t206 a0_3 a0_4).bind fun t209 => (if (t208 ++ (⟨#[32]⟩ : ByteArray)).size + t209.size ≤ 9223372036854775807 then (some ((t208 ++ (⟨#[32]⟩ : ByteArray)) ++ t209)) else (none))) else (none)) = some r := H
        have A12 := Aside0.mk A120
        clear A120
        by_cases c13 : t208.size + 1 ≤ 9223372036854775807
        · rw [if_pos c13] at H
          have c13b0 := eq_true c13
          have c13b1 : decide (t208.size + 1 ≤ 9223372036854775807) = true := decide_eq_true c13
          try have c13b2 : (9223372036854775807 < t208.size + 1) = False := eq_false (Nat.not_lt.2 c13)
          replace H := Option.bind_eq_some_iff.mp H
          obtain ⟨t209, A140, H⟩ := H
          replace H : (if (t208 ++ (⟨#[32]⟩ : ByteArray)).size + t209.size ≤ 9223372036854775807 then (some ((t208 ++ (⟨#[32]⟩ : ByteArray)) ++ t209)) else (none)) = some r := H
          have A14 := Aside0.mk A140
          clear A140
          by_cases c15 : (t208 ++ (⟨#[32]⟩ : ByteArray)).size + t209.size ≤ 9223372036854775807
          · rw [if_pos c15] at H
            have c15b0 := eq_true c15
            have c15b1 : decide ((t208 ++ (⟨#[32]⟩ : ByteArray)).size + t209.size ≤ 9223372036854775807) = true := decide_eq_true c15
            try have c15b2 : (9223372036854775807 < (t208 ++ (⟨#[32]⟩ : ByteArray)).size + t209.size) = False := eq_false (Nat.not_lt.2 c15)
            (try (have c15b3 := c15b2; simp only [ByteArray.size_append, show (⟨#[32]⟩ : ByteArray).size = 1 from rfl] at c15b3))
            obtain rfl := Option.some.inj H
            obtain ⟨tl_, th_, _⟩ := tongueAt_range A11.out (tong_on HGb.out (by repeat (first | (with_reducible first | exact HB.out | apply below_alloc | apply pw_below_drewN | apply below_drew1 | refine below_set ?_ GE182.out | refine below_set ?_ GE207.out) | exact HB.out)))
            have tl0_ : 0 ≤ a1 := by omega
            try go_wp2_with (first | ((with_reducible refine gate_dst (N := 16) rfl ?_); refine wpList_load_mid rfl 44 (.tmp 15) rfl 0 (a1.toNat * 22) ?hx [.string t185, .string t186, .string t187, .string t188, .string t189, .string t190, .string t191, .string t192, .string t193, .string t194, .string t195, .string t196, .string t197, .string t198, .string t199, .string t200, .string t201, .string t202, .string t203, .string t204, .string t205, .string t206] _ ?hc Tryd.underlying44 rfl info_tong ?_; (case hx => first | rfl | (go_simp; done) | (go_simp; rfl)); (case hc => exact (tongueAt_range A11.out (tong_on HGb.out (by repeat (first | (with_reducible first | exact HB.out | apply below_alloc | apply pw_below_drewN | apply below_drew1 | refine below_set ?_ GE182.out | refine below_set ?_ GE207.out) | exact HB.out)))).2.2)) | ((with_reducible refine gate_store (t := 44) (p := 5) (v := .tmp 16) rfl ?_); refine tg_store (W' := ((((((((((((((((((((((w17.setCell ⟨gb207, 0, none⟩ (.string t185)).setCell ⟨gb207, 1, none⟩ (.string t186)).setCell ⟨gb207, 2, none⟩ (.string t187)).setCell ⟨gb207, 3, none⟩ (.string t188)).setCell ⟨gb207, 4, none⟩ (.string t189)).setCell ⟨gb207, 5, none⟩ (.string t190)).setCell ⟨gb207, 6, none⟩ (.string t191)).setCell ⟨gb207, 7, none⟩ (.string t192)).setCell ⟨gb207, 8, none⟩ (.string t193)).setCell ⟨gb207, 9, none⟩ (.string t194)).setCell ⟨gb207, 10, none⟩ (.string t195)).setCell ⟨gb207, 11, none⟩ (.string t196)).setCell ⟨gb207, 12, none⟩ (.string t197)).setCell ⟨gb207, 13, none⟩ (.string t198)).setCell ⟨gb207, 14, none⟩ (.string t199)).setCell ⟨gb207, 15, none⟩ (.string t200)).setCell ⟨gb207, 16, none⟩ (.string t201)).setCell ⟨gb207, 17, none⟩ (.string t202)).setCell ⟨gb207, 18, none⟩ (.string t203)).setCell ⟨gb207, 19, none⟩ (.string t204)).setCell ⟨gb207, 20, none⟩ (.string t205)).setCell ⟨gb207, 21, none⟩ (.string t206))) rfl rfl 44 (.tmp 5) (.tmp 16) rfl gb207 #[.string t185, .string t186, .string t187, .string t188, .string t189, .string t190, .string t191, .string t192, .string t193, .string t194, .string t195, .string t196, .string t197, .string t198, .string t199, .string t200, .string t201, .string t202, .string t203, .string t204, .string t205, .string t206] ?hx ?hy 22 (there_blk BK207.out) rfl info_tong rfl rfl ?_; (case hx => first | rfl | (go_simp; done) | (go_simp; rfl)); (case hy => first | rfl | (go_simp; done) | (go_simp; rfl))) | ((with_reducible refine gate_dst (N := 5) rfl ?_); refine box_event ?hg (N := 5) ?hd (cs := #[.string (⟨#[]⟩ : ByteArray), .string (⟨#[]⟩ : ByteArray), .string (⟨#[]⟩ : ByteArray), .string (⟨#[]⟩ : ByteArray), .string (⟨#[]⟩ : ByteArray), .string (⟨#[]⟩ : ByteArray), .string (⟨#[]⟩ : ByteArray), .string (⟨#[]⟩ : ByteArray), .string (⟨#[]⟩ : ByteArray), .string (⟨#[]⟩ : ByteArray), .string (⟨#[]⟩ : ByteArray), .string (⟨#[]⟩ : ByteArray), .string (⟨#[]⟩ : ByteArray), .string (⟨#[]⟩ : ByteArray), .string (⟨#[]⟩ : ByteArray), .string (⟨#[]⟩ : ByteArray), .string (⟨#[]⟩ : ByteArray), .string (⟨#[]⟩ : ByteArray), .string (⟨#[]⟩ : ByteArray), .string (⟨#[]⟩ : ByteArray), .string (⟨#[]⟩ : ByteArray), .string (⟨#[]⟩ : ByteArray)]) (t := 44) ?hr ?_; (case hd => rfl); (case hg => rfl); (case hr => first | (go_simp; done) | (go_simp; rfl)); intro gb207 hg w17 hbox hb; have n0_ := Aside0.mk (blk_below (g := gb182) (o := .cells #[.int .i64 a0_0, .int .i64 a0_1, .int .i64 a0_2, .int .i64 a0_3, .int .i64 a0_4] 25 (0, 0)) (by (with_reducible repeat (first | refine blk_drewN ?_ _ | refine blk_drew ?_ | refine blk_alloc ?_ _)); exact BK182.out) hb); have n1_ := Aside0.mk (below_step (by repeat (first | (with_reducible first | exact HB.out | apply below_alloc | apply pw_below_drewN | apply below_drew1 | refine below_set ?_ GE182.out) | exact HB.out)) hb); have n2_ := Aside0.mk (hbox); have n3_ := Aside0.mk ((by rw [hg]; exact (below_size (by repeat (first | (with_reducible first | exact HB.out | apply below_alloc | apply pw_below_drewN | apply below_drew1 | refine below_set ?_ GE182.out) | exact HB.out))) : w.heap.size ≤ gb207)); have n4_ := Aside0.mk ((by rw [hg]; exact (below_size (by repeat (first | (with_reducible first | exact HB.out | apply below_alloc | apply pw_below_drewN | apply below_drew1 | refine below_set ?_ GE182.out) | exact HB.out))) : w.heap.size ≤ gb207)); have n5_ := Aside0.mk ((by rw [hg]; exact Nat.ne_of_lt (blk_lt (g := gb182) (o := .cells #[.int .i64 a0_0, .int .i64 a0_1, .int .i64 a0_2, .int .i64 a0_3, .int .i64 a0_4] 25 (0, 0)) (by (with_reducible repeat (first | refine blk_drewN ?_ _ | refine blk_drew ?_ | refine blk_alloc ?_ _)); exact BK182.out)) : gb182 ≠ gb207)); have n6_ := Aside0.mk ((by rw [hg]; exact Nat.ne_of_gt (blk_lt (g := gb182) (o := .cells #[.int .i64 a0_0, .int .i64 a0_1, .int .i64 a0_2, .int .i64 a0_3, .int .i64 a0_4] 25 (0, 0)) (by (with_reducible repeat (first | refine blk_drewN ?_ _ | refine blk_drew ?_ | refine blk_alloc ?_ _)); exact BK182.out)) : gb207 ≠ gb182)); clear BK182; clear HB; have BK182 := n0_; have HB := n1_; have BK207 := n2_; have GW207 := n3_; have GE207 := n4_; have NB182_207 := n5_; have NB207_182 := n6_; clear n0_ n1_ n2_ n3_ n4_ n5_ n6_; clear hb hbox hg; have hnb18 := NB207_182.out; have hnc18 := NB182_207.out; have hcz19_0 : w17.cell? ⟨gb207, 0, none⟩ = some (.string (⟨#[]⟩ : ByteArray)) := (blk_cell BK207.out 0).trans rfl; have hcz19_1 : w17.cell? ⟨gb207, 1, none⟩ = some (.string (⟨#[]⟩ : ByteArray)) := (blk_cell BK207.out 1).trans rfl; have hcz19_2 : w17.cell? ⟨gb207, 2, none⟩ = some (.string (⟨#[]⟩ : ByteArray)) := (blk_cell BK207.out 2).trans rfl; have hcz19_3 : w17.cell? ⟨gb207, 3, none⟩ = some (.string (⟨#[]⟩ : ByteArray)) := (blk_cell BK207.out 3).trans rfl; have hcz19_4 : w17.cell? ⟨gb207, 4, none⟩ = some (.string (⟨#[]⟩ : ByteArray)) := (blk_cell BK207.out 4).trans rfl; have hcz19_5 : w17.cell? ⟨gb207, 5, none⟩ = some (.string (⟨#[]⟩ : ByteArray)) := (blk_cell BK207.out 5).trans rfl; have hcz19_6 : w17.cell? ⟨gb207, 6, none⟩ = some (.string (⟨#[]⟩ : ByteArray)) := (blk_cell BK207.out 6).trans rfl; have hcz19_7 : w17.cell? ⟨gb207, 7, none⟩ = some (.string (⟨#[]⟩ : ByteArray)) := (blk_cell BK207.out 7).trans rfl; have hcz19_8 : w17.cell? ⟨gb207, 8, none⟩ = some (.string (⟨#[]⟩ : ByteArray)) := (blk_cell BK207.out 8).trans rfl; have hcz19_9 : w17.cell? ⟨gb207, 9, none⟩ = some (.string (⟨#[]⟩ : ByteArray)) := (blk_cell BK207.out 9).trans rfl; have hcz19_10 : w17.cell? ⟨gb207, 10, none⟩ = some (.string (⟨#[]⟩ : ByteArray)) := (blk_cell BK207.out 10).trans rfl; have hcz19_11 : w17.cell? ⟨gb207, 11, none⟩ = some (.string (⟨#[]⟩ : ByteArray)) := (blk_cell BK207.out 11).trans rfl; have hcz19_12 : w17.cell? ⟨gb207, 12, none⟩ = some (.string (⟨#[]⟩ : ByteArray)) := (blk_cell BK207.out 12).trans rfl; have hcz19_13 : w17.cell? ⟨gb207, 13, none⟩ = some (.string (⟨#[]⟩ : ByteArray)) := (blk_cell BK207.out 13).trans rfl; have hcz19_14 : w17.cell? ⟨gb207, 14, none⟩ = some (.string (⟨#[]⟩ : ByteArray)) := (blk_cell BK207.out 14).trans rfl; have hcz19_15 : w17.cell? ⟨gb207, 15, none⟩ = some (.string (⟨#[]⟩ : ByteArray)) := (blk_cell BK207.out 15).trans rfl; have hcz19_16 : w17.cell? ⟨gb207, 16, none⟩ = some (.string (⟨#[]⟩ : ByteArray)) := (blk_cell BK207.out 16).trans rfl; have hcz19_17 : w17.cell? ⟨gb207, 17, none⟩ = some (.string (⟨#[]⟩ : ByteArray)) := (blk_cell BK207.out 17).trans rfl; have hcz19_18 : w17.cell? ⟨gb207, 18, none⟩ = some (.string (⟨#[]⟩ : ByteArray)) := (blk_cell BK207.out 18).trans rfl; have hcz19_19 : w17.cell? ⟨gb207, 19, none⟩ = some (.string (⟨#[]⟩ : ByteArray)) := (blk_cell BK207.out 19).trans rfl; have hcz19_20 : w17.cell? ⟨gb207, 20, none⟩ = some (.string (⟨#[]⟩ : ByteArray)) := (blk_cell BK207.out 20).trans rfl; have hcz19_21 : w17.cell? ⟨gb207, 21, none⟩ = some (.string (⟨#[]⟩ : ByteArray)) := (blk_cell BK207.out 21).trans rfl; have hfz19_0 := blk_frozen BK207.out 0; have hfz19_1 := blk_frozen BK207.out 1; have hfz19_2 := blk_frozen BK207.out 2; have hfz19_3 := blk_frozen BK207.out 3; have hfz19_4 := blk_frozen BK207.out 4; have hfz19_5 := blk_frozen BK207.out 5; have hfz19_6 := blk_frozen BK207.out 6; have hfz19_7 := blk_frozen BK207.out 7; have hfz19_8 := blk_frozen BK207.out 8; have hfz19_9 := blk_frozen BK207.out 9; have hfz19_10 := blk_frozen BK207.out 10; have hfz19_11 := blk_frozen BK207.out 11; have hfz19_12 := blk_frozen BK207.out 12; have hfz19_13 := blk_frozen BK207.out 13; have hfz19_14 := blk_frozen BK207.out 14; have hfz19_15 := blk_frozen BK207.out 15; have hfz19_16 := blk_frozen BK207.out 16; have hfz19_17 := blk_frozen BK207.out 17; have hfz19_18 := blk_frozen BK207.out 18; have hfz19_19 := blk_frozen BK207.out 19; have hfz19_20 := blk_frozen BK207.out 20; have hfz19_21 := blk_frozen BK207.out 21))
            have n0_ : Aside0 (((((((((((((((((((((((w17.setCell ⟨gb207, 0, none⟩ (.string t185)).setCell ⟨gb207, 1, none⟩ (.string t186)).setCell ⟨gb207, 2, none⟩ (.string t187)).setCell ⟨gb207, 3, none⟩ (.string t188)).setCell ⟨gb207, 4, none⟩ (.string t189)).setCell ⟨gb207, 5, none⟩ (.string t190)).setCell ⟨gb207, 6, none⟩ (.string t191)).setCell ⟨gb207, 7, none⟩ (.string t192)).setCell ⟨gb207, 8, none⟩ (.string t193)).setCell ⟨gb207, 9, none⟩ (.string t194)).setCell ⟨gb207, 10, none⟩ (.string t195)).setCell ⟨gb207, 11, none⟩ (.string t196)).setCell ⟨gb207, 12, none⟩ (.string t197)).setCell ⟨gb207, 13, none⟩ (.string t198)).setCell ⟨gb207, 14, none⟩ (.string t199)).setCell ⟨gb207, 15, none⟩ (.string t200)).setCell ⟨gb207, 16, none⟩ (.string t201)).setCell ⟨gb207, 17, none⟩ (.string t202)).setCell ⟨gb207, 18, none⟩ (.string t203)).setCell ⟨gb207, 19, none⟩ (.string t204)).setCell ⟨gb207, 20, none⟩ (.string t205)).setCell ⟨gb207, 21, none⟩ (.string t206)).heap[gb182]? = some (.cells #[.int .i64 a0_0, .int .i64 a0_1, .int .i64 a0_2, .int .i64 a0_3, .int .i64 a0_4] 25 (0, 0))) := ⟨by (with_reducible repeat (first | refine blk_drewN ?_ _ | refine blk_drew ?_ | refine blk_alloc ?_ _)); refine blk_far ?_ NB182_207.out _; (with_reducible repeat (first | refine blk_drewN ?_ _ | refine blk_drew ?_ | refine blk_alloc ?_ _)); refine blk_far ?_ NB182_207.out _; (with_reducible repeat (first | refine blk_drewN ?_ _ | refine blk_drew ?_ | refine blk_alloc ?_ _)); refine blk_far ?_ NB182_207.out _; (with_reducible repeat (first | refine blk_drewN ?_ _ | refine blk_drew ?_ | refine blk_alloc ?_ _)); refine blk_far ?_ NB182_207.out _; (with_reducible repeat (first | refine blk_drewN ?_ _ | refine blk_drew ?_ | refine blk_alloc ?_ _)); refine blk_far ?_ NB182_207.out _; (with_reducible repeat (first | refine blk_drewN ?_ _ | refine blk_drew ?_ | refine blk_alloc ?_ _)); refine blk_far ?_ NB182_207.out _; (with_reducible repeat (first | refine blk_drewN ?_ _ | refine blk_drew ?_ | refine blk_alloc ?_ _)); refine blk_far ?_ NB182_207.out _; (with_reducible repeat (first | refine blk_drewN ?_ _ | refine blk_drew ?_ | refine blk_alloc ?_ _)); refine blk_far ?_ NB182_207.out _; (with_reducible repeat (first | refine blk_drewN ?_ _ | refine blk_drew ?_ | refine blk_alloc ?_ _)); refine blk_far ?_ NB182_207.out _; (with_reducible repeat (first | refine blk_drewN ?_ _ | refine blk_drew ?_ | refine blk_alloc ?_ _)); refine blk_far ?_ NB182_207.out _; (with_reducible repeat (first | refine blk_drewN ?_ _ | refine blk_drew ?_ | refine blk_alloc ?_ _)); refine blk_far ?_ NB182_207.out _; (with_reducible repeat (first | refine blk_drewN ?_ _ | refine blk_drew ?_ | refine blk_alloc ?_ _)); refine blk_far ?_ NB182_207.out _; (with_reducible repeat (first | refine blk_drewN ?_ _ | refine blk_drew ?_ | refine blk_alloc ?_ _)); refine blk_far ?_ NB182_207.out _; (with_reducible repeat (first | refine blk_drewN ?_ _ | refine blk_drew ?_ | refine blk_alloc ?_ _)); refine blk_far ?_ NB182_207.out _; (with_reducible repeat (first | refine blk_drewN ?_ _ | refine blk_drew ?_ | refine blk_alloc ?_ _)); refine blk_far ?_ NB182_207.out _; (with_reducible repeat (first | refine blk_drewN ?_ _ | refine blk_drew ?_ | refine blk_alloc ?_ _)); refine blk_far ?_ NB182_207.out _; (with_reducible repeat (first | refine blk_drewN ?_ _ | refine blk_drew ?_ | refine blk_alloc ?_ _)); refine blk_far ?_ NB182_207.out _; (with_reducible repeat (first | refine blk_drewN ?_ _ | refine blk_drew ?_ | refine blk_alloc ?_ _)); refine blk_far ?_ NB182_207.out _; (with_reducible repeat (first | refine blk_drewN ?_ _ | refine blk_drew ?_ | refine blk_alloc ?_ _)); refine blk_far ?_ NB182_207.out _; (with_reducible repeat (first | refine blk_drewN ?_ _ | refine blk_drew ?_ | refine blk_alloc ?_ _)); refine blk_far ?_ NB182_207.out _; (with_reducible repeat (first | refine blk_drewN ?_ _ | refine blk_drew ?_ | refine blk_alloc ?_ _)); refine blk_far ?_ NB182_207.out _; (with_reducible repeat (first | refine blk_drewN ?_ _ | refine blk_drew ?_ | refine blk_alloc ?_ _)); refine blk_far ?_ NB182_207.out _; (with_reducible repeat (first | refine blk_drewN ?_ _ | refine blk_drew ?_ | refine blk_alloc ?_ _)); exact BK182.out⟩
            have n1_ : Aside0 (((((((((((((((((((((((w17.setCell ⟨gb207, 0, none⟩ (.string t185)).setCell ⟨gb207, 1, none⟩ (.string t186)).setCell ⟨gb207, 2, none⟩ (.string t187)).setCell ⟨gb207, 3, none⟩ (.string t188)).setCell ⟨gb207, 4, none⟩ (.string t189)).setCell ⟨gb207, 5, none⟩ (.string t190)).setCell ⟨gb207, 6, none⟩ (.string t191)).setCell ⟨gb207, 7, none⟩ (.string t192)).setCell ⟨gb207, 8, none⟩ (.string t193)).setCell ⟨gb207, 9, none⟩ (.string t194)).setCell ⟨gb207, 10, none⟩ (.string t195)).setCell ⟨gb207, 11, none⟩ (.string t196)).setCell ⟨gb207, 12, none⟩ (.string t197)).setCell ⟨gb207, 13, none⟩ (.string t198)).setCell ⟨gb207, 14, none⟩ (.string t199)).setCell ⟨gb207, 15, none⟩ (.string t200)).setCell ⟨gb207, 16, none⟩ (.string t201)).setCell ⟨gb207, 17, none⟩ (.string t202)).setCell ⟨gb207, 18, none⟩ (.string t203)).setCell ⟨gb207, 19, none⟩ (.string t204)).setCell ⟨gb207, 20, none⟩ (.string t205)).setCell ⟨gb207, 21, none⟩ (.string t206)).heap[gb207]? = some (.cells #[.string t185, .string t186, .string t187, .string t188, .string t189, .string t190, .string t191, .string t192, .string t193, .string t194, .string t195, .string t196, .string t197, .string t198, .string t199, .string t200, .string t201, .string t202, .string t203, .string t204, .string t205, .string t206] 44 (0, 0))) := ⟨by (with_reducible repeat (first | refine blk_drewN ?_ _ | refine blk_drew ?_ | refine blk_alloc ?_ _)); refine blk_put (cs := #[.string t185, .string t186, .string t187, .string t188, .string t189, .string t190, .string t191, .string t192, .string t193, .string t194, .string t195, .string t196, .string t197, .string t198, .string t199, .string t200, .string t201, .string t202, .string t203, .string t204, .string t205, .string (⟨#[]⟩ : ByteArray)]) ?_ 21 _ rfl; (with_reducible repeat (first | refine blk_drewN ?_ _ | refine blk_drew ?_ | refine blk_alloc ?_ _)); refine blk_put (cs := #[.string t185, .string t186, .string t187, .string t188, .string t189, .string t190, .string t191, .string t192, .string t193, .string t194, .string t195, .string t196, .string t197, .string t198, .string t199, .string t200, .string t201, .string t202, .string t203, .string t204, .string (⟨#[]⟩ : ByteArray), .string (⟨#[]⟩ : ByteArray)]) ?_ 20 _ rfl; (with_reducible repeat (first | refine blk_drewN ?_ _ | refine blk_drew ?_ | refine blk_alloc ?_ _)); refine blk_put (cs := #[.string t185, .string t186, .string t187, .string t188, .string t189, .string t190, .string t191, .string t192, .string t193, .string t194, .string t195, .string t196, .string t197, .string t198, .string t199, .string t200, .string t201, .string t202, .string t203, .string (⟨#[]⟩ : ByteArray), .string (⟨#[]⟩ : ByteArray), .string (⟨#[]⟩ : ByteArray)]) ?_ 19 _ rfl; (with_reducible repeat (first | refine blk_drewN ?_ _ | refine blk_drew ?_ | refine blk_alloc ?_ _)); refine blk_put (cs := #[.string t185, .string t186, .string t187, .string t188, .string t189, .string t190, .string t191, .string t192, .string t193, .string t194, .string t195, .string t196, .string t197, .string t198, .string t199, .string t200, .string t201, .string t202, .string (⟨#[]⟩ : ByteArray), .string (⟨#[]⟩ : ByteArray), .string (⟨#[]⟩ : ByteArray), .string (⟨#[]⟩ : ByteArray)]) ?_ 18 _ rfl; (with_reducible repeat (first | refine blk_drewN ?_ _ | refine blk_drew ?_ | refine blk_alloc ?_ _)); refine blk_put (cs := #[.string t185, .string t186, .string t187, .string t188, .string t189, .string t190, .string t191, .string t192, .string t193, .string t194, .string t195, .string t196, .string t197, .string t198, .string t199, .string t200, .string t201, .string (⟨#[]⟩ : ByteArray), .string (⟨#[]⟩ : ByteArray), .string (⟨#[]⟩ : ByteArray), .string (⟨#[]⟩ : ByteArray), .string (⟨#[]⟩ : ByteArray)]) ?_ 17 _ rfl; (with_reducible repeat (first | refine blk_drewN ?_ _ | refine blk_drew ?_ | refine blk_alloc ?_ _)); refine blk_put (cs := #[.string t185, .string t186, .string t187, .string t188, .string t189, .string t190, .string t191, .string t192, .string t193, .string t194, .string t195, .string t196, .string t197, .string t198, .string t199, .string t200, .string (⟨#[]⟩ : ByteArray), .string (⟨#[]⟩ : ByteArray), .string (⟨#[]⟩ : ByteArray), .string (⟨#[]⟩ : ByteArray), .string (⟨#[]⟩ : ByteArray), .string (⟨#[]⟩ : ByteArray)]) ?_ 16 _ rfl; (with_reducible repeat (first | refine blk_drewN ?_ _ | refine blk_drew ?_ | refine blk_alloc ?_ _)); refine blk_put (cs := #[.string t185, .string t186, .string t187, .string t188, .string t189, .string t190, .string t191, .string t192, .string t193, .string t194, .string t195, .string t196, .string t197, .string t198, .string t199, .string (⟨#[]⟩ : ByteArray), .string (⟨#[]⟩ : ByteArray), .string (⟨#[]⟩ : ByteArray), .string (⟨#[]⟩ : ByteArray), .string (⟨#[]⟩ : ByteArray), .string (⟨#[]⟩ : ByteArray), .string (⟨#[]⟩ : ByteArray)]) ?_ 15 _ rfl; (with_reducible repeat (first | refine blk_drewN ?_ _ | refine blk_drew ?_ | refine blk_alloc ?_ _)); refine blk_put (cs := #[.string t185, .string t186, .string t187, .string t188, .string t189, .string t190, .string t191, .string t192, .string t193, .string t194, .string t195, .string t196, .string t197, .string t198, .string (⟨#[]⟩ : ByteArray), .string (⟨#[]⟩ : ByteArray), .string (⟨#[]⟩ : ByteArray), .string (⟨#[]⟩ : ByteArray), .string (⟨#[]⟩ : ByteArray), .string (⟨#[]⟩ : ByteArray), .string (⟨#[]⟩ : ByteArray), .string (⟨#[]⟩ : ByteArray)]) ?_ 14 _ rfl; (with_reducible repeat (first | refine blk_drewN ?_ _ | refine blk_drew ?_ | refine blk_alloc ?_ _)); refine blk_put (cs := #[.string t185, .string t186, .string t187, .string t188, .string t189, .string t190, .string t191, .string t192, .string t193, .string t194, .string t195, .string t196, .string t197, .string (⟨#[]⟩ : ByteArray), .string (⟨#[]⟩ : ByteArray), .string (⟨#[]⟩ : ByteArray), .string (⟨#[]⟩ : ByteArray), .string (⟨#[]⟩ : ByteArray), .string (⟨#[]⟩ : ByteArray), .string (⟨#[]⟩ : ByteArray), .string (⟨#[]⟩ : ByteArray), .string (⟨#[]⟩ : ByteArray)]) ?_ 13 _ rfl; (with_reducible repeat (first | refine blk_drewN ?_ _ | refine blk_drew ?_ | refine blk_alloc ?_ _)); refine blk_put (cs := #[.string t185, .string t186, .string t187, .string t188, .string t189, .string t190, .string t191, .string t192, .string t193, .string t194, .string t195, .string t196, .string (⟨#[]⟩ : ByteArray), .string (⟨#[]⟩ : ByteArray), .string (⟨#[]⟩ : ByteArray), .string (⟨#[]⟩ : ByteArray), .string (⟨#[]⟩ : ByteArray), .string (⟨#[]⟩ : ByteArray), .string (⟨#[]⟩ : ByteArray), .string (⟨#[]⟩ : ByteArray), .string (⟨#[]⟩ : ByteArray), .string (⟨#[]⟩ : ByteArray)]) ?_ 12 _ rfl; (with_reducible repeat (first | refine blk_drewN ?_ _ | refine blk_drew ?_ | refine blk_alloc ?_ _)); refine blk_put (cs := #[.string t185, .string t186, .string t187, .string t188, .string t189, .string t190, .string t191, .string t192, .string t193, .string t194, .string t195, .string (⟨#[]⟩ : ByteArray), .string (⟨#[]⟩ : ByteArray), .string (⟨#[]⟩ : ByteArray), .string (⟨#[]⟩ : ByteArray), .string (⟨#[]⟩ : ByteArray), .string (⟨#[]⟩ : ByteArray), .string (⟨#[]⟩ : ByteArray), .string (⟨#[]⟩ : ByteArray), .string (⟨#[]⟩ : ByteArray), .string (⟨#[]⟩ : ByteArray), .string (⟨#[]⟩ : ByteArray)]) ?_ 11 _ rfl; (with_reducible repeat (first | refine blk_drewN ?_ _ | refine blk_drew ?_ | refine blk_alloc ?_ _)); refine blk_put (cs := #[.string t185, .string t186, .string t187, .string t188, .string t189, .string t190, .string t191, .string t192, .string t193, .string t194, .string (⟨#[]⟩ : ByteArray), .string (⟨#[]⟩ : ByteArray), .string (⟨#[]⟩ : ByteArray), .string (⟨#[]⟩ : ByteArray), .string (⟨#[]⟩ : ByteArray), .string (⟨#[]⟩ : ByteArray), .string (⟨#[]⟩ : ByteArray), .string (⟨#[]⟩ : ByteArray), .string (⟨#[]⟩ : ByteArray), .string (⟨#[]⟩ : ByteArray), .string (⟨#[]⟩ : ByteArray), .string (⟨#[]⟩ : ByteArray)]) ?_ 10 _ rfl; (with_reducible repeat (first | refine blk_drewN ?_ _ | refine blk_drew ?_ | refine blk_alloc ?_ _)); refine blk_put (cs := #[.string t185, .string t186, .string t187, .string t188, .string t189, .string t190, .string t191, .string t192, .string t193, .string (⟨#[]⟩ : ByteArray), .string (⟨#[]⟩ : ByteArray), .string (⟨#[]⟩ : ByteArray), .string (⟨#[]⟩ : ByteArray), .string (⟨#[]⟩ : ByteArray), .string (⟨#[]⟩ : ByteArray), .string (⟨#[]⟩ : ByteArray), .string (⟨#[]⟩ : ByteArray), .string (⟨#[]⟩ : ByteArray), .string (⟨#[]⟩ : ByteArray), .string (⟨#[]⟩ : ByteArray), .string (⟨#[]⟩ : ByteArray), .string (⟨#[]⟩ : ByteArray)]) ?_ 9 _ rfl; (with_reducible repeat (first | refine blk_drewN ?_ _ | refine blk_drew ?_ | refine blk_alloc ?_ _)); refine blk_put (cs := #[.string t185, .string t186, .string t187, .string t188, .string t189, .string t190, .string t191, .string t192, .string (⟨#[]⟩ : ByteArray), .string (⟨#[]⟩ : ByteArray), .string (⟨#[]⟩ : ByteArray), .string (⟨#[]⟩ : ByteArray), .string (⟨#[]⟩ : ByteArray), .string (⟨#[]⟩ : ByteArray), .string (⟨#[]⟩ : ByteArray), .string (⟨#[]⟩ : ByteArray), .string (⟨#[]⟩ : ByteArray), .string (⟨#[]⟩ : ByteArray), .string (⟨#[]⟩ : ByteArray), .string (⟨#[]⟩ : ByteArray), .string (⟨#[]⟩ : ByteArray), .string (⟨#[]⟩ : ByteArray)]) ?_ 8 _ rfl; (with_reducible repeat (first | refine blk_drewN ?_ _ | refine blk_drew ?_ | refine blk_alloc ?_ _)); refine blk_put (cs := #[.string t185, .string t186, .string t187, .string t188, .string t189, .string t190, .string t191, .string (⟨#[]⟩ : ByteArray), .string (⟨#[]⟩ : ByteArray), .string (⟨#[]⟩ : ByteArray), .string (⟨#[]⟩ : ByteArray), .string (⟨#[]⟩ : ByteArray), .string (⟨#[]⟩ : ByteArray), .string (⟨#[]⟩ : ByteArray), .string (⟨#[]⟩ : ByteArray), .string (⟨#[]⟩ : ByteArray), .string (⟨#[]⟩ : ByteArray), .string (⟨#[]⟩ : ByteArray), .string (⟨#[]⟩ : ByteArray), .string (⟨#[]⟩ : ByteArray), .string (⟨#[]⟩ : ByteArray), .string (⟨#[]⟩ : ByteArray)]) ?_ 7 _ rfl; (with_reducible repeat (first | refine blk_drewN ?_ _ | refine blk_drew ?_ | refine blk_alloc ?_ _)); refine blk_put (cs := #[.string t185, .string t186, .string t187, .string t188, .string t189, .string t190, .string (⟨#[]⟩ : ByteArray), .string (⟨#[]⟩ : ByteArray), .string (⟨#[]⟩ : ByteArray), .string (⟨#[]⟩ : ByteArray), .string (⟨#[]⟩ : ByteArray), .string (⟨#[]⟩ : ByteArray), .string (⟨#[]⟩ : ByteArray), .string (⟨#[]⟩ : ByteArray), .string (⟨#[]⟩ : ByteArray), .string (⟨#[]⟩ : ByteArray), .string (⟨#[]⟩ : ByteArray), .string (⟨#[]⟩ : ByteArray), .string (⟨#[]⟩ : ByteArray), .string (⟨#[]⟩ : ByteArray), .string (⟨#[]⟩ : ByteArray), .string (⟨#[]⟩ : ByteArray)]) ?_ 6 _ rfl; (with_reducible repeat (first | refine blk_drewN ?_ _ | refine blk_drew ?_ | refine blk_alloc ?_ _)); refine blk_put (cs := #[.string t185, .string t186, .string t187, .string t188, .string t189, .string (⟨#[]⟩ : ByteArray), .string (⟨#[]⟩ : ByteArray), .string (⟨#[]⟩ : ByteArray), .string (⟨#[]⟩ : ByteArray), .string (⟨#[]⟩ : ByteArray), .string (⟨#[]⟩ : ByteArray), .string (⟨#[]⟩ : ByteArray), .string (⟨#[]⟩ : ByteArray), .string (⟨#[]⟩ : ByteArray), .string (⟨#[]⟩ : ByteArray), .string (⟨#[]⟩ : ByteArray), .string (⟨#[]⟩ : ByteArray), .string (⟨#[]⟩ : ByteArray), .string (⟨#[]⟩ : ByteArray), .string (⟨#[]⟩ : ByteArray), .string (⟨#[]⟩ : ByteArray), .string (⟨#[]⟩ : ByteArray)]) ?_ 5 _ rfl; (with_reducible repeat (first | refine blk_drewN ?_ _ | refine blk_drew ?_ | refine blk_alloc ?_ _)); refine blk_put (cs := #[.string t185, .string t186, .string t187, .string t188, .string (⟨#[]⟩ : ByteArray), .string (⟨#[]⟩ : ByteArray), .string (⟨#[]⟩ : ByteArray), .string (⟨#[]⟩ : ByteArray), .string (⟨#[]⟩ : ByteArray), .string (⟨#[]⟩ : ByteArray), .string (⟨#[]⟩ : ByteArray), .string (⟨#[]⟩ : ByteArray), .string (⟨#[]⟩ : ByteArray), .string (⟨#[]⟩ : ByteArray), .string (⟨#[]⟩ : ByteArray), .string (⟨#[]⟩ : ByteArray), .string (⟨#[]⟩ : ByteArray), .string (⟨#[]⟩ : ByteArray), .string (⟨#[]⟩ : ByteArray), .string (⟨#[]⟩ : ByteArray), .string (⟨#[]⟩ : ByteArray), .string (⟨#[]⟩ : ByteArray)]) ?_ 4 _ rfl; (with_reducible repeat (first | refine blk_drewN ?_ _ | refine blk_drew ?_ | refine blk_alloc ?_ _)); refine blk_put (cs := #[.string t185, .string t186, .string t187, .string (⟨#[]⟩ : ByteArray), .string (⟨#[]⟩ : ByteArray), .string (⟨#[]⟩ : ByteArray), .string (⟨#[]⟩ : ByteArray), .string (⟨#[]⟩ : ByteArray), .string (⟨#[]⟩ : ByteArray), .string (⟨#[]⟩ : ByteArray), .string (⟨#[]⟩ : ByteArray), .string (⟨#[]⟩ : ByteArray), .string (⟨#[]⟩ : ByteArray), .string (⟨#[]⟩ : ByteArray), .string (⟨#[]⟩ : ByteArray), .string (⟨#[]⟩ : ByteArray), .string (⟨#[]⟩ : ByteArray), .string (⟨#[]⟩ : ByteArray), .string (⟨#[]⟩ : ByteArray), .string (⟨#[]⟩ : ByteArray), .string (⟨#[]⟩ : ByteArray), .string (⟨#[]⟩ : ByteArray)]) ?_ 3 _ rfl; (with_reducible repeat (first | refine blk_drewN ?_ _ | refine blk_drew ?_ | refine blk_alloc ?_ _)); refine blk_put (cs := #[.string t185, .string t186, .string (⟨#[]⟩ : ByteArray), .string (⟨#[]⟩ : ByteArray), .string (⟨#[]⟩ : ByteArray), .string (⟨#[]⟩ : ByteArray), .string (⟨#[]⟩ : ByteArray), .string (⟨#[]⟩ : ByteArray), .string (⟨#[]⟩ : ByteArray), .string (⟨#[]⟩ : ByteArray), .string (⟨#[]⟩ : ByteArray), .string (⟨#[]⟩ : ByteArray), .string (⟨#[]⟩ : ByteArray), .string (⟨#[]⟩ : ByteArray), .string (⟨#[]⟩ : ByteArray), .string (⟨#[]⟩ : ByteArray), .string (⟨#[]⟩ : ByteArray), .string (⟨#[]⟩ : ByteArray), .string (⟨#[]⟩ : ByteArray), .string (⟨#[]⟩ : ByteArray), .string (⟨#[]⟩ : ByteArray), .string (⟨#[]⟩ : ByteArray)]) ?_ 2 _ rfl; (with_reducible repeat (first | refine blk_drewN ?_ _ | refine blk_drew ?_ | refine blk_alloc ?_ _)); refine blk_put (cs := #[.string t185, .string (⟨#[]⟩ : ByteArray), .string (⟨#[]⟩ : ByteArray), .string (⟨#[]⟩ : ByteArray), .string (⟨#[]⟩ : ByteArray), .string (⟨#[]⟩ : ByteArray), .string (⟨#[]⟩ : ByteArray), .string (⟨#[]⟩ : ByteArray), .string (⟨#[]⟩ : ByteArray), .string (⟨#[]⟩ : ByteArray), .string (⟨#[]⟩ : ByteArray), .string (⟨#[]⟩ : ByteArray), .string (⟨#[]⟩ : ByteArray), .string (⟨#[]⟩ : ByteArray), .string (⟨#[]⟩ : ByteArray), .string (⟨#[]⟩ : ByteArray), .string (⟨#[]⟩ : ByteArray), .string (⟨#[]⟩ : ByteArray), .string (⟨#[]⟩ : ByteArray), .string (⟨#[]⟩ : ByteArray), .string (⟨#[]⟩ : ByteArray), .string (⟨#[]⟩ : ByteArray)]) ?_ 1 _ rfl; (with_reducible repeat (first | refine blk_drewN ?_ _ | refine blk_drew ?_ | refine blk_alloc ?_ _)); refine blk_put (cs := #[.string (⟨#[]⟩ : ByteArray), .string (⟨#[]⟩ : ByteArray), .string (⟨#[]⟩ : ByteArray), .string (⟨#[]⟩ : ByteArray), .string (⟨#[]⟩ : ByteArray), .string (⟨#[]⟩ : ByteArray), .string (⟨#[]⟩ : ByteArray), .string (⟨#[]⟩ : ByteArray), .string (⟨#[]⟩ : ByteArray), .string (⟨#[]⟩ : ByteArray), .string (⟨#[]⟩ : ByteArray), .string (⟨#[]⟩ : ByteArray), .string (⟨#[]⟩ : ByteArray), .string (⟨#[]⟩ : ByteArray), .string (⟨#[]⟩ : ByteArray), .string (⟨#[]⟩ : ByteArray), .string (⟨#[]⟩ : ByteArray), .string (⟨#[]⟩ : ByteArray), .string (⟨#[]⟩ : ByteArray), .string (⟨#[]⟩ : ByteArray), .string (⟨#[]⟩ : ByteArray), .string (⟨#[]⟩ : ByteArray)]) ?_ 0 _ rfl; (with_reducible repeat (first | refine blk_drewN ?_ _ | refine blk_drew ?_ | refine blk_alloc ?_ _)); exact BK207.out⟩
            have n2_ : Aside0 (Below w.heap.size w ((((((((((((((((((((((w17.setCell ⟨gb207, 0, none⟩ (.string t185)).setCell ⟨gb207, 1, none⟩ (.string t186)).setCell ⟨gb207, 2, none⟩ (.string t187)).setCell ⟨gb207, 3, none⟩ (.string t188)).setCell ⟨gb207, 4, none⟩ (.string t189)).setCell ⟨gb207, 5, none⟩ (.string t190)).setCell ⟨gb207, 6, none⟩ (.string t191)).setCell ⟨gb207, 7, none⟩ (.string t192)).setCell ⟨gb207, 8, none⟩ (.string t193)).setCell ⟨gb207, 9, none⟩ (.string t194)).setCell ⟨gb207, 10, none⟩ (.string t195)).setCell ⟨gb207, 11, none⟩ (.string t196)).setCell ⟨gb207, 12, none⟩ (.string t197)).setCell ⟨gb207, 13, none⟩ (.string t198)).setCell ⟨gb207, 14, none⟩ (.string t199)).setCell ⟨gb207, 15, none⟩ (.string t200)).setCell ⟨gb207, 16, none⟩ (.string t201)).setCell ⟨gb207, 17, none⟩ (.string t202)).setCell ⟨gb207, 18, none⟩ (.string t203)).setCell ⟨gb207, 19, none⟩ (.string t204)).setCell ⟨gb207, 20, none⟩ (.string t205)).setCell ⟨gb207, 21, none⟩ (.string t206))) := ⟨by repeat (first | (with_reducible first | exact HB.out | apply below_alloc | apply pw_below_drewN | apply below_drew1 | refine below_set ?_ GE182.out | refine below_set ?_ GE207.out) | exact HB.out)⟩
            (try clear BK182)
            (try clear BK207)
            (try clear HB)
            generalize ((((((((((((((((((((((w17.setCell ⟨gb207, 0, none⟩ (.string t185)).setCell ⟨gb207, 1, none⟩ (.string t186)).setCell ⟨gb207, 2, none⟩ (.string t187)).setCell ⟨gb207, 3, none⟩ (.string t188)).setCell ⟨gb207, 4, none⟩ (.string t189)).setCell ⟨gb207, 5, none⟩ (.string t190)).setCell ⟨gb207, 6, none⟩ (.string t191)).setCell ⟨gb207, 7, none⟩ (.string t192)).setCell ⟨gb207, 8, none⟩ (.string t193)).setCell ⟨gb207, 9, none⟩ (.string t194)).setCell ⟨gb207, 10, none⟩ (.string t195)).setCell ⟨gb207, 11, none⟩ (.string t196)).setCell ⟨gb207, 12, none⟩ (.string t197)).setCell ⟨gb207, 13, none⟩ (.string t198)).setCell ⟨gb207, 14, none⟩ (.string t199)).setCell ⟨gb207, 15, none⟩ (.string t200)).setCell ⟨gb207, 16, none⟩ (.string t201)).setCell ⟨gb207, 17, none⟩ (.string t202)).setCell ⟨gb207, 18, none⟩ (.string t203)).setCell ⟨gb207, 19, none⟩ (.string t204)).setCell ⟨gb207, 20, none⟩ (.string t205)).setCell ⟨gb207, 21, none⟩ (.string t206)) = w20 at n0_ n1_ n2_ ⊢
            have BK182 := n0_
            have BK207 := n1_
            have HB := n2_
            clear n0_ n1_ n2_
            have n0_ := Aside0.mk (blk_drew BK182.out)
            have n1_ := Aside0.mk (blk_drew BK207.out)
            have n2_ := Aside0.mk (below_drew1 HB.out)
            clear BK182
            clear BK207
            clear HB
            have BK182 := n0_
            have BK207 := n1_
            have HB := n2_
            clear n0_ n1_ n2_
            refine start_ (n := 17) (S := fun w' => w'.cell? ⟨gb207, 0, none⟩ = some (.string t185) ∧ w'.cell? ⟨gb207, 1, none⟩ = some (.string t186) ∧ w'.cell? ⟨gb207, 2, none⟩ = some (.string t187) ∧ w'.cell? ⟨gb207, 3, none⟩ = some (.string t188) ∧ w'.cell? ⟨gb207, 4, none⟩ = some (.string t189) ∧ w'.cell? ⟨gb207, 5, none⟩ = some (.string t190) ∧ w'.cell? ⟨gb207, 6, none⟩ = some (.string t191) ∧ w'.cell? ⟨gb207, 7, none⟩ = some (.string t192) ∧ w'.cell? ⟨gb207, 8, none⟩ = some (.string t193) ∧ w'.cell? ⟨gb207, 9, none⟩ = some (.string t194) ∧ w'.cell? ⟨gb207, 10, none⟩ = some (.string t195) ∧ w'.cell? ⟨gb207, 11, none⟩ = some (.string t196) ∧ w'.cell? ⟨gb207, 12, none⟩ = some (.string t197) ∧ w'.cell? ⟨gb207, 13, none⟩ = some (.string t198) ∧ w'.cell? ⟨gb207, 14, none⟩ = some (.string t199) ∧ w'.cell? ⟨gb207, 15, none⟩ = some (.string t200) ∧ w'.cell? ⟨gb207, 16, none⟩ = some (.string t201) ∧ w'.cell? ⟨gb207, 17, none⟩ = some (.string t202) ∧ w'.cell? ⟨gb207, 18, none⟩ = some (.string t203) ∧ w'.cell? ⟨gb207, 19, none⟩ = some (.string t204) ∧ w'.cell? ⟨gb207, 20, none⟩ = some (.string t205) ∧ w'.cell? ⟨gb207, 21, none⟩ = some (.string t206) ∧ w'.cell? ⟨gb182, 0, none⟩ = some (.int .i64 a0_0) ∧ w'.cell? ⟨gb182, 1, none⟩ = some (.int .i64 a0_1) ∧ w'.cell? ⟨gb182, 2, none⟩ = some (.int .i64 a0_2) ∧ w'.cell? ⟨gb182, 3, none⟩ = some (.int .i64 a0_3) ∧ w'.cell? ⟨gb182, 4, none⟩ = some (.int .i64 a0_4)) (ds := []) #[false, false, false, false, false, false, false, false, false, false, false, false, false, false, false, false, false] (by kernel_rfl) rfl rfl ⟨(blk_cell BK207.out 0).trans rfl, (blk_cell BK207.out 1).trans rfl, (blk_cell BK207.out 2).trans rfl, (blk_cell BK207.out 3).trans rfl, (blk_cell BK207.out 4).trans rfl, (blk_cell BK207.out 5).trans rfl, (blk_cell BK207.out 6).trans rfl, (blk_cell BK207.out 7).trans rfl, (blk_cell BK207.out 8).trans rfl, (blk_cell BK207.out 9).trans rfl, (blk_cell BK207.out 10).trans rfl, (blk_cell BK207.out 11).trans rfl, (blk_cell BK207.out 12).trans rfl, (blk_cell BK207.out 13).trans rfl, (blk_cell BK207.out 14).trans rfl, (blk_cell BK207.out 15).trans rfl, (blk_cell BK207.out 16).trans rfl, (blk_cell BK207.out 17).trans rfl, (blk_cell BK207.out 18).trans rfl, (blk_cell BK207.out 19).trans rfl, (blk_cell BK207.out 20).trans rfl, (blk_cell BK207.out 21).trans rfl, (blk_cell BK182.out 0).trans rfl, (blk_cell BK182.out 1).trans rfl, (blk_cell BK182.out 2).trans rfl, (blk_cell BK182.out 3).trans rfl, (blk_cell BK182.out 4).trans rfl⟩ (fun hHeld => ?_); refine with_tabW impl_Phrase.tab4 impl_Phrase.bits4 (fun HT_ HW_ => ?_)
            generalize w20.drew = w21 at BK182 BK207 HB hHeld ⊢
            refine pure_ (i := 1) (N := some 18) (v := ?_) (a' := ?_) #[false, true, false, false, false, false, false, false, false, false, false, false, false, false, false, false, false] rfl rfl (any_of HT_.out (by kernel_rfl)) (fun _ _ _ h => h) (Or.inl ⟨by rfl, ?_⟩) ?_ ?_
            rotate_left
            · intro w'
              go_simp
              with_reducible rfl
            rotate_left
            · simp only [Act.put, List.setIfInBounds_toArray, List.set_cons_zero, List.set_cons_succ, i64_w, i32_w]
              rfl
            refine pure_ (i := 3) (N := some 20) (v := ?_) (a' := ?_) #[false, true, false, true, false, false, false, false, false, false, false, false, false, false, false, false, false] rfl rfl (any_of HT_.out (by kernel_rfl)) (fun _ _ _ h => h) (Or.inl ⟨by rfl, ?_⟩) ?_ ?_
            rotate_left
            · intro w'
              go_simp
              with_reducible rfl
            rotate_left
            · simp only [Act.put, List.setIfInBounds_toArray, List.set_cons_zero, List.set_cons_succ, i64_w, i32_w]
              rfl
            refine pure_ (i := 5) (N := some 22) (v := ?_) (a' := ?_) #[false, true, false, true, false, true, false, false, false, false, false, false, false, false, false, false, false] rfl rfl (any_of HT_.out (by kernel_rfl)) (fun _ _ _ h => h) (Or.inl ⟨by rfl, ?_⟩) ?_ ?_
            rotate_left
            · intro w'
              go_simp
              with_reducible rfl
            rotate_left
            · simp only [Act.put, List.setIfInBounds_toArray, List.set_cons_zero, List.set_cons_succ, i64_w, i32_w]
              rfl
            refine pure_ (i := 10) (N := some 27) (v := ?_) (a' := ?_) #[false, true, false, true, false, true, false, false, false, false, true, false, false, false, false, false, false] rfl rfl (any_of HT_.out (by kernel_rfl)) (fun _ _ _ h => h) (Or.inl ⟨by rfl, ?_⟩) ?_ ?_
            rotate_left
            · intro w'
              go_simp
              with_reducible rfl
            rotate_left
            · simp only [Act.put, List.setIfInBounds_toArray, List.set_cons_zero, List.set_cons_succ, i64_w, i32_w]
              rfl
            refine pure_ (i := 12) (N := some 29) (v := ?_) (a' := ?_) #[false, true, false, true, false, true, false, false, false, false, true, false, true, false, false, false, false] rfl rfl (any_of HT_.out (by kernel_rfl)) (fun _ _ _ h => h) (Or.inl ⟨by rfl, ?_⟩) ?_ ?_
            rotate_left
            · intro w'
              go_simp
              with_reducible rfl
            rotate_left
            · simp only [Act.put, List.setIfInBounds_toArray, List.set_cons_zero, List.set_cons_succ, i64_w, i32_w]
              rfl
            refine take_ (i := 0) (N := some 17) (v := ?_) (a' := ?_) #[true, true, false, true, false, true, false, false, false, false, true, false, true, false, false, false, false] rfl rfl (take_ofW HT_.out HW_.out (by kernel_rfl)) (fun _ _ _ h => h) (Or.inl ⟨by rfl, ?_⟩) hHeld ?_ ?_
            rotate_left
            · rintro w' ⟨s0, s1, s2, s3, s4, s5, s6, s7, s8, s9, s10, s11, s12, s13, s14, s15, s16, s17, s18, s19, s20, s21, s22, s23, s24, s25, s26⟩
              refine (tg_load_run 44 (.tmp 5) ?_ gb207 0 ?_ [.string t185, .string t186, .string t187, .string t188, .string t189, .string t190, .string t191, .string t192, .string t193, .string t194, .string t195, .string t196, .string t197, .string t198, .string t199, .string t200, .string t201, .string t202, .string t203, .string t204, .string t205, .string t206] _ (range_cons s0 (range_cons s1 (range_cons s2 (range_cons s3 (range_cons s4 (range_cons s5 (range_cons s6 (range_cons s7 (range_cons s8 (range_cons s9 (range_cons s10 (range_cons s11 (range_cons s12 (range_cons s13 (range_cons s14 (range_cons s15 (range_cons s16 (range_cons s17 (range_cons s18 (range_cons s19 (range_cons s20 (range_cons s21 range_nil)))))))))))))))))))))) Tryd.underlying44 rfl info_tong) <;> rfl
            rotate_left
            · simp only [Act.put, List.setIfInBounds_toArray, List.set_cons_zero, List.set_cons_succ, i64_w, i32_w]
              rfl
            refine take_ (i := 2) (N := some 19) (v := ?_) (a' := ?_) #[true, true, true, true, false, true, false, false, false, false, true, false, true, false, false, false, false] rfl rfl (take_ofW HT_.out HW_.out (by kernel_rfl)) (fun _ _ _ h => h) (Or.inl ⟨by rfl, ?_⟩) hHeld ?_ ?_
            rotate_left
            · rintro w' ⟨s0, s1, s2, s3, s4, s5, s6, s7, s8, s9, s10, s11, s12, s13, s14, s15, s16, s17, s18, s19, s20, s21, s22, s23, s24, s25, s26⟩
              go_simp
              with_reducible rfl
            rotate_left
            · simp only [Act.put, List.setIfInBounds_toArray, List.set_cons_zero, List.set_cons_succ, i64_w, i32_w]
              rfl
            refine take_ (i := 4) (N := some 21) (v := ?_) (a' := ?_) #[true, true, true, true, true, true, false, false, false, false, true, false, true, false, false, false, false] rfl rfl (take_ofW HT_.out HW_.out (by kernel_rfl)) (fun _ _ _ h => h) (Or.inl ⟨by rfl, ?_⟩) hHeld ?_ ?_
            rotate_left
            · rintro w' ⟨s0, s1, s2, s3, s4, s5, s6, s7, s8, s9, s10, s11, s12, s13, s14, s15, s16, s17, s18, s19, s20, s21, s22, s23, s24, s25, s26⟩
              go_simp
              with_reducible rfl
            rotate_left
            · simp only [Act.put, List.setIfInBounds_toArray, List.set_cons_zero, List.set_cons_succ, i64_w, i32_w]
              rfl
            refine take_ (i := 6) (N := some 23) (v := ?_) (a' := ?_) #[true, true, true, true, true, true, true, false, false, false, true, false, true, false, false, false, false] rfl rfl (take_ofW HT_.out HW_.out (by kernel_rfl)) (fun _ _ _ h => h) (Or.inl ⟨by rfl, ?_⟩) hHeld ?_ ?_
            rotate_left
            · rintro w' ⟨s0, s1, s2, s3, s4, s5, s6, s7, s8, s9, s10, s11, s12, s13, s14, s15, s16, s17, s18, s19, s20, s21, s22, s23, s24, s25, s26⟩
              go_simp
              with_reducible rfl
            rotate_left
            · simp only [Act.put, List.setIfInBounds_toArray, List.set_cons_zero, List.set_cons_succ, i64_w, i32_w]
              rfl
            refine take_ (i := 9) (N := some 26) (v := ?_) (a' := ?_) #[true, true, true, true, true, true, true, false, false, true, true, false, true, false, false, false, false] rfl rfl (take_ofW HT_.out HW_.out (by kernel_rfl)) (fun _ _ _ h => h) (Or.inl ⟨by rfl, ?_⟩) hHeld ?_ ?_
            rotate_left
            · rintro w' ⟨s0, s1, s2, s3, s4, s5, s6, s7, s8, s9, s10, s11, s12, s13, s14, s15, s16, s17, s18, s19, s20, s21, s22, s23, s24, s25, s26⟩
              refine (tg_load_run 44 (.tmp 5) ?_ gb207 0 ?_ [.string t185, .string t186, .string t187, .string t188, .string t189, .string t190, .string t191, .string t192, .string t193, .string t194, .string t195, .string t196, .string t197, .string t198, .string t199, .string t200, .string t201, .string t202, .string t203, .string t204, .string t205, .string t206] _ (range_cons s0 (range_cons s1 (range_cons s2 (range_cons s3 (range_cons s4 (range_cons s5 (range_cons s6 (range_cons s7 (range_cons s8 (range_cons s9 (range_cons s10 (range_cons s11 (range_cons s12 (range_cons s13 (range_cons s14 (range_cons s15 (range_cons s16 (range_cons s17 (range_cons s18 (range_cons s19 (range_cons s20 (range_cons s21 range_nil)))))))))))))))))))))) Tryd.underlying44 rfl info_tong) <;> rfl
            rotate_left
            · simp only [Act.put, List.setIfInBounds_toArray, List.set_cons_zero, List.set_cons_succ, i64_w, i32_w]
              rfl
            refine take_ (i := 11) (N := some 28) (v := ?_) (a' := ?_) #[true, true, true, true, true, true, true, false, false, true, true, true, true, false, false, false, false] rfl rfl (take_ofW HT_.out HW_.out (by kernel_rfl)) (fun _ _ _ h => h) (Or.inl ⟨by rfl, ?_⟩) hHeld ?_ ?_
            rotate_left
            · rintro w' ⟨s0, s1, s2, s3, s4, s5, s6, s7, s8, s9, s10, s11, s12, s13, s14, s15, s16, s17, s18, s19, s20, s21, s22, s23, s24, s25, s26⟩
              go_simp
              with_reducible rfl
            rotate_left
            · simp only [Act.put, List.setIfInBounds_toArray, List.set_cons_zero, List.set_cons_succ, i64_w, i32_w]
              rfl
            refine take_ (i := 13) (N := some 30) (v := ?_) (a' := ?_) #[true, true, true, true, true, true, true, false, false, true, true, true, true, true, false, false, false] rfl rfl (take_ofW HT_.out HW_.out (by kernel_rfl)) (fun _ _ _ h => h) (Or.inl ⟨by rfl, ?_⟩) hHeld ?_ ?_
            rotate_left
            · rintro w' ⟨s0, s1, s2, s3, s4, s5, s6, s7, s8, s9, s10, s11, s12, s13, s14, s15, s16, s17, s18, s19, s20, s21, s22, s23, s24, s25, s26⟩
              go_simp
              with_reducible rfl
            rotate_left
            · simp only [Act.put, List.setIfInBounds_toArray, List.set_cons_zero, List.set_cons_succ, i64_w, i32_w]
              rfl
            refine one_ (i := 7) (N := some 24) #[true, true, true, true, true, true, true, true, false, true, true, true, true, true, false, false, false] rfl rfl (one_of HT_.out (by kernel_rfl)) (by decide) (fun K hK => ?_)
            refine goes_ Tryd.func22 (by kernel_rfl) rfl #[.agg #[.string t185, .string t186, .string t187, .string t188, .string t189, .string t190, .string t191, .string t192, .string t193, .string t194, .string t195, .string t196, .string t197, .string t198, .string t199, .string t200, .string t201, .string t202, .string t203, .string t204, .string t205, .string t206], .int .i64 a0_0, .int .i64 a0_1, .int .i64 a0_2] (by rfl) rfl rfl (by (try simp only [List.map_toArray, List.map_cons, List.map_nil]); first | done | rfl | (simp only [List.length_drop, List.length_take]; rfl)) ?_
            with_reducible refine (impl_tongue_wind.calls kj2 t185 t186 t187 t188 t189 t190 t191 t192 t193 t194 t195 t196 t197 t198 t199 t200 t201 t202 t203 t204 t205 t206 a0_0 a0_1 a0_2 t208 _ A12.out (tab_on HTb.out (by repeat (first | (with_reducible first | exact HB.out | apply below_alloc | apply pw_below_drewN | apply below_drew1 | refine below_set ?_ GE182.out | refine below_set ?_ GE207.out) | exact HB.out)))).mono ?_
            rintro e w22 ⟨rfl, hb⟩
            refine ⟨_, rfl, ?_⟩
            have n0_ := Aside0.mk (blk_below (g := gb182) (o := .cells #[.int .i64 a0_0, .int .i64 a0_1, .int .i64 a0_2, .int .i64 a0_3, .int .i64 a0_4] 25 (0, 0)) (by (with_reducible repeat (first | refine blk_drewN ?_ _ | refine blk_drew ?_ | refine blk_alloc ?_ _)); exact BK182.out) hb)
            have n1_ := Aside0.mk (blk_below (g := gb207) (o := .cells #[.string t185, .string t186, .string t187, .string t188, .string t189, .string t190, .string t191, .string t192, .string t193, .string t194, .string t195, .string t196, .string t197, .string t198, .string t199, .string t200, .string t201, .string t202, .string t203, .string t204, .string t205, .string t206] 44 (0, 0)) (by (with_reducible repeat (first | refine blk_drewN ?_ _ | refine blk_drew ?_ | refine blk_alloc ?_ _)); exact BK207.out) hb)
            have n2_ := Aside0.mk (below_step (by repeat (first | (with_reducible first | exact HB.out | apply below_alloc | apply pw_below_drewN | apply below_drew1 | refine below_set ?_ GE182.out | refine below_set ?_ GE207.out) | exact HB.out)) hb)
            clear BK182
            clear BK207
            clear HB
            have BK182 := n0_
            have BK207 := n1_
            have HB := n2_
            clear n0_ n1_ n2_
            (try clear hb)
            (try clear hb2)
            (try clear hk)
            (try clear hi)
            refine hK.out _ _ ⟨(blk_cell BK207.out 0).trans rfl, (blk_cell BK207.out 1).trans rfl, (blk_cell BK207.out 2).trans rfl, (blk_cell BK207.out 3).trans rfl, (blk_cell BK207.out 4).trans rfl, (blk_cell BK207.out 5).trans rfl, (blk_cell BK207.out 6).trans rfl, (blk_cell BK207.out 7).trans rfl, (blk_cell BK207.out 8).trans rfl, (blk_cell BK207.out 9).trans rfl, (blk_cell BK207.out 10).trans rfl, (blk_cell BK207.out 11).trans rfl, (blk_cell BK207.out 12).trans rfl, (blk_cell BK207.out 13).trans rfl, (blk_cell BK207.out 14).trans rfl, (blk_cell BK207.out 15).trans rfl, (blk_cell BK207.out 16).trans rfl, (blk_cell BK207.out 17).trans rfl, (blk_cell BK207.out 18).trans rfl, (blk_cell BK207.out 19).trans rfl, (blk_cell BK207.out 20).trans rfl, (blk_cell BK207.out 21).trans rfl, (blk_cell BK182.out 0).trans rfl, (blk_cell BK182.out 1).trans rfl, (blk_cell BK182.out 2).trans rfl, (blk_cell BK182.out 3).trans rfl, (blk_cell BK182.out 4).trans rfl⟩ (fun hHeld => ?_)
            clear hK K
            refine norm_ (a' := ?_) ?_ ?_
            rotate_left
            · show Act.put _ (some 24) _ = _
              simp only [Act.put, List.setIfInBounds_toArray, List.set_cons_zero, List.set_cons_succ, i64_w, i32_w]
              rfl
            refine pure_ (i := 8) (N := some 25) (v := ?_) (a' := ?_) #[true, true, true, true, true, true, true, true, true, true, true, true, true, true, false, false, false] rfl rfl (any_of HT_.out (by kernel_rfl)) (fun _ _ _ h => h) (Or.inl ⟨by rfl, ?_⟩) ?_ ?_
            rotate_left
            · intro w'
              go_simp
              with_reducible rfl
            rotate_left
            · simp only [Act.put, List.setIfInBounds_toArray, List.set_cons_zero, List.set_cons_succ, i64_w, i32_w]
              rfl
            refine one_ (i := 14) (N := some 31) #[true, true, true, true, true, true, true, true, true, true, true, true, true, true, true, false, false] rfl rfl (one_of HT_.out (by kernel_rfl)) (by decide) (fun K hK => ?_)
            refine goes_ Tryd.func23 (by kernel_rfl) rfl #[.agg #[.string t185, .string t186, .string t187, .string t188, .string t189, .string t190, .string t191, .string t192, .string t193, .string t194, .string t195, .string t196, .string t197, .string t198, .string t199, .string t200, .string t201, .string t202, .string t203, .string t204, .string t205, .string t206], .int .i64 a0_3, .int .i64 a0_4] (by rfl) rfl rfl (by (try simp only [List.map_toArray, List.map_cons, List.map_nil]); first | done | rfl | (simp only [List.length_drop, List.length_take]; rfl)) ?_
            with_reducible refine (impl_tongue_rain.calls t185 t186 t187 t188 t189 t190 t191 t192 t193 t194 t195 t196 t197 t198 t199 t200 t201 t202 t203 t204 t205 t206 a0_3 a0_4 t209 _ A14.out (tab_on HTb.out (by repeat (first | (with_reducible first | exact HB.out | apply below_alloc | apply pw_below_drewN | apply below_drew1 | refine below_set ?_ GE182.out | refine below_set ?_ GE207.out) | exact HB.out)))).mono ?_
            rintro e w23 ⟨rfl, hb⟩
            refine ⟨_, rfl, ?_⟩
            have n0_ := Aside0.mk (blk_below (g := gb182) (o := .cells #[.int .i64 a0_0, .int .i64 a0_1, .int .i64 a0_2, .int .i64 a0_3, .int .i64 a0_4] 25 (0, 0)) (by (with_reducible repeat (first | refine blk_drewN ?_ _ | refine blk_drew ?_ | refine blk_alloc ?_ _)); exact BK182.out) hb)
            have n1_ := Aside0.mk (blk_below (g := gb207) (o := .cells #[.string t185, .string t186, .string t187, .string t188, .string t189, .string t190, .string t191, .string t192, .string t193, .string t194, .string t195, .string t196, .string t197, .string t198, .string t199, .string t200, .string t201, .string t202, .string t203, .string t204, .string t205, .string t206] 44 (0, 0)) (by (with_reducible repeat (first | refine blk_drewN ?_ _ | refine blk_drew ?_ | refine blk_alloc ?_ _)); exact BK207.out) hb)
            have n2_ := Aside0.mk (below_step (by repeat (first | (with_reducible first | exact HB.out | apply below_alloc | apply pw_below_drewN | apply below_drew1 | refine below_set ?_ GE182.out | refine below_set ?_ GE207.out) | exact HB.out)) hb)
            clear BK182
            clear BK207
            clear HB
            have BK182 := n0_
            have BK207 := n1_
            have HB := n2_
            clear n0_ n1_ n2_
            (try clear hb)
            (try clear hb2)
            (try clear hk)
            (try clear hi)
            refine hK.out _ _ ⟨(blk_cell BK207.out 0).trans rfl, (blk_cell BK207.out 1).trans rfl, (blk_cell BK207.out 2).trans rfl, (blk_cell BK207.out 3).trans rfl, (blk_cell BK207.out 4).trans rfl, (blk_cell BK207.out 5).trans rfl, (blk_cell BK207.out 6).trans rfl, (blk_cell BK207.out 7).trans rfl, (blk_cell BK207.out 8).trans rfl, (blk_cell BK207.out 9).trans rfl, (blk_cell BK207.out 10).trans rfl, (blk_cell BK207.out 11).trans rfl, (blk_cell BK207.out 12).trans rfl, (blk_cell BK207.out 13).trans rfl, (blk_cell BK207.out 14).trans rfl, (blk_cell BK207.out 15).trans rfl, (blk_cell BK207.out 16).trans rfl, (blk_cell BK207.out 17).trans rfl, (blk_cell BK207.out 18).trans rfl, (blk_cell BK207.out 19).trans rfl, (blk_cell BK207.out 20).trans rfl, (blk_cell BK207.out 21).trans rfl, (blk_cell BK182.out 0).trans rfl, (blk_cell BK182.out 1).trans rfl, (blk_cell BK182.out 2).trans rfl, (blk_cell BK182.out 3).trans rfl, (blk_cell BK182.out 4).trans rfl⟩ (fun hHeld => ?_)
            clear hK K
            refine norm_ (a' := ?_) ?_ ?_
            rotate_left
            · show Act.put _ (some 31) _ = _
              simp only [Act.put, List.setIfInBounds_toArray, List.set_cons_zero, List.set_cons_succ, i64_w, i32_w]
              rfl
            refine pure_ (i := 15) (N := some 32) (v := ?_) (a' := ?_) #[true, true, true, true, true, true, true, true, true, true, true, true, true, true, true, true, false] rfl rfl (any_of HT_.out (by kernel_rfl)) (fun _ _ _ h => h) (Or.inl ⟨by rfl, ?_⟩) ?_ ?_
            rotate_left
            · intro w'
              go_simp
              with_reducible rfl
            rotate_left
            · simp only [Act.put, List.setIfInBounds_toArray, List.set_cons_zero, List.set_cons_succ, i64_w, i32_w]
              rfl
            refine pure_ (i := 16) (N := some 4) (v := ?_) (a' := ?_) #[true, true, true, true, true, true, true, true, true, true, true, true, true, true, true, true, true] rfl rfl (any_of HT_.out (by kernel_rfl)) (fun _ _ _ h => h) (Or.inl ⟨by rfl, ?_⟩) ?_ ?_
            rotate_left
            · intro w'
              go_simp
              with_reducible rfl
            rotate_left
            · simp only [Act.put, List.setIfInBounds_toArray, List.set_cons_zero, List.set_cons_succ, i64_w, i32_w]
              rfl
            refine done_ (done_of HT_.out (by kernel_rfl)) ?_
            try go_wp2
            go_ret
            exact ⟨by first | rfl | (simp [errW_none, errW_some] <;> rfl) | (simp [*, errW_none, errW_some] <;> rfl), by repeat (first | (with_reducible first | exact HB.out | apply below_alloc | apply pw_below_drewN | apply below_drew1 | refine below_set ?_ GE182.out | refine below_set ?_ GE207.out) | exact HB.out)⟩
          · rw [if_neg c15] at H
            exact absurd H (by simp)
        · rw [if_neg c13] at H
          exact absurd H (by simp)

/-! ### spec_l23Ahead: function 24 -/
def spec_l23Ahead.f (a0 : ByteArray) (a1 : ByteArray) : Option (Bool) := if (a0.size : Int) ≥ (a1.size : Int) then (if 0 ≤ (a1.size : Int) then (if (a1.size : Int) ≤ (a0.size : Int) then (some ((a0.extract 0 ((a1.size : Int) : Int).toNat).toList == a1.toList)) else (none)) else (none)) else (some false)
set_option maxHeartbeats 8000000 in
set_option maxRecDepth 100000 in
theorem spec_l23Ahead.calls (a0 : ByteArray) (a1 : ByteArray) (r : Bool) (w : World) (h : spec_l23Ahead.f a0 a1 = some r) :
    Calls Tryd.prog 24 #[.string a0, .string a1] w fun e w' => e = .returned (.bool r) ∧ Drawn0 w w' := by
  have H : (if (a0.size : Int) ≥ (a1.size : Int) then (if 0 ≤ (a1.size : Int) then (if (a1.size : Int) ≤ (a0.size : Int) then (some ((a0.extract 0 ((a1.size : Int) : Int).toNat).toList == a1.toList)) else (none)) else (none)) else (some false)) = some r := h
  clear h
  by_cases c3 : (a0.size : Int) ≥ (a1.size : Int)
  · rw [if_pos c3] at H
    have c3b0 : decide ((a1.size : Int) ≤ (a0.size : Int)) = true := decide_eq_true c3
    have c3b1 : decide (a1.size ≤ a0.size) = true := decide_eq_true (Int.ofNat_le.mp c3)
    clear c3
    by_cases c4 : 0 ≤ (a1.size : Int)
    · rw [if_pos c4] at H
      have c4b0 := eq_true c4
      have c4b1 : decide (0 ≤ (a1.size : Int)) = true := decide_eq_true c4
      clear c4
      by_cases c5 : (a1.size : Int) ≤ (a0.size : Int)
      · rw [if_pos c5] at H
        have c5b0 := eq_true c5
        have c5b1 : decide ((a1.size : Int) ≤ (a0.size : Int)) = true := decide_eq_true c5
        clear c5
        obtain rfl := Option.some.inj H
        go_enter Tryd.func24, Tryd.ntmps24
        go_wp2
        go_ret
        exact ⟨by first | rfl | (simp; done) | (simp [*]; done), by repeat (first | exact Drawn0.refl _ | apply Drawn0.step)⟩
      · rw [if_neg c5] at H
        exact absurd H (by simp)
    · rw [if_neg c4] at H
      exact absurd H (by simp)
  · rw [if_neg c3] at H
    have c3b0 : decide ((a1.size : Int) ≤ (a0.size : Int)) = false := decide_eq_false c3
    have c3b1 : decide (a1.size ≤ a0.size) = false := decide_eq_false (fun h => c3 (Int.ofNat_le.mpr h))
    clear c3
    obtain rfl := Option.some.inj H
    go_enter Tryd.func24, Tryd.ntmps24
    go_wp2
    go_ret
    exact ⟨by first | rfl | (simp; done) | (simp [*]; done), by repeat (first | exact Drawn0.refl _ | apply Drawn0.step)⟩

end Go.Proofs.YtllkijlmjapleaaDoor.QFnPhrases
