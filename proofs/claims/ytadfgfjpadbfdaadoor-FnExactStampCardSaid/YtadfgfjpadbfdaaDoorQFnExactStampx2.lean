-- Written by a program of this session out of the printer's texts and contracts of its own.
import Derived.Test.YtadfgfjpadbfdaaDoorQFnExactStampx0
import Derived.Test.YtadfgfjpadbfdaaDoorQFnExactStampx1
namespace Go.Proofs.YtadfgfjpadbfdaaDoor.QFnExactStamp
open Go.RowKit Go.Proofs.YtadfgfjpadbfdaaDoorW.PrintWords Go.Proofs.YtadfgfjpadbfdaaDoorW.PrintLast Go.Proofs.YtadfgfjpadbfdaaDoorW.PrintMore
attribute [local go_sem] max2_int min2_int max_two min_two max_three min_three max_four min_four   -- for this text's walks alone
set_option linter.unusedVariables false
set_option linter.unusedSimpArgs false

/-! ### spec_Stamp: function 8 -/
def spec_Stamp.f (k : Nat) (a0 : Int) : Option (ByteArray) := (spec_DateOf.f k a0).bind fun bt110 => (if bt110.2.2.2.2.2 = true then ((spec_l2Pad.f k bt110.1 4).bind fun t117 => (if t117.size + 1 ≤ 9223372036854775807 then ((spec_l2Pad.f k bt110.2.1 2).bind fun t118 => (if (t117 ++ (⟨#[45]⟩ : ByteArray)).size + t118.size ≤ 9223372036854775807 then (if ((t117 ++ (⟨#[45]⟩ : ByteArray)) ++ t118).size + 1 ≤ 9223372036854775807 then ((spec_l2Pad.f k bt110.2.2.1 2).bind fun t119 => (if (((t117 ++ (⟨#[45]⟩ : ByteArray)) ++ t118) ++ (⟨#[45]⟩ : ByteArray)).size + t119.size ≤ 9223372036854775807 then (if ((((t117 ++ (⟨#[45]⟩ : ByteArray)) ++ t118) ++ (⟨#[45]⟩ : ByteArray)) ++ t119).size + 1 ≤ 9223372036854775807 then ((spec_l2Pad.f k bt110.2.2.2.1 2).bind fun t120 => (if (((((t117 ++ (⟨#[45]⟩ : ByteArray)) ++ t118) ++ (⟨#[45]⟩ : ByteArray)) ++ t119) ++ (⟨#[84]⟩ : ByteArray)).size + t120.size ≤ 9223372036854775807 then (if ((((((t117 ++ (⟨#[45]⟩ : ByteArray)) ++ t118) ++ (⟨#[45]⟩ : ByteArray)) ++ t119) ++ (⟨#[84]⟩ : ByteArray)) ++ t120).size + 1 ≤ 9223372036854775807 then ((spec_l2Pad.f k bt110.2.2.2.2.1 2).bind fun t121 => (if (((((((t117 ++ (⟨#[45]⟩ : ByteArray)) ++ t118) ++ (⟨#[45]⟩ : ByteArray)) ++ t119) ++ (⟨#[84]⟩ : ByteArray)) ++ t120) ++ (⟨#[58]⟩ : ByteArray)).size + t121.size ≤ 9223372036854775807 then (if ((((((((t117 ++ (⟨#[45]⟩ : ByteArray)) ++ t118) ++ (⟨#[45]⟩ : ByteArray)) ++ t119) ++ (⟨#[84]⟩ : ByteArray)) ++ t120) ++ (⟨#[58]⟩ : ByteArray)) ++ t121).size + 1 ≤ 9223372036854775807 then (some (((((((((t117 ++ (⟨#[45]⟩ : ByteArray)) ++ t118) ++ (⟨#[45]⟩ : ByteArray)) ++ t119) ++ (⟨#[84]⟩ : ByteArray)) ++ t120) ++ (⟨#[58]⟩ : ByteArray)) ++ t121) ++ (⟨#[90]⟩ : ByteArray))) else (none)) else (none))) else (none)) else (none))) else (none)) else (none))) else (none)) else (none))) else (none))) else (some (⟨#[]⟩ : ByteArray)))
theorem spec_Stamp.mono : ∀ a0 k, LeO (spec_Stamp.f k a0) (spec_Stamp.f (k + 1) a0) := by
  intro a0 k
  unfold spec_Stamp.f
  repeat' first
      | (with_reducible exact spec_DateOf.mono _ _)
      | (with_reducible exact spec_l2Pad.mono _ _ _)
      | (with_reducible exact LeO.refl _)
      | (with_reducible exact LeO.none _)
      | (with_reducible refine LeO.ite ?_ ?_)
      | (with_reducible refine LeO.bind ?_ (fun _ => ?_))
      | exact spec_DateOf.mono _ _
      | exact spec_l2Pad.mono _ _ _
      | exact LeO.none _
      | refine LeO.ite ?_ ?_
      | refine LeO.bind ?_ (fun _ => ?_)
def spec_Stamp.T4 : Bool × List (List Nat × List Nat) := (true, [([], []), ([0], [0]), ([1], [1]), ([2], [2]), ([], []), ([4], [4]), ([5, 2], [5]), ([3, 6], [3, 6]), ([7], [7]), ([], []), ([9], [9]), ([10, 6], [10]), ([8, 11], [8, 11]), ([12], [12]), ([], []), ([14], [14]), ([15, 11], [15]), ([13, 16], [13, 16]), ([17], [17]), ([], []), ([19], [19]), ([20, 16], [20]), ([18, 21], [18, 21]), ([22], [22]), ([23, 21, 0, 1, 2, 3, 4, 5, 6, 7, 8, 9, 10, 11, 12, 13, 14, 15, 16, 17, 18, 19, 20, 21, 22, 23], [23])])
def spec_Stamp.B4 : List Nat := [0, 1, 3, 7, 0, 16, 55, 127, 255, 0, 512, 1655, 4095, 8191, 0, 16384, 52855, 131071, 262143, 0, 524288, 1691255, 4194303, 8388607, 16777215]
theorem spec_Stamp.tab4 : rtab .any (opsOf Tryd.f8 4) = spec_Stamp.T4 := by kernel_rfl
theorem spec_Stamp.bits4 : waitsOk spec_Stamp.T4.2 spec_Stamp.B4 = true := by kernel_rfl
set_option maxHeartbeats 8000000 in
set_option maxRecDepth 100000 in
theorem spec_Stamp.calls (k : Nat) (a0 : Int) (r : ByteArray) (w : World) (h : spec_Stamp.f k a0 = some r) :
    Calls Tryd.prog 8 #[.int .i64 a0] w fun e w' => e = .returned (.string r) ∧ Below w.heap.size w w' := by
  have hu34 := Tryd.underlying34
  have HB := Aside0.mk (Below.refl w.heap.size w)
  have H : ((spec_DateOf.f k a0).bind fun bt110 => (if bt110.2.2.2.2.2 = true then ((spec_l2Pad.f k bt110.1 4).bind fun t117 => (if t117.size + 1 ≤ 9223372036854775807 then ((spec_l2Pad.f k bt110.2.1 2).bind fun t118 => (if (t117 ++ (⟨#[45]⟩ : ByteArray)).size + t118.size ≤ 9223372036854775807 then (if ((t117 ++ (⟨#[45]⟩ : ByteArray)) ++ t118).size + 1 ≤ 9223372036854775807 then ((spec_l2Pad.f k bt110.2.2.1 2).bind fun t119 => (if (((t117 ++ (⟨#[45]⟩ : ByteArray)) ++ t118) ++ (⟨#[45]⟩ : ByteArray)).size + t119.size ≤ 9223372036854775807 then (if ((((t117 ++ (⟨#[45]⟩ : ByteArray)) ++ t118) ++ (⟨#[45]⟩ : ByteArray)) ++ t119).size + 1 ≤ 9223372036854775807 then ((spec_l2Pad.f k bt110.2.2.2.1 2).bind fun t120 => (if (((((t117 ++ (⟨#[45]⟩ : ByteArray)) ++ t118) ++ (⟨#[45]⟩ : ByteArray)) ++ t119) ++ (⟨#[84]⟩ : ByteArray)).size + t120.size ≤ 9223372036854775807 then (if ((((((t117 ++ (⟨#[45]⟩ : ByteArray)) ++ t118) ++ (⟨#[45]⟩ : ByteArray)) ++ t119) ++ (⟨#[84]⟩ : ByteArray)) ++ t120).size + 1 ≤ 9223372036854775807 then ((spec_l2Pad.f k bt110.2.2.2.2.1 2).bind fun t121 => (if (((((((t117 ++ (⟨#[45]⟩ : ByteArray)) ++ t118) ++ (⟨#[45]⟩ : ByteArray)) ++ t119) ++ (⟨#[84]⟩ : ByteArray)) ++ t120) ++ (⟨#[58]⟩ : ByteArray)).size + t121.size ≤ 9223372036854775807 then (if ((((((((t117 ++ (⟨#[45]⟩ : ByteArray)) ++ t118) ++ (⟨#[45]⟩ : ByteArray)) ++ t119) ++ (⟨#[84]⟩ : ByteArray)) ++ t120) ++ (⟨#[58]⟩ : ByteArray)) ++ t121).size + 1 ≤ 9223372036854775807 then (some (((((((((t117 ++ (⟨#[45]⟩ : ByteArray)) ++ t118) ++ (⟨#[45]⟩ : ByteArray)) ++ t119) ++ (⟨#[84]⟩ : ByteArray)) ++ t120) ++ (⟨#[58]⟩ : ByteArray)) ++ t121) ++ (⟨#[90]⟩ : ByteArray))) else (none)) else (none))) else (none)) else (none))) else (none)) else (none))) else (none)) else (none))) else (none))) else (some (⟨#[]⟩ : ByteArray)))) = some r := h
  clear h
  replace H := Option.bind_eq_some_iff.mp H
  obtain ⟨⟨t110, t111, t112, t113, t114, t115⟩, A20, H⟩ := H
  replace H : (if t115 = true then ((spec_l2Pad.f k t110 4).bind fun t117 => (if t117.size + 1 ≤ 9223372036854775807 then ((spec_l2Pad.f k t111 2).bind fun t118 => (if (t117 ++ (⟨#[45]⟩ : ByteArray)).size + t118.size ≤ 9223372036854775807 then (if ((t117 ++ (⟨#[45]⟩ : ByteArray)) ++ t118).size + 1 ≤ 9223372036854775807 then ((spec_l2Pad.f k t112 2).bind fun t119 => (if (((t117 ++ (⟨#[45]⟩ : ByteArray)) ++ t118) ++ (⟨#[45]⟩ : ByteArray)).size + t119.size ≤ 9223372036854775807 then (if ((((t117 ++ (⟨#[45]⟩ : ByteArray)) ++ t118) ++ (⟨#[45]⟩ : ByteArray)) ++ t119).size + 1 ≤ 9223372036854775807 then ((spec_l2Pad.f k t113 2).bind fun t120 => (if (((((t117 ++ (⟨#[45]⟩ : ByteArray)) ++ t118) ++ (⟨#[45]⟩ : ByteArray)) ++ t119) ++ (⟨#[84]⟩ : ByteArray)).size + t120.size ≤ 9223372036854775807 then (if ((((((t117 ++ (⟨#[45]⟩ : ByteArray)) ++ t118) ++ (⟨#[45]⟩ : ByteArray)) ++ t119) ++ (⟨#[84]⟩ : ByteArray)) ++ t120).size + 1 ≤ 9223372036854775807 then ((spec_l2Pad.f k t114 2).bind fun t121 => (if (((((((t117 ++ (⟨#[45]⟩ : ByteArray)) ++ t118) ++ (⟨#[45]⟩ : ByteArray)) ++ t119) ++ (⟨#[84]⟩ : ByteArray)) ++ t120) ++ (⟨#[58]⟩ : ByteArray)).size + t121.size ≤ 9223372036854775807 then (if ((((((((t117 ++ (⟨#[45]⟩ : ByteArray)) ++ t118) ++ (⟨#[45]⟩ : ByteArray)) ++ t119) ++ (⟨#[84]⟩ : ByteArray)) ++ t120) ++ (⟨#[58]⟩ : ByteArray)) ++ t121).size + 1 ≤ 9223372036854775807 then (some (((((((((t117 ++ (⟨#[45]⟩ : ByteArray)) ++ t118) ++ (⟨#[45]⟩ : ByteArray)) ++ t119) ++ (⟨#[84]⟩ : ByteArray)) ++ t120) ++ (⟨#[58]⟩ : ByteArray)) ++ t121) ++ (⟨#[90]⟩ : ByteArray))) else (none)) else (none))) else (none)) else (none))) else (none)) else (none))) else (none)) else (none))) else (none))) else (some (⟨#[]⟩ : ByteArray))) = some r := H
  have A2 := Aside0.mk A20
  clear A20
  by_cases c3 : t115 = true
  · subst c3
    have H1 : ((spec_l2Pad.f k t110 4).bind fun t117 => (if t117.size + 1 ≤ 9223372036854775807 then ((spec_l2Pad.f k t111 2).bind fun t118 => (if (t117 ++ (⟨#[45]⟩ : ByteArray)).size + t118.size ≤ 9223372036854775807 then (if ((t117 ++ (⟨#[45]⟩ : ByteArray)) ++ t118).size + 1 ≤ 9223372036854775807 then ((spec_l2Pad.f k t112 2).bind fun t119 => (if (((t117 ++ (⟨#[45]⟩ : ByteArray)) ++ t118) ++ (⟨#[45]⟩ : ByteArray)).size + t119.size ≤ 9223372036854775807 then (if ((((t117 ++ (⟨#[45]⟩ : ByteArray)) ++ t118) ++ (⟨#[45]⟩ : ByteArray)) ++ t119).size + 1 ≤ 9223372036854775807 then ((spec_l2Pad.f k t113 2).bind fun t120 => (if (((((t117 ++ (⟨#[45]⟩ : ByteArray)) ++ t118) ++ (⟨#[45]⟩ : ByteArray)) ++ t119) ++ (⟨#[84]⟩ : ByteArray)).size + t120.size ≤ 9223372036854775807 then (if ((((((t117 ++ (⟨#[45]⟩ : ByteArray)) ++ t118) ++ (⟨#[45]⟩ : ByteArray)) ++ t119) ++ (⟨#[84]⟩ : ByteArray)) ++ t120).size + 1 ≤ 9223372036854775807 then ((spec_l2Pad.f k t114 2).bind fun t121 => (if (((((((t117 ++ (⟨#[45]⟩ : ByteArray)) ++ t118) ++ (⟨#[45]⟩ : ByteArray)) ++ t119) ++ (⟨#[84]⟩ : ByteArray)) ++ t120) ++ (⟨#[58]⟩ : ByteArray)).size + t121.size ≤ 9223372036854775807 then (if ((((((((t117 ++ (⟨#[45]⟩ : ByteArray)) ++ t118) ++ (⟨#[45]⟩ : ByteArray)) ++ t119) ++ (⟨#[84]⟩ : ByteArray)) ++ t120) ++ (⟨#[58]⟩ : ByteArray)) ++ t121).size + 1 ≤ 9223372036854775807 then (some (((((((((t117 ++ (⟨#[45]⟩ : ByteArray)) ++ t118) ++ (⟨#[45]⟩ : ByteArray)) ++ t119) ++ (⟨#[84]⟩ : ByteArray)) ++ t120) ++ (⟨#[58]⟩ : ByteArray)) ++ t121) ++ (⟨#[90]⟩ : ByteArray))) else (none)) else (none))) else (none)) else (none))) else (none)) else (none))) else (none)) else (none))) else (none))) = some r := by rw [if_pos rfl] at H; exact H
    clear H
    have H := H1
    clear H1
    replace H := Option.bind_eq_some_iff.mp H
    obtain ⟨t117, A40, H⟩ := H
    replace H : (if t117.size + 1 ≤ 9223372036854775807 then ((spec_l2Pad.f k t111 2).bind fun t118 => (if (t117 ++ (⟨#[45]⟩ : ByteArray)).size + t118.size ≤ 9223372036854775807 then (if ((t117 ++ (⟨#[45]⟩ : ByteArray)) ++ t118).size + 1 ≤ 9223372036854775807 then ((spec_l2Pad.f k t112 2).bind fun t119 => (if (((t117 ++ (⟨#[45]⟩ : ByteArray)) ++ t118) ++ (⟨#[45]⟩ : ByteArray)).size + t119.size ≤ 9223372036854775807 then (if ((((t117 ++ (⟨#[45]⟩ : ByteArray)) ++ t118) ++ (⟨#[45]⟩ : ByteArray)) ++ t119).size + 1 ≤ 9223372036854775807 then ((spec_l2Pad.f k t113 2).bind fun t120 => (if (((((t117 ++ (⟨#[45]⟩ : ByteArray)) ++ t118) ++ (⟨#[45]⟩ : ByteArray)) ++ t119) ++ (⟨#[84]⟩ : ByteArray)).size + t120.size ≤ 9223372036854775807 then (if ((((((t117 ++ (⟨#[45]⟩ : ByteArray)) ++ t118) ++ (⟨#[45]⟩ : ByteArray)) ++ t119) ++ (⟨#[84]⟩ : ByteArray)) ++ t120).size + 1 ≤ 9223372036854775807 then ((spec_l2Pad.f k t114 2).bind fun t121 => (if (((((((t117 ++ (⟨#[45]⟩ : ByteArray)) ++ t118) ++ (⟨#[45]⟩ : ByteArray)) ++ t119) ++ (⟨#[84]⟩ : ByteArray)) ++ t120) ++ (⟨#[58]⟩ : ByteArray)).size + t121.size ≤ 9223372036854775807 then (if ((((((((t117 ++ (⟨#[45]⟩ : ByteArray)) ++ t118) ++ (⟨#[45]⟩ : ByteArray)) ++ t119) ++ (⟨#[84]⟩ : ByteArray)) ++ t120) ++ (⟨#[58]⟩ : ByteArray)) ++ t121).size + 1 ≤ 9223372036854775807 then (some (((((((((t117 ++ (⟨#[45]⟩ : ByteArray)) ++ t118) ++ (⟨#[45]⟩ : ByteArray)) ++ t119) ++ (⟨#[84]⟩ : ByteArray)) ++ t120) ++ (⟨#[58]⟩ : ByteArray)) ++ t121) ++ (⟨#[90]⟩ : ByteArray))) else (none)) else (none))) else (none)) else (none))) else (none)) else (none))) else (none)) else (none))) else (none)) = some r := H
    have A4 := Aside0.mk A40
    clear A40
    by_cases c5 : t117.size + 1 ≤ 9223372036854775807
    · rw [if_pos c5] at H
      have c5b0 := eq_true c5
      have c5b1 : decide (t117.size + 1 ≤ 9223372036854775807) = true := decide_eq_true c5
      try have c5b2 : (9223372036854775807 < t117.size + 1) = False := eq_false (Nat.not_lt.2 c5)
      replace H := Option.bind_eq_some_iff.mp H
      obtain ⟨t118, A60, H⟩ := H
      replace H : (if (t117 ++ (⟨#[45]⟩ : ByteArray)).size + t118.size ≤ 9223372036854775807 then (if ((t117 ++ (⟨#[45]⟩ : ByteArray)) ++ t118).size + 1 ≤ 9223372036854775807 then ((spec_l2Pad.f k t112 2).bind fun t119 => (if (((t117 ++ (⟨#[45]⟩ : ByteArray)) ++ t118) ++ (⟨#[45]⟩ : ByteArray)).size + t119.size ≤ 9223372036854775807 then (if ((((t117 ++ (⟨#[45]⟩ : ByteArray)) ++ t118) ++ (⟨#[45]⟩ : ByteArray)) ++ t119).size + 1 ≤ 9223372036854775807 then ((spec_l2Pad.f k t113 2).bind fun t120 => (if (((((t117 ++ (⟨#[45]⟩ : ByteArray)) ++ t118) ++ (⟨#[45]⟩ : ByteArray)) ++ t119) ++ (⟨#[84]⟩ : ByteArray)).size + t120.size ≤ 9223372036854775807 then (if ((((((t117 ++ (⟨#[45]⟩ : ByteArray)) ++ t118) ++ (⟨#[45]⟩ : ByteArray)) ++ t119) ++ (⟨#[84]⟩ : ByteArray)) ++ t120).size + 1 ≤ 9223372036854775807 then ((spec_l2Pad.f k t114 2).bind fun t121 => (if (((((((t117 ++ (⟨#[45]⟩ : ByteArray)) ++ t118) ++ (⟨#[45]⟩ : ByteArray)) ++ t119) ++ (⟨#[84]⟩ : ByteArray)) ++ t120) ++ (⟨#[58]⟩ : ByteArray)).size + t121.size ≤ 9223372036854775807 then (if ((((((((t117 ++ (⟨#[45]⟩ : ByteArray)) ++ t118) ++ (⟨#[45]⟩ : ByteArray)) ++ t119) ++ (⟨#[84]⟩ : ByteArray)) ++ t120) ++ (⟨#[58]⟩ : ByteArray)) ++ t121).size + 1 ≤ 9223372036854775807 then (some (((((((((t117 ++ (⟨#[45]⟩ : ByteArray)) ++ t118) ++ (⟨#[45]⟩ : ByteArray)) ++ t119) ++ (⟨#[84]⟩ : ByteArray)) ++ t120) ++ (⟨#[58]⟩ : ByteArray)) ++ t121) ++ (⟨#[90]⟩ : ByteArray))) else (none)) else (none))) else (none)) else (none))) else (none)) else (none))) else (none)) else (none)) = some r := H
      have A6 := Aside0.mk A60
      clear A60
      by_cases c7 : (t117 ++ (⟨#[45]⟩ : ByteArray)).size + t118.size ≤ 9223372036854775807
      · rw [if_pos c7] at H
        have c7b0 := eq_true c7
        have c7b1 : decide ((t117 ++ (⟨#[45]⟩ : ByteArray)).size + t118.size ≤ 9223372036854775807) = true := decide_eq_true c7
        try have c7b2 : (9223372036854775807 < (t117 ++ (⟨#[45]⟩ : ByteArray)).size + t118.size) = False := eq_false (Nat.not_lt.2 c7)
        (try (have c7b3 := c7b2; simp only [ByteArray.size_append, show (⟨#[45]⟩ : ByteArray).size = 1 from rfl] at c7b3))
        by_cases c8 : ((t117 ++ (⟨#[45]⟩ : ByteArray)) ++ t118).size + 1 ≤ 9223372036854775807
        · rw [if_pos c8] at H
          have c8b0 := eq_true c8
          have c8b1 : decide (((t117 ++ (⟨#[45]⟩ : ByteArray)) ++ t118).size + 1 ≤ 9223372036854775807) = true := decide_eq_true c8
          try have c8b2 : (9223372036854775807 < ((t117 ++ (⟨#[45]⟩ : ByteArray)) ++ t118).size + 1) = False := eq_false (Nat.not_lt.2 c8)
          (try (have c8b3 := c8b2; simp only [ByteArray.size_append, show (⟨#[45]⟩ : ByteArray).size = 1 from rfl] at c8b3))
          replace H := Option.bind_eq_some_iff.mp H
          obtain ⟨t119, A90, H⟩ := H
          replace H : (if (((t117 ++ (⟨#[45]⟩ : ByteArray)) ++ t118) ++ (⟨#[45]⟩ : ByteArray)).size + t119.size ≤ 9223372036854775807 then (if ((((t117 ++ (⟨#[45]⟩ : ByteArray)) ++ t118) ++ (⟨#[45]⟩ : ByteArray)) ++ t119).size + 1 ≤ 9223372036854775807 then ((spec_l2Pad.f k t113 2).bind fun t120 => (if (((((t117 ++ (⟨#[45]⟩ : ByteArray)) ++ t118) ++ (⟨#[45]⟩ : ByteArray)) ++ t119) ++ (⟨#[84]⟩ : ByteArray)).size + t120.size ≤ 9223372036854775807 then (if ((((((t117 ++ (⟨#[45]⟩ : ByteArray)) ++ t118) ++ (⟨#[45]⟩ : ByteArray)) ++ t119) ++ (⟨#[84]⟩ : ByteArray)) ++ t120).size + 1 ≤ 9223372036854775807 then ((spec_l2Pad.f k t114 2).bind fun t121 => (if (((((((t117 ++ (⟨#[45]⟩ : ByteArray)) ++ t118) ++ (⟨#[45]⟩ : ByteArray)) ++ t119) ++ (⟨#[84]⟩ : ByteArray)) ++ t120) ++ (⟨#[58]⟩ : ByteArray)).size + t121.size ≤ 9223372036854775807 then (if ((((((((t117 ++ (⟨#[45]⟩ : ByteArray)) ++ t118) ++ (⟨#[45]⟩ : ByteArray)) ++ t119) ++ (⟨#[84]⟩ : ByteArray)) ++ t120) ++ (⟨#[58]⟩ : ByteArray)) ++ t121).size + 1 ≤ 9223372036854775807 then (some (((((((((t117 ++ (⟨#[45]⟩ : ByteArray)) ++ t118) ++ (⟨#[45]⟩ : ByteArray)) ++ t119) ++ (⟨#[84]⟩ : ByteArray)) ++ t120) ++ (⟨#[58]⟩ : ByteArray)) ++ t121) ++ (⟨#[90]⟩ : ByteArray))) else (none)) else (none))) else (none)) else (none))) else (none)) else (none)) = some r := H
          have A9 := Aside0.mk A90
          clear A90
          by_cases c10 : (((t117 ++ (⟨#[45]⟩ : ByteArray)) ++ t118) ++ (⟨#[45]⟩ : ByteArray)).size + t119.size ≤ 9223372036854775807
          · rw [if_pos c10] at H
            have c10b0 := eq_true c10
            have c10b1 : decide ((((t117 ++ (⟨#[45]⟩ : ByteArray)) ++ t118) ++ (⟨#[45]⟩ : ByteArray)).size + t119.size ≤ 9223372036854775807) = true := decide_eq_true c10
            try have c10b2 : (9223372036854775807 < (((t117 ++ (⟨#[45]⟩ : ByteArray)) ++ t118) ++ (⟨#[45]⟩ : ByteArray)).size + t119.size) = False := eq_false (Nat.not_lt.2 c10)
            (try (have c10b3 := c10b2; simp only [ByteArray.size_append, show (⟨#[45]⟩ : ByteArray).size = 1 from rfl] at c10b3))
            by_cases c11 : ((((t117 ++ (⟨#[45]⟩ : ByteArray)) ++ t118) ++ (⟨#[45]⟩ : ByteArray)) ++ t119).size + 1 ≤ 9223372036854775807
            · rw [if_pos c11] at H
              have c11b0 := eq_true c11
              have c11b1 : decide (((((t117 ++ (⟨#[45]⟩ : ByteArray)) ++ t118) ++ (⟨#[45]⟩ : ByteArray)) ++ t119).size + 1 ≤ 9223372036854775807) = true := decide_eq_true c11
              try have c11b2 : (9223372036854775807 < ((((t117 ++ (⟨#[45]⟩ : ByteArray)) ++ t118) ++ (⟨#[45]⟩ : ByteArray)) ++ t119).size + 1) = False := eq_false (Nat.not_lt.2 c11)
              (try (have c11b3 := c11b2; simp only [ByteArray.size_append, show (⟨#[45]⟩ : ByteArray).size = 1 from rfl] at c11b3))
              replace H := Option.bind_eq_some_iff.mp H
              obtain ⟨t120, A120, H⟩ := H
              replace H : (if (((((t117 ++ (⟨#[45]⟩ : ByteArray)) ++ t118) ++ (⟨#[45]⟩ : ByteArray)) ++ t119) ++ (⟨#[84]⟩ : ByteArray)).size + t120.size ≤ 9223372036854775807 then (if ((((((t117 ++ (⟨#[45]⟩ : ByteArray)) ++ t118) ++ (⟨#[45]⟩ : ByteArray)) ++ t119) ++ (⟨#[84]⟩ : ByteArray)) ++ t120).size + 1 ≤ 9223372036854775807 then ((spec_l2Pad.f k t114 2).bind fun t121 => (if (((((((t117 ++ (⟨#[45]⟩ : ByteArray)) ++ t118) ++ (⟨#[45]⟩ : ByteArray)) ++ t119) ++ (⟨#[84]⟩ : ByteArray)) ++ t120) ++ (⟨#[58]⟩ : ByteArray)).size + t121.size ≤ 9223372036854775807 then (if ((((((((t117 ++ (⟨#[45]⟩ : ByteArray)) ++ t118) ++ (⟨#[45]⟩ : ByteArray)) ++ t119) ++ (⟨#[84]⟩ : ByteArray)) ++ t120) ++ (⟨#[58]⟩ : ByteArray)) ++ t121).size + 1 ≤ 9223372036854775807 then (some (((((((((t117 ++ (⟨#[45]⟩ : ByteArray)) ++ t118) ++ (⟨#[45]⟩ : ByteArray)) ++ t119) ++ (⟨#[84]⟩ : ByteArray)) ++ t120) ++ (⟨#[58]⟩ : ByteArray)) ++ t121) ++ (⟨#[90]⟩ : ByteArray))) else (none)) else (none))) else (none)) else (none)) = some r := H
              have A12 := Aside0.mk A120
              clear A120
              by_cases c13 : (((((t117 ++ (⟨#[45]⟩ : ByteArray)) ++ t118) ++ (⟨#[45]⟩ : ByteArray)) ++ t119) ++ (⟨#[84]⟩ : ByteArray)).size + t120.size ≤ 9223372036854775807
              · rw [if_pos c13] at H
                have c13b0 := eq_true c13
                have c13b1 : decide ((((((t117 ++ (⟨#[45]⟩ : ByteArray)) ++ t118) ++ (⟨#[45]⟩ : ByteArray)) ++ t119) ++ (⟨#[84]⟩ : ByteArray)).size + t120.size ≤ 9223372036854775807) = true := decide_eq_true c13
                try have c13b2 : (9223372036854775807 < (((((t117 ++ (⟨#[45]⟩ : ByteArray)) ++ t118) ++ (⟨#[45]⟩ : ByteArray)) ++ t119) ++ (⟨#[84]⟩ : ByteArray)).size + t120.size) = False := eq_false (Nat.not_lt.2 c13)
                (try (have c13b3 := c13b2; simp only [ByteArray.size_append, show (⟨#[45]⟩ : ByteArray).size = 1 from rfl, show (⟨#[84]⟩ : ByteArray).size = 1 from rfl] at c13b3))
                by_cases c14 : ((((((t117 ++ (⟨#[45]⟩ : ByteArray)) ++ t118) ++ (⟨#[45]⟩ : ByteArray)) ++ t119) ++ (⟨#[84]⟩ : ByteArray)) ++ t120).size + 1 ≤ 9223372036854775807
                · rw [if_pos c14] at H
                  have c14b0 := eq_true c14
                  have c14b1 : decide (((((((t117 ++ (⟨#[45]⟩ : ByteArray)) ++ t118) ++ (⟨#[45]⟩ : ByteArray)) ++ t119) ++ (⟨#[84]⟩ : ByteArray)) ++ t120).size + 1 ≤ 9223372036854775807) = true := decide_eq_true c14
                  try have c14b2 : (9223372036854775807 < ((((((t117 ++ (⟨#[45]⟩ : ByteArray)) ++ t118) ++ (⟨#[45]⟩ : ByteArray)) ++ t119) ++ (⟨#[84]⟩ : ByteArray)) ++ t120).size + 1) = False := eq_false (Nat.not_lt.2 c14)
                  (try (have c14b3 := c14b2; simp only [ByteArray.size_append, show (⟨#[45]⟩ : ByteArray).size = 1 from rfl, show (⟨#[84]⟩ : ByteArray).size = 1 from rfl] at c14b3))
                  replace H := Option.bind_eq_some_iff.mp H
                  obtain ⟨t121, A150, H⟩ := H
                  replace H : (if (((((((t117 ++ (⟨#[45]⟩ : ByteArray)) ++ t118) ++ (⟨#[45]⟩ : ByteArray)) ++ t119) ++ (⟨#[84]⟩ : ByteArray)) ++ t120) ++ (⟨#[58]⟩ : ByteArray)).size + t121.size ≤ 9223372036854775807 then (if ((((((((t117 ++ (⟨#[45]⟩ : ByteArray)) ++ t118) ++ (⟨#[45]⟩ : ByteArray)) ++ t119) ++ (⟨#[84]⟩ : ByteArray)) ++ t120) ++ (⟨#[58]⟩ : ByteArray)) ++ t121).size + 1 ≤ 9223372036854775807 then (some (((((((((t117 ++ (⟨#[45]⟩ : ByteArray)) ++ t118) ++ (⟨#[45]⟩ : ByteArray)) ++ t119) ++ (⟨#[84]⟩ : ByteArray)) ++ t120) ++ (⟨#[58]⟩ : ByteArray)) ++ t121) ++ (⟨#[90]⟩ : ByteArray))) else (none)) else (none)) = some r := H
                  have A15 := Aside0.mk A150
                  clear A150
                  by_cases c16 : (((((((t117 ++ (⟨#[45]⟩ : ByteArray)) ++ t118) ++ (⟨#[45]⟩ : ByteArray)) ++ t119) ++ (⟨#[84]⟩ : ByteArray)) ++ t120) ++ (⟨#[58]⟩ : ByteArray)).size + t121.size ≤ 9223372036854775807
                  · rw [if_pos c16] at H
                    have c16b0 := eq_true c16
                    have c16b1 : decide ((((((((t117 ++ (⟨#[45]⟩ : ByteArray)) ++ t118) ++ (⟨#[45]⟩ : ByteArray)) ++ t119) ++ (⟨#[84]⟩ : ByteArray)) ++ t120) ++ (⟨#[58]⟩ : ByteArray)).size + t121.size ≤ 9223372036854775807) = true := decide_eq_true c16
                    try have c16b2 : (9223372036854775807 < (((((((t117 ++ (⟨#[45]⟩ : ByteArray)) ++ t118) ++ (⟨#[45]⟩ : ByteArray)) ++ t119) ++ (⟨#[84]⟩ : ByteArray)) ++ t120) ++ (⟨#[58]⟩ : ByteArray)).size + t121.size) = False := eq_false (Nat.not_lt.2 c16)
                    (try (have c16b3 := c16b2; simp only [ByteArray.size_append, show (⟨#[45]⟩ : ByteArray).size = 1 from rfl, show (⟨#[58]⟩ : ByteArray).size = 1 from rfl, show (⟨#[84]⟩ : ByteArray).size = 1 from rfl] at c16b3))
                    by_cases c17 : ((((((((t117 ++ (⟨#[45]⟩ : ByteArray)) ++ t118) ++ (⟨#[45]⟩ : ByteArray)) ++ t119) ++ (⟨#[84]⟩ : ByteArray)) ++ t120) ++ (⟨#[58]⟩ : ByteArray)) ++ t121).size + 1 ≤ 9223372036854775807
                    · rw [if_pos c17] at H
                      have c17b0 := eq_true c17
                      have c17b1 : decide (((((((((t117 ++ (⟨#[45]⟩ : ByteArray)) ++ t118) ++ (⟨#[45]⟩ : ByteArray)) ++ t119) ++ (⟨#[84]⟩ : ByteArray)) ++ t120) ++ (⟨#[58]⟩ : ByteArray)) ++ t121).size + 1 ≤ 9223372036854775807) = true := decide_eq_true c17
                      try have c17b2 : (9223372036854775807 < ((((((((t117 ++ (⟨#[45]⟩ : ByteArray)) ++ t118) ++ (⟨#[45]⟩ : ByteArray)) ++ t119) ++ (⟨#[84]⟩ : ByteArray)) ++ t120) ++ (⟨#[58]⟩ : ByteArray)) ++ t121).size + 1) = False := eq_false (Nat.not_lt.2 c17)
                      (try (have c17b3 := c17b2; simp only [ByteArray.size_append, show (⟨#[45]⟩ : ByteArray).size = 1 from rfl, show (⟨#[58]⟩ : ByteArray).size = 1 from rfl, show (⟨#[84]⟩ : ByteArray).size = 1 from rfl] at c17b3))
                      obtain rfl := Option.some.inj H
                      go_enter Tryd.func8, Tryd.ntmps8
                      try go_wp2_with (first | ((with_reducible refine gate_callee (f := 15) rfl ?_); refine goesL_ (some 7) rfl rfl Tryd.func15 (by kernel_rfl) rfl #[.int .i64 a0] rfl (by (try simp only [List.map_toArray, List.map_cons, List.map_nil]); first | done | rfl | (simp only [List.length_drop, List.length_take]; rfl)) ?_; (with_reducible refine (spec_DateOf.calls k a0 t110 t111 t112 t113 t114 true _ A2.out).mono ?_); rintro e w18 ⟨rfl, hb⟩; refine ⟨_, rfl, ?_⟩; have n0_ := Aside0.mk (below_step (by repeat (first | (with_reducible first | exact HB.out | apply below_alloc | apply pw_below_drewN | apply below_drew1) | exact HB.out)) hb); clear HB; have HB := n0_; clear n0_; (try clear hb); (try clear hb2); (try clear hk); (try clear hi)) | ((with_reducible refine gate_dst (N := 3) rfl ?_); refine box_event ?hg (N := 3) ?hd (cs := #[.int .i64 0, .int .i64 0, .int .i64 0, .int .i64 0, .int .i64 0]) (t := 34) ?hr ?_; (case hd => rfl); (case hg => rfl); (case hr => first | (go_simp; done) | (go_simp; rfl)); intro gb116 hg w19 hbox hb; have n0_ := Aside0.mk (below_step (by repeat (first | (with_reducible first | exact HB.out | apply below_alloc | apply pw_below_drewN | apply below_drew1) | exact HB.out)) hb); have n1_ := Aside0.mk (hbox); have n2_ := Aside0.mk ((by rw [hg]; exact (below_size (by repeat (first | (with_reducible first | exact HB.out | apply below_alloc | apply pw_below_drewN | apply below_drew1) | exact HB.out))) : w.heap.size ≤ gb116)); have n3_ := Aside0.mk ((by rw [hg]; exact (below_size (by repeat (first | (with_reducible first | exact HB.out | apply below_alloc | apply pw_below_drewN | apply below_drew1) | exact HB.out))) : w.heap.size ≤ gb116)); clear HB; have HB := n0_; have BK116 := n1_; have GW116 := n2_; have GE116 := n3_; clear n0_ n1_ n2_ n3_; clear hb hbox hg; have hcz20_0 : w19.cell? ⟨gb116, 0, none⟩ = some (.int .i64 0) := (blk_cell BK116.out 0).trans rfl; have hcz20_1 : w19.cell? ⟨gb116, 1, none⟩ = some (.int .i64 0) := (blk_cell BK116.out 1).trans rfl; have hcz20_2 : w19.cell? ⟨gb116, 2, none⟩ = some (.int .i64 0) := (blk_cell BK116.out 2).trans rfl; have hcz20_3 : w19.cell? ⟨gb116, 3, none⟩ = some (.int .i64 0) := (blk_cell BK116.out 3).trans rfl; have hcz20_4 : w19.cell? ⟨gb116, 4, none⟩ = some (.int .i64 0) := (blk_cell BK116.out 4).trans rfl; have hfz20_0 := blk_frozen BK116.out 0; have hfz20_1 := blk_frozen BK116.out 1; have hfz20_2 := blk_frozen BK116.out 2; have hfz20_3 := blk_frozen BK116.out 3; have hfz20_4 := blk_frozen BK116.out 4))
                      have n0_ : Aside0 ((((((w19.setCell ⟨gb116, 0, none⟩ (.int .i64 t110)).setCell ⟨gb116, 1, none⟩ (.int .i64 t111)).setCell ⟨gb116, 2, none⟩ (.int .i64 t112)).setCell ⟨gb116, 3, none⟩ (.int .i64 t113)).setCell ⟨gb116, 4, none⟩ (.int .i64 t114)).heap[gb116]? = some (.cells #[.int .i64 t110, .int .i64 t111, .int .i64 t112, .int .i64 t113, .int .i64 t114] 34 (0, 0))) := ⟨by (with_reducible repeat (first | refine blk_drewN ?_ _ | refine blk_drew ?_ | refine blk_alloc ?_ _)); refine blk_put (cs := #[.int .i64 t110, .int .i64 t111, .int .i64 t112, .int .i64 t113, .int .i64 0]) ?_ 4 _ rfl; (with_reducible repeat (first | refine blk_drewN ?_ _ | refine blk_drew ?_ | refine blk_alloc ?_ _)); refine blk_put (cs := #[.int .i64 t110, .int .i64 t111, .int .i64 t112, .int .i64 0, .int .i64 0]) ?_ 3 _ rfl; (with_reducible repeat (first | refine blk_drewN ?_ _ | refine blk_drew ?_ | refine blk_alloc ?_ _)); refine blk_put (cs := #[.int .i64 t110, .int .i64 t111, .int .i64 0, .int .i64 0, .int .i64 0]) ?_ 2 _ rfl; (with_reducible repeat (first | refine blk_drewN ?_ _ | refine blk_drew ?_ | refine blk_alloc ?_ _)); refine blk_put (cs := #[.int .i64 t110, .int .i64 0, .int .i64 0, .int .i64 0, .int .i64 0]) ?_ 1 _ rfl; (with_reducible repeat (first | refine blk_drewN ?_ _ | refine blk_drew ?_ | refine blk_alloc ?_ _)); refine blk_put (cs := #[.int .i64 0, .int .i64 0, .int .i64 0, .int .i64 0, .int .i64 0]) ?_ 0 _ rfl; (with_reducible repeat (first | refine blk_drewN ?_ _ | refine blk_drew ?_ | refine blk_alloc ?_ _)); exact BK116.out⟩
                      have n1_ : Aside0 (Below w.heap.size w (((((w19.setCell ⟨gb116, 0, none⟩ (.int .i64 t110)).setCell ⟨gb116, 1, none⟩ (.int .i64 t111)).setCell ⟨gb116, 2, none⟩ (.int .i64 t112)).setCell ⟨gb116, 3, none⟩ (.int .i64 t113)).setCell ⟨gb116, 4, none⟩ (.int .i64 t114))) := ⟨by repeat (first | (with_reducible first | exact HB.out | apply below_alloc | apply pw_below_drewN | apply below_drew1 | refine below_set ?_ GE116.out) | exact HB.out)⟩
                      (try clear BK116)
                      (try clear HB)
                      generalize (((((w19.setCell ⟨gb116, 0, none⟩ (.int .i64 t110)).setCell ⟨gb116, 1, none⟩ (.int .i64 t111)).setCell ⟨gb116, 2, none⟩ (.int .i64 t112)).setCell ⟨gb116, 3, none⟩ (.int .i64 t113)).setCell ⟨gb116, 4, none⟩ (.int .i64 t114)) = w21 at n0_ n1_ ⊢
                      have BK116 := n0_
                      have HB := n1_
                      clear n0_ n1_
                      have n0_ := Aside0.mk (blk_drew BK116.out)
                      have n1_ := Aside0.mk (below_drew1 HB.out)
                      clear BK116
                      clear HB
                      have BK116 := n0_
                      have HB := n1_
                      clear n0_ n1_
                      refine start_ (n := 25) (S := fun w' => w'.cell? ⟨gb116, 0, none⟩ = some (.int .i64 t110) ∧ w'.cell? ⟨gb116, 1, none⟩ = some (.int .i64 t111) ∧ w'.cell? ⟨gb116, 2, none⟩ = some (.int .i64 t112) ∧ w'.cell? ⟨gb116, 3, none⟩ = some (.int .i64 t113) ∧ w'.cell? ⟨gb116, 4, none⟩ = some (.int .i64 t114)) (ds := []) #[false, false, false, false, false, false, false, false, false, false, false, false, false, false, false, false, false, false, false, false, false, false, false, false, false] (by kernel_rfl) rfl rfl ⟨(blk_cell BK116.out 0).trans rfl, (blk_cell BK116.out 1).trans rfl, (blk_cell BK116.out 2).trans rfl, (blk_cell BK116.out 3).trans rfl, (blk_cell BK116.out 4).trans rfl⟩ (fun hHeld => ?_); refine with_tabW spec_Stamp.tab4 spec_Stamp.bits4 (fun HT_ HW_ => ?_)
                      generalize w21.drew = w22 at BK116 HB hHeld ⊢
                      refine pure_ (i := 0) (N := some 12) (v := ?_) (a' := ?_) #[true, false, false, false, false, false, false, false, false, false, false, false, false, false, false, false, false, false, false, false, false, false, false, false, false] rfl rfl (any_of HT_.out (by kernel_rfl)) (fun _ _ _ h => h) (Or.inl ⟨by rfl, ?_⟩) ?_ ?_
                      rotate_left
                      · intro w'
                        go_simp
                        with_reducible rfl
                      rotate_left
                      · simp only [Act.put, List.setIfInBounds_toArray, List.set_cons_zero, List.set_cons_succ, i64_w, i32_w]
                        rfl
                      refine pure_ (i := 4) (N := some 16) (v := ?_) (a' := ?_) #[true, false, false, false, true, false, false, false, false, false, false, false, false, false, false, false, false, false, false, false, false, false, false, false, false] rfl rfl (any_of HT_.out (by kernel_rfl)) (fun _ _ _ h => h) (Or.inl ⟨by rfl, ?_⟩) ?_ ?_
                      rotate_left
                      · intro w'
                        go_simp
                        with_reducible rfl
                      rotate_left
                      · simp only [Act.put, List.setIfInBounds_toArray, List.set_cons_zero, List.set_cons_succ, i64_w, i32_w]
                        rfl
                      refine pure_ (i := 9) (N := some 21) (v := ?_) (a' := ?_) #[true, false, false, false, true, false, false, false, false, true, false, false, false, false, false, false, false, false, false, false, false, false, false, false, false] rfl rfl (any_of HT_.out (by kernel_rfl)) (fun _ _ _ h => h) (Or.inl ⟨by rfl, ?_⟩) ?_ ?_
                      rotate_left
                      · intro w'
                        go_simp
                        with_reducible rfl
                      rotate_left
                      · simp only [Act.put, List.setIfInBounds_toArray, List.set_cons_zero, List.set_cons_succ, i64_w, i32_w]
                        rfl
                      refine pure_ (i := 14) (N := some 26) (v := ?_) (a' := ?_) #[true, false, false, false, true, false, false, false, false, true, false, false, false, false, true, false, false, false, false, false, false, false, false, false, false] rfl rfl (any_of HT_.out (by kernel_rfl)) (fun _ _ _ h => h) (Or.inl ⟨by rfl, ?_⟩) ?_ ?_
                      rotate_left
                      · intro w'
                        go_simp
                        with_reducible rfl
                      rotate_left
                      · simp only [Act.put, List.setIfInBounds_toArray, List.set_cons_zero, List.set_cons_succ, i64_w, i32_w]
                        rfl
                      refine pure_ (i := 19) (N := some 31) (v := ?_) (a' := ?_) #[true, false, false, false, true, false, false, false, false, true, false, false, false, false, true, false, false, false, false, true, false, false, false, false, false] rfl rfl (any_of HT_.out (by kernel_rfl)) (fun _ _ _ h => h) (Or.inl ⟨by rfl, ?_⟩) ?_ ?_
                      rotate_left
                      · intro w'
                        go_simp
                        with_reducible rfl
                      rotate_left
                      · simp only [Act.put, List.setIfInBounds_toArray, List.set_cons_zero, List.set_cons_succ, i64_w, i32_w]
                        rfl
                      refine take_ (i := 1) (N := some 13) (v := ?_) (a' := ?_) #[true, true, false, false, true, false, false, false, false, true, false, false, false, false, true, false, false, false, false, true, false, false, false, false, false] rfl rfl (take_ofW HT_.out HW_.out (by kernel_rfl)) (fun _ _ _ h => h) (Or.inl ⟨by rfl, ?_⟩) hHeld ?_ ?_
                      rotate_left
                      · rintro w' ⟨s0, s1, s2, s3, s4⟩
                        go_simp
                        with_reducible rfl
                      rotate_left
                      · simp only [Act.put, List.setIfInBounds_toArray, List.set_cons_zero, List.set_cons_succ, i64_w, i32_w]
                        rfl
                      refine take_ (i := 5) (N := some 17) (v := ?_) (a' := ?_) #[true, true, false, false, true, true, false, false, false, true, false, false, false, false, true, false, false, false, false, true, false, false, false, false, false] rfl rfl (take_ofW HT_.out HW_.out (by kernel_rfl)) (fun _ _ _ h => h) (Or.inl ⟨by rfl, ?_⟩) hHeld ?_ ?_
                      rotate_left
                      · rintro w' ⟨s0, s1, s2, s3, s4⟩
                        go_simp
                        with_reducible rfl
                      rotate_left
                      · simp only [Act.put, List.setIfInBounds_toArray, List.set_cons_zero, List.set_cons_succ, i64_w, i32_w]
                        rfl
                      refine take_ (i := 10) (N := some 22) (v := ?_) (a' := ?_) #[true, true, false, false, true, true, false, false, false, true, true, false, false, false, true, false, false, false, false, true, false, false, false, false, false] rfl rfl (take_ofW HT_.out HW_.out (by kernel_rfl)) (fun _ _ _ h => h) (Or.inl ⟨by rfl, ?_⟩) hHeld ?_ ?_
                      rotate_left
                      · rintro w' ⟨s0, s1, s2, s3, s4⟩
                        go_simp
                        with_reducible rfl
                      rotate_left
                      · simp only [Act.put, List.setIfInBounds_toArray, List.set_cons_zero, List.set_cons_succ, i64_w, i32_w]
                        rfl
                      refine take_ (i := 15) (N := some 27) (v := ?_) (a' := ?_) #[true, true, false, false, true, true, false, false, false, true, true, false, false, false, true, true, false, false, false, true, false, false, false, false, false] rfl rfl (take_ofW HT_.out HW_.out (by kernel_rfl)) (fun _ _ _ h => h) (Or.inl ⟨by rfl, ?_⟩) hHeld ?_ ?_
                      rotate_left
                      · rintro w' ⟨s0, s1, s2, s3, s4⟩
                        go_simp
                        with_reducible rfl
                      rotate_left
                      · simp only [Act.put, List.setIfInBounds_toArray, List.set_cons_zero, List.set_cons_succ, i64_w, i32_w]
                        rfl
                      refine take_ (i := 20) (N := some 32) (v := ?_) (a' := ?_) #[true, true, false, false, true, true, false, false, false, true, true, false, false, false, true, true, false, false, false, true, true, false, false, false, false] rfl rfl (take_ofW HT_.out HW_.out (by kernel_rfl)) (fun _ _ _ h => h) (Or.inl ⟨by rfl, ?_⟩) hHeld ?_ ?_
                      rotate_left
                      · rintro w' ⟨s0, s1, s2, s3, s4⟩
                        go_simp
                        with_reducible rfl
                      rotate_left
                      · simp only [Act.put, List.setIfInBounds_toArray, List.set_cons_zero, List.set_cons_succ, i64_w, i32_w]
                        rfl
                      refine one_ (i := 2) (N := some 14) #[true, true, true, false, true, true, false, false, false, true, true, false, false, false, true, true, false, false, false, true, true, false, false, false, false] rfl rfl (one_of HT_.out (by kernel_rfl)) (by decide) (fun K hK => ?_)
                      refine goes_ Tryd.func16 (by kernel_rfl) rfl #[.int .i64 t110, .int .i64 4] (by rfl) rfl rfl (by (try simp only [List.map_toArray, List.map_cons, List.map_nil]); first | done | rfl | (simp only [List.length_drop, List.length_take]; rfl)) ?_
                      with_reducible refine (spec_l2Pad.calls k t110 4 t117 _ A4.out).mono ?_
                      rintro e w23 ⟨rfl, hb⟩
                      refine ⟨_, rfl, ?_⟩
                      have n0_ := Aside0.mk (blk_below (g := gb116) (o := .cells #[.int .i64 t110, .int .i64 t111, .int .i64 t112, .int .i64 t113, .int .i64 t114] 34 (0, 0)) (by (with_reducible repeat (first | refine blk_drewN ?_ _ | refine blk_drew ?_ | refine blk_alloc ?_ _)); exact BK116.out) hb)
                      have n1_ := Aside0.mk (below_step (by repeat (first | (with_reducible first | exact HB.out | apply below_alloc | apply pw_below_drewN | apply below_drew1 | refine below_set ?_ GE116.out) | exact HB.out)) hb)
                      clear BK116
                      clear HB
                      have BK116 := n0_
                      have HB := n1_
                      clear n0_ n1_
                      (try clear hb)
                      (try clear hb2)
                      (try clear hk)
                      (try clear hi)
                      refine hK.out _ _ ⟨(blk_cell BK116.out 0).trans rfl, (blk_cell BK116.out 1).trans rfl, (blk_cell BK116.out 2).trans rfl, (blk_cell BK116.out 3).trans rfl, (blk_cell BK116.out 4).trans rfl⟩ (fun hHeld => ?_)
                      clear hK K
                      refine norm_ (a' := ?_) ?_ ?_
                      rotate_left
                      · show Act.put _ (some 14) _ = _
                        simp only [Act.put, List.setIfInBounds_toArray, List.set_cons_zero, List.set_cons_succ, i64_w, i32_w]
                        rfl
                      refine pure_ (i := 3) (N := some 15) (v := ?_) (a' := ?_) #[true, true, true, true, true, true, false, false, false, true, true, false, false, false, true, true, false, false, false, true, true, false, false, false, false] rfl rfl (any_of HT_.out (by kernel_rfl)) (fun _ _ _ h => h) (Or.inl ⟨by rfl, ?_⟩) ?_ ?_
                      rotate_left
                      · intro w'
                        go_simp
                        with_reducible rfl
                      rotate_left
                      · simp only [Act.put, List.setIfInBounds_toArray, List.set_cons_zero, List.set_cons_succ, i64_w, i32_w]
                        rfl
                      refine one_ (i := 6) (N := some 18) #[true, true, true, true, true, true, true, false, false, true, true, false, false, false, true, true, false, false, false, true, true, false, false, false, false] rfl rfl (one_of HT_.out (by kernel_rfl)) (by decide) (fun K hK => ?_)
                      refine goes_ Tryd.func16 (by kernel_rfl) rfl #[.int .i64 t111, .int .i64 2] (by rfl) rfl rfl (by (try simp only [List.map_toArray, List.map_cons, List.map_nil]); first | done | rfl | (simp only [List.length_drop, List.length_take]; rfl)) ?_
                      with_reducible refine (spec_l2Pad.calls k t111 2 t118 _ A6.out).mono ?_
                      rintro e w24 ⟨rfl, hb⟩
                      refine ⟨_, rfl, ?_⟩
                      have n0_ := Aside0.mk (blk_below (g := gb116) (o := .cells #[.int .i64 t110, .int .i64 t111, .int .i64 t112, .int .i64 t113, .int .i64 t114] 34 (0, 0)) (by (with_reducible repeat (first | refine blk_drewN ?_ _ | refine blk_drew ?_ | refine blk_alloc ?_ _)); exact BK116.out) hb)
                      have n1_ := Aside0.mk (below_step (by repeat (first | (with_reducible first | exact HB.out | apply below_alloc | apply pw_below_drewN | apply below_drew1 | refine below_set ?_ GE116.out) | exact HB.out)) hb)
                      clear BK116
                      clear HB
                      have BK116 := n0_
                      have HB := n1_
                      clear n0_ n1_
                      (try clear hb)
                      (try clear hb2)
                      (try clear hk)
                      (try clear hi)
                      refine hK.out _ _ ⟨(blk_cell BK116.out 0).trans rfl, (blk_cell BK116.out 1).trans rfl, (blk_cell BK116.out 2).trans rfl, (blk_cell BK116.out 3).trans rfl, (blk_cell BK116.out 4).trans rfl⟩ (fun hHeld => ?_)
                      clear hK K
                      refine norm_ (a' := ?_) ?_ ?_
                      rotate_left
                      · show Act.put _ (some 18) _ = _
                        simp only [Act.put, List.setIfInBounds_toArray, List.set_cons_zero, List.set_cons_succ, i64_w, i32_w]
                        rfl
                      refine pure_ (i := 7) (N := some 19) (v := ?_) (a' := ?_) #[true, true, true, true, true, true, true, true, false, true, true, false, false, false, true, true, false, false, false, true, true, false, false, false, false] rfl rfl (any_of HT_.out (by kernel_rfl)) (fun _ _ _ h => h) (Or.inl ⟨by rfl, ?_⟩) ?_ ?_
                      rotate_left
                      · intro w'
                        go_simp
                        with_reducible rfl
                      rotate_left
                      · simp only [Act.put, List.setIfInBounds_toArray, List.set_cons_zero, List.set_cons_succ, i64_w, i32_w]
                        rfl
                      refine pure_ (i := 8) (N := some 20) (v := ?_) (a' := ?_) #[true, true, true, true, true, true, true, true, true, true, true, false, false, false, true, true, false, false, false, true, true, false, false, false, false] rfl rfl (any_of HT_.out (by kernel_rfl)) (fun _ _ _ h => h) (Or.inl ⟨by rfl, ?_⟩) ?_ ?_
                      rotate_left
                      · intro w'
                        go_simp
                        with_reducible rfl
                      rotate_left
                      · simp only [Act.put, List.setIfInBounds_toArray, List.set_cons_zero, List.set_cons_succ, i64_w, i32_w]
                        rfl
                      refine one_ (i := 11) (N := some 23) #[true, true, true, true, true, true, true, true, true, true, true, true, false, false, true, true, false, false, false, true, true, false, false, false, false] rfl rfl (one_of HT_.out (by kernel_rfl)) (by decide) (fun K hK => ?_)
                      refine goes_ Tryd.func16 (by kernel_rfl) rfl #[.int .i64 t112, .int .i64 2] (by rfl) rfl rfl (by (try simp only [List.map_toArray, List.map_cons, List.map_nil]); first | done | rfl | (simp only [List.length_drop, List.length_take]; rfl)) ?_
                      with_reducible refine (spec_l2Pad.calls k t112 2 t119 _ A9.out).mono ?_
                      rintro e w25 ⟨rfl, hb⟩
                      refine ⟨_, rfl, ?_⟩
                      have n0_ := Aside0.mk (blk_below (g := gb116) (o := .cells #[.int .i64 t110, .int .i64 t111, .int .i64 t112, .int .i64 t113, .int .i64 t114] 34 (0, 0)) (by (with_reducible repeat (first | refine blk_drewN ?_ _ | refine blk_drew ?_ | refine blk_alloc ?_ _)); exact BK116.out) hb)
                      have n1_ := Aside0.mk (below_step (by repeat (first | (with_reducible first | exact HB.out | apply below_alloc | apply pw_below_drewN | apply below_drew1 | refine below_set ?_ GE116.out) | exact HB.out)) hb)
                      clear BK116
                      clear HB
                      have BK116 := n0_
                      have HB := n1_
                      clear n0_ n1_
                      (try clear hb)
                      (try clear hb2)
                      (try clear hk)
                      (try clear hi)
                      refine hK.out _ _ ⟨(blk_cell BK116.out 0).trans rfl, (blk_cell BK116.out 1).trans rfl, (blk_cell BK116.out 2).trans rfl, (blk_cell BK116.out 3).trans rfl, (blk_cell BK116.out 4).trans rfl⟩ (fun hHeld => ?_)
                      clear hK K
                      refine norm_ (a' := ?_) ?_ ?_
                      rotate_left
                      · show Act.put _ (some 23) _ = _
                        simp only [Act.put, List.setIfInBounds_toArray, List.set_cons_zero, List.set_cons_succ, i64_w, i32_w]
                        rfl
                      refine pure_ (i := 12) (N := some 24) (v := ?_) (a' := ?_) #[true, true, true, true, true, true, true, true, true, true, true, true, true, false, true, true, false, false, false, true, true, false, false, false, false] rfl rfl (any_of HT_.out (by kernel_rfl)) (fun _ _ _ h => h) (Or.inl ⟨by rfl, ?_⟩) ?_ ?_
                      rotate_left
                      · intro w'
                        go_simp
                        with_reducible rfl
                      rotate_left
                      · simp only [Act.put, List.setIfInBounds_toArray, List.set_cons_zero, List.set_cons_succ, i64_w, i32_w]
                        rfl
                      refine pure_ (i := 13) (N := some 25) (v := ?_) (a' := ?_) #[true, true, true, true, true, true, true, true, true, true, true, true, true, true, true, true, false, false, false, true, true, false, false, false, false] rfl rfl (any_of HT_.out (by kernel_rfl)) (fun _ _ _ h => h) (Or.inl ⟨by rfl, ?_⟩) ?_ ?_
                      rotate_left
                      · intro w'
                        go_simp
                        with_reducible rfl
                      rotate_left
                      · simp only [Act.put, List.setIfInBounds_toArray, List.set_cons_zero, List.set_cons_succ, i64_w, i32_w]
                        rfl
                      refine one_ (i := 16) (N := some 28) #[true, true, true, true, true, true, true, true, true, true, true, true, true, true, true, true, true, false, false, true, true, false, false, false, false] rfl rfl (one_of HT_.out (by kernel_rfl)) (by decide) (fun K hK => ?_)
                      refine goes_ Tryd.func16 (by kernel_rfl) rfl #[.int .i64 t113, .int .i64 2] (by rfl) rfl rfl (by (try simp only [List.map_toArray, List.map_cons, List.map_nil]); first | done | rfl | (simp only [List.length_drop, List.length_take]; rfl)) ?_
                      with_reducible refine (spec_l2Pad.calls k t113 2 t120 _ A12.out).mono ?_
                      rintro e w26 ⟨rfl, hb⟩
                      refine ⟨_, rfl, ?_⟩
                      have n0_ := Aside0.mk (blk_below (g := gb116) (o := .cells #[.int .i64 t110, .int .i64 t111, .int .i64 t112, .int .i64 t113, .int .i64 t114] 34 (0, 0)) (by (with_reducible repeat (first | refine blk_drewN ?_ _ | refine blk_drew ?_ | refine blk_alloc ?_ _)); exact BK116.out) hb)
                      have n1_ := Aside0.mk (below_step (by repeat (first | (with_reducible first | exact HB.out | apply below_alloc | apply pw_below_drewN | apply below_drew1 | refine below_set ?_ GE116.out) | exact HB.out)) hb)
                      clear BK116
                      clear HB
                      have BK116 := n0_
                      have HB := n1_
                      clear n0_ n1_
                      (try clear hb)
                      (try clear hb2)
                      (try clear hk)
                      (try clear hi)
                      refine hK.out _ _ ⟨(blk_cell BK116.out 0).trans rfl, (blk_cell BK116.out 1).trans rfl, (blk_cell BK116.out 2).trans rfl, (blk_cell BK116.out 3).trans rfl, (blk_cell BK116.out 4).trans rfl⟩ (fun hHeld => ?_)
                      clear hK K
                      refine norm_ (a' := ?_) ?_ ?_
                      rotate_left
                      · show Act.put _ (some 28) _ = _
                        simp only [Act.put, List.setIfInBounds_toArray, List.set_cons_zero, List.set_cons_succ, i64_w, i32_w]
                        rfl
                      refine pure_ (i := 17) (N := some 29) (v := ?_) (a' := ?_) #[true, true, true, true, true, true, true, true, true, true, true, true, true, true, true, true, true, true, false, true, true, false, false, false, false] rfl rfl (any_of HT_.out (by kernel_rfl)) (fun _ _ _ h => h) (Or.inl ⟨by rfl, ?_⟩) ?_ ?_
                      rotate_left
                      · intro w'
                        go_simp
                        with_reducible rfl
                      rotate_left
                      · simp only [Act.put, List.setIfInBounds_toArray, List.set_cons_zero, List.set_cons_succ, i64_w, i32_w]
                        rfl
                      refine pure_ (i := 18) (N := some 30) (v := ?_) (a' := ?_) #[true, true, true, true, true, true, true, true, true, true, true, true, true, true, true, true, true, true, true, true, true, false, false, false, false] rfl rfl (any_of HT_.out (by kernel_rfl)) (fun _ _ _ h => h) (Or.inl ⟨by rfl, ?_⟩) ?_ ?_
                      rotate_left
                      · intro w'
                        go_simp
                        with_reducible rfl
                      rotate_left
                      · simp only [Act.put, List.setIfInBounds_toArray, List.set_cons_zero, List.set_cons_succ, i64_w, i32_w]
                        rfl
                      refine one_ (i := 21) (N := some 33) #[true, true, true, true, true, true, true, true, true, true, true, true, true, true, true, true, true, true, true, true, true, true, false, false, false] rfl rfl (one_of HT_.out (by kernel_rfl)) (by decide) (fun K hK => ?_)
                      refine goes_ Tryd.func16 (by kernel_rfl) rfl #[.int .i64 t114, .int .i64 2] (by rfl) rfl rfl (by (try simp only [List.map_toArray, List.map_cons, List.map_nil]); first | done | rfl | (simp only [List.length_drop, List.length_take]; rfl)) ?_
                      with_reducible refine (spec_l2Pad.calls k t114 2 t121 _ A15.out).mono ?_
                      rintro e w27 ⟨rfl, hb⟩
                      refine ⟨_, rfl, ?_⟩
                      have n0_ := Aside0.mk (blk_below (g := gb116) (o := .cells #[.int .i64 t110, .int .i64 t111, .int .i64 t112, .int .i64 t113, .int .i64 t114] 34 (0, 0)) (by (with_reducible repeat (first | refine blk_drewN ?_ _ | refine blk_drew ?_ | refine blk_alloc ?_ _)); exact BK116.out) hb)
                      have n1_ := Aside0.mk (below_step (by repeat (first | (with_reducible first | exact HB.out | apply below_alloc | apply pw_below_drewN | apply below_drew1 | refine below_set ?_ GE116.out) | exact HB.out)) hb)
                      clear BK116
                      clear HB
                      have BK116 := n0_
                      have HB := n1_
                      clear n0_ n1_
                      (try clear hb)
                      (try clear hb2)
                      (try clear hk)
                      (try clear hi)
                      refine hK.out _ _ ⟨(blk_cell BK116.out 0).trans rfl, (blk_cell BK116.out 1).trans rfl, (blk_cell BK116.out 2).trans rfl, (blk_cell BK116.out 3).trans rfl, (blk_cell BK116.out 4).trans rfl⟩ (fun hHeld => ?_)
                      clear hK K
                      refine norm_ (a' := ?_) ?_ ?_
                      rotate_left
                      · show Act.put _ (some 33) _ = _
                        simp only [Act.put, List.setIfInBounds_toArray, List.set_cons_zero, List.set_cons_succ, i64_w, i32_w]
                        rfl
                      refine pure_ (i := 22) (N := some 34) (v := ?_) (a' := ?_) #[true, true, true, true, true, true, true, true, true, true, true, true, true, true, true, true, true, true, true, true, true, true, true, false, false] rfl rfl (any_of HT_.out (by kernel_rfl)) (fun _ _ _ h => h) (Or.inl ⟨by rfl, ?_⟩) ?_ ?_
                      rotate_left
                      · intro w'
                        go_simp
                        with_reducible rfl
                      rotate_left
                      · simp only [Act.put, List.setIfInBounds_toArray, List.set_cons_zero, List.set_cons_succ, i64_w, i32_w]
                        rfl
                      refine pure_ (i := 23) (N := some 35) (v := ?_) (a' := ?_) #[true, true, true, true, true, true, true, true, true, true, true, true, true, true, true, true, true, true, true, true, true, true, true, true, false] rfl rfl (any_of HT_.out (by kernel_rfl)) (fun _ _ _ h => h) (Or.inl ⟨by rfl, ?_⟩) ?_ ?_
                      rotate_left
                      · intro w'
                        go_simp
                        with_reducible rfl
                      rotate_left
                      · simp only [Act.put, List.setIfInBounds_toArray, List.set_cons_zero, List.set_cons_succ, i64_w, i32_w]
                        rfl
                      refine pure_ (i := 24) (N := some 2) (v := ?_) (a' := ?_) #[true, true, true, true, true, true, true, true, true, true, true, true, true, true, true, true, true, true, true, true, true, true, true, true, true] rfl rfl (any_of HT_.out (by kernel_rfl)) (fun _ _ _ h => h) (Or.inl ⟨by rfl, ?_⟩) ?_ ?_
                      rotate_left
                      · intro w'
                        go_simp
                        with_reducible rfl
                      rotate_left
                      · simp only [Act.put, List.setIfInBounds_toArray, List.set_cons_zero, List.set_cons_succ, i64_w, i32_w]
                        rfl
                      refine done_ (done_of HT_.out (by kernel_rfl)) ?_
                      try go_wp2
                      go_ret
                      exact ⟨by first | rfl | (simp [errW_none, errW_some] <;> rfl) | (simp [*, errW_none, errW_some] <;> rfl), by repeat (first | (with_reducible first | exact HB.out | apply below_alloc | apply pw_below_drewN | apply below_drew1 | refine below_set ?_ GE116.out) | exact HB.out)⟩
                    · rw [if_neg c17] at H
                      exact absurd H (by simp)
                  · rw [if_neg c16] at H
                    exact absurd H (by simp)
                · rw [if_neg c14] at H
                  exact absurd H (by simp)
              · rw [if_neg c13] at H
                exact absurd H (by simp)
            · rw [if_neg c11] at H
              exact absurd H (by simp)
          · rw [if_neg c10] at H
            exact absurd H (by simp)
        · rw [if_neg c8] at H
          exact absurd H (by simp)
      · rw [if_neg c7] at H
        exact absurd H (by simp)
    · rw [if_neg c5] at H
      exact absurd H (by simp)
  · replace c3 := Bool.eq_false_iff.mpr c3
    subst c3
    have H1 : (some (⟨#[]⟩ : ByteArray)) = some r := by rw [if_neg (show ¬ (false = true) by decide)] at H; exact H
    clear H
    have H := H1
    clear H1
    obtain rfl := Option.some.inj H
    go_enter Tryd.func8, Tryd.ntmps8
    go_wp2_with (first | ((with_reducible refine gate_callee (f := 15) rfl ?_); refine goesL_ (some 7) rfl rfl Tryd.func15 (by kernel_rfl) rfl #[.int .i64 a0] rfl (by (try simp only [List.map_toArray, List.map_cons, List.map_nil]); first | done | rfl | (simp only [List.length_drop, List.length_take]; rfl)) ?_; (with_reducible refine (spec_DateOf.calls k a0 t110 t111 t112 t113 t114 false _ A2.out).mono ?_); rintro e w28 ⟨rfl, hb⟩; refine ⟨_, rfl, ?_⟩; have n0_ := Aside0.mk (below_step (by repeat (first | (with_reducible first | exact HB.out | apply below_alloc | apply pw_below_drewN | apply below_drew1) | exact HB.out)) hb); clear HB; have HB := n0_; clear n0_; (try clear hb); (try clear hb2); (try clear hk); (try clear hi)) | ((with_reducible refine gate_dst (N := 3) rfl ?_); refine box_event ?hg (N := 3) ?hd (cs := #[.int .i64 0, .int .i64 0, .int .i64 0, .int .i64 0, .int .i64 0]) (t := 34) ?hr ?_; (case hd => rfl); (case hg => rfl); (case hr => first | (go_simp; done) | (go_simp; rfl)); intro gb116 hg w29 hbox hb; have n0_ := Aside0.mk (below_step (by repeat (first | (with_reducible first | exact HB.out | apply below_alloc | apply pw_below_drewN | apply below_drew1) | exact HB.out)) hb); have n1_ := Aside0.mk (hbox); have n2_ := Aside0.mk ((by rw [hg]; exact (below_size (by repeat (first | (with_reducible first | exact HB.out | apply below_alloc | apply pw_below_drewN | apply below_drew1) | exact HB.out))) : w.heap.size ≤ gb116)); have n3_ := Aside0.mk ((by rw [hg]; exact (below_size (by repeat (first | (with_reducible first | exact HB.out | apply below_alloc | apply pw_below_drewN | apply below_drew1) | exact HB.out))) : w.heap.size ≤ gb116)); clear HB; have HB := n0_; have BK116 := n1_; have GW116 := n2_; have GE116 := n3_; clear n0_ n1_ n2_ n3_; clear hb hbox hg; have hcz30_0 : w29.cell? ⟨gb116, 0, none⟩ = some (.int .i64 0) := (blk_cell BK116.out 0).trans rfl; have hcz30_1 : w29.cell? ⟨gb116, 1, none⟩ = some (.int .i64 0) := (blk_cell BK116.out 1).trans rfl; have hcz30_2 : w29.cell? ⟨gb116, 2, none⟩ = some (.int .i64 0) := (blk_cell BK116.out 2).trans rfl; have hcz30_3 : w29.cell? ⟨gb116, 3, none⟩ = some (.int .i64 0) := (blk_cell BK116.out 3).trans rfl; have hcz30_4 : w29.cell? ⟨gb116, 4, none⟩ = some (.int .i64 0) := (blk_cell BK116.out 4).trans rfl; have hfz30_0 := blk_frozen BK116.out 0; have hfz30_1 := blk_frozen BK116.out 1; have hfz30_2 := blk_frozen BK116.out 2; have hfz30_3 := blk_frozen BK116.out 3; have hfz30_4 := blk_frozen BK116.out 4))
    go_ret
    exact ⟨by first | rfl | (simp [errW_none, errW_some] <;> rfl) | (simp [*, errW_none, errW_some] <;> rfl), by repeat (first | (with_reducible first | exact HB.out | apply below_alloc | apply pw_below_drewN | apply below_drew1 | refine below_set ?_ GE116.out) | exact HB.out)⟩

/-! ### impl_in: function 20 -/
def impl_in.f (a0 : Int) (a1 : Int) (a2 : Int) : Option (Bool) := if a0 ≥ a1 then (some (decide (a0 ≤ a2))) else (some false)
set_option maxHeartbeats 8000000 in
set_option maxRecDepth 100000 in
theorem impl_in.calls (a0 : Int) (a1 : Int) (a2 : Int) (r : Bool) (w : World) (h : impl_in.f a0 a1 a2 = some r) :
    Calls Tryd.prog 20 #[.int .i64 a0, .int .i64 a1, .int .i64 a2] w fun e w' => e = .returned (.bool r) ∧ Drawn0 w w' := by
  have H : (if a0 ≥ a1 then (some (decide (a0 ≤ a2))) else (some false)) = some r := h
  clear h
  by_cases c4 : a0 ≥ a1
  · rw [if_pos c4] at H
    have c4b0 : decide (a1 ≤ a0) = true := decide_eq_true c4
    clear c4
    obtain rfl := Option.some.inj H
    go_enter Tryd.func20, Tryd.ntmps20
    go_wp2
    go_ret
    exact ⟨by first | rfl | (simp; done) | (simp [*]; done), by repeat (first | exact Drawn0.refl _ | apply Drawn0.step)⟩
  · rw [if_neg c4] at H
    have c4b0 : decide (a1 ≤ a0) = false := decide_eq_false c4
    clear c4
    obtain rfl := Option.some.inj H
    go_enter Tryd.func20, Tryd.ntmps20
    go_wp2
    go_ret
    exact ⟨by first | rfl | (simp; done) | (simp [*]; done), by repeat (first | exact Drawn0.refl _ | apply Drawn0.step)⟩

/-! ### impl_isTime: function 27 -/
def impl_isTime.f (a0 : Int) : Option (Bool) := (impl_in.f a0 0 52596000).bind fun t122 => (some t122)
set_option maxHeartbeats 8000000 in
set_option maxRecDepth 100000 in
theorem impl_isTime.calls (a0 : Int) (r : Bool) (w : World) (h : impl_isTime.f a0 = some r) :
    Calls Tryd.prog 27 #[.int .i64 a0] w fun e w' => e = .returned (.bool r) ∧ Drawn0 w w' := by
  have H : ((impl_in.f a0 0 52596000).bind fun t122 => (some t122)) = some r := h
  clear h
  replace H := Option.bind_eq_some_iff.mp H
  obtain ⟨t122, A20, H⟩ := H
  replace H : (some t122) = some r := H
  have A2 := Aside0.mk A20
  clear A20
  obtain rfl := Option.some.inj H
  go_enter Tryd.func27, Tryd.ntmps27
  go_wp2_with (first | ((with_reducible refine gate_callee (f := 20) rfl ?_); refine goesL_ (some 4) rfl rfl Tryd.func20 (by kernel_rfl) rfl #[.int .i64 a0, .int .i64 0, .int .i64 52596000] rfl (by (try simp only [List.map_toArray, List.map_cons, List.map_nil]); first | done | rfl | (simp only [List.length_drop, List.length_take]; rfl)) ?_; (with_reducible refine (impl_in.calls a0 0 52596000 t122 _ A2.out).mono ?_); rintro e w' ⟨rfl, ⟨nd, rfl⟩⟩; refine ⟨_, rfl, ?_⟩))
  go_ret
  exact ⟨by first | rfl | (simp; done) | (simp [*]; done), by repeat (first | exact Drawn0.refl _ | apply Drawn0.step)⟩

/-! ### impl_leap: function 43 -/
def impl_leap.f (a0 : Int) : Option (Bool) := some ((Int.tmod a0 4) == 0)
set_option maxHeartbeats 8000000 in
set_option maxRecDepth 100000 in
theorem impl_leap.calls (a0 : Int) (r : Bool) (w : World) (h : impl_leap.f a0 = some r) :
    Calls Tryd.prog 43 #[.int .i64 a0] w fun e w' => e = .returned (.bool r) ∧ Drawn0 w w' := by
  have H : (some ((Int.tmod a0 4) == 0)) = some r := h
  clear h
  obtain rfl := Option.some.inj H
  go_enter Tryd.func43, Tryd.ntmps43
  go_wp2
  go_ret
  exact ⟨by first | rfl | (simp; done) | (simp [*]; done), by repeat (first | exact Drawn0.refl _ | apply Drawn0.step)⟩

/-! ### impl_monthDays: function 33 -/
def impl_monthDays.f (a0 : Int) (a1 : Int) : Option (Int) := if a1 = 2 then ((impl_leap.f a0).bind fun t123 => (if t123 = true then (some 29) else (some 28))) else (if a1 = 4 then (some 30) else (if a1 = 6 then (some 30) else (if a1 = 9 then (some 30) else (if a1 = 11 then (some 30) else (some 31)))))
set_option maxHeartbeats 8000000 in
set_option maxRecDepth 100000 in
theorem impl_monthDays.calls (a0 : Int) (a1 : Int) (r : Int) (w : World) (h : impl_monthDays.f a0 a1 = some r) :
    Calls Tryd.prog 33 #[.int .i64 a0, .int .i64 a1] w fun e w' => e = .returned (.int .i64 r) ∧ Drawn0 w w' := by
  have H : (if a1 = 2 then ((impl_leap.f a0).bind fun t123 => (if t123 = true then (some 29) else (some 28))) else (if a1 = 4 then (some 30) else (if a1 = 6 then (some 30) else (if a1 = 9 then (some 30) else (if a1 = 11 then (some 30) else (some 31)))))) = some r := h
  clear h
  by_cases c3 : a1 = 2
  · rw [if_pos c3] at H
    have c3b0 : (a1 == 2) = true := beq_iff_eq.mpr c3
    have c3b1 : (a1 != 2) = false := bne_eq_false_iff_eq.mpr c3
    clear c3
    replace H := Option.bind_eq_some_iff.mp H
    obtain ⟨t123, A40, H⟩ := H
    replace H : (if t123 = true then (some 29) else (some 28)) = some r := H
    have A4 := Aside0.mk A40
    clear A40
    by_cases c5 : t123 = true
    · subst c5
      have H1 : (some 29) = some r := by rw [if_pos rfl] at H; exact H
      clear H
      have H := H1
      clear H1
      obtain rfl := Option.some.inj H
      go_enter Tryd.func33, Tryd.ntmps33
      go_wp2_with (first | ((with_reducible refine gate_callee (f := 43) rfl ?_); refine goesL_ (some 9) rfl rfl Tryd.func43 (by kernel_rfl) rfl #[.int .i64 a0] rfl (by (try simp only [List.map_toArray, List.map_cons, List.map_nil]); first | done | rfl | (simp only [List.length_drop, List.length_take]; rfl)) ?_; (with_reducible refine (impl_leap.calls a0 true _ A4.out).mono ?_); rintro e w' ⟨rfl, ⟨nd, rfl⟩⟩; refine ⟨_, rfl, ?_⟩))
      go_ret
      exact ⟨by first | rfl | (simp; done) | (simp [*]; done), by repeat (first | exact Drawn0.refl _ | apply Drawn0.step)⟩
    · replace c5 := Bool.eq_false_iff.mpr c5
      subst c5
      have H1 : (some 28) = some r := by rw [if_neg (show ¬ (false = true) by decide)] at H; exact H
      clear H
      have H := H1
      clear H1
      obtain rfl := Option.some.inj H
      go_enter Tryd.func33, Tryd.ntmps33
      go_wp2_with (first | ((with_reducible refine gate_callee (f := 43) rfl ?_); refine goesL_ (some 9) rfl rfl Tryd.func43 (by kernel_rfl) rfl #[.int .i64 a0] rfl (by (try simp only [List.map_toArray, List.map_cons, List.map_nil]); first | done | rfl | (simp only [List.length_drop, List.length_take]; rfl)) ?_; (with_reducible refine (impl_leap.calls a0 false _ A4.out).mono ?_); rintro e w' ⟨rfl, ⟨nd, rfl⟩⟩; refine ⟨_, rfl, ?_⟩))
      go_ret
      exact ⟨by first | rfl | (simp; done) | (simp [*]; done), by repeat (first | exact Drawn0.refl _ | apply Drawn0.step)⟩
  · rw [if_neg c3] at H
    have c3b0 : (a1 == 2) = false := beq_eq_false_iff_ne.mpr c3
    have c3b1 : (a1 != 2) = true := bne_iff_ne.mpr c3
    by_cases c6 : a1 = 4
    · rw [if_pos c6] at H
      have c6b0 : (a1 == 4) = true := beq_iff_eq.mpr c6
      have c6b1 : (a1 != 4) = false := bne_eq_false_iff_eq.mpr c6
      clear c6
      obtain rfl := Option.some.inj H
      go_enter Tryd.func33, Tryd.ntmps33
      go_wp2
      go_ret
      exact ⟨by first | rfl | (simp; done) | (simp [*]; done), by repeat (first | exact Drawn0.refl _ | apply Drawn0.step)⟩
    · rw [if_neg c6] at H
      have c6b0 : (a1 == 4) = false := beq_eq_false_iff_ne.mpr c6
      have c6b1 : (a1 != 4) = true := bne_iff_ne.mpr c6
      by_cases c7 : a1 = 6
      · rw [if_pos c7] at H
        have c7b0 : (a1 == 6) = true := beq_iff_eq.mpr c7
        have c7b1 : (a1 != 6) = false := bne_eq_false_iff_eq.mpr c7
        clear c7
        obtain rfl := Option.some.inj H
        go_enter Tryd.func33, Tryd.ntmps33
        go_wp2
        go_ret
        exact ⟨by first | rfl | (simp; done) | (simp [*]; done), by repeat (first | exact Drawn0.refl _ | apply Drawn0.step)⟩
      · rw [if_neg c7] at H
        have c7b0 : (a1 == 6) = false := beq_eq_false_iff_ne.mpr c7
        have c7b1 : (a1 != 6) = true := bne_iff_ne.mpr c7
        by_cases c8 : a1 = 9
        · rw [if_pos c8] at H
          have c8b0 : (a1 == 9) = true := beq_iff_eq.mpr c8
          have c8b1 : (a1 != 9) = false := bne_eq_false_iff_eq.mpr c8
          clear c8
          obtain rfl := Option.some.inj H
          go_enter Tryd.func33, Tryd.ntmps33
          go_wp2
          go_ret
          exact ⟨by first | rfl | (simp; done) | (simp [*]; done), by repeat (first | exact Drawn0.refl _ | apply Drawn0.step)⟩
        · rw [if_neg c8] at H
          have c8b0 : (a1 == 9) = false := beq_eq_false_iff_ne.mpr c8
          have c8b1 : (a1 != 9) = true := bne_iff_ne.mpr c8
          by_cases c9 : a1 = 11
          · rw [if_pos c9] at H
            have c9b0 : (a1 == 11) = true := beq_iff_eq.mpr c9
            have c9b1 : (a1 != 11) = false := bne_eq_false_iff_eq.mpr c9
            clear c9
            obtain rfl := Option.some.inj H
            go_enter Tryd.func33, Tryd.ntmps33
            go_wp2
            go_ret
            exact ⟨by first | rfl | (simp; done) | (simp [*]; done), by repeat (first | exact Drawn0.refl _ | apply Drawn0.step)⟩
          · rw [if_neg c9] at H
            have c9b0 : (a1 == 11) = false := beq_eq_false_iff_ne.mpr c9
            have c9b1 : (a1 != 11) = true := bne_iff_ne.mpr c9
            obtain rfl := Option.some.inj H
            go_enter Tryd.func33, Tryd.ntmps33
            go_wp2
            go_ret
            exact ⟨by first | rfl | (simp; done) | (simp [*]; done), by repeat (first | exact Drawn0.refl _ | apply Drawn0.step)⟩

/-! ### impl_daysTo: function 28 -/
def impl_daysTo.l0 : Nat → Int → Int → Int → Int → Int → Option (Int)
  | 0, _, _, _, _, _ => none
  | k + 1, x0, x1, x2, x7, x8 => if x8 < x1 then ((impl_monthDays.f x0 x8).bind fun t124 => (impl_daysTo.l0 k x0 x1 x2 (wrap64 (x7 + t124)) (wrap64 (x8 + 1)))) else (some (wrap64 ((wrap64 (x7 + x2)) - 1)))
def impl_daysTo.f (k : Nat) (a0 : Int) (a1 : Int) (a2 : Int) : Option (Int) := impl_daysTo.l0 k a0 a1 a2 (wrap64 ((wrap64 ((wrap64 (a0 - 2000)) * 365)) + (wrap64 (Int.tdiv (wrap64 ((wrap64 (a0 - 2000)) + 3)) 4)))) 1
theorem impl_daysTo.mono_l : ∀ k, (∀ y0 y1 y2 y3 y4, LeO (impl_daysTo.l0 k y0 y1 y2 y3 y4) (impl_daysTo.l0 (k + 1) y0 y1 y2 y3 y4))
  | 0 => fun _ _ _ _ _ r h => by simp [impl_daysTo.l0] at h
  | k + 1 => by
    have ih0 := impl_daysTo.mono_l k
    · intro y0 y1 y2 y3 y4
      unfold impl_daysTo.l0
      repeat' first
      | (with_reducible exact ih0 _ _ _ _ _)
      | (with_reducible exact LeO.refl _)
      | (with_reducible exact LeO.none _)
      | (with_reducible refine LeO.ite ?_ ?_)
      | (with_reducible refine LeO.bind ?_ (fun _ => ?_))
      | exact ih0 _ _ _ _ _
      | exact LeO.none _
      | refine LeO.ite ?_ ?_
      | refine LeO.bind ?_ (fun _ => ?_)
theorem impl_daysTo.mono : ∀ a0 a1 a2 k, LeO (impl_daysTo.f k a0 a1 a2) (impl_daysTo.f (k + 1) a0 a1 a2) := by
  intro a0 a1 a2 k
  have ih0 := impl_daysTo.mono_l k
  unfold impl_daysTo.f
  repeat' first
      | (with_reducible exact ih0 _ _ _ _ _)
      | (with_reducible exact LeO.refl _)
      | (with_reducible exact LeO.none _)
      | (with_reducible refine LeO.ite ?_ ?_)
      | (with_reducible refine LeO.bind ?_ (fun _ => ?_))
      | exact ih0 _ _ _ _ _
      | exact LeO.none _
      | refine LeO.ite ?_ ?_
      | refine LeO.bind ?_ (fun _ => ?_)
set_option maxHeartbeats 8000000 in
set_option maxRecDepth 100000 in
theorem impl_daysTo.calls (k : Nat) (a0 : Int) (a1 : Int) (a2 : Int) (r : Int) (w : World) (h : impl_daysTo.f k a0 a1 a2 = some r) :
    Calls Tryd.prog 28 #[.int .i64 a0, .int .i64 a1, .int .i64 a2] w fun e w' => e = .returned (.int .i64 r) ∧ Drawn0 w w' := by
  have H : (impl_daysTo.l0 k a0 a1 a2 (wrap64 ((wrap64 ((wrap64 (a0 - 2000)) * 365)) + (wrap64 (Int.tdiv (wrap64 ((wrap64 (a0 - 2000)) + 3)) 4)))) 1) = some r := h
  clear h
  have H' := Aside0.mk H
  clear H
  go_enter Tryd.func28, Tryd.ntmps28
  go_wp2
  go_loopg [7, 8] k (fun kq v7 v8 w' => ∃ (x7_1 : Int) (x8_1 : Int), v7 = .int .i64 x7_1 ∧ v8 = .int .i64 x8_1 ∧ Aside0 (impl_daysTo.l0 kq a0 a1 a2 x7_1 x8_1 = some r) ∧ Aside0 (kq ≤ k) ∧ Drawn0 w w')
  case atStart => exact ⟨(wrap64 ((wrap64 ((wrap64 (a0 - 2000)) * 365)) + (wrap64 (Int.tdiv (wrap64 ((wrap64 (a0 - 2000)) + 3)) 4)))), (1), (by first | rfl | (simp; done) | (simp [*]; done)), (by first | rfl | (simp; done) | (simp [*]; done)), H', ⟨Nat.le_refl _⟩, by repeat (first | exact Drawn0.refl _ | apply Drawn0.step)⟩
  case round =>
    clear H'
    try clear c2
    try clear p2
    obtain ⟨x7_1, x8_1, rfl, rfl, HA, HK1, ⟨m1, rfl⟩⟩ := hrel
    cases gk with
    | zero => exact absurd HA.out (by simp [impl_daysTo.l0])
    | succ k1 =>
      have H := HA.out
      clear HA
      simp only [impl_daysTo.l0] at H
      by_cases c4 : x8_1 < a1
      · rw [if_pos c4] at H
        have c4b0 : decide (x8_1 < a1) = true := decide_eq_true c4
        clear c4
        replace H := Option.bind_eq_some_iff.mp H
        obtain ⟨t124, A50, H⟩ := H
        replace H : (impl_daysTo.l0 k1 a0 a1 a2 (wrap64 (x7_1 + t124)) (wrap64 (x8_1 + 1))) = some r := H
        have A5 := Aside0.mk A50
        clear A50
        have H' := Aside0.mk H
        clear H
        go_wp2_with (first | ((with_reducible refine gate_callee (f := 33) rfl ?_); refine goesL_ (some 25) rfl rfl Tryd.func33 (by kernel_rfl) rfl #[.int .i64 a0, .int .i64 x8_1] rfl (by (try simp only [List.map_toArray, List.map_cons, List.map_nil]); first | done | rfl | (simp only [List.length_drop, List.length_take]; rfl)) ?_; (with_reducible refine (impl_monthDays.calls a0 x8_1 t124 _ A5.out).mono ?_); rintro e w' ⟨rfl, ⟨nd, rfl⟩⟩; refine ⟨_, rfl, ?_⟩))
        go_roundg k1
        case measure => have := HK1.out; omega
        case rel => exact ⟨(wrap64 (x7_1 + t124)), (wrap64 (x8_1 + 1)), (by first | rfl | (simp; done) | (simp [*]; done)), (by first | rfl | (simp; done) | (simp [*]; done)), H', ⟨by have := HK1.out; omega⟩, by repeat (first | exact Drawn0.refl _ | apply Drawn0.step)⟩
      · rw [if_neg c4] at H
        have c4b0 : decide (x8_1 < a1) = false := decide_eq_false c4
        clear c4
        obtain rfl := Option.some.inj H
        go_wp2
        go_ret
        exact ⟨by first | rfl | (simp; done) | (simp [*]; done), by repeat (first | exact Drawn0.refl _ | apply Drawn0.step)⟩

/-! ### impl_DateOf: function 17 -/
mutual
def impl_DateOf.l0 : Nat → Int → Int → Int → Option (Int × Int × Int × Int × Int × Bool)
  | 0, _, _, _ => none
  | k + 1, x0, x4, x5 => (impl_daysTo.f k (wrap64 (x5 + 1)) 1 1).bind fun t127 => (if t127 ≤ x4 then (impl_DateOf.l0 k x0 x4 (wrap64 (x5 + 1))) else (impl_DateOf.l1 k x0 x4 x5 1))
def impl_DateOf.l1 : Nat → Int → Int → Int → Int → Option (Int × Int × Int × Int × Int × Bool)
  | 0, _, _, _, _ => none
  | k + 1, x0, x4, x5, x6 => if x6 < 12 then ((impl_daysTo.f k x5 (wrap64 (x6 + 1)) 1).bind fun t128 => (if t128 ≤ x4 then (impl_DateOf.l1 k x0 x4 x5 (wrap64 (x6 + 1))) else ((impl_daysTo.f k x5 x6 1).bind fun t129 => (some (x5, x6, wrap64 ((wrap64 (x4 - t129)) + 1), Int.tmod (wrap64 (Int.tdiv x0 60)) 24, Int.tmod x0 60, true))))) else ((impl_daysTo.f k x5 x6 1).bind fun t130 => (some (x5, x6, wrap64 ((wrap64 (x4 - t130)) + 1), Int.tmod (wrap64 (Int.tdiv x0 60)) 24, Int.tmod x0 60, true)))
end
def impl_DateOf.f (k : Nat) (a0 : Int) : Option (Int × Int × Int × Int × Int × Bool) := (impl_isTime.f a0).bind fun t126 => (if t126 = true then (impl_DateOf.l0 k a0 (wrap64 (Int.tdiv a0 1440)) (wrap64 (2000 + (wrap64 (Int.tdiv (wrap64 (Int.tdiv a0 1440)) 366))))) else (some (0, 0, 0, 0, 0, false)))
theorem impl_DateOf.mono_l : ∀ k, (∀ y0 y1 y2, LeO (impl_DateOf.l0 k y0 y1 y2) (impl_DateOf.l0 (k + 1) y0 y1 y2)) ∧ (∀ y0 y1 y2 y3, LeO (impl_DateOf.l1 k y0 y1 y2 y3) (impl_DateOf.l1 (k + 1) y0 y1 y2 y3))
  | 0 => ⟨fun _ _ _ r h => by simp [impl_DateOf.l0] at h, fun _ _ _ _ r h => by simp [impl_DateOf.l1] at h⟩
  | k + 1 => by
    obtain ⟨ih0, ih1⟩ := impl_DateOf.mono_l k
    refine ⟨?_, ?_⟩
    · intro y0 y1 y2
      unfold impl_DateOf.l0
      repeat' first
      | (with_reducible exact ih0 _ _ _)
      | (with_reducible exact ih1 _ _ _ _)
      | (with_reducible exact impl_daysTo.mono _ _ _ _)
      | (with_reducible exact LeO.refl _)
      | (with_reducible exact LeO.none _)
      | (with_reducible refine LeO.ite ?_ ?_)
      | (with_reducible refine LeO.bind ?_ (fun _ => ?_))
      | exact ih0 _ _ _
      | exact ih1 _ _ _ _
      | exact impl_daysTo.mono _ _ _ _
      | exact LeO.none _
      | refine LeO.ite ?_ ?_
      | refine LeO.bind ?_ (fun _ => ?_)
    · intro y0 y1 y2 y3
      unfold impl_DateOf.l1
      repeat' first
      | (with_reducible exact ih0 _ _ _)
      | (with_reducible exact ih1 _ _ _ _)
      | (with_reducible exact impl_daysTo.mono _ _ _ _)
      | (with_reducible exact LeO.refl _)
      | (with_reducible exact LeO.none _)
      | (with_reducible refine LeO.ite ?_ ?_)
      | (with_reducible refine LeO.bind ?_ (fun _ => ?_))
      | exact ih0 _ _ _
      | exact ih1 _ _ _ _
      | exact impl_daysTo.mono _ _ _ _
      | exact LeO.none _
      | refine LeO.ite ?_ ?_
      | refine LeO.bind ?_ (fun _ => ?_)
theorem impl_DateOf.mono : ∀ a0 k, LeO (impl_DateOf.f k a0) (impl_DateOf.f (k + 1) a0) := by
  intro a0 k
  obtain ⟨ih0, ih1⟩ := impl_DateOf.mono_l k
  unfold impl_DateOf.f
  repeat' first
      | (with_reducible exact ih0 _ _ _)
      | (with_reducible exact ih1 _ _ _ _)
      | (with_reducible exact impl_daysTo.mono _ _ _ _)
      | (with_reducible exact LeO.refl _)
      | (with_reducible exact LeO.none _)
      | (with_reducible refine LeO.ite ?_ ?_)
      | (with_reducible refine LeO.bind ?_ (fun _ => ?_))
      | exact ih0 _ _ _
      | exact ih1 _ _ _ _
      | exact impl_daysTo.mono _ _ _ _
      | exact LeO.none _
      | refine LeO.ite ?_ ?_
      | refine LeO.bind ?_ (fun _ => ?_)
set_option maxHeartbeats 8000000 in
set_option maxRecDepth 100000 in
theorem impl_DateOf.calls (k : Nat) (a0 : Int) (r1 : Int) (r2 : Int) (r3 : Int) (r4 : Int) (r5 : Int) (r6 : Bool) (w : World) (h : impl_DateOf.f k a0 = some (r1, r2, r3, r4, r5, r6)) :
    Calls Tryd.prog 17 #[.int .i64 a0] w fun e w' => e = .returned (.tuple #[.agg #[.int .i64 r1, .int .i64 r2, .int .i64 r3, .int .i64 r4, .int .i64 r5], .bool r6]) ∧ Below w.heap.size w w' := by
  have hu34 := Tryd.underlying34
  have HB := Aside0.mk (Below.refl w.heap.size w)
  have H : ((impl_isTime.f a0).bind fun t126 => (if t126 = true then (impl_DateOf.l0 k a0 (wrap64 (Int.tdiv a0 1440)) (wrap64 (2000 + (wrap64 (Int.tdiv (wrap64 (Int.tdiv a0 1440)) 366))))) else (some (0, 0, 0, 0, 0, false)))) = some (r1, r2, r3, r4, r5, r6) := h
  clear h
  replace H := Option.bind_eq_some_iff.mp H
  obtain ⟨t126, A20, H⟩ := H
  replace H : (if t126 = true then (impl_DateOf.l0 k a0 (wrap64 (Int.tdiv a0 1440)) (wrap64 (2000 + (wrap64 (Int.tdiv (wrap64 (Int.tdiv a0 1440)) 366))))) else (some (0, 0, 0, 0, 0, false))) = some (r1, r2, r3, r4, r5, r6) := H
  have A2 := Aside0.mk A20
  clear A20
  by_cases c3 : t126 = true
  · subst c3
    have H1 : (impl_DateOf.l0 k a0 (wrap64 (Int.tdiv a0 1440)) (wrap64 (2000 + (wrap64 (Int.tdiv (wrap64 (Int.tdiv a0 1440)) 366))))) = some (r1, r2, r3, r4, r5, r6) := by rw [if_pos rfl] at H; exact H
    clear H
    have H := H1
    clear H1
    have H' := Aside0.mk H
    clear H
    go_enter Tryd.func17, Tryd.ntmps17
    go_wp2_with (first | ((with_reducible refine gate_dst (N := 2) rfl ?_); refine box_event ?hg (N := 2) ?hd (cs := #[.int .i64 0, .int .i64 0, .int .i64 0, .int .i64 0, .int .i64 0]) (t := 34) ?hr ?_; (case hd => rfl); (case hg => rfl); (case hr => first | (go_simp; done) | (go_simp; rfl)); intro gb125 hg w4 hbox hb; have n0_ := Aside0.mk (below_step (by repeat (first | (with_reducible first | exact HB.out | apply below_alloc | apply pw_below_drewN | apply below_drew1) | exact HB.out)) hb); have n1_ := Aside0.mk (hbox); have n2_ := Aside0.mk ((by rw [hg]; exact (below_size (by repeat (first | (with_reducible first | exact HB.out | apply below_alloc | apply pw_below_drewN | apply below_drew1) | exact HB.out))) : w.heap.size ≤ gb125)); have n3_ := Aside0.mk ((by rw [hg]; exact (below_size (by repeat (first | (with_reducible first | exact HB.out | apply below_alloc | apply pw_below_drewN | apply below_drew1) | exact HB.out))) : w.heap.size ≤ gb125)); clear HB; have HB := n0_; have BK125 := n1_; have GW125 := n2_; have GE125 := n3_; clear n0_ n1_ n2_ n3_; clear hb hbox hg) | ((with_reducible refine gate_callee (f := 27) rfl ?_); refine goesL_ (some 8) rfl rfl Tryd.func27 (by kernel_rfl) rfl #[.int .i64 a0] rfl (by (try simp only [List.map_toArray, List.map_cons, List.map_nil]); first | done | rfl | (simp only [List.length_drop, List.length_take]; rfl)) ?_; (with_reducible refine (impl_isTime.calls a0 true _ A2.out).mono ?_); rintro e w' ⟨rfl, ⟨nd, rfl⟩⟩; refine ⟨_, rfl, ?_⟩))
    go_loopg [5] k (fun kq v5 w' => ∃ (x5_1 : Int), v5 = .int .i64 x5_1 ∧ Aside0 (impl_DateOf.l0 kq a0 (wrap64 (Int.tdiv a0 1440)) x5_1 = some (r1, r2, r3, r4, r5, r6)) ∧ Aside0 (kq ≤ k) ∧ Aside0 (w'.heap[gb125]? = some (.cells #[.int .i64 0, .int .i64 0, .int .i64 0, .int .i64 0, .int .i64 0] 34 (0, 0))) ∧ Aside0 (Below w.heap.size w w'))
    case atStart => exact ⟨(wrap64 (2000 + (wrap64 (Int.tdiv (wrap64 (Int.tdiv a0 1440)) 366)))), (by first | rfl | (simp; done) | (simp [*]; done)), H', ⟨Nat.le_refl _⟩, ⟨by (with_reducible repeat (first | refine blk_drewN ?_ _ | refine blk_drew ?_ | refine blk_alloc ?_ _)); exact BK125.out⟩, ⟨by repeat (first | (with_reducible first | exact HB.out | apply below_alloc | apply pw_below_drewN | apply below_drew1 | refine below_set ?_ GE125.out) | exact HB.out)⟩⟩
    case round =>
      clear H'
      try clear c1
      try clear c2
      try clear p2
      try clear c3
      obtain ⟨x5_1, rfl, HA, HK1, BK125, HB⟩ := hrel
      cases gk with
      | zero => exact absurd HA.out (by simp [impl_DateOf.l0])
      | succ k1 =>
        have H := HA.out
        clear HA
        simp only [impl_DateOf.l0] at H
        replace H := Option.bind_eq_some_iff.mp H
        obtain ⟨t127, A50, H⟩ := H
        replace H : (if t127 ≤ (wrap64 (Int.tdiv a0 1440)) then (impl_DateOf.l0 k1 a0 (wrap64 (Int.tdiv a0 1440)) (wrap64 (x5_1 + 1))) else (impl_DateOf.l1 k1 a0 (wrap64 (Int.tdiv a0 1440)) x5_1 1)) = some (r1, r2, r3, r4, r5, r6) := H
        have A5 := Aside0.mk A50
        clear A50
        by_cases c6 : t127 ≤ (wrap64 (Int.tdiv a0 1440))
        · rw [if_pos c6] at H
          have c6b0 : decide (t127 ≤ (wrap64 (Int.tdiv a0 1440))) = true := decide_eq_true c6
          clear c6
          have H' := Aside0.mk H
          clear H
          go_wp2_with (first | ((with_reducible refine gate_callee (f := 28) rfl ?_); refine goesL_ (some 18) rfl rfl Tryd.func28 (by kernel_rfl) rfl #[.int .i64 (wrap64 (x5_1 + 1)), .int .i64 1, .int .i64 1] rfl (by (try simp only [List.map_toArray, List.map_cons, List.map_nil]); first | done | rfl | (simp only [List.length_drop, List.length_take]; rfl)) ?_; (with_reducible refine (impl_daysTo.calls k1 (wrap64 (x5_1 + 1)) 1 1 t127 _ A5.out).mono ?_); rintro e w' ⟨rfl, ⟨nd, rfl⟩⟩; refine ⟨_, rfl, ?_⟩))
          go_roundg k1
          case measure => have := HK1.out; omega
          case rel => exact ⟨(wrap64 (x5_1 + 1)), (by first | rfl | (simp; done) | (simp [*]; done)), H', ⟨by have := HK1.out; omega⟩, ⟨by (with_reducible repeat (first | refine blk_drewN ?_ _ | refine blk_drew ?_ | refine blk_alloc ?_ _)); exact BK125.out⟩, ⟨by repeat (first | (with_reducible first | exact HB.out | apply below_alloc | apply pw_below_drewN | apply below_drew1 | refine below_set ?_ GE125.out) | exact HB.out)⟩⟩
        · rw [if_neg c6] at H
          have c6b0 : decide (t127 ≤ (wrap64 (Int.tdiv a0 1440))) = false := decide_eq_false c6
          clear c6
          have H' := Aside0.mk H
          clear H
          go_wp2_with (first | ((with_reducible refine gate_callee (f := 28) rfl ?_); refine goesL_ (some 18) rfl rfl Tryd.func28 (by kernel_rfl) rfl #[.int .i64 (wrap64 (x5_1 + 1)), .int .i64 1, .int .i64 1] rfl (by (try simp only [List.map_toArray, List.map_cons, List.map_nil]); first | done | rfl | (simp only [List.length_drop, List.length_take]; rfl)) ?_; (with_reducible refine (impl_daysTo.calls k1 (wrap64 (x5_1 + 1)) 1 1 t127 _ A5.out).mono ?_); rintro e w' ⟨rfl, ⟨nd, rfl⟩⟩; refine ⟨_, rfl, ?_⟩))
          go_loopg [6] k1 (fun kq v6 w' => ∃ (x6_2 : Int), v6 = .int .i64 x6_2 ∧ Aside0 (impl_DateOf.l1 kq a0 (wrap64 (Int.tdiv a0 1440)) x5_1 x6_2 = some (r1, r2, r3, r4, r5, r6)) ∧ Aside0 (kq ≤ k1) ∧ Aside0 (w'.heap[gb125]? = some (.cells #[.int .i64 0, .int .i64 0, .int .i64 0, .int .i64 0, .int .i64 0] 34 (0, 0))) ∧ Aside0 (Below w.heap.size w w'))
          case atStart => exact ⟨(1), (by first | rfl | (simp; done) | (simp [*]; done)), H', ⟨Nat.le_refl _⟩, ⟨by (with_reducible repeat (first | refine blk_drewN ?_ _ | refine blk_drew ?_ | refine blk_alloc ?_ _)); exact BK125.out⟩, ⟨by repeat (first | (with_reducible first | exact HB.out | apply below_alloc | apply pw_below_drewN | apply below_drew1 | refine below_set ?_ GE125.out) | exact HB.out)⟩⟩
          case round =>
            clear H'
            try clear c1
            try clear c2
            try clear p2
            try clear c3
            try clear c6
            try clear c6b0
            try clear p6
            try clear p2
            obtain ⟨x6_2, rfl, HA, HK2, BK125, HB⟩ := hrel
            cases gk with
            | zero => exact absurd HA.out (by simp [impl_DateOf.l1])
            | succ k2 =>
              have H := HA.out
              clear HA
              simp only [impl_DateOf.l1] at H
              by_cases c7 : x6_2 < 12
              · rw [if_pos c7] at H
                have c7b0 : decide (x6_2 < 12) = true := decide_eq_true c7
                clear c7
                replace H := Option.bind_eq_some_iff.mp H
                obtain ⟨t128, A80, H⟩ := H
                replace H : (if t128 ≤ (wrap64 (Int.tdiv a0 1440)) then (impl_DateOf.l1 k2 a0 (wrap64 (Int.tdiv a0 1440)) x5_1 (wrap64 (x6_2 + 1))) else ((impl_daysTo.f k2 x5_1 x6_2 1).bind fun t129 => (some (x5_1, x6_2, wrap64 ((wrap64 ((wrap64 (Int.tdiv a0 1440)) - t129)) + 1), Int.tmod (wrap64 (Int.tdiv a0 60)) 24, Int.tmod a0 60, true)))) = some (r1, r2, r3, r4, r5, r6) := H
                have A8 := Aside0.mk A80
                clear A80
                by_cases c9 : t128 ≤ (wrap64 (Int.tdiv a0 1440))
                · rw [if_pos c9] at H
                  have c9b0 : decide (t128 ≤ (wrap64 (Int.tdiv a0 1440))) = true := decide_eq_true c9
                  clear c9
                  have H' := Aside0.mk H
                  clear H
                  go_wp2_with (first | (go_at_call 28; (with_reducible refine (impl_daysTo.calls k2 x5_1 (wrap64 (x6_2 + 1)) 1 t128 _ A8.out).mono ?_); rintro e w' ⟨rfl, ⟨nd, rfl⟩⟩))
                  go_roundg k2
                  case measure => have := HK1.out; have := HK2.out; omega
                  case rel => exact ⟨(wrap64 (x6_2 + 1)), (by first | rfl | (simp; done) | (simp [*]; done)), H', ⟨by have := HK1.out; have := HK2.out; omega⟩, ⟨by (with_reducible repeat (first | refine blk_drewN ?_ _ | refine blk_drew ?_ | refine blk_alloc ?_ _)); exact BK125.out⟩, ⟨by repeat (first | (with_reducible first | exact HB.out | apply below_alloc | apply pw_below_drewN | apply below_drew1 | refine below_set ?_ GE125.out) | exact HB.out)⟩⟩
                · rw [if_neg c9] at H
                  have c9b0 : decide (t128 ≤ (wrap64 (Int.tdiv a0 1440))) = false := decide_eq_false c9
                  clear c9
                  replace H := Option.bind_eq_some_iff.mp H
                  obtain ⟨t129, A100, H⟩ := H
                  replace H : (some (x5_1, x6_2, wrap64 ((wrap64 ((wrap64 (Int.tdiv a0 1440)) - t129)) + 1), Int.tmod (wrap64 (Int.tdiv a0 60)) 24, Int.tmod a0 60, true)) = some (r1, r2, r3, r4, r5, r6) := H
                  have A10 := Aside0.mk A100
                  clear A100
                  simp only [Option.some.injEq, Prod.mk.injEq] at H
                  obtain ⟨rfl, rfl, rfl, rfl, rfl, rfl⟩ := H
                  go_wp2_with (first | (go_at_call 28; (with_reducible refine (impl_daysTo.calls k2 x5_1 (wrap64 (x6_2 + 1)) 1 t128 _ A8.out).mono ?_); rintro e w' ⟨rfl, ⟨nd, rfl⟩⟩; (try (rw [drewN_self wr]; generalize hq_ : World.drewN wr _ = wr; have n0_ : Aside0 (wr.heap[gb125]? = some (.cells #[.int .i64 0, .int .i64 0, .int .i64 0, .int .i64 0, .int .i64 0] 34 (0, 0))) := ⟨by rw [← hq_]; exact (by (with_reducible repeat (first | refine blk_drewN ?_ _ | refine blk_drew ?_ | refine blk_alloc ?_ _)); exact BK125.out)⟩; have n1_ : Aside0 (Below w.heap.size w wr) := ⟨by rw [← hq_]; exact (by repeat (first | (with_reducible first | exact HB.out | apply below_alloc | apply pw_below_drewN | apply below_drew1 | refine below_set ?_ GE125.out) | exact HB.out))⟩; clear BK125 HB hq_; have BK125 := n0_; have HB := n1_; clear n0_ n1_))) | ((with_reducible refine gate_callee (f := 28) rfl ?_); refine goesL_ (some 40) rfl rfl Tryd.func28 (by kernel_rfl) rfl #[.int .i64 x5_1, .int .i64 x6_2, .int .i64 1] rfl (by (try simp only [List.map_toArray, List.map_cons, List.map_nil]); first | done | rfl | (simp only [List.length_drop, List.length_take]; rfl)) ?_; (with_reducible refine (impl_daysTo.calls k2 x5_1 x6_2 1 t129 _ A10.out).mono ?_); rintro e w' ⟨rfl, ⟨nd, rfl⟩⟩; refine ⟨_, rfl, ?_⟩; (try (rw [drewN_self wr]; generalize hq_ : World.drewN wr _ = wr; have n0_ : Aside0 (wr.heap[gb125]? = some (.cells #[.int .i64 0, .int .i64 0, .int .i64 0, .int .i64 0, .int .i64 0] 34 (0, 0))) := ⟨by rw [← hq_]; exact (by (with_reducible repeat (first | refine blk_drewN ?_ _ | refine blk_drew ?_ | refine blk_alloc ?_ _)); exact BK125.out)⟩; have n1_ : Aside0 (Below w.heap.size w wr) := ⟨by rw [← hq_]; exact (by repeat (first | (with_reducible first | exact HB.out | apply below_alloc | apply pw_below_drewN | apply below_drew1 | refine below_set ?_ GE125.out) | exact HB.out))⟩; clear BK125 HB hq_; have BK125 := n0_; have HB := n1_; clear n0_ n1_)); have hcz11_0 : wr.cell? ⟨gb125, 0, none⟩ = some (.int .i64 0) := (blk_cell BK125.out 0).trans rfl; have hcz11_1 : wr.cell? ⟨gb125, 1, none⟩ = some (.int .i64 0) := (blk_cell BK125.out 1).trans rfl; have hcz11_2 : wr.cell? ⟨gb125, 2, none⟩ = some (.int .i64 0) := (blk_cell BK125.out 2).trans rfl; have hcz11_3 : wr.cell? ⟨gb125, 3, none⟩ = some (.int .i64 0) := (blk_cell BK125.out 3).trans rfl; have hcz11_4 : wr.cell? ⟨gb125, 4, none⟩ = some (.int .i64 0) := (blk_cell BK125.out 4).trans rfl; have hfz11_0 := blk_frozen BK125.out 0; have hfz11_1 := blk_frozen BK125.out 1; have hfz11_2 := blk_frozen BK125.out 2; have hfz11_3 := blk_frozen BK125.out 3; have hfz11_4 := blk_frozen BK125.out 4))
                  refine bodyPost_ret (results_ct rfl _ _ gb125 34 #[.int .i64 x5_1, .int .i64 x6_2, .int .i64 (wrap64 ((wrap64 ((wrap64 (Int.tdiv a0 1440)) - t129)) + 1)), .int .i64 (Int.tmod (wrap64 (Int.tdiv a0 60)) 24), .int .i64 (Int.tmod a0 60)] (0, 0) _ rfl (by (with_reducible repeat (first | refine blk_drewN ?_ _ | refine blk_drew ?_ | refine blk_alloc ?_ _)); refine blk_put (cs := #[.int .i64 x5_1, .int .i64 x6_2, .int .i64 (wrap64 ((wrap64 ((wrap64 (Int.tdiv a0 1440)) - t129)) + 1)), .int .i64 (Int.tmod (wrap64 (Int.tdiv a0 60)) 24), .int .i64 0]) ?_ 4 _ rfl; (with_reducible repeat (first | refine blk_drewN ?_ _ | refine blk_drew ?_ | refine blk_alloc ?_ _)); refine blk_put (cs := #[.int .i64 x5_1, .int .i64 x6_2, .int .i64 (wrap64 ((wrap64 ((wrap64 (Int.tdiv a0 1440)) - t129)) + 1)), .int .i64 0, .int .i64 0]) ?_ 3 _ rfl; (with_reducible repeat (first | refine blk_drewN ?_ _ | refine blk_drew ?_ | refine blk_alloc ?_ _)); refine blk_put (cs := #[.int .i64 x5_1, .int .i64 x6_2, .int .i64 0, .int .i64 0, .int .i64 0]) ?_ 2 _ rfl; (with_reducible repeat (first | refine blk_drewN ?_ _ | refine blk_drew ?_ | refine blk_alloc ?_ _)); refine blk_put (cs := #[.int .i64 x5_1, .int .i64 0, .int .i64 0, .int .i64 0, .int .i64 0]) ?_ 1 _ rfl; (with_reducible repeat (first | refine blk_drewN ?_ _ | refine blk_drew ?_ | refine blk_alloc ?_ _)); refine blk_put (cs := #[.int .i64 0, .int .i64 0, .int .i64 0, .int .i64 0, .int .i64 0]) ?_ 0 _ rfl; (with_reducible repeat (first | refine blk_drewN ?_ _ | refine blk_drew ?_ | refine blk_alloc ?_ _)); exact BK125.out) Tryd.underlying34 rfl (by kernel_rfl)) rfl ?_
                  exact ⟨by first | rfl | (simp [errW_none, errW_some] <;> rfl) | (simp [*, errW_none, errW_some] <;> rfl), by repeat (first | (with_reducible first | exact HB.out | apply below_alloc | apply pw_below_drewN | apply below_drew1 | refine below_set ?_ GE125.out) | exact HB.out)⟩
              · rw [if_neg c7] at H
                have c7b0 : decide (x6_2 < 12) = false := decide_eq_false c7
                clear c7
                replace H := Option.bind_eq_some_iff.mp H
                obtain ⟨t130, A120, H⟩ := H
                replace H : (some (x5_1, x6_2, wrap64 ((wrap64 ((wrap64 (Int.tdiv a0 1440)) - t130)) + 1), Int.tmod (wrap64 (Int.tdiv a0 60)) 24, Int.tmod a0 60, true)) = some (r1, r2, r3, r4, r5, r6) := H
                have A12 := Aside0.mk A120
                clear A120
                simp only [Option.some.injEq, Prod.mk.injEq] at H
                obtain ⟨rfl, rfl, rfl, rfl, rfl, rfl⟩ := H
                go_wp2_with (first | ((with_reducible refine gate_callee (f := 28) rfl ?_); refine goesL_ (some 40) rfl rfl Tryd.func28 (by kernel_rfl) rfl #[.int .i64 x5_1, .int .i64 x6_2, .int .i64 1] rfl (by (try simp only [List.map_toArray, List.map_cons, List.map_nil]); first | done | rfl | (simp only [List.length_drop, List.length_take]; rfl)) ?_; (with_reducible refine (impl_daysTo.calls k2 x5_1 x6_2 1 t130 _ A12.out).mono ?_); rintro e w' ⟨rfl, ⟨nd, rfl⟩⟩; refine ⟨_, rfl, ?_⟩; (try (rw [drewN_self wr]; generalize hq_ : World.drewN wr _ = wr; have n0_ : Aside0 (wr.heap[gb125]? = some (.cells #[.int .i64 0, .int .i64 0, .int .i64 0, .int .i64 0, .int .i64 0] 34 (0, 0))) := ⟨by rw [← hq_]; exact (by (with_reducible repeat (first | refine blk_drewN ?_ _ | refine blk_drew ?_ | refine blk_alloc ?_ _)); exact BK125.out)⟩; have n1_ : Aside0 (Below w.heap.size w wr) := ⟨by rw [← hq_]; exact (by repeat (first | (with_reducible first | exact HB.out | apply below_alloc | apply pw_below_drewN | apply below_drew1 | refine below_set ?_ GE125.out) | exact HB.out))⟩; clear BK125 HB hq_; have BK125 := n0_; have HB := n1_; clear n0_ n1_)); have hcz13_0 : wr.cell? ⟨gb125, 0, none⟩ = some (.int .i64 0) := (blk_cell BK125.out 0).trans rfl; have hcz13_1 : wr.cell? ⟨gb125, 1, none⟩ = some (.int .i64 0) := (blk_cell BK125.out 1).trans rfl; have hcz13_2 : wr.cell? ⟨gb125, 2, none⟩ = some (.int .i64 0) := (blk_cell BK125.out 2).trans rfl; have hcz13_3 : wr.cell? ⟨gb125, 3, none⟩ = some (.int .i64 0) := (blk_cell BK125.out 3).trans rfl; have hcz13_4 : wr.cell? ⟨gb125, 4, none⟩ = some (.int .i64 0) := (blk_cell BK125.out 4).trans rfl; have hfz13_0 := blk_frozen BK125.out 0; have hfz13_1 := blk_frozen BK125.out 1; have hfz13_2 := blk_frozen BK125.out 2; have hfz13_3 := blk_frozen BK125.out 3; have hfz13_4 := blk_frozen BK125.out 4))
                refine bodyPost_ret (results_ct rfl _ _ gb125 34 #[.int .i64 x5_1, .int .i64 x6_2, .int .i64 (wrap64 ((wrap64 ((wrap64 (Int.tdiv a0 1440)) - t130)) + 1)), .int .i64 (Int.tmod (wrap64 (Int.tdiv a0 60)) 24), .int .i64 (Int.tmod a0 60)] (0, 0) _ rfl (by (with_reducible repeat (first | refine blk_drewN ?_ _ | refine blk_drew ?_ | refine blk_alloc ?_ _)); refine blk_put (cs := #[.int .i64 x5_1, .int .i64 x6_2, .int .i64 (wrap64 ((wrap64 ((wrap64 (Int.tdiv a0 1440)) - t130)) + 1)), .int .i64 (Int.tmod (wrap64 (Int.tdiv a0 60)) 24), .int .i64 0]) ?_ 4 _ rfl; (with_reducible repeat (first | refine blk_drewN ?_ _ | refine blk_drew ?_ | refine blk_alloc ?_ _)); refine blk_put (cs := #[.int .i64 x5_1, .int .i64 x6_2, .int .i64 (wrap64 ((wrap64 ((wrap64 (Int.tdiv a0 1440)) - t130)) + 1)), .int .i64 0, .int .i64 0]) ?_ 3 _ rfl; (with_reducible repeat (first | refine blk_drewN ?_ _ | refine blk_drew ?_ | refine blk_alloc ?_ _)); refine blk_put (cs := #[.int .i64 x5_1, .int .i64 x6_2, .int .i64 0, .int .i64 0, .int .i64 0]) ?_ 2 _ rfl; (with_reducible repeat (first | refine blk_drewN ?_ _ | refine blk_drew ?_ | refine blk_alloc ?_ _)); refine blk_put (cs := #[.int .i64 x5_1, .int .i64 0, .int .i64 0, .int .i64 0, .int .i64 0]) ?_ 1 _ rfl; (with_reducible repeat (first | refine blk_drewN ?_ _ | refine blk_drew ?_ | refine blk_alloc ?_ _)); refine blk_put (cs := #[.int .i64 0, .int .i64 0, .int .i64 0, .int .i64 0, .int .i64 0]) ?_ 0 _ rfl; (with_reducible repeat (first | refine blk_drewN ?_ _ | refine blk_drew ?_ | refine blk_alloc ?_ _)); exact BK125.out) Tryd.underlying34 rfl (by kernel_rfl)) rfl ?_
                exact ⟨by first | rfl | (simp [errW_none, errW_some] <;> rfl) | (simp [*, errW_none, errW_some] <;> rfl), by repeat (first | (with_reducible first | exact HB.out | apply below_alloc | apply pw_below_drewN | apply below_drew1 | refine below_set ?_ GE125.out) | exact HB.out)⟩
  · replace c3 := Bool.eq_false_iff.mpr c3
    subst c3
    have H1 : (some (0, 0, 0, 0, 0, false)) = some (r1, r2, r3, r4, r5, r6) := by rw [if_neg (show ¬ (false = true) by decide)] at H; exact H
    clear H
    have H := H1
    clear H1
    simp only [Option.some.injEq, Prod.mk.injEq] at H
    obtain ⟨rfl, rfl, rfl, rfl, rfl, rfl⟩ := H
    go_enter Tryd.func17, Tryd.ntmps17
    go_wp2_with (first | ((with_reducible refine gate_dst (N := 2) rfl ?_); refine box_event ?hg (N := 2) ?hd (cs := #[.int .i64 0, .int .i64 0, .int .i64 0, .int .i64 0, .int .i64 0]) (t := 34) ?hr ?_; (case hd => rfl); (case hg => rfl); (case hr => first | (go_simp; done) | (go_simp; rfl)); intro gb125 hg w14 hbox hb; have n0_ := Aside0.mk (below_step (by repeat (first | (with_reducible first | exact HB.out | apply below_alloc | apply pw_below_drewN | apply below_drew1) | exact HB.out)) hb); have n1_ := Aside0.mk (hbox); have n2_ := Aside0.mk ((by rw [hg]; exact (below_size (by repeat (first | (with_reducible first | exact HB.out | apply below_alloc | apply pw_below_drewN | apply below_drew1) | exact HB.out))) : w.heap.size ≤ gb125)); have n3_ := Aside0.mk ((by rw [hg]; exact (below_size (by repeat (first | (with_reducible first | exact HB.out | apply below_alloc | apply pw_below_drewN | apply below_drew1) | exact HB.out))) : w.heap.size ≤ gb125)); clear HB; have HB := n0_; have BK125 := n1_; have GW125 := n2_; have GE125 := n3_; clear n0_ n1_ n2_ n3_; clear hb hbox hg) | ((with_reducible refine gate_callee (f := 27) rfl ?_); refine goesL_ (some 8) rfl rfl Tryd.func27 (by kernel_rfl) rfl #[.int .i64 a0] rfl (by (try simp only [List.map_toArray, List.map_cons, List.map_nil]); first | done | rfl | (simp only [List.length_drop, List.length_take]; rfl)) ?_; (with_reducible refine (impl_isTime.calls a0 false _ A2.out).mono ?_); rintro e w' ⟨rfl, ⟨nd, rfl⟩⟩; refine ⟨_, rfl, ?_⟩; (try (rw [drewN_self w14]; generalize hq_ : World.drewN w14 _ = w14; have n0_ : Aside0 (w14.heap[gb125]? = some (.cells #[.int .i64 0, .int .i64 0, .int .i64 0, .int .i64 0, .int .i64 0] 34 (0, 0))) := ⟨by rw [← hq_]; exact (by (with_reducible repeat (first | refine blk_drewN ?_ _ | refine blk_drew ?_ | refine blk_alloc ?_ _)); exact BK125.out)⟩; have n1_ : Aside0 (Below w.heap.size w w14) := ⟨by rw [← hq_]; exact (by repeat (first | (with_reducible first | exact HB.out | apply below_alloc | apply pw_below_drewN | apply below_drew1 | refine below_set ?_ GE125.out) | exact HB.out))⟩; clear BK125 HB hq_; have BK125 := n0_; have HB := n1_; clear n0_ n1_)); have hcz15_0 : w14.cell? ⟨gb125, 0, none⟩ = some (.int .i64 0) := (blk_cell BK125.out 0).trans rfl; have hcz15_1 : w14.cell? ⟨gb125, 1, none⟩ = some (.int .i64 0) := (blk_cell BK125.out 1).trans rfl; have hcz15_2 : w14.cell? ⟨gb125, 2, none⟩ = some (.int .i64 0) := (blk_cell BK125.out 2).trans rfl; have hcz15_3 : w14.cell? ⟨gb125, 3, none⟩ = some (.int .i64 0) := (blk_cell BK125.out 3).trans rfl; have hcz15_4 : w14.cell? ⟨gb125, 4, none⟩ = some (.int .i64 0) := (blk_cell BK125.out 4).trans rfl; have hfz15_0 := blk_frozen BK125.out 0; have hfz15_1 := blk_frozen BK125.out 1; have hfz15_2 := blk_frozen BK125.out 2; have hfz15_3 := blk_frozen BK125.out 3; have hfz15_4 := blk_frozen BK125.out 4))
    refine bodyPost_ret (results_ct rfl _ _ gb125 34 #[.int .i64 0, .int .i64 0, .int .i64 0, .int .i64 0, .int .i64 0] (0, 0) _ rfl (by (with_reducible repeat (first | refine blk_drewN ?_ _ | refine blk_drew ?_ | refine blk_alloc ?_ _)); refine blk_put (cs := #[.int .i64 0, .int .i64 0, .int .i64 0, .int .i64 0, .int .i64 0]) ?_ 4 _ rfl; (with_reducible repeat (first | refine blk_drewN ?_ _ | refine blk_drew ?_ | refine blk_alloc ?_ _)); refine blk_put (cs := #[.int .i64 0, .int .i64 0, .int .i64 0, .int .i64 0, .int .i64 0]) ?_ 3 _ rfl; (with_reducible repeat (first | refine blk_drewN ?_ _ | refine blk_drew ?_ | refine blk_alloc ?_ _)); refine blk_put (cs := #[.int .i64 0, .int .i64 0, .int .i64 0, .int .i64 0, .int .i64 0]) ?_ 2 _ rfl; (with_reducible repeat (first | refine blk_drewN ?_ _ | refine blk_drew ?_ | refine blk_alloc ?_ _)); refine blk_put (cs := #[.int .i64 0, .int .i64 0, .int .i64 0, .int .i64 0, .int .i64 0]) ?_ 1 _ rfl; (with_reducible repeat (first | refine blk_drewN ?_ _ | refine blk_drew ?_ | refine blk_alloc ?_ _)); refine blk_put (cs := #[.int .i64 0, .int .i64 0, .int .i64 0, .int .i64 0, .int .i64 0]) ?_ 0 _ rfl; (with_reducible repeat (first | refine blk_drewN ?_ _ | refine blk_drew ?_ | refine blk_alloc ?_ _)); exact BK125.out) Tryd.underlying34 rfl (by kernel_rfl)) rfl ?_
    exact ⟨by first | rfl | (simp [errW_none, errW_some] <;> rfl) | (simp [*, errW_none, errW_some] <;> rfl), by repeat (first | (with_reducible first | exact HB.out | apply below_alloc | apply pw_below_drewN | apply below_drew1 | refine below_set ?_ GE125.out) | exact HB.out)⟩


/-! ### impl_dec: function 14 -/
def impl_dec.f (a0 : Int) : Option (ByteArray) := if -9223372036854775808 ≤ a0 ∧ a0 ≤ 9223372036854775807 then some (⟨(Lib.itoa a0).toArray⟩ : ByteArray) else none
theorem tab_on {w w1 : World} (hT : Lib.TabIs Tryd.prog w "internal/strconv.uint64pow10" .u64 Lib.pow10Tab) (hb : Below w.heap.size w w1) : Lib.TabIs Tryd.prog w1 "internal/strconv.uint64pow10" .u64 Lib.pow10Tab := Lib.tabBelow_of_tabIs hT w1 hb
set_option maxHeartbeats 8000000 in
set_option maxRecDepth 100000 in
theorem impl_dec.calls (a0 : Int) (r : ByteArray) (w : World) (h : impl_dec.f a0 = some r) (hT : Lib.TabIs Tryd.prog w "internal/strconv.uint64pow10" .u64 Lib.pow10Tab) :
    Calls Tryd.prog 14 #[.int .i64 a0] w fun e w' => e = .returned (.string r) ∧ Below w.heap.size w w' := by
  unfold impl_dec.f at h
  by_cases c : -9223372036854775808 ≤ a0 ∧ a0 ≤ 9223372036854775807
  · rw [if_pos c] at h
    obtain rfl := Option.some.inj h
    go_enter Tryd.func14, Tryd.ntmps14
    go_wp2_with (first | (go_at_call 24; refine (Tryd.strconv_FormatInt_10 a0 c.1 c.2 w hT).mono ?_; rintro e w' ⟨rfl, k, os, rfl⟩))
    go_ret
    exact ⟨rfl, Lib.below_grow w.heap.size w (Nat.le_refl _) k os⟩
  · rw [if_neg c] at h
    exact absurd h (by simp)

end Go.Proofs.YtadfgfjpadbfdaaDoor.QFnExactStamp
