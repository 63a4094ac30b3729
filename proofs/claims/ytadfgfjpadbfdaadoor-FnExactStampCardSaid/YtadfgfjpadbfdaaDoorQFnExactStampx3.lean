-- Written by a program of this session out of the printer's texts and contracts of its own.
import Derived.Test.YtadfgfjpadbfdaaDoorQFnExactStampx0
import Derived.Test.YtadfgfjpadbfdaaDoorQFnExactStampx2
namespace Go.Proofs.YtadfgfjpadbfdaaDoor.QFnExactStamp
open Go.RowKit Go.Proofs.YtadfgfjpadbfdaaDoorW.PrintWords Go.Proofs.YtadfgfjpadbfdaaDoorW.PrintLast Go.Proofs.YtadfgfjpadbfdaaDoorW.PrintMore
attribute [local go_sem] max2_int min2_int max_two min_two max_three min_three max_four min_four   -- for this text's walks alone
set_option linter.unusedVariables false
set_option linter.unusedSimpArgs false


/-! ### strings_Repeat: function 29 -/
def strings_Repeat.f (a0 : ByteArray) (a1 : Int) : Option (ByteArray) := if 0 ≤ a1 ∧ a1 ≤ 1000000 ∧ a0.size ≤ 1000000 then some (⟨(Lib.repeatL a0.data.toList a1.toNat).toArray⟩ : ByteArray) else none
theorem strings_Repeat.calls (a0 : ByteArray) (a1 : Int) (r : ByteArray) (w : World) (h : strings_Repeat.f a0 a1 = some r) :
    Calls Tryd.prog 29 #[.string a0, .int .i64 a1] w fun e w' => e = .returned (.string r) ∧ Below w.heap.size w w' := by
  unfold strings_Repeat.f at h
  by_cases c : 0 ≤ a1 ∧ a1 ≤ 1000000 ∧ a0.size ≤ 1000000
  · rw [if_pos c] at h
    obtain rfl := Option.some.inj h
    obtain ⟨m, rfl⟩ : ∃ m : Nat, a1 = (m : Int) := ⟨a1.toNat, by omega⟩
    have hm : a0.size * m ≤ 1000000 * 1000000 := Nat.mul_le_mul c.2.2 (by omega)
    exact Tryd.strings_Repeat a0 m w (by omega) (by omega)
  · rw [if_neg c] at h
    exact absurd h (by simp)

/-! ### impl_fill: function 18 -/
def impl_fill.f (a0 : Int) (a1 : Int) : Option (ByteArray) := (impl_dec.f a0).bind fun t131 => ((strings_Repeat.f (⟨#[48]⟩ : ByteArray) (mx 0 (wrap64 (a1 - (t131.size : Int))))).bind fun t132 => (if t132.size + t131.size ≤ 9223372036854775807 then (some (t132 ++ t131)) else (none)))
set_option maxHeartbeats 8000000 in
set_option maxRecDepth 100000 in
theorem impl_fill.calls (a0 : Int) (a1 : Int) (r : ByteArray) (w : World) (h : impl_fill.f a0 a1 = some r) (hT : Lib.TabIs Tryd.prog w "internal/strconv.uint64pow10" .u64 Lib.pow10Tab) :
    Calls Tryd.prog 18 #[.int .i64 a0, .int .i64 a1] w fun e w' => e = .returned (.string r) ∧ Below w.heap.size w w' := by
  have HTb := Aside0.mk hT; clear hT
  have HB := Aside0.mk (Below.refl w.heap.size w)
  have H : ((impl_dec.f a0).bind fun t131 => ((strings_Repeat.f (⟨#[48]⟩ : ByteArray) (mx 0 (wrap64 (a1 - (t131.size : Int))))).bind fun t132 => (if t132.size + t131.size ≤ 9223372036854775807 then (some (t132 ++ t131)) else (none)))) = some r := h
  clear h
  replace H := Option.bind_eq_some_iff.mp H
  obtain ⟨t131, A30, H⟩ := H
  replace H : ((strings_Repeat.f (⟨#[48]⟩ : ByteArray) (mx 0 (wrap64 (a1 - (t131.size : Int))))).bind fun t132 => (if t132.size + t131.size ≤ 9223372036854775807 then (some (t132 ++ t131)) else (none))) = some r := H
  have A3 := Aside0.mk A30
  clear A30
  obtain ⟨ji4, hji4⟩ : ∃ j_ : Int, (mx 0 (wrap64 (a1 - (t131.size : Int)))) = j_ := ⟨_, rfl⟩
  replace H : ((strings_Repeat.f (⟨#[48]⟩ : ByteArray) (ji4)).bind fun t132 => (if t132.size + t131.size ≤ 9223372036854775807 then (some (t132 ++ t131)) else (none))) = some r := by first | (rw [hji4] at H; exact H) | (simp only [hji4] at H ⊢; exact H)
  (try rw [hji4] at A3)
  (try (have hji4l : 0 ≤ ji4 := by (rw [← hji4]; unfold mx; (repeat' split) <;> omega)))
  (try (have hji4m : 0 ≤ ji4 := by omega))
  have hji4_ : (if 0 < (wrap64 (a1 - (t131.size : Int))) then (wrap64 (a1 - (t131.size : Int))) else 0) = ji4 := hji4
  replace H := Option.bind_eq_some_iff.mp H
  obtain ⟨t132, A50, H⟩ := H
  replace H : (if t132.size + t131.size ≤ 9223372036854775807 then (some (t132 ++ t131)) else (none)) = some r := H
  have A5 := Aside0.mk A50
  clear A50
  by_cases c6 : t132.size + t131.size ≤ 9223372036854775807
  · rw [if_pos c6] at H
    have c6b0 := eq_true c6
    have c6b1 : decide (t132.size + t131.size ≤ 9223372036854775807) = true := decide_eq_true c6
    try have c6b2 : (9223372036854775807 < t132.size + t131.size) = False := eq_false (Nat.not_lt.2 c6)
    obtain rfl := Option.some.inj H
    go_enter Tryd.func18, Tryd.ntmps18
    go_wp2_with (first | ((with_reducible refine gate_callee (f := 14) rfl ?_); refine goesL_ (some 7) rfl rfl Tryd.func14 (by kernel_rfl) rfl #[.int .i64 a0] rfl (by (try simp only [List.map_toArray, List.map_cons, List.map_nil]); first | done | rfl | (simp only [List.length_drop, List.length_take]; rfl)) ?_; (with_reducible refine (impl_dec.calls a0 t131 _ A3.out (tab_on HTb.out (by repeat (first | (with_reducible first | exact HB.out | apply below_alloc | apply pw_below_drewN | apply below_drew1) | exact HB.out)))).mono ?_); rintro e w7 ⟨rfl, hb⟩; refine ⟨_, rfl, ?_⟩; have n0_ := Aside0.mk (below_step (by repeat (first | (with_reducible first | exact HB.out | apply below_alloc | apply pw_below_drewN | apply below_drew1) | exact HB.out)) hb); clear HB; have HB := n0_; clear n0_; (try clear hb); (try clear hb2); (try clear hk); (try clear hi)) | ((with_reducible refine gate_callee (f := 29) rfl ?_); refine goesL_ (some 13) rfl rfl Tryd.func29 (by kernel_rfl) rfl #[.string (⟨#[48]⟩ : ByteArray), .int .i64 ji4] rfl (by (try simp only [List.map_toArray, List.map_cons, List.map_nil]); first | done | (simp only [hji4]; rfl) | rfl | (simp only [List.length_drop, List.length_take]; rfl)) ?_; (with_reducible refine (strings_Repeat.calls (⟨#[48]⟩ : ByteArray) ji4 t132 _ A5.out).mono ?_); rintro e w8 ⟨rfl, hb⟩; refine ⟨_, rfl, ?_⟩; have n0_ := Aside0.mk (below_step (by repeat (first | (with_reducible first | exact HB.out | apply below_alloc | apply pw_below_drewN | apply below_drew1) | exact HB.out)) hb); clear HB; have HB := n0_; clear n0_; (try clear hb); (try clear hb2); (try clear hk); (try clear hi)))
    go_ret
    exact ⟨by first | rfl | (simp [errW_none, errW_some] <;> rfl) | (simp only [← hji4]; first | rfl | (simp [errW_none, errW_some] <;> rfl)) | (simp [*, errW_none, errW_some] <;> rfl), by repeat (first | (with_reducible first | exact HB.out | apply below_alloc | apply pw_below_drewN | apply below_drew1) | exact HB.out)⟩
  · rw [if_neg c6] at H
    exact absurd H (by simp)

/-! ### impl_Stamp: function 9 -/
def impl_Stamp.f (k : Nat) (a0 : Int) : Option (ByteArray) := (impl_DateOf.f k a0).bind fun bt133 => (if bt133.2.2.2.2.2 = true then ((impl_fill.f bt133.1 4).bind fun t140 => (if t140.size + 1 ≤ 9223372036854775807 then ((impl_fill.f bt133.2.1 2).bind fun t141 => (if (t140 ++ (⟨#[45]⟩ : ByteArray)).size + t141.size ≤ 9223372036854775807 then (if ((t140 ++ (⟨#[45]⟩ : ByteArray)) ++ t141).size + 1 ≤ 9223372036854775807 then ((impl_fill.f bt133.2.2.1 2).bind fun t142 => (if (((t140 ++ (⟨#[45]⟩ : ByteArray)) ++ t141) ++ (⟨#[45]⟩ : ByteArray)).size + t142.size ≤ 9223372036854775807 then (if ((((t140 ++ (⟨#[45]⟩ : ByteArray)) ++ t141) ++ (⟨#[45]⟩ : ByteArray)) ++ t142).size + 1 ≤ 9223372036854775807 then ((impl_fill.f bt133.2.2.2.1 2).bind fun t143 => (if (((((t140 ++ (⟨#[45]⟩ : ByteArray)) ++ t141) ++ (⟨#[45]⟩ : ByteArray)) ++ t142) ++ (⟨#[84]⟩ : ByteArray)).size + t143.size ≤ 9223372036854775807 then (if ((((((t140 ++ (⟨#[45]⟩ : ByteArray)) ++ t141) ++ (⟨#[45]⟩ : ByteArray)) ++ t142) ++ (⟨#[84]⟩ : ByteArray)) ++ t143).size + 1 ≤ 9223372036854775807 then ((impl_fill.f bt133.2.2.2.2.1 2).bind fun t144 => (if (((((((t140 ++ (⟨#[45]⟩ : ByteArray)) ++ t141) ++ (⟨#[45]⟩ : ByteArray)) ++ t142) ++ (⟨#[84]⟩ : ByteArray)) ++ t143) ++ (⟨#[58]⟩ : ByteArray)).size + t144.size ≤ 9223372036854775807 then (if ((((((((t140 ++ (⟨#[45]⟩ : ByteArray)) ++ t141) ++ (⟨#[45]⟩ : ByteArray)) ++ t142) ++ (⟨#[84]⟩ : ByteArray)) ++ t143) ++ (⟨#[58]⟩ : ByteArray)) ++ t144).size + 1 ≤ 9223372036854775807 then (some (((((((((t140 ++ (⟨#[45]⟩ : ByteArray)) ++ t141) ++ (⟨#[45]⟩ : ByteArray)) ++ t142) ++ (⟨#[84]⟩ : ByteArray)) ++ t143) ++ (⟨#[58]⟩ : ByteArray)) ++ t144) ++ (⟨#[90]⟩ : ByteArray))) else (none)) else (none))) else (none)) else (none))) else (none)) else (none))) else (none)) else (none))) else (none))) else (some (⟨#[]⟩ : ByteArray)))
theorem impl_Stamp.mono : ∀ a0 k, LeO (impl_Stamp.f k a0) (impl_Stamp.f (k + 1) a0) := by
  intro a0 k
  unfold impl_Stamp.f
  repeat' first
      | (with_reducible exact impl_DateOf.mono _ _)
      | (with_reducible exact LeO.refl _)
      | (with_reducible exact LeO.none _)
      | (with_reducible refine LeO.ite ?_ ?_)
      | (with_reducible refine LeO.bind ?_ (fun _ => ?_))
      | exact impl_DateOf.mono _ _
      | exact LeO.none _
      | refine LeO.ite ?_ ?_
      | refine LeO.bind ?_ (fun _ => ?_)
def impl_Stamp.T4 : Bool × List (List Nat × List Nat) := (true, [([], []), ([0], [0]), ([1], [1]), ([2], [2]), ([], []), ([4], [4]), ([5, 2], [5]), ([3, 6], [3, 6]), ([7], [7]), ([], []), ([9], [9]), ([10, 6], [10]), ([8, 11], [8, 11]), ([12], [12]), ([], []), ([14], [14]), ([15, 11], [15]), ([13, 16], [13, 16]), ([17], [17]), ([], []), ([19], [19]), ([20, 16], [20]), ([18, 21], [18, 21]), ([22], [22]), ([23, 21, 0, 1, 2, 3, 4, 5, 6, 7, 8, 9, 10, 11, 12, 13, 14, 15, 16, 17, 18, 19, 20, 21, 22, 23], [23])])
def impl_Stamp.B4 : List Nat := [0, 1, 3, 7, 0, 16, 55, 127, 255, 0, 512, 1655, 4095, 8191, 0, 16384, 52855, 131071, 262143, 0, 524288, 1691255, 4194303, 8388607, 16777215]
theorem impl_Stamp.tab4 : rtab .any (opsOf Tryd.f9 4) = impl_Stamp.T4 := by kernel_rfl
theorem impl_Stamp.bits4 : waitsOk impl_Stamp.T4.2 impl_Stamp.B4 = true := by kernel_rfl
set_option maxHeartbeats 8000000 in
set_option maxRecDepth 100000 in
theorem impl_Stamp.calls (k : Nat) (a0 : Int) (r : ByteArray) (w : World) (h : impl_Stamp.f k a0 = some r) (hT : Lib.TabIs Tryd.prog w "internal/strconv.uint64pow10" .u64 Lib.pow10Tab) :
    Calls Tryd.prog 9 #[.int .i64 a0] w fun e w' => e = .returned (.string r) ∧ Below w.heap.size w w' := by
  have HTb := Aside0.mk hT; clear hT
  have hu34 := Tryd.underlying34
  have HB := Aside0.mk (Below.refl w.heap.size w)
  have H : ((impl_DateOf.f k a0).bind fun bt133 => (if bt133.2.2.2.2.2 = true then ((impl_fill.f bt133.1 4).bind fun t140 => (if t140.size + 1 ≤ 9223372036854775807 then ((impl_fill.f bt133.2.1 2).bind fun t141 => (if (t140 ++ (⟨#[45]⟩ : ByteArray)).size + t141.size ≤ 9223372036854775807 then (if ((t140 ++ (⟨#[45]⟩ : ByteArray)) ++ t141).size + 1 ≤ 9223372036854775807 then ((impl_fill.f bt133.2.2.1 2).bind fun t142 => (if (((t140 ++ (⟨#[45]⟩ : ByteArray)) ++ t141) ++ (⟨#[45]⟩ : ByteArray)).size + t142.size ≤ 9223372036854775807 then (if ((((t140 ++ (⟨#[45]⟩ : ByteArray)) ++ t141) ++ (⟨#[45]⟩ : ByteArray)) ++ t142).size + 1 ≤ 9223372036854775807 then ((impl_fill.f bt133.2.2.2.1 2).bind fun t143 => (if (((((t140 ++ (⟨#[45]⟩ : ByteArray)) ++ t141) ++ (⟨#[45]⟩ : ByteArray)) ++ t142) ++ (⟨#[84]⟩ : ByteArray)).size + t143.size ≤ 9223372036854775807 then (if ((((((t140 ++ (⟨#[45]⟩ : ByteArray)) ++ t141) ++ (⟨#[45]⟩ : ByteArray)) ++ t142) ++ (⟨#[84]⟩ : ByteArray)) ++ t143).size + 1 ≤ 9223372036854775807 then ((impl_fill.f bt133.2.2.2.2.1 2).bind fun t144 => (if (((((((t140 ++ (⟨#[45]⟩ : ByteArray)) ++ t141) ++ (⟨#[45]⟩ : ByteArray)) ++ t142) ++ (⟨#[84]⟩ : ByteArray)) ++ t143) ++ (⟨#[58]⟩ : ByteArray)).size + t144.size ≤ 9223372036854775807 then (if ((((((((t140 ++ (⟨#[45]⟩ : ByteArray)) ++ t141) ++ (⟨#[45]⟩ : ByteArray)) ++ t142) ++ (⟨#[84]⟩ : ByteArray)) ++ t143) ++ (⟨#[58]⟩ : ByteArray)) ++ t144).size + 1 ≤ 9223372036854775807 then (some (((((((((t140 ++ (⟨#[45]⟩ : ByteArray)) ++ t141) ++ (⟨#[45]⟩ : ByteArray)) ++ t142) ++ (⟨#[84]⟩ : ByteArray)) ++ t143) ++ (⟨#[58]⟩ : ByteArray)) ++ t144) ++ (⟨#[90]⟩ : ByteArray))) else (none)) else (none))) else (none)) else (none))) else (none)) else (none))) else (none)) else (none))) else (none))) else (some (⟨#[]⟩ : ByteArray)))) = some r := h
  clear h
  replace H := Option.bind_eq_some_iff.mp H
  obtain ⟨⟨t133, t134, t135, t136, t137, t138⟩, A20, H⟩ := H
  replace H : (if t138 = true then ((impl_fill.f t133 4).bind fun t140 => (if t140.size + 1 ≤ 9223372036854775807 then ((impl_fill.f t134 2).bind fun t141 => (if (t140 ++ (⟨#[45]⟩ : ByteArray)).size + t141.size ≤ 9223372036854775807 then (if ((t140 ++ (⟨#[45]⟩ : ByteArray)) ++ t141).size + 1 ≤ 9223372036854775807 then ((impl_fill.f t135 2).bind fun t142 => (if (((t140 ++ (⟨#[45]⟩ : ByteArray)) ++ t141) ++ (⟨#[45]⟩ : ByteArray)).size + t142.size ≤ 9223372036854775807 then (if ((((t140 ++ (⟨#[45]⟩ : ByteArray)) ++ t141) ++ (⟨#[45]⟩ : ByteArray)) ++ t142).size + 1 ≤ 9223372036854775807 then ((impl_fill.f t136 2).bind fun t143 => (if (((((t140 ++ (⟨#[45]⟩ : ByteArray)) ++ t141) ++ (⟨#[45]⟩ : ByteArray)) ++ t142) ++ (⟨#[84]⟩ : ByteArray)).size + t143.size ≤ 9223372036854775807 then (if ((((((t140 ++ (⟨#[45]⟩ : ByteArray)) ++ t141) ++ (⟨#[45]⟩ : ByteArray)) ++ t142) ++ (⟨#[84]⟩ : ByteArray)) ++ t143).size + 1 ≤ 9223372036854775807 then ((impl_fill.f t137 2).bind fun t144 => (if (((((((t140 ++ (⟨#[45]⟩ : ByteArray)) ++ t141) ++ (⟨#[45]⟩ : ByteArray)) ++ t142) ++ (⟨#[84]⟩ : ByteArray)) ++ t143) ++ (⟨#[58]⟩ : ByteArray)).size + t144.size ≤ 9223372036854775807 then (if ((((((((t140 ++ (⟨#[45]⟩ : ByteArray)) ++ t141) ++ (⟨#[45]⟩ : ByteArray)) ++ t142) ++ (⟨#[84]⟩ : ByteArray)) ++ t143) ++ (⟨#[58]⟩ : ByteArray)) ++ t144).size + 1 ≤ 9223372036854775807 then (some (((((((((t140 ++ (⟨#[45]⟩ : ByteArray)) ++ t141) ++ (⟨#[45]⟩ : ByteArray)) ++ t142) ++ (⟨#[84]⟩ : ByteArray)) ++ t143) ++ (⟨#[58]⟩ : ByteArray)) ++ t144) ++ (⟨#[90]⟩ : ByteArray))) else (none)) else (none))) else (none)) else (none))) else (none)) else (none))) else (none)) else (none))) else (none))) else (some (⟨#[]⟩ : ByteArray))) = some r := H
  have A2 := Aside0.mk A20
  clear A20
  by_cases c3 : t138 = true
  · subst c3
    have H1 : ((impl_fill.f t133 4).bind fun t140 => (if t140.size + 1 ≤ 9223372036854775807 then ((impl_fill.f t134 2).bind fun t141 => (if (t140 ++ (⟨#[45]⟩ : ByteArray)).size + t141.size ≤ 9223372036854775807 then (if ((t140 ++ (⟨#[45]⟩ : ByteArray)) ++ t141).size + 1 ≤ 9223372036854775807 then ((impl_fill.f t135 2).bind fun t142 => (if (((t140 ++ (⟨#[45]⟩ : ByteArray)) ++ t141) ++ (⟨#[45]⟩ : ByteArray)).size + t142.size ≤ 9223372036854775807 then (if ((((t140 ++ (⟨#[45]⟩ : ByteArray)) ++ t141) ++ (⟨#[45]⟩ : ByteArray)) ++ t142).size + 1 ≤ 9223372036854775807 then ((impl_fill.f t136 2).bind fun t143 => (if (((((t140 ++ (⟨#[45]⟩ : ByteArray)) ++ t141) ++ (⟨#[45]⟩ : ByteArray)) ++ t142) ++ (⟨#[84]⟩ : ByteArray)).size + t143.size ≤ 9223372036854775807 then (if ((((((t140 ++ (⟨#[45]⟩ : ByteArray)) ++ t141) ++ (⟨#[45]⟩ : ByteArray)) ++ t142) ++ (⟨#[84]⟩ : ByteArray)) ++ t143).size + 1 ≤ 9223372036854775807 then ((impl_fill.f t137 2).bind fun t144 => (if (((((((t140 ++ (⟨#[45]⟩ : ByteArray)) ++ t141) ++ (⟨#[45]⟩ : ByteArray)) ++ t142) ++ (⟨#[84]⟩ : ByteArray)) ++ t143) ++ (⟨#[58]⟩ : ByteArray)).size + t144.size ≤ 9223372036854775807 then (if ((((((((t140 ++ (⟨#[45]⟩ : ByteArray)) ++ t141) ++ (⟨#[45]⟩ : ByteArray)) ++ t142) ++ (⟨#[84]⟩ : ByteArray)) ++ t143) ++ (⟨#[58]⟩ : ByteArray)) ++ t144).size + 1 ≤ 9223372036854775807 then (some (((((((((t140 ++ (⟨#[45]⟩ : ByteArray)) ++ t141) ++ (⟨#[45]⟩ : ByteArray)) ++ t142) ++ (⟨#[84]⟩ : ByteArray)) ++ t143) ++ (⟨#[58]⟩ : ByteArray)) ++ t144) ++ (⟨#[90]⟩ : ByteArray))) else (none)) else (none))) else (none)) else (none))) else (none)) else (none))) else (none)) else (none))) else (none))) = some r := by rw [if_pos rfl] at H; exact H
    clear H
    have H := H1
    clear H1
    replace H := Option.bind_eq_some_iff.mp H
    obtain ⟨t140, A40, H⟩ := H
    replace H : (if t140.size + 1 ≤ 9223372036854775807 then ((impl_fill.f t134 2).bind fun t141 => (if (t140 ++ (⟨#[45]⟩ : ByteArray)).size + t141.size ≤ 9223372036854775807 then (if ((t140 ++ (⟨#[45]⟩ : ByteArray)) ++ t141).size + 1 ≤ 9223372036854775807 then ((impl_fill.f t135 2).bind fun t142 => (if (((t140 ++ (⟨#[45]⟩ : ByteArray)) ++ t141) ++ (⟨#[45]⟩ : ByteArray)).size + t142.size ≤ 9223372036854775807 then (if ((((t140 ++ (⟨#[45]⟩ : ByteArray)) ++ t141) ++ (⟨#[45]⟩ : ByteArray)) ++ t142).size + 1 ≤ 9223372036854775807 then ((impl_fill.f t136 2).bind fun t143 => (if (((((t140 ++ (⟨#[45]⟩ : ByteArray)) ++ t141) ++ (⟨#[45]⟩ : ByteArray)) ++ t142) ++ (⟨#[84]⟩ : ByteArray)).size + t143.size ≤ 9223372036854775807 then (if ((((((t140 ++ (⟨#[45]⟩ : ByteArray)) ++ t141) ++ (⟨#[45]⟩ : ByteArray)) ++ t142) ++ (⟨#[84]⟩ : ByteArray)) ++ t143).size + 1 ≤ 9223372036854775807 then ((impl_fill.f t137 2).bind fun t144 => (if (((((((t140 ++ (⟨#[45]⟩ : ByteArray)) ++ t141) ++ (⟨#[45]⟩ : ByteArray)) ++ t142) ++ (⟨#[84]⟩ : ByteArray)) ++ t143) ++ (⟨#[58]⟩ : ByteArray)).size + t144.size ≤ 9223372036854775807 then (if ((((((((t140 ++ (⟨#[45]⟩ : ByteArray)) ++ t141) ++ (⟨#[45]⟩ : ByteArray)) ++ t142) ++ (⟨#[84]⟩ : ByteArray)) ++ t143) ++ (⟨#[58]⟩ : ByteArray)) ++ t144).size + 1 ≤ 9223372036854775807 then (some (((((((((t140 ++ (⟨#[45]⟩ : ByteArray)) ++ t141) ++ (⟨#[45]⟩ : ByteArray)) ++ t142) ++ (⟨#[84]⟩ : ByteArray)) ++ t143) ++ (⟨#[58]⟩ : ByteArray)) ++ t144) ++ (⟨#[90]⟩ : ByteArray))) else (none)) else (none))) else (none)) else (none))) else (none)) else (none))) else (none)) else (none))) else (none)) = some r := H
    have A4 := Aside0.mk A40
    clear A40
    by_cases c5 : t140.size + 1 ≤ 9223372036854775807
    · rw [if_pos c5] at H
      have c5b0 := eq_true c5
      have c5b1 : decide (t140.size + 1 ≤ 9223372036854775807) = true := decide_eq_true c5
      try have c5b2 : (9223372036854775807 < t140.size + 1) = False := eq_false (Nat.not_lt.2 c5)
      replace H := Option.bind_eq_some_iff.mp H
      obtain ⟨t141, A60, H⟩ := H
      replace H : (if (t140 ++ (⟨#[45]⟩ : ByteArray)).size + t141.size ≤ 9223372036854775807 then (if ((t140 ++ (⟨#[45]⟩ : ByteArray)) ++ t141).size + 1 ≤ 9223372036854775807 then ((impl_fill.f t135 2).bind fun t142 => (if (((t140 ++ (⟨#[45]⟩ : ByteArray)) ++ t141) ++ (⟨#[45]⟩ : ByteArray)).size + t142.size ≤ 9223372036854775807 then (if ((((t140 ++ (⟨#[45]⟩ : ByteArray)) ++ t141) ++ (⟨#[45]⟩ : ByteArray)) ++ t142).size + 1 ≤ 9223372036854775807 then ((impl_fill.f t136 2).bind fun t143 => (if (((((t140 ++ (⟨#[45]⟩ : ByteArray)) ++ t141) ++ (⟨#[45]⟩ : ByteArray)) ++ t142) ++ (⟨#[84]⟩ : ByteArray)).size + t143.size ≤ 9223372036854775807 then (if ((((((t140 ++ (⟨#[45]⟩ : ByteArray)) ++ t141) ++ (⟨#[45]⟩ : ByteArray)) ++ t142) ++ (⟨#[84]⟩ : ByteArray)) ++ t143).size + 1 ≤ 9223372036854775807 then ((impl_fill.f t137 2).bind fun t144 => (if (((((((t140 ++ (⟨#[45]⟩ : ByteArray)) ++ t141) ++ (⟨#[45]⟩ : ByteArray)) ++ t142) ++ (⟨#[84]⟩ : ByteArray)) ++ t143) ++ (⟨#[58]⟩ : ByteArray)).size + t144.size ≤ 9223372036854775807 then (if ((((((((t140 ++ (⟨#[45]⟩ : ByteArray)) ++ t141) ++ (⟨#[45]⟩ : ByteArray)) ++ t142) ++ (⟨#[84]⟩ : ByteArray)) ++ t143) ++ (⟨#[58]⟩ : ByteArray)) ++ t144).size + 1 ≤ 9223372036854775807 then (some (((((((((t140 ++ (⟨#[45]⟩ : ByteArray)) ++ t141) ++ (⟨#[45]⟩ : ByteArray)) ++ t142) ++ (⟨#[84]⟩ : ByteArray)) ++ t143) ++ (⟨#[58]⟩ : ByteArray)) ++ t144) ++ (⟨#[90]⟩ : ByteArray))) else (none)) else (none))) else (none)) else (none))) else (none)) else (none))) else (none)) else (none)) = some r := H
      have A6 := Aside0.mk A60
      clear A60
      by_cases c7 : (t140 ++ (⟨#[45]⟩ : ByteArray)).size + t141.size ≤ 9223372036854775807
      · rw [if_pos c7] at H
        have c7b0 := eq_true c7
        have c7b1 : decide ((t140 ++ (⟨#[45]⟩ : ByteArray)).size + t141.size ≤ 9223372036854775807) = true := decide_eq_true c7
        try have c7b2 : (9223372036854775807 < (t140 ++ (⟨#[45]⟩ : ByteArray)).size + t141.size) = False := eq_false (Nat.not_lt.2 c7)
        (try (have c7b3 := c7b2; simp only [ByteArray.size_append, show (⟨#[45]⟩ : ByteArray).size = 1 from rfl] at c7b3))
        by_cases c8 : ((t140 ++ (⟨#[45]⟩ : ByteArray)) ++ t141).size + 1 ≤ 9223372036854775807
        · rw [if_pos c8] at H
          have c8b0 := eq_true c8
          have c8b1 : decide (((t140 ++ (⟨#[45]⟩ : ByteArray)) ++ t141).size + 1 ≤ 9223372036854775807) = true := decide_eq_true c8
          try have c8b2 : (9223372036854775807 < ((t140 ++ (⟨#[45]⟩ : ByteArray)) ++ t141).size + 1) = False := eq_false (Nat.not_lt.2 c8)
          (try (have c8b3 := c8b2; simp only [ByteArray.size_append, show (⟨#[45]⟩ : ByteArray).size = 1 from rfl] at c8b3))
          replace H := Option.bind_eq_some_iff.mp H
          obtain ⟨t142, A90, H⟩ := H
          replace H : (if (((t140 ++ (⟨#[45]⟩ : ByteArray)) ++ t141) ++ (⟨#[45]⟩ : ByteArray)).size + t142.size ≤ 9223372036854775807 then (if ((((t140 ++ (⟨#[45]⟩ : ByteArray)) ++ t141) ++ (⟨#[45]⟩ : ByteArray)) ++ t142).size + 1 ≤ 9223372036854775807 then ((impl_fill.f t136 2).bind fun t143 => (if (((((t140 ++ (⟨#[45]⟩ : ByteArray)) ++ t141) ++ (⟨#[45]⟩ : ByteArray)) ++ t142) ++ (⟨#[84]⟩ : ByteArray)).size + t143.size ≤ 9223372036854775807 then (if ((((((t140 ++ (⟨#[45]⟩ : ByteArray)) ++ t141) ++ (⟨#[45]⟩ : ByteArray)) ++ t142) ++ (⟨#[84]⟩ : ByteArray)) ++ t143).size + 1 ≤ 9223372036854775807 then ((impl_fill.f t137 2).bind fun t144 => (if (((((((t140 ++ (⟨#[45]⟩ : ByteArray)) ++ t141) ++ (⟨#[45]⟩ : ByteArray)) ++ t142) ++ (⟨#[84]⟩ : ByteArray)) ++ t143) ++ (⟨#[58]⟩ : ByteArray)).size + t144.size ≤ 9223372036854775807 then (if ((((((((t140 ++ (⟨#[45]⟩ : ByteArray)) ++ t141) ++ (⟨#[45]⟩ : ByteArray)) ++ t142) ++ (⟨#[84]⟩ : ByteArray)) ++ t143) ++ (⟨#[58]⟩ : ByteArray)) ++ t144).size + 1 ≤ 9223372036854775807 then (some (((((((((t140 ++ (⟨#[45]⟩ : ByteArray)) ++ t141) ++ (⟨#[45]⟩ : ByteArray)) ++ t142) ++ (⟨#[84]⟩ : ByteArray)) ++ t143) ++ (⟨#[58]⟩ : ByteArray)) ++ t144) ++ (⟨#[90]⟩ : ByteArray))) else (none)) else (none))) else (none)) else (none))) else (none)) else (none)) = some r := H
          have A9 := Aside0.mk A90
          clear A90
          by_cases c10 : (((t140 ++ (⟨#[45]⟩ : ByteArray)) ++ t141) ++ (⟨#[45]⟩ : ByteArray)).size + t142.size ≤ 9223372036854775807
          · rw [if_pos c10] at H
            have c10b0 := eq_true c10
            have c10b1 : decide ((((t140 ++ (⟨#[45]⟩ : ByteArray)) ++ t141) ++ (⟨#[45]⟩ : ByteArray)).size + t142.size ≤ 9223372036854775807) = true := decide_eq_true c10
            try have c10b2 : (9223372036854775807 < (((t140 ++ (⟨#[45]⟩ : ByteArray)) ++ t141) ++ (⟨#[45]⟩ : ByteArray)).size + t142.size) = False := eq_false (Nat.not_lt.2 c10)
            (try (have c10b3 := c10b2; simp only [ByteArray.size_append, show (⟨#[45]⟩ : ByteArray).size = 1 from rfl] at c10b3))
            by_cases c11 : ((((t140 ++ (⟨#[45]⟩ : ByteArray)) ++ t141) ++ (⟨#[45]⟩ : ByteArray)) ++ t142).size + 1 ≤ 9223372036854775807
            · rw [if_pos c11] at H
              have c11b0 := eq_true c11
              have c11b1 : decide (((((t140 ++ (⟨#[45]⟩ : ByteArray)) ++ t141) ++ (⟨#[45]⟩ : ByteArray)) ++ t142).size + 1 ≤ 9223372036854775807) = true := decide_eq_true c11
              try have c11b2 : (9223372036854775807 < ((((t140 ++ (⟨#[45]⟩ : ByteArray)) ++ t141) ++ (⟨#[45]⟩ : ByteArray)) ++ t142).size + 1) = False := eq_false (Nat.not_lt.2 c11)
              (try (have c11b3 := c11b2; simp only [ByteArray.size_append, show (⟨#[45]⟩ : ByteArray).size = 1 from rfl] at c11b3))
              replace H := Option.bind_eq_some_iff.mp H
              obtain ⟨t143, A120, H⟩ := H
              replace H : (if (((((t140 ++ (⟨#[45]⟩ : ByteArray)) ++ t141) ++ (⟨#[45]⟩ : ByteArray)) ++ t142) ++ (⟨#[84]⟩ : ByteArray)).size + t143.size ≤ 9223372036854775807 then (if ((((((t140 ++ (⟨#[45]⟩ : ByteArray)) ++ t141) ++ (⟨#[45]⟩ : ByteArray)) ++ t142) ++ (⟨#[84]⟩ : ByteArray)) ++ t143).size + 1 ≤ 9223372036854775807 then ((impl_fill.f t137 2).bind fun t144 => (if (((((((t140 ++ (⟨#[45]⟩ : ByteArray)) ++ t141) ++ (⟨#[45]⟩ : ByteArray)) ++ t142) ++ (⟨#[84]⟩ : ByteArray)) ++ t143) ++ (⟨#[58]⟩ : ByteArray)).size + t144.size ≤ 9223372036854775807 then (if ((((((((t140 ++ (⟨#[45]⟩ : ByteArray)) ++ t141) ++ (⟨#[45]⟩ : ByteArray)) ++ t142) ++ (⟨#[84]⟩ : ByteArray)) ++ t143) ++ (⟨#[58]⟩ : ByteArray)) ++ t144).size + 1 ≤ 9223372036854775807 then (some (((((((((t140 ++ (⟨#[45]⟩ : ByteArray)) ++ t141) ++ (⟨#[45]⟩ : ByteArray)) ++ t142) ++ (⟨#[84]⟩ : ByteArray)) ++ t143) ++ (⟨#[58]⟩ : ByteArray)) ++ t144) ++ (⟨#[90]⟩ : ByteArray))) else (none)) else (none))) else (none)) else (none)) = some r := H
              have A12 := Aside0.mk A120
              clear A120
              by_cases c13 : (((((t140 ++ (⟨#[45]⟩ : ByteArray)) ++ t141) ++ (⟨#[45]⟩ : ByteArray)) ++ t142) ++ (⟨#[84]⟩ : ByteArray)).size + t143.size ≤ 9223372036854775807
              · rw [if_pos c13] at H
                have c13b0 := eq_true c13
                have c13b1 : decide ((((((t140 ++ (⟨#[45]⟩ : ByteArray)) ++ t141) ++ (⟨#[45]⟩ : ByteArray)) ++ t142) ++ (⟨#[84]⟩ : ByteArray)).size + t143.size ≤ 9223372036854775807) = true := decide_eq_true c13
                try have c13b2 : (9223372036854775807 < (((((t140 ++ (⟨#[45]⟩ : ByteArray)) ++ t141) ++ (⟨#[45]⟩ : ByteArray)) ++ t142) ++ (⟨#[84]⟩ : ByteArray)).size + t143.size) = False := eq_false (Nat.not_lt.2 c13)
                (try (have c13b3 := c13b2; simp only [ByteArray.size_append, show (⟨#[45]⟩ : ByteArray).size = 1 from rfl, show (⟨#[84]⟩ : ByteArray).size = 1 from rfl] at c13b3))
                by_cases c14 : ((((((t140 ++ (⟨#[45]⟩ : ByteArray)) ++ t141) ++ (⟨#[45]⟩ : ByteArray)) ++ t142) ++ (⟨#[84]⟩ : ByteArray)) ++ t143).size + 1 ≤ 9223372036854775807
                · rw [if_pos c14] at H
                  have c14b0 := eq_true c14
                  have c14b1 : decide (((((((t140 ++ (⟨#[45]⟩ : ByteArray)) ++ t141) ++ (⟨#[45]⟩ : ByteArray)) ++ t142) ++ (⟨#[84]⟩ : ByteArray)) ++ t143).size + 1 ≤ 9223372036854775807) = true := decide_eq_true c14
                  try have c14b2 : (9223372036854775807 < ((((((t140 ++ (⟨#[45]⟩ : ByteArray)) ++ t141) ++ (⟨#[45]⟩ : ByteArray)) ++ t142) ++ (⟨#[84]⟩ : ByteArray)) ++ t143).size + 1) = False := eq_false (Nat.not_lt.2 c14)
                  (try (have c14b3 := c14b2; simp only [ByteArray.size_append, show (⟨#[45]⟩ : ByteArray).size = 1 from rfl, show (⟨#[84]⟩ : ByteArray).size = 1 from rfl] at c14b3))
                  replace H := Option.bind_eq_some_iff.mp H
                  obtain ⟨t144, A150, H⟩ := H
                  replace H : (if (((((((t140 ++ (⟨#[45]⟩ : ByteArray)) ++ t141) ++ (⟨#[45]⟩ : ByteArray)) ++ t142) ++ (⟨#[84]⟩ : ByteArray)) ++ t143) ++ (⟨#[58]⟩ : ByteArray)).size + t144.size ≤ 9223372036854775807 then (if ((((((((t140 ++ (⟨#[45]⟩ : ByteArray)) ++ t141) ++ (⟨#[45]⟩ : ByteArray)) ++ t142) ++ (⟨#[84]⟩ : ByteArray)) ++ t143) ++ (⟨#[58]⟩ : ByteArray)) ++ t144).size + 1 ≤ 9223372036854775807 then (some (((((((((t140 ++ (⟨#[45]⟩ : ByteArray)) ++ t141) ++ (⟨#[45]⟩ : ByteArray)) ++ t142) ++ (⟨#[84]⟩ : ByteArray)) ++ t143) ++ (⟨#[58]⟩ : ByteArray)) ++ t144) ++ (⟨#[90]⟩ : ByteArray))) else (none)) else (none)) = some r := H
                  have A15 := Aside0.mk A150
                  clear A150
                  by_cases c16 : (((((((t140 ++ (⟨#[45]⟩ : ByteArray)) ++ t141) ++ (⟨#[45]⟩ : ByteArray)) ++ t142) ++ (⟨#[84]⟩ : ByteArray)) ++ t143) ++ (⟨#[58]⟩ : ByteArray)).size + t144.size ≤ 9223372036854775807
                  · rw [if_pos c16] at H
                    have c16b0 := eq_true c16
                    have c16b1 : decide ((((((((t140 ++ (⟨#[45]⟩ : ByteArray)) ++ t141) ++ (⟨#[45]⟩ : ByteArray)) ++ t142) ++ (⟨#[84]⟩ : ByteArray)) ++ t143) ++ (⟨#[58]⟩ : ByteArray)).size + t144.size ≤ 9223372036854775807) = true := decide_eq_true c16
                    try have c16b2 : (9223372036854775807 < (((((((t140 ++ (⟨#[45]⟩ : ByteArray)) ++ t141) ++ (⟨#[45]⟩ : ByteArray)) ++ t142) ++ (⟨#[84]⟩ : ByteArray)) ++ t143) ++ (⟨#[58]⟩ : ByteArray)).size + t144.size) = False := eq_false (Nat.not_lt.2 c16)
                    (try (have c16b3 := c16b2; simp only [ByteArray.size_append, show (⟨#[45]⟩ : ByteArray).size = 1 from rfl, show (⟨#[58]⟩ : ByteArray).size = 1 from rfl, show (⟨#[84]⟩ : ByteArray).size = 1 from rfl] at c16b3))
                    by_cases c17 : ((((((((t140 ++ (⟨#[45]⟩ : ByteArray)) ++ t141) ++ (⟨#[45]⟩ : ByteArray)) ++ t142) ++ (⟨#[84]⟩ : ByteArray)) ++ t143) ++ (⟨#[58]⟩ : ByteArray)) ++ t144).size + 1 ≤ 9223372036854775807
                    · rw [if_pos c17] at H
                      have c17b0 := eq_true c17
                      have c17b1 : decide (((((((((t140 ++ (⟨#[45]⟩ : ByteArray)) ++ t141) ++ (⟨#[45]⟩ : ByteArray)) ++ t142) ++ (⟨#[84]⟩ : ByteArray)) ++ t143) ++ (⟨#[58]⟩ : ByteArray)) ++ t144).size + 1 ≤ 9223372036854775807) = true := decide_eq_true c17
                      try have c17b2 : (9223372036854775807 < ((((((((t140 ++ (⟨#[45]⟩ : ByteArray)) ++ t141) ++ (⟨#[45]⟩ : ByteArray)) ++ t142) ++ (⟨#[84]⟩ : ByteArray)) ++ t143) ++ (⟨#[58]⟩ : ByteArray)) ++ t144).size + 1) = False := eq_false (Nat.not_lt.2 c17)
                      (try (have c17b3 := c17b2; simp only [ByteArray.size_append, show (⟨#[45]⟩ : ByteArray).size = 1 from rfl, show (⟨#[58]⟩ : ByteArray).size = 1 from rfl, show (⟨#[84]⟩ : ByteArray).size = 1 from rfl] at c17b3))
                      obtain rfl := Option.some.inj H
                      go_enter Tryd.func9, Tryd.ntmps9
                      try go_wp2_with (first | ((with_reducible refine gate_callee (f := 17) rfl ?_); refine goesL_ (some 7) rfl rfl Tryd.func17 (by kernel_rfl) rfl #[.int .i64 a0] rfl (by (try simp only [List.map_toArray, List.map_cons, List.map_nil]); first | done | rfl | (simp only [List.length_drop, List.length_take]; rfl)) ?_; (with_reducible refine (impl_DateOf.calls k a0 t133 t134 t135 t136 t137 true _ A2.out).mono ?_); rintro e w18 ⟨rfl, hb⟩; refine ⟨_, rfl, ?_⟩; have n0_ := Aside0.mk (below_step (by repeat (first | (with_reducible first | exact HB.out | apply below_alloc | apply pw_below_drewN | apply below_drew1) | exact HB.out)) hb); clear HB; have HB := n0_; clear n0_; (try clear hb); (try clear hb2); (try clear hk); (try clear hi)) | ((with_reducible refine gate_dst (N := 3) rfl ?_); refine box_event ?hg (N := 3) ?hd (cs := #[.int .i64 0, .int .i64 0, .int .i64 0, .int .i64 0, .int .i64 0]) (t := 34) ?hr ?_; (case hd => rfl); (case hg => rfl); (case hr => first | (go_simp; done) | (go_simp; rfl)); intro gb139 hg w19 hbox hb; have n0_ := Aside0.mk (below_step (by repeat (first | (with_reducible first | exact HB.out | apply below_alloc | apply pw_below_drewN | apply below_drew1) | exact HB.out)) hb); have n1_ := Aside0.mk (hbox); have n2_ := Aside0.mk ((by rw [hg]; exact (below_size (by repeat (first | (with_reducible first | exact HB.out | apply below_alloc | apply pw_below_drewN | apply below_drew1) | exact HB.out))) : w.heap.size ≤ gb139)); have n3_ := Aside0.mk ((by rw [hg]; exact (below_size (by repeat (first | (with_reducible first | exact HB.out | apply below_alloc | apply pw_below_drewN | apply below_drew1) | exact HB.out))) : w.heap.size ≤ gb139)); clear HB; have HB := n0_; have BK139 := n1_; have GW139 := n2_; have GE139 := n3_; clear n0_ n1_ n2_ n3_; clear hb hbox hg; have hcz20_0 : w19.cell? ⟨gb139, 0, none⟩ = some (.int .i64 0) := (blk_cell BK139.out 0).trans rfl; have hcz20_1 : w19.cell? ⟨gb139, 1, none⟩ = some (.int .i64 0) := (blk_cell BK139.out 1).trans rfl; have hcz20_2 : w19.cell? ⟨gb139, 2, none⟩ = some (.int .i64 0) := (blk_cell BK139.out 2).trans rfl; have hcz20_3 : w19.cell? ⟨gb139, 3, none⟩ = some (.int .i64 0) := (blk_cell BK139.out 3).trans rfl; have hcz20_4 : w19.cell? ⟨gb139, 4, none⟩ = some (.int .i64 0) := (blk_cell BK139.out 4).trans rfl; have hfz20_0 := blk_frozen BK139.out 0; have hfz20_1 := blk_frozen BK139.out 1; have hfz20_2 := blk_frozen BK139.out 2; have hfz20_3 := blk_frozen BK139.out 3; have hfz20_4 := blk_frozen BK139.out 4))
                      have n0_ : Aside0 ((((((w19.setCell ⟨gb139, 0, none⟩ (.int .i64 t133)).setCell ⟨gb139, 1, none⟩ (.int .i64 t134)).setCell ⟨gb139, 2, none⟩ (.int .i64 t135)).setCell ⟨gb139, 3, none⟩ (.int .i64 t136)).setCell ⟨gb139, 4, none⟩ (.int .i64 t137)).heap[gb139]? = some (.cells #[.int .i64 t133, .int .i64 t134, .int .i64 t135, .int .i64 t136, .int .i64 t137] 34 (0, 0))) := ⟨by (with_reducible repeat (first | refine blk_drewN ?_ _ | refine blk_drew ?_ | refine blk_alloc ?_ _)); refine blk_put (cs := #[.int .i64 t133, .int .i64 t134, .int .i64 t135, .int .i64 t136, .int .i64 0]) ?_ 4 _ rfl; (with_reducible repeat (first | refine blk_drewN ?_ _ | refine blk_drew ?_ | refine blk_alloc ?_ _)); refine blk_put (cs := #[.int .i64 t133, .int .i64 t134, .int .i64 t135, .int .i64 0, .int .i64 0]) ?_ 3 _ rfl; (with_reducible repeat (first | refine blk_drewN ?_ _ | refine blk_drew ?_ | refine blk_alloc ?_ _)); refine blk_put (cs := #[.int .i64 t133, .int .i64 t134, .int .i64 0, .int .i64 0, .int .i64 0]) ?_ 2 _ rfl; (with_reducible repeat (first | refine blk_drewN ?_ _ | refine blk_drew ?_ | refine blk_alloc ?_ _)); refine blk_put (cs := #[.int .i64 t133, .int .i64 0, .int .i64 0, .int .i64 0, .int .i64 0]) ?_ 1 _ rfl; (with_reducible repeat (first | refine blk_drewN ?_ _ | refine blk_drew ?_ | refine blk_alloc ?_ _)); refine blk_put (cs := #[.int .i64 0, .int .i64 0, .int .i64 0, .int .i64 0, .int .i64 0]) ?_ 0 _ rfl; (with_reducible repeat (first | refine blk_drewN ?_ _ | refine blk_drew ?_ | refine blk_alloc ?_ _)); exact BK139.out⟩
                      have n1_ : Aside0 (Below w.heap.size w (((((w19.setCell ⟨gb139, 0, none⟩ (.int .i64 t133)).setCell ⟨gb139, 1, none⟩ (.int .i64 t134)).setCell ⟨gb139, 2, none⟩ (.int .i64 t135)).setCell ⟨gb139, 3, none⟩ (.int .i64 t136)).setCell ⟨gb139, 4, none⟩ (.int .i64 t137))) := ⟨by repeat (first | (with_reducible first | exact HB.out | apply below_alloc | apply pw_below_drewN | apply below_drew1 | refine below_set ?_ GE139.out) | exact HB.out)⟩
                      (try clear BK139)
                      (try clear HB)
                      generalize (((((w19.setCell ⟨gb139, 0, none⟩ (.int .i64 t133)).setCell ⟨gb139, 1, none⟩ (.int .i64 t134)).setCell ⟨gb139, 2, none⟩ (.int .i64 t135)).setCell ⟨gb139, 3, none⟩ (.int .i64 t136)).setCell ⟨gb139, 4, none⟩ (.int .i64 t137)) = w21 at n0_ n1_ ⊢
                      have BK139 := n0_
                      have HB := n1_
                      clear n0_ n1_
                      have n0_ := Aside0.mk (blk_drew BK139.out)
                      have n1_ := Aside0.mk (below_drew1 HB.out)
                      clear BK139
                      clear HB
                      have BK139 := n0_
                      have HB := n1_
                      clear n0_ n1_
                      refine start_ (n := 25) (S := fun w' => w'.cell? ⟨gb139, 0, none⟩ = some (.int .i64 t133) ∧ w'.cell? ⟨gb139, 1, none⟩ = some (.int .i64 t134) ∧ w'.cell? ⟨gb139, 2, none⟩ = some (.int .i64 t135) ∧ w'.cell? ⟨gb139, 3, none⟩ = some (.int .i64 t136) ∧ w'.cell? ⟨gb139, 4, none⟩ = some (.int .i64 t137)) (ds := []) #[false, false, false, false, false, false, false, false, false, false, false, false, false, false, false, false, false, false, false, false, false, false, false, false, false] (by kernel_rfl) rfl rfl ⟨(blk_cell BK139.out 0).trans rfl, (blk_cell BK139.out 1).trans rfl, (blk_cell BK139.out 2).trans rfl, (blk_cell BK139.out 3).trans rfl, (blk_cell BK139.out 4).trans rfl⟩ (fun hHeld => ?_); refine with_tabW impl_Stamp.tab4 impl_Stamp.bits4 (fun HT_ HW_ => ?_)
                      generalize w21.drew = w22 at BK139 HB hHeld ⊢
                      refine pure_ (i := 0) (N := some 12) (v := ?_) (a' := ?_) #[true, false, false, false, false, false, false, false, false, false, false, false, false, false, false, false, false, false, false, false, false, false, false, false, false] rfl rfl (any_of HT_.out (by kernel_rfl)) (fun _ _ _ h => h) (Or.inl ⟨by rfl, ?_⟩) ?_ ?_
                      rotate_left
                      · intro w'
                        go_simp
                        with_reducible rfl
                      rotate_left
                      · simp only [Act.put, List.setIfInBounds_toArray, List.set_cons_zero, List.set_cons_succ, i64_w, i32_w]
                        rfl
                      refine pure_ (i := 4) (N := some 16) (v := ?_) (a' := ?_) #[true, false, false, false, true, false, false, false, false, false, false, false, false, false, false, false, false, false, false, false, false, false, false, false, false] rfl rfl (any_of HT_.out (by kernel_rfl)) (fun _ _ _ h => h) (Or.inl ⟨by rfl, ?_⟩) ?_ ?_
                      rotate_left
                      · intro w'
                        go_simp
                        with_reducible rfl
                      rotate_left
                      · simp only [Act.put, List.setIfInBounds_toArray, List.set_cons_zero, List.set_cons_succ, i64_w, i32_w]
                        rfl
                      refine pure_ (i := 9) (N := some 21) (v := ?_) (a' := ?_) #[true, false, false, false, true, false, false, false, false, true, false, false, false, false, false, false, false, false, false, false, false, false, false, false, false] rfl rfl (any_of HT_.out (by kernel_rfl)) (fun _ _ _ h => h) (Or.inl ⟨by rfl, ?_⟩) ?_ ?_
                      rotate_left
                      · intro w'
                        go_simp
                        with_reducible rfl
                      rotate_left
                      · simp only [Act.put, List.setIfInBounds_toArray, List.set_cons_zero, List.set_cons_succ, i64_w, i32_w]
                        rfl
                      refine pure_ (i := 14) (N := some 26) (v := ?_) (a' := ?_) #[true, false, false, false, true, false, false, false, false, true, false, false, false, false, true, false, false, false, false, false, false, false, false, false, false] rfl rfl (any_of HT_.out (by kernel_rfl)) (fun _ _ _ h => h) (Or.inl ⟨by rfl, ?_⟩) ?_ ?_
                      rotate_left
                      · intro w'
                        go_simp
                        with_reducible rfl
                      rotate_left
                      · simp only [Act.put, List.setIfInBounds_toArray, List.set_cons_zero, List.set_cons_succ, i64_w, i32_w]
                        rfl
                      refine pure_ (i := 19) (N := some 31) (v := ?_) (a' := ?_) #[true, false, false, false, true, false, false, false, false, true, false, false, false, false, true, false, false, false, false, true, false, false, false, false, false] rfl rfl (any_of HT_.out (by kernel_rfl)) (fun _ _ _ h => h) (Or.inl ⟨by rfl, ?_⟩) ?_ ?_
                      rotate_left
                      · intro w'
                        go_simp
                        with_reducible rfl
                      rotate_left
                      · simp only [Act.put, List.setIfInBounds_toArray, List.set_cons_zero, List.set_cons_succ, i64_w, i32_w]
                        rfl
                      refine take_ (i := 1) (N := some 13) (v := ?_) (a' := ?_) #[true, true, false, false, true, false, false, false, false, true, false, false, false, false, true, false, false, false, false, true, false, false, false, false, false] rfl rfl (take_ofW HT_.out HW_.out (by kernel_rfl)) (fun _ _ _ h => h) (Or.inl ⟨by rfl, ?_⟩) hHeld ?_ ?_
                      rotate_left
                      · rintro w' ⟨s0, s1, s2, s3, s4⟩
                        go_simp
                        with_reducible rfl
                      rotate_left
                      · simp only [Act.put, List.setIfInBounds_toArray, List.set_cons_zero, List.set_cons_succ, i64_w, i32_w]
                        rfl
                      refine take_ (i := 5) (N := some 17) (v := ?_) (a' := ?_) #[true, true, false, false, true, true, false, false, false, true, false, false, false, false, true, false, false, false, false, true, false, false, false, false, false] rfl rfl (take_ofW HT_.out HW_.out (by kernel_rfl)) (fun _ _ _ h => h) (Or.inl ⟨by rfl, ?_⟩) hHeld ?_ ?_
                      rotate_left
                      · rintro w' ⟨s0, s1, s2, s3, s4⟩
                        go_simp
                        with_reducible rfl
                      rotate_left
                      · simp only [Act.put, List.setIfInBounds_toArray, List.set_cons_zero, List.set_cons_succ, i64_w, i32_w]
                        rfl
                      refine take_ (i := 10) (N := some 22) (v := ?_) (a' := ?_) #[true, true, false, false, true, true, false, false, false, true, true, false, false, false, true, false, false, false, false, true, false, false, false, false, false] rfl rfl (take_ofW HT_.out HW_.out (by kernel_rfl)) (fun _ _ _ h => h) (Or.inl ⟨by rfl, ?_⟩) hHeld ?_ ?_
                      rotate_left
                      · rintro w' ⟨s0, s1, s2, s3, s4⟩
                        go_simp
                        with_reducible rfl
                      rotate_left
                      · simp only [Act.put, List.setIfInBounds_toArray, List.set_cons_zero, List.set_cons_succ, i64_w, i32_w]
                        rfl
                      refine take_ (i := 15) (N := some 27) (v := ?_) (a' := ?_) #[true, true, false, false, true, true, false, false, false, true, true, false, false, false, true, true, false, false, false, true, false, false, false, false, false] rfl rfl (take_ofW HT_.out HW_.out (by kernel_rfl)) (fun _ _ _ h => h) (Or.inl ⟨by rfl, ?_⟩) hHeld ?_ ?_
                      rotate_left
                      · rintro w' ⟨s0, s1, s2, s3, s4⟩
                        go_simp
                        with_reducible rfl
                      rotate_left
                      · simp only [Act.put, List.setIfInBounds_toArray, List.set_cons_zero, List.set_cons_succ, i64_w, i32_w]
                        rfl
                      refine take_ (i := 20) (N := some 32) (v := ?_) (a' := ?_) #[true, true, false, false, true, true, false, false, false, true, true, false, false, false, true, true, false, false, false, true, true, false, false, false, false] rfl rfl (take_ofW HT_.out HW_.out (by kernel_rfl)) (fun _ _ _ h => h) (Or.inl ⟨by rfl, ?_⟩) hHeld ?_ ?_
                      rotate_left
                      · rintro w' ⟨s0, s1, s2, s3, s4⟩
                        go_simp
                        with_reducible rfl
                      rotate_left
                      · simp only [Act.put, List.setIfInBounds_toArray, List.set_cons_zero, List.set_cons_succ, i64_w, i32_w]
                        rfl
                      refine one_ (i := 2) (N := some 14) #[true, true, true, false, true, true, false, false, false, true, true, false, false, false, true, true, false, false, false, true, true, false, false, false, false] rfl rfl (one_of HT_.out (by kernel_rfl)) (by decide) (fun K hK => ?_)
                      refine goes_ Tryd.func18 (by kernel_rfl) rfl #[.int .i64 t133, .int .i64 4] (by rfl) rfl rfl (by (try simp only [List.map_toArray, List.map_cons, List.map_nil]); first | done | rfl | (simp only [List.length_drop, List.length_take]; rfl)) ?_
                      with_reducible refine (impl_fill.calls t133 4 t140 _ A4.out (tab_on HTb.out (by repeat (first | (with_reducible first | exact HB.out | apply below_alloc | apply pw_below_drewN | apply below_drew1 | refine below_set ?_ GE139.out) | exact HB.out)))).mono ?_
                      rintro e w23 ⟨rfl, hb⟩
                      refine ⟨_, rfl, ?_⟩
                      have n0_ := Aside0.mk (blk_below (g := gb139) (o := .cells #[.int .i64 t133, .int .i64 t134, .int .i64 t135, .int .i64 t136, .int .i64 t137] 34 (0, 0)) (by (with_reducible repeat (first | refine blk_drewN ?_ _ | refine blk_drew ?_ | refine blk_alloc ?_ _)); exact BK139.out) hb)
                      have n1_ := Aside0.mk (below_step (by repeat (first | (with_reducible first | exact HB.out | apply below_alloc | apply pw_below_drewN | apply below_drew1 | refine below_set ?_ GE139.out) | exact HB.out)) hb)
                      clear BK139
                      clear HB
                      have BK139 := n0_
                      have HB := n1_
                      clear n0_ n1_
                      (try clear hb)
                      (try clear hb2)
                      (try clear hk)
                      (try clear hi)
                      refine hK.out _ _ ⟨(blk_cell BK139.out 0).trans rfl, (blk_cell BK139.out 1).trans rfl, (blk_cell BK139.out 2).trans rfl, (blk_cell BK139.out 3).trans rfl, (blk_cell BK139.out 4).trans rfl⟩ (fun hHeld => ?_)
                      clear hK K
                      refine norm_ (a' := ?_) ?_ ?_
                      rotate_left
                      · show Act.put _ (some 14) _ = _
                        simp only [Act.put, List.setIfInBounds_toArray, List.set_cons_zero, List.set_cons_succ, i64_w, i32_w]
                        rfl
                      refine pure_ (i := 3) (N := some 15) (v := ?_) (a' := ?_) #[true, true, true, true, true, true, false, false, false, true, true, false, false, false, true, true, false, false, false, true, true, false, false, false, false] rfl rfl (any_of HT_.out (by kernel_rfl)) (fun _ _ _ h => h) (Or.inl ⟨by rfl, ?_⟩) ?_ ?_
                      rotate_left
                      · intro w'
                        go_simp
                        with_reducible rfl
                      rotate_left
                      · simp only [Act.put, List.setIfInBounds_toArray, List.set_cons_zero, List.set_cons_succ, i64_w, i32_w]
                        rfl
                      refine one_ (i := 6) (N := some 18) #[true, true, true, true, true, true, true, false, false, true, true, false, false, false, true, true, false, false, false, true, true, false, false, false, false] rfl rfl (one_of HT_.out (by kernel_rfl)) (by decide) (fun K hK => ?_)
                      refine goes_ Tryd.func18 (by kernel_rfl) rfl #[.int .i64 t134, .int .i64 2] (by rfl) rfl rfl (by (try simp only [List.map_toArray, List.map_cons, List.map_nil]); first | done | rfl | (simp only [List.length_drop, List.length_take]; rfl)) ?_
                      with_reducible refine (impl_fill.calls t134 2 t141 _ A6.out (tab_on HTb.out (by repeat (first | (with_reducible first | exact HB.out | apply below_alloc | apply pw_below_drewN | apply below_drew1 | refine below_set ?_ GE139.out) | exact HB.out)))).mono ?_
                      rintro e w24 ⟨rfl, hb⟩
                      refine ⟨_, rfl, ?_⟩
                      have n0_ := Aside0.mk (blk_below (g := gb139) (o := .cells #[.int .i64 t133, .int .i64 t134, .int .i64 t135, .int .i64 t136, .int .i64 t137] 34 (0, 0)) (by (with_reducible repeat (first | refine blk_drewN ?_ _ | refine blk_drew ?_ | refine blk_alloc ?_ _)); exact BK139.out) hb)
                      have n1_ := Aside0.mk (below_step (by repeat (first | (with_reducible first | exact HB.out | apply below_alloc | apply pw_below_drewN | apply below_drew1 | refine below_set ?_ GE139.out) | exact HB.out)) hb)
                      clear BK139
                      clear HB
                      have BK139 := n0_
                      have HB := n1_
                      clear n0_ n1_
                      (try clear hb)
                      (try clear hb2)
                      (try clear hk)
                      (try clear hi)
                      refine hK.out _ _ ⟨(blk_cell BK139.out 0).trans rfl, (blk_cell BK139.out 1).trans rfl, (blk_cell BK139.out 2).trans rfl, (blk_cell BK139.out 3).trans rfl, (blk_cell BK139.out 4).trans rfl⟩ (fun hHeld => ?_)
                      clear hK K
                      refine norm_ (a' := ?_) ?_ ?_
                      rotate_left
                      · show Act.put _ (some 18) _ = _
                        simp only [Act.put, List.setIfInBounds_toArray, List.set_cons_zero, List.set_cons_succ, i64_w, i32_w]
                        rfl
                      refine pure_ (i := 7) (N := some 19) (v := ?_) (a' := ?_) #[true, true, true, true, true, true, true, true, false, true, true, false, false, false, true, true, false, false, false, true, true, false, false, false, false] rfl rfl (any_of HT_.out (by kernel_rfl)) (fun _ _ _ h => h) (Or.inl ⟨by rfl, ?_⟩) ?_ ?_
                      rotate_left
                      · intro w'
                        go_simp
                        with_reducible rfl
                      rotate_left
                      · simp only [Act.put, List.setIfInBounds_toArray, List.set_cons_zero, List.set_cons_succ, i64_w, i32_w]
                        rfl
                      refine pure_ (i := 8) (N := some 20) (v := ?_) (a' := ?_) #[true, true, true, true, true, true, true, true, true, true, true, false, false, false, true, true, false, false, false, true, true, false, false, false, false] rfl rfl (any_of HT_.out (by kernel_rfl)) (fun _ _ _ h => h) (Or.inl ⟨by rfl, ?_⟩) ?_ ?_
                      rotate_left
                      · intro w'
                        go_simp
                        with_reducible rfl
                      rotate_left
                      · simp only [Act.put, List.setIfInBounds_toArray, List.set_cons_zero, List.set_cons_succ, i64_w, i32_w]
                        rfl
                      refine one_ (i := 11) (N := some 23) #[true, true, true, true, true, true, true, true, true, true, true, true, false, false, true, true, false, false, false, true, true, false, false, false, false] rfl rfl (one_of HT_.out (by kernel_rfl)) (by decide) (fun K hK => ?_)
                      refine goes_ Tryd.func18 (by kernel_rfl) rfl #[.int .i64 t135, .int .i64 2] (by rfl) rfl rfl (by (try simp only [List.map_toArray, List.map_cons, List.map_nil]); first | done | rfl | (simp only [List.length_drop, List.length_take]; rfl)) ?_
                      with_reducible refine (impl_fill.calls t135 2 t142 _ A9.out (tab_on HTb.out (by repeat (first | (with_reducible first | exact HB.out | apply below_alloc | apply pw_below_drewN | apply below_drew1 | refine below_set ?_ GE139.out) | exact HB.out)))).mono ?_
                      rintro e w25 ⟨rfl, hb⟩
                      refine ⟨_, rfl, ?_⟩
                      have n0_ := Aside0.mk (blk_below (g := gb139) (o := .cells #[.int .i64 t133, .int .i64 t134, .int .i64 t135, .int .i64 t136, .int .i64 t137] 34 (0, 0)) (by (with_reducible repeat (first | refine blk_drewN ?_ _ | refine blk_drew ?_ | refine blk_alloc ?_ _)); exact BK139.out) hb)
                      have n1_ := Aside0.mk (below_step (by repeat (first | (with_reducible first | exact HB.out | apply below_alloc | apply pw_below_drewN | apply below_drew1 | refine below_set ?_ GE139.out) | exact HB.out)) hb)
                      clear BK139
                      clear HB
                      have BK139 := n0_
                      have HB := n1_
                      clear n0_ n1_
                      (try clear hb)
                      (try clear hb2)
                      (try clear hk)
                      (try clear hi)
                      refine hK.out _ _ ⟨(blk_cell BK139.out 0).trans rfl, (blk_cell BK139.out 1).trans rfl, (blk_cell BK139.out 2).trans rfl, (blk_cell BK139.out 3).trans rfl, (blk_cell BK139.out 4).trans rfl⟩ (fun hHeld => ?_)
                      clear hK K
                      refine norm_ (a' := ?_) ?_ ?_
                      rotate_left
                      · show Act.put _ (some 23) _ = _
                        simp only [Act.put, List.setIfInBounds_toArray, List.set_cons_zero, List.set_cons_succ, i64_w, i32_w]
                        rfl
                      refine pure_ (i := 12) (N := some 24) (v := ?_) (a' := ?_) #[true, true, true, true, true, true, true, true, true, true, true, true, true, false, true, true, false, false, false, true, true, false, false, false, false] rfl rfl (any_of HT_.out (by kernel_rfl)) (fun _ _ _ h => h) (Or.inl ⟨by rfl, ?_⟩) ?_ ?_
                      rotate_left
                      · intro w'
                        go_simp
                        with_reducible rfl
                      rotate_left
                      · simp only [Act.put, List.setIfInBounds_toArray, List.set_cons_zero, List.set_cons_succ, i64_w, i32_w]
                        rfl
                      refine pure_ (i := 13) (N := some 25) (v := ?_) (a' := ?_) #[true, true, true, true, true, true, true, true, true, true, true, true, true, true, true, true, false, false, false, true, true, false, false, false, false] rfl rfl (any_of HT_.out (by kernel_rfl)) (fun _ _ _ h => h) (Or.inl ⟨by rfl, ?_⟩) ?_ ?_
                      rotate_left
                      · intro w'
                        go_simp
                        with_reducible rfl
                      rotate_left
                      · simp only [Act.put, List.setIfInBounds_toArray, List.set_cons_zero, List.set_cons_succ, i64_w, i32_w]
                        rfl
                      refine one_ (i := 16) (N := some 28) #[true, true, true, true, true, true, true, true, true, true, true, true, true, true, true, true, true, false, false, true, true, false, false, false, false] rfl rfl (one_of HT_.out (by kernel_rfl)) (by decide) (fun K hK => ?_)
                      refine goes_ Tryd.func18 (by kernel_rfl) rfl #[.int .i64 t136, .int .i64 2] (by rfl) rfl rfl (by (try simp only [List.map_toArray, List.map_cons, List.map_nil]); first | done | rfl | (simp only [List.length_drop, List.length_take]; rfl)) ?_
                      with_reducible refine (impl_fill.calls t136 2 t143 _ A12.out (tab_on HTb.out (by repeat (first | (with_reducible first | exact HB.out | apply below_alloc | apply pw_below_drewN | apply below_drew1 | refine below_set ?_ GE139.out) | exact HB.out)))).mono ?_
                      rintro e w26 ⟨rfl, hb⟩
                      refine ⟨_, rfl, ?_⟩
                      have n0_ := Aside0.mk (blk_below (g := gb139) (o := .cells #[.int .i64 t133, .int .i64 t134, .int .i64 t135, .int .i64 t136, .int .i64 t137] 34 (0, 0)) (by (with_reducible repeat (first | refine blk_drewN ?_ _ | refine blk_drew ?_ | refine blk_alloc ?_ _)); exact BK139.out) hb)
                      have n1_ := Aside0.mk (below_step (by repeat (first | (with_reducible first | exact HB.out | apply below_alloc | apply pw_below_drewN | apply below_drew1 | refine below_set ?_ GE139.out) | exact HB.out)) hb)
                      clear BK139
                      clear HB
                      have BK139 := n0_
                      have HB := n1_
                      clear n0_ n1_
                      (try clear hb)
                      (try clear hb2)
                      (try clear hk)
                      (try clear hi)
                      refine hK.out _ _ ⟨(blk_cell BK139.out 0).trans rfl, (blk_cell BK139.out 1).trans rfl, (blk_cell BK139.out 2).trans rfl, (blk_cell BK139.out 3).trans rfl, (blk_cell BK139.out 4).trans rfl⟩ (fun hHeld => ?_)
                      clear hK K
                      refine norm_ (a' := ?_) ?_ ?_
                      rotate_left
                      · show Act.put _ (some 28) _ = _
                        simp only [Act.put, List.setIfInBounds_toArray, List.set_cons_zero, List.set_cons_succ, i64_w, i32_w]
                        rfl
                      refine pure_ (i := 17) (N := some 29) (v := ?_) (a' := ?_) #[true, true, true, true, true, true, true, true, true, true, true, true, true, true, true, true, true, true, false, true, true, false, false, false, false] rfl rfl (any_of HT_.out (by kernel_rfl)) (fun _ _ _ h => h) (Or.inl ⟨by rfl, ?_⟩) ?_ ?_
                      rotate_left
                      · intro w'
                        go_simp
                        with_reducible rfl
                      rotate_left
                      · simp only [Act.put, List.setIfInBounds_toArray, List.set_cons_zero, List.set_cons_succ, i64_w, i32_w]
                        rfl
                      refine pure_ (i := 18) (N := some 30) (v := ?_) (a' := ?_) #[true, true, true, true, true, true, true, true, true, true, true, true, true, true, true, true, true, true, true, true, true, false, false, false, false] rfl rfl (any_of HT_.out (by kernel_rfl)) (fun _ _ _ h => h) (Or.inl ⟨by rfl, ?_⟩) ?_ ?_
                      rotate_left
                      · intro w'
                        go_simp
                        with_reducible rfl
                      rotate_left
                      · simp only [Act.put, List.setIfInBounds_toArray, List.set_cons_zero, List.set_cons_succ, i64_w, i32_w]
                        rfl
                      refine one_ (i := 21) (N := some 33) #[true, true, true, true, true, true, true, true, true, true, true, true, true, true, true, true, true, true, true, true, true, true, false, false, false] rfl rfl (one_of HT_.out (by kernel_rfl)) (by decide) (fun K hK => ?_)
                      refine goes_ Tryd.func18 (by kernel_rfl) rfl #[.int .i64 t137, .int .i64 2] (by rfl) rfl rfl (by (try simp only [List.map_toArray, List.map_cons, List.map_nil]); first | done | rfl | (simp only [List.length_drop, List.length_take]; rfl)) ?_
                      with_reducible refine (impl_fill.calls t137 2 t144 _ A15.out (tab_on HTb.out (by repeat (first | (with_reducible first | exact HB.out | apply below_alloc | apply pw_below_drewN | apply below_drew1 | refine below_set ?_ GE139.out) | exact HB.out)))).mono ?_
                      rintro e w27 ⟨rfl, hb⟩
                      refine ⟨_, rfl, ?_⟩
                      have n0_ := Aside0.mk (blk_below (g := gb139) (o := .cells #[.int .i64 t133, .int .i64 t134, .int .i64 t135, .int .i64 t136, .int .i64 t137] 34 (0, 0)) (by (with_reducible repeat (first | refine blk_drewN ?_ _ | refine blk_drew ?_ | refine blk_alloc ?_ _)); exact BK139.out) hb)
                      have n1_ := Aside0.mk (below_step (by repeat (first | (with_reducible first | exact HB.out | apply below_alloc | apply pw_below_drewN | apply below_drew1 | refine below_set ?_ GE139.out) | exact HB.out)) hb)
                      clear BK139
                      clear HB
                      have BK139 := n0_
                      have HB := n1_
                      clear n0_ n1_
                      (try clear hb)
                      (try clear hb2)
                      (try clear hk)
                      (try clear hi)
                      refine hK.out _ _ ⟨(blk_cell BK139.out 0).trans rfl, (blk_cell BK139.out 1).trans rfl, (blk_cell BK139.out 2).trans rfl, (blk_cell BK139.out 3).trans rfl, (blk_cell BK139.out 4).trans rfl⟩ (fun hHeld => ?_)
                      clear hK K
                      refine norm_ (a' := ?_) ?_ ?_
                      rotate_left
                      · show Act.put _ (some 33) _ = _
                        simp only [Act.put, List.setIfInBounds_toArray, List.set_cons_zero, List.set_cons_succ, i64_w, i32_w]
                        rfl
                      refine pure_ (i := 22) (N := some 34) (v := ?_) (a' := ?_) #[true, true, true, true, true, true, true, true, true, true, true, true, true, true, true, true, true, true, true, true, true, true, true, false, false] rfl rfl (any_of HT_.out (by kernel_rfl)) (fun _ _ _ h => h) (Or.inl ⟨by rfl, ?_⟩) ?_ ?_
                      rotate_left
                      · intro w'
                        go_simp
                        with_reducible rfl
                      rotate_left
                      · simp only [Act.put, List.setIfInBounds_toArray, List.set_cons_zero, List.set_cons_succ, i64_w, i32_w]
                        rfl
                      refine pure_ (i := 23) (N := some 35) (v := ?_) (a' := ?_) #[true, true, true, true, true, true, true, true, true, true, true, true, true, true, true, true, true, true, true, true, true, true, true, true, false] rfl rfl (any_of HT_.out (by kernel_rfl)) (fun _ _ _ h => h) (Or.inl ⟨by rfl, ?_⟩) ?_ ?_
                      rotate_left
                      · intro w'
                        go_simp
                        with_reducible rfl
                      rotate_left
                      · simp only [Act.put, List.setIfInBounds_toArray, List.set_cons_zero, List.set_cons_succ, i64_w, i32_w]
                        rfl
                      refine pure_ (i := 24) (N := some 2) (v := ?_) (a' := ?_) #[true, true, true, true, true, true, true, true, true, true, true, true, true, true, true, true, true, true, true, true, true, true, true, true, true] rfl rfl (any_of HT_.out (by kernel_rfl)) (fun _ _ _ h => h) (Or.inl ⟨by rfl, ?_⟩) ?_ ?_
                      rotate_left
                      · intro w'
                        go_simp
                        with_reducible rfl
                      rotate_left
                      · simp only [Act.put, List.setIfInBounds_toArray, List.set_cons_zero, List.set_cons_succ, i64_w, i32_w]
                        rfl
                      refine done_ (done_of HT_.out (by kernel_rfl)) ?_
                      try go_wp2
                      go_ret
                      exact ⟨by first | rfl | (simp [errW_none, errW_some] <;> rfl) | (simp [*, errW_none, errW_some] <;> rfl), by repeat (first | (with_reducible first | exact HB.out | apply below_alloc | apply pw_below_drewN | apply below_drew1 | refine below_set ?_ GE139.out) | exact HB.out)⟩
                    · rw [if_neg c17] at H
                      exact absurd H (by simp)
                  · rw [if_neg c16] at H
                    exact absurd H (by simp)
                · rw [if_neg c14] at H
                  exact absurd H (by simp)
              · rw [if_neg c13] at H
                exact absurd H (by simp)
            · rw [if_neg c11] at H
              exact absurd H (by simp)
          · rw [if_neg c10] at H
            exact absurd H (by simp)
        · rw [if_neg c8] at H
          exact absurd H (by simp)
      · rw [if_neg c7] at H
        exact absurd H (by simp)
    · rw [if_neg c5] at H
      exact absurd H (by simp)
  · replace c3 := Bool.eq_false_iff.mpr c3
    subst c3
    have H1 : (some (⟨#[]⟩ : ByteArray)) = some r := by rw [if_neg (show ¬ (false = true) by decide)] at H; exact H
    clear H
    have H := H1
    clear H1
    obtain rfl := Option.some.inj H
    go_enter Tryd.func9, Tryd.ntmps9
    go_wp2_with (first | ((with_reducible refine gate_callee (f := 17) rfl ?_); refine goesL_ (some 7) rfl rfl Tryd.func17 (by kernel_rfl) rfl #[.int .i64 a0] rfl (by (try simp only [List.map_toArray, List.map_cons, List.map_nil]); first | done | rfl | (simp only [List.length_drop, List.length_take]; rfl)) ?_; (with_reducible refine (impl_DateOf.calls k a0 t133 t134 t135 t136 t137 false _ A2.out).mono ?_); rintro e w28 ⟨rfl, hb⟩; refine ⟨_, rfl, ?_⟩; have n0_ := Aside0.mk (below_step (by repeat (first | (with_reducible first | exact HB.out | apply below_alloc | apply pw_below_drewN | apply below_drew1) | exact HB.out)) hb); clear HB; have HB := n0_; clear n0_; (try clear hb); (try clear hb2); (try clear hk); (try clear hi)) | ((with_reducible refine gate_dst (N := 3) rfl ?_); refine box_event ?hg (N := 3) ?hd (cs := #[.int .i64 0, .int .i64 0, .int .i64 0, .int .i64 0, .int .i64 0]) (t := 34) ?hr ?_; (case hd => rfl); (case hg => rfl); (case hr => first | (go_simp; done) | (go_simp; rfl)); intro gb139 hg w29 hbox hb; have n0_ := Aside0.mk (below_step (by repeat (first | (with_reducible first | exact HB.out | apply below_alloc | apply pw_below_drewN | apply below_drew1) | exact HB.out)) hb); have n1_ := Aside0.mk (hbox); have n2_ := Aside0.mk ((by rw [hg]; exact (below_size (by repeat (first | (with_reducible first | exact HB.out | apply below_alloc | apply pw_below_drewN | apply below_drew1) | exact HB.out))) : w.heap.size ≤ gb139)); have n3_ := Aside0.mk ((by rw [hg]; exact (below_size (by repeat (first | (with_reducible first | exact HB.out | apply below_alloc | apply pw_below_drewN | apply below_drew1) | exact HB.out))) : w.heap.size ≤ gb139)); clear HB; have HB := n0_; have BK139 := n1_; have GW139 := n2_; have GE139 := n3_; clear n0_ n1_ n2_ n3_; clear hb hbox hg; have hcz30_0 : w29.cell? ⟨gb139, 0, none⟩ = some (.int .i64 0) := (blk_cell BK139.out 0).trans rfl; have hcz30_1 : w29.cell? ⟨gb139, 1, none⟩ = some (.int .i64 0) := (blk_cell BK139.out 1).trans rfl; have hcz30_2 : w29.cell? ⟨gb139, 2, none⟩ = some (.int .i64 0) := (blk_cell BK139.out 2).trans rfl; have hcz30_3 : w29.cell? ⟨gb139, 3, none⟩ = some (.int .i64 0) := (blk_cell BK139.out 3).trans rfl; have hcz30_4 : w29.cell? ⟨gb139, 4, none⟩ = some (.int .i64 0) := (blk_cell BK139.out 4).trans rfl; have hfz30_0 := blk_frozen BK139.out 0; have hfz30_1 := blk_frozen BK139.out 1; have hfz30_2 := blk_frozen BK139.out 2; have hfz30_3 := blk_frozen BK139.out 3; have hfz30_4 := blk_frozen BK139.out 4))
    go_ret
    exact ⟨by first | rfl | (simp [errW_none, errW_some] <;> rfl) | (simp [*, errW_none, errW_some] <;> rfl), by repeat (first | (with_reducible first | exact HB.out | apply below_alloc | apply pw_below_drewN | apply below_drew1 | refine below_set ?_ GE139.out) | exact HB.out)⟩

/-! ### laws_FnExactStamp: function 4 -/
def laws_FnExactStamp.f (k : Nat) (a0 : Int) : Option (Bool) := (spec_Stamp.f k a0).bind fun t145 => ((impl_Stamp.f k a0).bind fun t146 => (if t146.toList = t145.toList then (some true) else (some false)))
theorem laws_FnExactStamp.mono : ∀ a0 k, LeO (laws_FnExactStamp.f k a0) (laws_FnExactStamp.f (k + 1) a0) := by
  intro a0 k
  unfold laws_FnExactStamp.f
  repeat' first
      | (with_reducible exact impl_Stamp.mono _ _)
      | (with_reducible exact spec_Stamp.mono _ _)
      | (with_reducible exact LeO.refl _)
      | (with_reducible exact LeO.none _)
      | (with_reducible refine LeO.ite ?_ ?_)
      | (with_reducible refine LeO.bind ?_ (fun _ => ?_))
      | exact impl_Stamp.mono _ _
      | exact spec_Stamp.mono _ _
      | exact LeO.none _
      | refine LeO.ite ?_ ?_
      | refine LeO.bind ?_ (fun _ => ?_)
set_option maxHeartbeats 8000000 in
set_option maxRecDepth 100000 in
theorem laws_FnExactStamp.calls (k : Nat) (a0 : Int) (w : World) (h : laws_FnExactStamp.f k a0 = some true) (hT : Lib.TabIs Tryd.prog w "internal/strconv.uint64pow10" .u64 Lib.pow10Tab) :
    Calls Tryd.prog 4 #[.int .i64 a0] w fun e w' => e = .returned (.bool true) ∧ Below w.heap.size w w' := by
  have HTb := Aside0.mk hT; clear hT
  have HB := Aside0.mk (Below.refl w.heap.size w)
  have H : ((spec_Stamp.f k a0).bind fun t145 => ((impl_Stamp.f k a0).bind fun t146 => (if t146.toList = t145.toList then (some true) else (some false)))) = some true := h
  clear h
  replace H := Option.bind_eq_some_iff.mp H
  obtain ⟨t145, A20, H⟩ := H
  replace H : ((impl_Stamp.f k a0).bind fun t146 => (if t146.toList = t145.toList then (some true) else (some false))) = some true := H
  have A2 := Aside0.mk A20
  clear A20
  replace H := Option.bind_eq_some_iff.mp H
  obtain ⟨t146, A30, H⟩ := H
  replace H : (if t146.toList = t145.toList then (some true) else (some false)) = some true := H
  have A3 := Aside0.mk A30
  clear A30
  by_cases c4 : t146.toList = t145.toList
  · rw [if_pos c4] at H
    have c4b0 : (t146.toList == t145.toList) = true := beq_iff_eq.mpr c4
    have c4b1 : (t146.toList != t145.toList) = false := bne_eq_false_iff_eq.mpr c4
    clear c4
    clear H
    go_enter Tryd.func4, Tryd.ntmps4
    go_wp2_with (first | ((with_reducible refine gate_callee (f := 8) rfl ?_); refine goesL_ (some 6) rfl rfl Tryd.func8 (by kernel_rfl) rfl #[.int .i64 a0] rfl (by (try simp only [List.map_toArray, List.map_cons, List.map_nil]); first | done | rfl | (simp only [List.length_drop, List.length_take]; rfl)) ?_; (with_reducible refine (spec_Stamp.calls k a0 t145 _ A2.out).mono ?_); rintro e w5 ⟨rfl, hb⟩; refine ⟨_, rfl, ?_⟩; have n0_ := Aside0.mk (below_step (by repeat (first | (with_reducible first | exact HB.out | apply below_alloc | apply pw_below_drewN | apply below_drew1) | exact HB.out)) hb); clear HB; have HB := n0_; clear n0_; (try clear hb); (try clear hb2); (try clear hk); (try clear hi)) | ((with_reducible refine gate_callee (f := 9) rfl ?_); refine goesL_ (some 8) rfl rfl Tryd.func9 (by kernel_rfl) rfl #[.int .i64 a0] rfl (by (try simp only [List.map_toArray, List.map_cons, List.map_nil]); first | done | rfl | (simp only [List.length_drop, List.length_take]; rfl)) ?_; (with_reducible refine (impl_Stamp.calls k a0 t146 _ A3.out (tab_on HTb.out (by repeat (first | (with_reducible first | exact HB.out | apply below_alloc | apply pw_below_drewN | apply below_drew1) | exact HB.out)))).mono ?_); rintro e w6 ⟨rfl, hb⟩; refine ⟨_, rfl, ?_⟩; have n0_ := Aside0.mk (below_step (by repeat (first | (with_reducible first | exact HB.out | apply below_alloc | apply pw_below_drewN | apply below_drew1) | exact HB.out)) hb); clear HB; have HB := n0_; clear n0_; (try clear hb); (try clear hb2); (try clear hk); (try clear hi)))
    go_ret
    exact ⟨by first | rfl | (simp [errW_none, errW_some] <;> rfl) | (simp [*, errW_none, errW_some] <;> rfl), by repeat (first | (with_reducible first | exact HB.out | apply below_alloc | apply pw_below_drewN | apply below_drew1) | exact HB.out)⟩
  · rw [if_neg c4] at H
    have c4b0 : (t146.toList == t145.toList) = false := beq_eq_false_iff_ne.mpr c4
    have c4b1 : (t146.toList != t145.toList) = true := bne_iff_ne.mpr c4
    exact absurd H (by simp)

end Go.Proofs.YtadfgfjpadbfdaaDoor.QFnExactStamp
