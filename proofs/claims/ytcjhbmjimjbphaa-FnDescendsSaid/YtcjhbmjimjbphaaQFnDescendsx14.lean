-- Written by a program of this session out of the printer's texts and contracts of its own.
import Derived.Test.YtcjhbmjimjbphaaSq
import Derived.Test.YtcjhbmjimjbphaaQFnDescendsx0
import Derived.Test.YtcjhbmjimjbphaaQFnDescendsx1
import Derived.Test.YtcjhbmjimjbphaaQFnDescendsx3
import Derived.Test.YtcjhbmjimjbphaaQFnDescendsx5
import Derived.Test.YtcjhbmjimjbphaaQFnDescendsx6
import Derived.Test.YtcjhbmjimjbphaaQFnDescendsx8
import Derived.Test.YtcjhbmjimjbphaaQFnDescendsx10
import Derived.Test.YtcjhbmjimjbphaaQFnDescendsx13
namespace Go.Proofs.Ytcjhbmjimjbphaa.QFnDescends
open Go.RowKit Go.Proofs.YtcjhbmjimjbphaaW.PrintWords Go.Proofs.YtcjhbmjimjbphaaW.PrintLast Go.Proofs.YtcjhbmjimjbphaaW.PrintMore Go.Proofs.Ytcjhbmjimjbphaa.Sq
attribute [local go_sem] max2_int min2_int max_two min_two max_three min_three max_four min_four   -- for this text's walks alone
set_option linter.unusedVariables false
set_option linter.unusedSimpArgs false
theorem sABelo_14 {b : Nat} {w W : World} (h : Below b w W := by repeat (first | (with_reducible first | exact Aside0.out (by assumption) | apply below_alloc | apply pw_below_drewN | apply below_drew1 | refine below_set ?_ (Aside0.out (by assumption))) | exact Aside0.out (by assumption))) : Below b w W := h

attribute [local go_sem high] eqA50
/-! ### laws_FnDescends: function 6 -/
mutual
def laws_FnDescends.j0 : Nat → List Int → Int → Bool → List (S50) → Bool → Int → List Int → List Int → List (S52) → Option (Bool)
 | 0, _, _, _, _, _, _, _, _, _ => none
 | k + 1, x4, x5, x7, x8, x50, x410000, x410001, x410002, x410003 => if x50 = true then (some false) else (if x7 = true then ((some (([] : List Int) : List Int)).bind fun y418 => (if y418.length + x4.length < 17592186044416 then ((some (y418 ++ x4 : List Int)).bind fun y421 => ((spec_Cost.f k x410000 x410001 x410002 x410003 y421).bind fun t424 => (laws_FnDescends.l0 k x4 x5 x8 y421 t424 0 x410000 x410001 x410002 x410003))) else (none))) else (some true))
def laws_FnDescends.l0 : Nat → List Int → Int → List (S50) → List Int → Int → Int → Int → List Int → List Int → List (S52) → Option (Bool)
 | 0, _, _, _, _, _, _, _, _, _, _ => none
 | k + 1, x4, x5, x8, x10, x11, x12, x410000, x410001, x410002, x410003 => if x12 < (x8.length : Int) then (if 0 ≤ x12 then (if ((rd_T50 x8 x12).f0) < 0 then (laws_FnDescends.j2 k x4 x5 x8 x10 x11 x12 true x410000 x410001 x410002 x410003 ((rd_T50 x8 x12).f0) ((rd_T50 x8 x12).f1) ((rd_T50 x8 x12).f2)) else (laws_FnDescends.j2 k x4 x5 x8 x10 x11 x12 (decide (((rd_T50 x8 x12).f0) ≥ x410000)) x410000 x410001 x410002 x410003 ((rd_T50 x8 x12).f0) ((rd_T50 x8 x12).f1) ((rd_T50 x8 x12).f2))) else (none)) else (if (x8.length : Int) < x5 then ((impl_Certified.f k x410000 x410001 x410002 x410003 x10).bind fun t431 => (laws_FnDescends.j3 k x4 x5 x8 (!t431) x410000 x410001 x410002 x410003)) else (laws_FnDescends.j3 k x4 x5 x8 false x410000 x410001 x410002 x410003))
def laws_FnDescends.j2 : Nat → List Int → Int → List (S50) → List Int → Int → Int → Bool → Int → List Int → List Int → List (S52) → Int → Int → Int → Option (Bool)
 | 0, _, _, _, _, _, _, _, _, _, _, _, _, _, _ => none
 | k + 1, x4, x5, x8, x10, x11, x12, x78, x410000, x410001, x410002, x410003, x427000, x427001, x427002 => if x78 = true then (some false) else (if 0 ≤ x427000 then (if x427000 < (x10.length : Int) then ((some (x10.set (x427000 : Int).toNat (wrap64 ((rd x10 x427000) + x427001)) : List Int)).bind fun y428 => ((impl_Cost.f k x410000 x410001 x410002 x410003 y428).bind fun t429 => (if x427002 = t429 then ((spec_Cost.f k x410000 x410001 x410002 x410003 y428).bind fun t430 => (if x427002 = t430 then (if x427002 ≥ x11 then (some false) else (laws_FnDescends.l0 k x4 x5 x8 y428 x427002 (wrap64 (x12 + 1)) x410000 x410001 x410002 x410003)) else (some false))) else (some false)))) else (none)) else (none))
def laws_FnDescends.j3 : Nat → List Int → Int → List (S50) → Bool → Int → List Int → List Int → List (S52) → Option (Bool)
 | 0, _, _, _, _, _, _, _, _ => none
 | k + 1, x4, x5, x8, x122, x410000, x410001, x410002, x410003 => if x122 = true then (some false) else (laws_FnDescends.l1 k x4 x5 x8 (wrap64 ((x410003.length : Int) - 1)) x410000 x410001 x410002 x410003 x410000 x410001 x410002 (([] : List (S52))))
def laws_FnDescends.l1 : Nat → List Int → Int → List (S50) → Int → Int → List Int → List Int → List (S52) → Int → List Int → List Int → List (S52) → Option (Bool)
 | 0, _, _, _, _, _, _, _, _, _, _, _, _ => none
 | k + 1, x4, x5, x8, x15, x410000, x410001, x410002, x410003, x433000, x433001, x433002, x433003 => if x15 ≥ 0 then (if 0 ≤ x15 then (if x15 < (x410003.length : Int) then (if x433003.length < 3518437208883 then (laws_FnDescends.l1 k x4 x5 x8 (wrap64 (x15 - 1)) x410000 x410001 x410002 x410003 x433000 x433001 x433002 (x433003 ++ [(⟨(rd_T52 x410003 x15).f0, (rd_T52 x410003 x15).f1, (rd_T52 x410003 x15).f2⟩ : S52)])) else (none)) else (none)) else (none)) else ((impl_Descend.f k x433000 x433001 x433002 x433003 x4 x5).bind fun bt440 => (if bt440.2 = true then (laws_FnDescends.j5 k x8 bt440.1 ((bt440.1.length : Int) != (x8.length : Int))) else (laws_FnDescends.j5 k x8 bt440.1 true)))
def laws_FnDescends.j5 : Nat → List (S50) → List (S50) → Bool → Option (Bool)
 | 0, _, _, _ => none
 | k + 1, x8, x16, x159 => if x159 = true then (some false) else (laws_FnDescends.l2 k x8 x16 0)
def laws_FnDescends.l2 : Nat → List (S50) → List (S50) → Int → Option (Bool)
 | 0, _, _, _ => none
 | k + 1, x8, x16, x18 => if x18 < (x8.length : Int) then (if 0 ≤ x18 then (if x18 < (x16.length : Int) then (if (!(((rd_T50 x16 x18).f0) == ((rd_T50 x8 x18).f0)) || (!(((rd_T50 x16 x18).f1) == ((rd_T50 x8 x18).f1)) || (!(((rd_T50 x16 x18).f2) == ((rd_T50 x8 x18).f2))))) = true then (some false) else (laws_FnDescends.l2 k x8 x16 (wrap64 (x18 + 1)))) else (none)) else (none)) else (some true)
end
def laws_FnDescends.f (k : Nat) (l0 : List Int) : Option (Bool) := (laws_big.f l0).bind fun t394 => (if t394 = true then (some true) else ((spec_DrawDescend.f k l0).bind fun bt395 => ((spec_Descend.f k bt395.1 bt395.2.1 bt395.2.2.1 bt395.2.2.2.1 bt395.2.2.2.2.1 bt395.2.2.2.2.2).bind fun bt410 => ((impl_Descend.f k bt395.1 bt395.2.1 bt395.2.2.1 bt395.2.2.2.1 bt395.2.2.2.2.1 bt395.2.2.2.2.2).bind fun bt414 => (if (bt414.2 != bt410.2) = true then (laws_FnDescends.j0 k bt395.2.2.2.2.1 bt395.2.2.2.2.2 bt410.2 bt414.1 true bt395.1 bt395.2.1 bt395.2.2.1 bt395.2.2.2.1) else (laws_FnDescends.j0 k bt395.2.2.2.2.1 bt395.2.2.2.2.2 bt410.2 bt414.1 ((bt414.1.length : Int) != (bt410.1.length : Int)) bt395.1 bt395.2.1 bt395.2.2.1 bt395.2.2.2.1))))))
theorem laws_FnDescends.mono_l : ∀ k, (∀ y0 y1 y2 y3 y4 y5 y6 y7 y8, LeO (laws_FnDescends.j0 k y0 y1 y2 y3 y4 y5 y6 y7 y8) (laws_FnDescends.j0 (k + 1) y0 y1 y2 y3 y4 y5 y6 y7 y8)) ∧ (∀ y0 y1 y2 y3 y4 y5 y6 y7 y8 y9, LeO (laws_FnDescends.l0 k y0 y1 y2 y3 y4 y5 y6 y7 y8 y9) (laws_FnDescends.l0 (k + 1) y0 y1 y2 y3 y4 y5 y6 y7 y8 y9)) ∧ (∀ y0 y1 y2 y3 y4 y5 y6 y7 y8 y9 y10 y11 y12 y13, LeO (laws_FnDescends.j2 k y0 y1 y2 y3 y4 y5 y6 y7 y8 y9 y10 y11 y12 y13) (laws_FnDescends.j2 (k + 1) y0 y1 y2 y3 y4 y5 y6 y7 y8 y9 y10 y11 y12 y13)) ∧ (∀ y0 y1 y2 y3 y4 y5 y6 y7, LeO (laws_FnDescends.j3 k y0 y1 y2 y3 y4 y5 y6 y7) (laws_FnDescends.j3 (k + 1) y0 y1 y2 y3 y4 y5 y6 y7)) ∧ (∀ y0 y1 y2 y3 y4 y5 y6 y7 y8 y9 y10 y11, LeO (laws_FnDescends.l1 k y0 y1 y2 y3 y4 y5 y6 y7 y8 y9 y10 y11) (laws_FnDescends.l1 (k + 1) y0 y1 y2 y3 y4 y5 y6 y7 y8 y9 y10 y11)) ∧ (∀ y0 y1 y2, LeO (laws_FnDescends.j5 k y0 y1 y2) (laws_FnDescends.j5 (k + 1) y0 y1 y2)) ∧ (∀ y0 y1 y2, LeO (laws_FnDescends.l2 k y0 y1 y2) (laws_FnDescends.l2 (k + 1) y0 y1 y2))
 | 0 => ⟨fun _ _ _ _ _ _ _ _ _ r h => by simp [laws_FnDescends.j0] at h, fun _ _ _ _ _ _ _ _ _ _ r h => by simp [laws_FnDescends.l0] at h, fun _ _ _ _ _ _ _ _ _ _ _ _ _ _ r h => by simp [laws_FnDescends.j2] at h, fun _ _ _ _ _ _ _ _ r h => by simp [laws_FnDescends.j3] at h, fun _ _ _ _ _ _ _ _ _ _ _ _ r h => by simp [laws_FnDescends.l1] at h, fun _ _ _ r h => by simp [laws_FnDescends.j5] at h, fun _ _ _ r h => by simp [laws_FnDescends.l2] at h⟩
 | k + 1 => by
  obtain ⟨ih0, ih1, ih2, ih3, ih4, ih5, ih6⟩ := laws_FnDescends.mono_l k
  refine ⟨?_, ?_, ?_, ?_, ?_, ?_, ?_⟩
  intro y0 y1 y2 y3 y4 y5 y6 y7 y8; unfold laws_FnDescends.j0; rotate_left
  intro y0 y1 y2 y3 y4 y5 y6 y7 y8 y9; unfold laws_FnDescends.l0; rotate_left
  intro y0 y1 y2 y3 y4 y5 y6 y7 y8 y9 y10 y11 y12 y13; unfold laws_FnDescends.j2; rotate_left
  intro y0 y1 y2 y3 y4 y5 y6 y7; unfold laws_FnDescends.j3; rotate_left
  intro y0 y1 y2 y3 y4 y5 y6 y7 y8 y9 y10 y11; unfold laws_FnDescends.l1; rotate_left
  intro y0 y1 y2; unfold laws_FnDescends.j5; rotate_left
  intro y0 y1 y2; unfold laws_FnDescends.l2; rotate_left
  all_goals repeat' first
  | (with_reducible exact ih0 _ _ _ _ _ _ _ _ _)
  | (with_reducible exact ih1 _ _ _ _ _ _ _ _ _ _)
  | (with_reducible exact ih2 _ _ _ _ _ _ _ _ _ _ _ _ _ _)
  | (with_reducible exact ih3 _ _ _ _ _ _ _ _)
  | (with_reducible exact ih4 _ _ _ _ _ _ _ _ _ _ _ _)
  | (with_reducible exact ih5 _ _ _)
  | (with_reducible exact ih6 _ _ _)
  | (with_reducible exact impl_Certified.mono _ _ _ _ _ _)
  | (with_reducible exact impl_Cost.mono _ _ _ _ _ _)
  | (with_reducible exact impl_Descend.mono _ _ _ _ _ _ _)
  | (with_reducible exact spec_Cost.mono _ _ _ _ _ _)
  | (with_reducible exact spec_Descend.mono _ _ _ _ _ _ _)
  | (with_reducible exact spec_DrawDescend.mono _ _)
  | (with_reducible exact LeO.refl _)
  | (with_reducible exact LeO.none _)
  | (with_reducible refine LeO.ite ?_ ?_)
  | (with_reducible refine LeO.bind ?_ (fun _ => ?_))
  | exact ih0 _ _ _ _ _ _ _ _ _
  | exact ih1 _ _ _ _ _ _ _ _ _ _
  | exact ih2 _ _ _ _ _ _ _ _ _ _ _ _ _ _
  | exact ih3 _ _ _ _ _ _ _ _
  | exact ih4 _ _ _ _ _ _ _ _ _ _ _ _
  | exact ih5 _ _ _
  | exact ih6 _ _ _
  | exact impl_Certified.mono _ _ _ _ _ _
  | exact impl_Cost.mono _ _ _ _ _ _
  | exact impl_Descend.mono _ _ _ _ _ _ _
  | exact spec_Cost.mono _ _ _ _ _ _
  | exact spec_Descend.mono _ _ _ _ _ _ _
  | exact spec_DrawDescend.mono _ _
  | exact LeO.none _
  | refine LeO.ite ?_ ?_
  | refine LeO.bind ?_ (fun _ => ?_)
theorem laws_FnDescends.mono : ∀ a0 k, LeO (laws_FnDescends.f k a0) (laws_FnDescends.f (k + 1) a0) := by
 intro a0 k
 obtain ⟨ih0, ih1, ih2, ih3, ih4, ih5, ih6⟩ := laws_FnDescends.mono_l k
 unfold laws_FnDescends.f
 repeat' first
   | (with_reducible exact ih0 _ _ _ _ _ _ _ _ _)
   | (with_reducible exact ih1 _ _ _ _ _ _ _ _ _ _)
   | (with_reducible exact ih2 _ _ _ _ _ _ _ _ _ _ _ _ _ _)
   | (with_reducible exact ih3 _ _ _ _ _ _ _ _)
   | (with_reducible exact ih4 _ _ _ _ _ _ _ _ _ _ _ _)
   | (with_reducible exact ih5 _ _ _)
   | (with_reducible exact ih6 _ _ _)
   | (with_reducible exact impl_Certified.mono _ _ _ _ _ _)
   | (with_reducible exact impl_Cost.mono _ _ _ _ _ _)
   | (with_reducible exact impl_Descend.mono _ _ _ _ _ _ _)
   | (with_reducible exact spec_Cost.mono _ _ _ _ _ _)
   | (with_reducible exact spec_Descend.mono _ _ _ _ _ _ _)
   | (with_reducible exact spec_DrawDescend.mono _ _)
   | (with_reducible exact LeO.refl _)
   | (with_reducible exact LeO.none _)
   | (with_reducible refine LeO.ite ?_ ?_)
   | (with_reducible refine LeO.bind ?_ (fun _ => ?_))
   | exact ih0 _ _ _ _ _ _ _ _ _
   | exact ih1 _ _ _ _ _ _ _ _ _ _
   | exact ih2 _ _ _ _ _ _ _ _ _ _ _ _ _ _
   | exact ih3 _ _ _ _ _ _ _ _
   | exact ih4 _ _ _ _ _ _ _ _ _ _ _ _
   | exact ih5 _ _ _
   | exact ih6 _ _ _
   | exact impl_Certified.mono _ _ _ _ _ _
   | exact impl_Cost.mono _ _ _ _ _ _
   | exact impl_Descend.mono _ _ _ _ _ _ _
   | exact spec_Cost.mono _ _ _ _ _ _
   | exact spec_Descend.mono _ _ _ _ _ _ _
   | exact spec_DrawDescend.mono _ _
   | exact LeO.none _
   | refine LeO.ite ?_ ?_
   | refine LeO.bind ?_ (fun _ => ?_)
def laws_FnDescends.T18 : Bool × List (List Nat × List Nat) := (true, [([], []), ([], []), ([1], [1]), ([], []), ([], []), ([4], [4]), ([3, 5], [3, 5]), ([6], [6]), ([], []), ([8], [8]), ([7, 9], [7, 9]), ([0, 2, 0, 1, 2, 3, 4, 5, 6, 7, 8, 9, 10], [0, 2]), ([11, 10, 0, 1, 2, 3, 4, 5, 6, 7, 8, 9, 10], [10, 11])])
def laws_FnDescends.B18 : List Nat := [0, 0, 2, 0, 0, 16, 56, 120, 0, 256, 1016, 2047, 4095]
theorem laws_FnDescends.tab18 : rtab .any (opsOf Try.f6 18) = laws_FnDescends.T18 := by kernel_rfl
theorem laws_FnDescends.bits18 : waitsOk laws_FnDescends.T18.2 laws_FnDescends.B18 = true := by kernel_rfl
def laws_FnDescends.T19 : Bool × List (List Nat × List Nat) := (true, [([], []), ([0], [0]), ([], []), ([], []), ([2, 3], [2, 3]), ([1, 4], [1, 4]), ([5, 4], [5]), ([6], [6]), ([7, 6], [6, 7]), ([6], [6]), ([6], [6]), ([9, 10, 6, 6], [6, 9, 10]), ([8, 11, 6], [6, 8, 11]), ([6, 12], [6, 12]), ([13, 11], [13]), ([14], [14]), ([15, 14], [14, 15]), ([14], [14]), ([16, 17, 14], [14, 16, 17]), ([14, 18], [14, 18])])
def laws_FnDescends.B19 : List Nat := [0, 1, 0, 0, 12, 31, 63, 127, 255, 127, 127, 1663, 4095, 8191, 16383, 32767, 65535, 32767, 262143, 524287]
theorem laws_FnDescends.tab19 : rtab .any (opsOf Try.f6 19) = laws_FnDescends.T19 := by kernel_rfl
theorem laws_FnDescends.bits19 : waitsOk laws_FnDescends.T19.2 laws_FnDescends.B19 = true := by kernel_rfl
def laws_FnDescends.T29 : Bool × List (List Nat × List Nat) := (true, [([], []), ([0], [0]), ([], []), ([2], [2]), ([], []), ([3, 4], [3, 4]), ([5], [5]), ([6], [6]), ([1, 7], [1, 7]), ([0, 1, 2, 3, 4, 5, 6, 7, 8], []), ([9, 8, 8, 0, 1, 2, 3, 4, 5, 6, 7, 8], [8, 9])])
def laws_FnDescends.B29 : List Nat := [0, 1, 0, 4, 0, 28, 60, 124, 255, 511, 1023]
theorem laws_FnDescends.tab29 : rtab .any (opsOf Try.f6 29) = laws_FnDescends.T29 := by kernel_rfl
theorem laws_FnDescends.bits29 : waitsOk laws_FnDescends.T29.2 laws_FnDescends.B29 = true := by kernel_rfl
def laws_FnDescends.T36 : Bool × List (List Nat × List Nat) := (true, [([], []), ([], []), ([0, 1], [0, 1]), ([2], [2]), ([], []), ([], []), ([4, 5], [4, 5]), ([6], [6]), ([3, 7], [3, 7])])
def laws_FnDescends.B36 : List Nat := [0, 0, 3, 7, 0, 0, 48, 112, 255]
theorem laws_FnDescends.tab36 : rtab .any (opsOf Try.f6 36) = laws_FnDescends.T36 := by kernel_rfl
theorem laws_FnDescends.bits36 : waitsOk laws_FnDescends.T36.2 laws_FnDescends.B36 = true := by kernel_rfl
set_option maxHeartbeats 8000000 in
set_option maxRecDepth 100000 in
theorem laws_FnDescends.calls (k : Nat) (A0 : Option Addr) (c0 : Nat) (l0 : List Int) (r : Bool) (w : World) (hr0 : Kd.C (Kd.int .u8) w A0 l0.length l0) (hc0 : l0.length ≤ c0) (h : laws_FnDescends.f k l0 = some r) :
  Calls Try.prog 6 #[.slice A0 l0.length c0] w fun e w' => e = .returned (.bool r) ∧ Below w.heap.size w w' := by
 have hu30 := Try.underlying30; have hu50 := Try.underlying50; have hu52 := Try.underlying52; have HR0 := Aside0.mk hr0; have HC0 := Aside0.mk hc0; clear hr0 hc0
 have HB := Aside0.mk (Below.refl w.heap.size w)
 have H : ((laws_big.f l0).bind fun t394 => (if t394 = true then (some true) else ((spec_DrawDescend.f k l0).bind fun bt395 => ((spec_Descend.f k bt395.1 bt395.2.1 bt395.2.2.1 bt395.2.2.2.1 bt395.2.2.2.2.1 bt395.2.2.2.2.2).bind fun bt410 => ((impl_Descend.f k bt395.1 bt395.2.1 bt395.2.2.1 bt395.2.2.2.1 bt395.2.2.2.2.1 bt395.2.2.2.2.2).bind fun bt414 => (if (bt414.2 != bt410.2) = true then (laws_FnDescends.j0 k bt395.2.2.2.2.1 bt395.2.2.2.2.2 bt410.2 bt414.1 true bt395.1 bt395.2.1 bt395.2.2.1 bt395.2.2.2.1) else (laws_FnDescends.j0 k bt395.2.2.2.2.1 bt395.2.2.2.2.2 bt410.2 bt414.1 ((bt414.1.length : Int) != (bt410.1.length : Int)) bt395.1 bt395.2.1 bt395.2.2.1 bt395.2.2.2.1))))))) = some r := h
 clear h; replace H := Option.bind_eq_some_iff.mp H
 obtain ⟨t394, A20, H⟩ := H
 replace H : (if t394 = true then (some true) else ((spec_DrawDescend.f k l0).bind fun bt395 => ((spec_Descend.f k bt395.1 bt395.2.1 bt395.2.2.1 bt395.2.2.2.1 bt395.2.2.2.2.1 bt395.2.2.2.2.2).bind fun bt410 => ((impl_Descend.f k bt395.1 bt395.2.1 bt395.2.2.1 bt395.2.2.2.1 bt395.2.2.2.2.1 bt395.2.2.2.2.2).bind fun bt414 => (if (bt414.2 != bt410.2) = true then (laws_FnDescends.j0 k bt395.2.2.2.2.1 bt395.2.2.2.2.2 bt410.2 bt414.1 true bt395.1 bt395.2.1 bt395.2.2.1 bt395.2.2.2.1) else (laws_FnDescends.j0 k bt395.2.2.2.2.1 bt395.2.2.2.2.2 bt410.2 bt414.1 ((bt414.1.length : Int) != (bt410.1.length : Int)) bt395.1 bt395.2.1 bt395.2.2.1 bt395.2.2.2.1)))))) = some r := H
 have A2 := Aside0.mk A20; clear A20
 by_cases c3 : t394 = true
 ·subst c3
  replace H := ifT_ H
  obtain rfl := Option.some.inj H
  go_enter Try.func6, Try.ntmps6
  go_wp2_with (first | ((with_reducible refine gate_callee (f := 23) rfl ?_); refine gL_ (some 20) Try.func23 #[.slice A0 l0.length c0] ?_; (with_reducible refine (laws_big.calls _ _ l0 true _ ?side1 ?side2 A2.out).mono ?_); (case side1 => repeat (first | exact HR0.out | (with_reducible refine Kd.C_alloc ?_ _) | (with_reducible refine Kd.C_drewN ?_ _) | (with_reducible refine Kd.C_drew ?_))); (case side2 => exact HC0.out); rintro e w' ⟨rfl, ⟨nd, rfl⟩⟩; refine ⟨_, rfl, ?_⟩))
  go_ret
  exact ⟨by first | rfl | (simp [errW_none, errW_some] <;> rfl) | (simp [*, errW_none, errW_some] <;> rfl), sABelo_14⟩
 ·replace c3 := Bool.eq_false_iff.mpr c3
  subst c3
  replace H := ifF_ H; replace H := Option.bind_eq_some_iff.mp H
  obtain ⟨⟨t395, t396, t399, t402, t405, t408⟩, A40, H⟩ := H
  replace H : ((spec_Descend.f k t395 t396 t399 t402 t405 t408).bind fun bt410 => ((impl_Descend.f k t395 t396 t399 t402 t405 t408).bind fun bt414 => (if (bt414.2 != bt410.2) = true then (laws_FnDescends.j0 k t405 t408 bt410.2 bt414.1 true t395 t396 t399 t402) else (laws_FnDescends.j0 k t405 t408 bt410.2 bt414.1 ((bt414.1.length : Int) != (bt410.1.length : Int)) t395 t396 t399 t402)))) = some r := H
  have A4 := Aside0.mk A40; clear A40; replace H := Option.bind_eq_some_iff.mp H
  obtain ⟨⟨t410, t413⟩, A50, H⟩ := H
  replace H : ((impl_Descend.f k t395 t396 t399 t402 t405 t408).bind fun bt414 => (if (bt414.2 != t413) = true then (laws_FnDescends.j0 k t405 t408 t413 bt414.1 true t395 t396 t399 t402) else (laws_FnDescends.j0 k t405 t408 t413 bt414.1 ((bt414.1.length : Int) != (t410.length : Int)) t395 t396 t399 t402))) = some r := H
  have A5 := Aside0.mk A50; clear A50; replace H := Option.bind_eq_some_iff.mp H
  obtain ⟨⟨t414, t417⟩, A60, H⟩ := H
  replace H : (if (t417 != t413) = true then (laws_FnDescends.j0 k t405 t408 t413 t414 true t395 t396 t399 t402) else (laws_FnDescends.j0 k t405 t408 t413 t414 ((t414.length : Int) != (t410.length : Int)) t395 t396 t399 t402)) = some r := H
  have A6 := Aside0.mk A60; clear A60; have HC7 := Aside0.mk H; clear H
  go_enter Try.func6, Try.ntmps6
  go_upto_region 6 with (first | ((with_reducible refine gate_callee (f := 23) rfl ?_); refine gL_ (some 20) Try.func23 #[.slice A0 l0.length c0] ?_; (with_reducible refine (laws_big.calls _ _ l0 false _ ?side1 ?side2 A2.out).mono ?_); (case side1 => repeat (first | exact HR0.out | (with_reducible refine Kd.C_alloc ?_ _) | (with_reducible refine Kd.C_drewN ?_ _) | (with_reducible refine Kd.C_drew ?_))); (case side2 => exact HC0.out); rintro e w' ⟨rfl, ⟨nd, rfl⟩⟩; refine ⟨_, rfl, ?_⟩) | ((with_reducible refine gate_callee (f := 24) rfl ?_); refine gL_ (some 23) Try.func24 #[.slice A0 l0.length c0] ?_; (with_reducible refine (spec_DrawDescend.calls k _ _ l0 t395 t396 t399 t402 t405 t408 _ ?side1 ?side2 A4.out).mono ?_); (case side1 => repeat (first | exact HR0.out | (with_reducible refine Kd.C_alloc ?_ _) | (with_reducible refine Kd.C_drewN ?_ _) | (with_reducible refine Kd.C_drew ?_))); (case side2 => exact HC0.out); rintro e w8 ⟨v397, v400, v403, v406, rfl, ho0, ho1, ho2, ho3, hb⟩; refine ⟨_, rfl, ?_⟩; have HO398 := rL_ (Kd.R_mono (ok' := fun k_ => some k_ ≠ (v400 : Value).ownBlock ∧ some k_ ≠ (v406 : Value).ownBlock) ho0 (fun _ hk_ => hk_.2)) HB; have HO401 := rL_ (Kd.R_mono (ok' := fun k_ => some k_ ≠ (v397 : Value).ownBlock ∧ some k_ ≠ (v406 : Value).ownBlock) ho1 (fun _ hk_ => hk_.2)) HB; have HO404 := Aside0.mk (Kd.N_lower (Kd.N_mono (ok' := fun k_ => some k_ ≠ (v397 : Value).ownBlock ∧ some k_ ≠ (v400 : Value).ownBlock ∧ some k_ ≠ (v406 : Value).ownBlock) ho2 (fun k_ hk_ => ⟨hk_.2.1, hk_.2.2.1, hk_.2.2.2⟩)) (below_size sABelo_14)); have HO407 := rL_ (Kd.R_mono (ok' := fun k_ => some k_ ≠ (v397 : Value).ownBlock ∧ some k_ ≠ (v400 : Value).ownBlock) ho3 (fun _ hk_ => hk_.2)) HB; replace HB := bS_ HB hb; (try clear hb); (try clear ho0); (try clear ho1); (try clear ho2); (try clear ho3)) | ((with_reducible refine gate_dst (N := 3) rfl ?_); (try (refine gate_guard (by rfl) ?_; dsimp only)); refine box_event ?hg (N := 3) ?hd (cs := #[.int .i64 0, .slice none 0 0, .slice none 0 0, .slice none 0 0]) (t := 30) ?hr ?_; (case hd => rfl); (case hg => rfl); (case hr => first | (go_simp; done) | (go_simp; rfl)); intro gb409 hg w9 hbox hb; replace HO398 := rB_ HO398 hb; replace HO401 := rB_ HO401 hb; replace HO404 := Aside0.mk (Kd.N_below (Kd.N_elderB (by (with_reducible repeat (first | apply Kd.N_alloc | apply Kd.N_drewN | apply Kd.N_drew)); exact HO404.out) gb409 (Nat.le_of_eq hg.symm)) hb); replace HO407 := rB_ HO407 hb; have BK409 := Aside0.mk (hbox); have GW409 := gE_ HB hg; have GE409 := gE_ HB hg; replace HB := bS_ HB hb; clear hb hbox hg; obtain ⟨hcz10_0, hcz10_1, hcz10_2, hcz10_3, hfz10_0, hfz10_1, hfz10_2, hfz10_3⟩ := cf4_ BK409; obtain ⟨Ao11, co11, eo11⟩ := Kd.R_slice HO398.out; subst eo11; obtain ⟨Ao12, co12, eo12⟩ := Kd.R_slice HO401.out; subst eo12; obtain ⟨Ao13, co13, eo13⟩ := Kd.N_slice HO404.out; subst eo13; obtain ⟨Ao14, co14, eo14⟩ := Kd.R_slice HO407.out; subst eo14) | ((with_reducible refine gate_callee (f := 16) rfl ?_); refine gL_ (some 31) Try.func16 #[.agg #[.int .i64 t395, .slice Ao11 t396.length co11, .slice Ao12 t399.length co12, .slice Ao13 t402.length co13], .slice Ao14 t405.length co14, .int .i64 t408] ?_; (with_reducible refine (spec_Descend.calls k t395 _ _ t396 _ _ t399 _ _ t402 _ _ t405 t408 t410 t413 _ ?side1 ?side2 ?side3 ?side4 ?side5 ?side6 ?side7 ?side8 A5.out).mono ?_); (case side1 => exact rDF_ HO398 BK409); (case side2 => exact (Kd.R_reads' HO398.out).2.1); (case side3 => exact rDF_ HO401 BK409); (case side4 => exact (Kd.R_reads' HO401.out).2.1); (case side5 => refine (Kd.N_reads' (e := 52) (base := w.heap.size) (ok := fun k_ => ((some k_ ≠ (.slice Ao11 t396.length co11 : Value).ownBlock ∧ (some k_ ≠ (.slice Ao12 t399.length co12 : Value).ownBlock ∧ some k_ ≠ (.slice Ao14 t405.length co14 : Value).ownBlock)) ∧ k_ ≠ gb409)) (n := t402.length) (c := co13) ?_).2.2; exact (by (with_reducible repeat (first | apply Kd.N_alloc | apply Kd.N_drewN | apply Kd.N_drew)); exact (Kd.N_mono (Kd.N_far (p := ⟨gb409, 3, none⟩) (Kd.N_far (p := ⟨gb409, 2, none⟩) (Kd.N_far (p := ⟨gb409, 1, none⟩) (Kd.N_far (p := ⟨gb409, 0, none⟩) (Kd.N_mono HO404.out (fun k_ hk => (⟨hk, hk.2⟩ : _ ∧ k_ ≠ gb409))) (fun _ hk => hk.2) (.int .i64 t395)) (fun _ hk => hk.2) (.slice Ao11 t396.length co11)) (fun _ hk => hk.2) (.slice Ao12 t399.length co12)) (fun _ hk => hk.2) (.slice Ao13 t402.length co13)) (fun _ h_ => h_.1)))); (case side6 => exact (Kd.N_reads' HO404.out).2.1); (case side7 => exact rDF_ HO407 BK409); (case side8 => exact (Kd.R_reads' HO407.out).2.1); rintro e w15 ⟨v411, rfl, ho0, hb⟩; refine ⟨_, rfl, ?_⟩; replace HO398 := rBF_ HO398 BK409 hb; replace HO401 := rBF_ HO401 BK409 hb; replace HO404 := Aside0.mk (Kd.N_elder' (by (with_reducible repeat (first | apply Kd.N_alloc | apply Kd.N_drewN | apply Kd.N_drew)); exact (Kd.N_mono (Kd.N_far (p := ⟨gb409, 3, none⟩) (Kd.N_far (p := ⟨gb409, 2, none⟩) (Kd.N_far (p := ⟨gb409, 1, none⟩) (Kd.N_far (p := ⟨gb409, 0, none⟩) (Kd.N_mono HO404.out (fun k_ hk => (⟨hk, hk.2⟩ : _ ∧ k_ ≠ gb409))) (fun _ hk => hk.2) (.int .i64 t395)) (fun _ hk => hk.2) (.slice Ao11 t396.length co11)) (fun _ hk => hk.2) (.slice Ao12 t399.length co12)) (fun _ hk => hk.2) (.slice Ao13 t402.length co13)) (fun _ h_ => h_.1))) (Kd.R_base ho0) hb); replace HO407 := rBF_ HO407 BK409 hb; have HO412 := rLF_ ho0 HB; replace BK409 := Aside0.mk (blk_below (g := gb409) (o := .cells #[.int .i64 t395, .slice Ao11 t396.length co11, .slice Ao12 t399.length co12, .slice Ao13 t402.length co13] 30 (0, 0)) (bP_ BK409) hb); replace HB := bSF_ HB GE409 hb; (try clear hb); (try clear hk); (try clear ho0); obtain ⟨hcz16_0, hcz16_1, hcz16_2, hcz16_3, hfz16_0, hfz16_1, hfz16_2, hfz16_3⟩ := cf4_ BK409) | ((with_reducible refine gate_callee (f := 17) rfl ?_); refine gL_ (some 38) Try.func17 #[.agg #[.int .i64 t395, .slice Ao11 t396.length co11, .slice Ao12 t399.length co12, .slice Ao13 t402.length co13], .slice Ao14 t405.length co14, .int .i64 t408] ?_; (with_reducible refine (impl_Descend.calls k t395 _ _ t396 _ _ t399 _ _ t402 _ _ t405 t408 t414 t417 _ ?side1 ?side2 ?side3 ?side4 ?side5 ?side6 ?side7 ?side8 A6.out).mono ?_); (case side1 => exact rD_ HO398); (case side2 => exact (Kd.R_reads' HO398.out).2.1); (case side3 => exact rD_ HO401); (case side4 => exact (Kd.R_reads' HO401.out).2.1); (case side5 => repeat (first | exact (Kd.N_reads' HO404.out).2.2 | (with_reducible refine Kd.C_alloc ?_ _) | (with_reducible refine Kd.C_drewN ?_ _) | (with_reducible refine Kd.C_drew ?_))); (case side6 => exact (Kd.N_reads' HO404.out).2.1); (case side7 => exact rD_ HO407); (case side8 => exact (Kd.R_reads' HO407.out).2.1); rintro e w17 ⟨v415, rfl, ho0, hb⟩; refine ⟨_, rfl, ?_⟩; replace HO398 := rB_ HO398 hb; replace HO401 := rB_ HO401 hb; replace HO404 := Aside0.mk (Kd.N_elder' (by (with_reducible repeat (first | apply Kd.N_alloc | apply Kd.N_drewN | apply Kd.N_drew)); exact HO404.out) (Kd.R_base ho0) hb); replace HO407 := rB_ HO407 hb; have HO416 := rL_ (rN_ ho0 HO412) HB; replace HO412 := rE_ HO412 ho0 hb; replace BK409 := bB_ BK409 hb; replace HB := bS_ HB hb; (try clear hb); (try clear hk); (try clear ho0)))
  (try simp only [Act.put, List.setIfInBounds_toArray, List.set_cons_zero, List.set_cons_succ])
  go_cut [50] (fun v50 wc => ∃ (kq : Nat) (x50_6 : Bool), v50 = .bool x50_6 ∧ Aside0 (laws_FnDescends.j0 kq t405 t408 t413 t414 x50_6 t395 t396 t399 t402 = some r) ∧ Aside0 (kq ≤ k) ∧ Aside0 (Kd.R (Kd.int .i64) 2 wc w.heap.size (fun k_ => some k_ ≠ ((.slice Ao11 t396.length co11) : Value).ownBlock ∧ some k_ ≠ ((.slice Ao12 t399.length co12) : Value).ownBlock) (.slice Ao14 t405.length co14) t405) ∧ Aside0 (Kd.R k50 50 wc w.heap.size (fun _ => True) v415 t414) ∧ Aside0 (Kd.R (Kd.int .i64) 2 wc w.heap.size (fun k_ => some k_ ≠ ((.slice Ao14 t405.length co14) : Value).ownBlock ∧ some k_ ≠ ((.slice Ao12 t399.length co12) : Value).ownBlock) (.slice Ao11 t396.length co11) t396) ∧ Aside0 (Kd.R (Kd.int .i64) 2 wc w.heap.size (fun k_ => some k_ ≠ ((.slice Ao14 t405.length co14) : Value).ownBlock ∧ some k_ ≠ ((.slice Ao11 t396.length co11) : Value).ownBlock) (.slice Ao12 t399.length co12) t399) ∧ Aside0 (Kd.N k52 52 wc w.heap.size (fun k_ => some k_ ≠ ((.slice Ao14 t405.length co14) : Value).ownBlock ∧ some k_ ≠ (v415 : Value).ownBlock ∧ some k_ ≠ ((.slice Ao11 t396.length co11) : Value).ownBlock ∧ some k_ ≠ ((.slice Ao12 t399.length co12) : Value).ownBlock ∧ k_ ≠ gb409) (.slice Ao13 t402.length co13) t402) ∧ Aside0 (wc.heap[gb409]? = some (.cells #[.int .i64 t395, (.slice Ao11 t396.length co11), (.slice Ao12 t399.length co12), (.slice Ao13 t402.length co13)] 30 (0, 0))) ∧ Aside0 (Below w.heap.size w wc))
  case first =>
   have H := HC7.out; clear HC7
   by_cases c18 : (t417 != t413) = true
   ·rw [if_pos c18] at H
    have c18b0 : (t417 != t413) = true := c18
    (try (have c18b1 : decide (t417 = t413) = false := by simpa using c18))
    (try (have c18b2 : (t417 == t413) = false := by simpa using c18))
    (try (have c18b3 : ¬ (t417 = t413) := by simpa using c18))
    clear c18
    (first | rw [c18b0] | (simp only [i64_w, i32_w]; rw [c18b0]) | skip)
    have H' := Aside0.mk H; clear H
    go_wp2
    go_meet
    case rel => as_aux_lemma => exact ⟨_, (true), (by first | rfl | (simp; done) | (simp [*]; done)), H', ⟨by first | omega | exact Nat.le_refl _⟩, ⟨rT_ HO407⟩, ⟨rM2_ HO416⟩, ⟨rM2_ HO398⟩, ⟨rM2_ HO401⟩, ⟨by (with_reducible repeat (first | apply Kd.N_alloc | apply Kd.N_drewN | apply Kd.N_drew)); exact Kd.N_mono HO404.out (fun _ hk => ⟨hk.1.1.1.2.2, ⟨hk.2, ⟨hk.1.1.1.1, ⟨hk.1.1.1.2.1, hk.1.1.2⟩⟩⟩⟩)⟩, ⟨bT_ BK409⟩, ⟨sABelo_14⟩⟩
   ·rw [if_neg c18] at H
    have c18b0 : (t417 != t413) = false := by simpa using c18
    (try (have c18b1 : decide (t417 = t413) = true := by simpa using c18))
    (try (have c18b2 : (t417 == t413) = true := by simpa using c18))
    clear c18
    (first | rw [c18b0] | (simp only [i64_w, i32_w]; rw [c18b0]) | skip)
    have H' := Aside0.mk H; clear H
    obtain ⟨Ao19, co19, eo19⟩ := Kd.R_slice HO416.out
    subst eo19
    obtain ⟨Ao20, co20, eo20⟩ := Kd.R_slice HO412.out
    subst eo20
    go_wp2
    go_meet
    case rel => as_aux_lemma => exact ⟨_, (((t414.length : Int) != (t410.length : Int))), (by first | rfl | (simp; done) | (simp [*]; done)), H', ⟨by first | omega | exact Nat.le_refl _⟩, ⟨rT_ HO407⟩, ⟨rM2_ HO416⟩, ⟨rM2_ HO398⟩, ⟨rM2_ HO401⟩, ⟨by (with_reducible repeat (first | apply Kd.N_alloc | apply Kd.N_drewN | apply Kd.N_drew)); exact Kd.N_mono HO404.out (fun _ hk => ⟨hk.1.1.1.2.2, ⟨hk.2, ⟨hk.1.1.1.1, ⟨hk.1.1.1.2.1, hk.1.1.2⟩⟩⟩⟩)⟩, ⟨bT_ BK409⟩, ⟨sABelo_14⟩⟩
  case rest => as_aux_lemma =>
   clear HC7; (try clear c3); (try clear hcz10_0); (try clear hcz10_1); (try clear hcz10_2); (try clear hcz10_3); (try clear hcz16_0); (try clear hcz16_1); (try clear hcz16_2); (try clear hcz16_3); (try clear hfz10_0); (try clear hfz10_1); (try clear hfz10_2); (try clear hfz10_3); (try clear hfz16_0); (try clear hfz16_1); (try clear hfz16_2); (try clear hfz16_3)
   obtain ⟨kq, x50_6, rfl, HA, HJ6, HO_4, HO_8, HO_410001, HO_410002, HO_410003, BK409, HB⟩ := hcut
   cases kq with
   | zero => exact absurd HA.out (by simp [laws_FnDescends.j0])
   | succ kj6 =>
    have H := HA.out; clear HA
    simp only [laws_FnDescends.j0] at H
    by_cases c21 : x50_6 = true
    ·subst c21
     replace H := ifT_ H
     obtain rfl := Option.some.inj H
     go_wp2
     go_ret
     exact ⟨by first | rfl | (simp [errW_none, errW_some] <;> rfl) | (simp [*, errW_none, errW_some] <;> rfl), sABelo_14⟩
    ·replace c21 := Bool.eq_false_iff.mpr c21
     subst c21
     replace H := ifF_ H
     by_cases c22 : t413 = true
     ·subst c22
      replace H := ifT_ H
      obtain ⟨y418, hy418⟩ : ∃ y_ : List Int, y_ = (([] : List Int)) := ⟨_, rfl⟩
      replace H : (if y418.length + t405.length < 17592186044416 then ((some (y418 ++ t405 : List Int)).bind fun y421 => ((spec_Cost.f kj6 t395 t396 t399 t402 y421).bind fun t424 => (laws_FnDescends.l0 kj6 t405 t408 t414 y421 t424 0 t395 t396 t399 t402))) else (none)) = some r := by first | (rw [hy418]; with_reducible exact H) | (have H2_ := (Option.bind_some _ _).symm.trans H; rw [hy418]; with_reducible exact H2_) | (have H2_ := (Option.bind_some _ _).symm.trans H; with_reducible exact H2_) | with_reducible exact H | (rw [hy418]; exact H) | exact H
      have Ny418 := Aside0.mk hy418; clear hy418
      obtain ⟨c23, H⟩ := ifS_ H
      have LMc23 := Aside0.mk c23; clear c23
      obtain ⟨y421, hy421⟩ : ∃ y_ : List Int, y_ = (y418 ++ t405) := ⟨_, rfl⟩
      replace H : ((spec_Cost.f kj6 t395 t396 t399 t402 y421).bind fun t424 => (laws_FnDescends.l0 kj6 t405 t408 t414 y421 t424 0 t395 t396 t399 t402)) = some r := by first | (rw [hy421]; with_reducible exact H) | (have H2_ := (Option.bind_some _ _).symm.trans H; rw [hy421]; with_reducible exact H2_) | (have H2_ := (Option.bind_some _ _).symm.trans H; with_reducible exact H2_) | with_reducible exact H | (rw [hy421]; exact H) | exact H
      have Ny421 := Aside0.mk hy421; clear hy421; replace H := Option.bind_eq_some_iff.mp H
      obtain ⟨t424, A240, H⟩ := H
      replace H : (laws_FnDescends.l0 kj6 t405 t408 t414 y421 t424 0 t395 t396 t399 t402) = some r := H
      have A24 := Aside0.mk A240; clear A240; have H' := Aside0.mk H; clear H
      go_wp2_with (first | ((with_reducible refine gate_dst (N := 53) rfl ?_); (try (refine gate_guard (by rfl) ?_; dsimp only)); refine Kd.R_lit (Kd.int .i64) _ 2 ?hg (N := 53) ?hd (xs := ([] : List Int)) (inner := []) (ok := fun _ => True) (okp := fun _ => True) ?hr ?hp (fun _ hk => hk) trivial (Below.refl _ _) (Nat.le_refl _) (by simp) ?_; (case hd => rfl); (case hg => rfl); (case hr => first | (go_simp; done) | (go_simp; rfl)); (case hp => exact (Reps.none _ _)); intro v419 w25 ho26 hb hg_ hnew_; clear hg_ hnew_; (first | rw [← Ny418.out] at ho26 | (simp only [Int.reduceToNat] at ho26; rw [← Ny418.out] at ho26)); replace HO_8 := rB_ HO_8 hb; replace HO_410003 := Aside0.mk (Kd.N_elder' (by (with_reducible repeat (first | apply Kd.N_alloc | apply Kd.N_drewN | apply Kd.N_drew)); exact HO_410003.out) (Kd.R_base ho26) hb); have HO420 := rL_ (rN_ (rN_ (rN_ ho26 HO_4) HO_410001) HO_410002) HB; replace HO_4 := rE_ HO_4 ho26 hb; replace HO_410001 := rE_ HO_410001 ho26 hb; replace HO_410002 := rE_ HO_410002 ho26 hb; replace BK409 := bB_ BK409 hb; replace HB := bS_ HB hb; clear hb ho26) | ((with_reducible refine gate_builtin (b := .append) (xs := #[.tmp 53, .tmp 54]) rfl ?_); (try (refine gate_guard (by rfl) ?_; dsimp only)); at_builtin; refine Kd.R_append_rows (Kd.int .i64) (w0 := w) w.heap.size rfl (.tmp 53) (.tmp 54) 22 2 (.int .i64 0) 8 rfl Try.underlying22 info2 rfl (by decide) (by omega) v419 y418 t405 _ _ _ (fun k_ => some k_ ≠ (.slice Ao14 t405.length co14 : Value).ownBlock ∧ some k_ ≠ (.slice Ao11 t396.length co11 : Value).ownBlock ∧ some k_ ≠ (.slice Ao12 t399.length co12 : Value).ownBlock) (fun _ => False) rfl rfl ?aO ?aR (fun _ _ h => h) (fun _ h => h.elim) ?aF ?aB ?aS ?aL ?_; (case aR => repeat (first | exact (Kd.R_reads' HO_4.out).2.2 | (with_reducible refine Kd.C_alloc ?_ _) | (with_reducible refine Kd.C_drewN ?_ _) | (with_reducible refine Kd.C_drew ?_))); (case aB => exact sABelo_14); (case aF => exact (fun k_ hk => ⟨Kd.fresh' (rLt_ HO_4) k_ hk, Kd.fresh' (rLt_ HO_410001) k_ hk, Kd.fresh' (rLt_ HO_410002) k_ hk⟩)); (case aO => exact (rM_ HO420)); (case aS => exact (below_size sABelo_14)); (case aL => have := LMc23.out; omega); intro v422 w27 ho hb hg hat; rw [← Ny421.out] at ho; replace HO_4 := Aside0.mk (Kd.R_after (ok := (fun k_ => some k_ ≠ (.slice Ao11 t396.length co11 : Value).ownBlock ∧ some k_ ≠ (.slice Ao12 t399.length co12 : Value).ownBlock)) (rT_ HO_4) hg hat); replace HO_8 := Aside0.mk (Kd.R_over' (rT_ HO_8) (Kd.R_typed (rT_ HO420)) (by decide) hg); replace HO_410001 := Aside0.mk (Kd.R_after (ok := (fun k_ => some k_ ≠ (.slice Ao14 t405.length co14 : Value).ownBlock ∧ some k_ ≠ (.slice Ao12 t399.length co12 : Value).ownBlock)) (rT_ HO_410001) hg hat); replace HO_410002 := Aside0.mk (Kd.R_after (ok := (fun k_ => some k_ ≠ (.slice Ao14 t405.length co14 : Value).ownBlock ∧ some k_ ≠ (.slice Ao11 t396.length co11 : Value).ownBlock)) (rT_ HO_410002) hg hat); replace HO_410003 := Aside0.mk (Kd.N_afterv (ok := (fun k_ => some k_ ≠ (.slice Ao14 t405.length co14 : Value).ownBlock ∧ some k_ ≠ (v415 : Value).ownBlock ∧ some k_ ≠ (.slice Ao11 t396.length co11 : Value).ownBlock ∧ some k_ ≠ (.slice Ao12 t399.length co12 : Value).ownBlock ∧ k_ ≠ gb409)) (by (with_reducible repeat (first | apply Kd.N_alloc | apply Kd.N_drewN | apply Kd.N_drew)); exact HO_410003.out) hg hat); replace BK409 := Aside0.mk (blk_grown (g := gb409) (o := .cells #[.int .i64 t395, .slice Ao11 t396.length co11, .slice Ao12 t399.length co12, .slice Ao13 t402.length co13] 30 (0, 0)) (bT_ BK409) hg (Kd.R_ne HO420.out BK409.out (by decide))); replace HB := Aside0.mk (hb); have HO423 := Aside0.mk (ho); clear HO420; clear ho hb hg hat; obtain ⟨hcz28_0, hcz28_1, hcz28_2, hcz28_3, hfz28_0, hfz28_1, hfz28_2, hfz28_3⟩ := cf4_ BK409; obtain ⟨Ao29, co29, eo29⟩ := Kd.R_slice HO423.out; subst eo29) | ((with_reducible refine gate_callee (f := 8) rfl ?_); refine gL_ (some 58) Try.func8 #[.agg #[.int .i64 t395, .slice Ao11 t396.length co11, .slice Ao12 t399.length co12, .slice Ao13 t402.length co13], .slice Ao29 y421.length co29] ?_; (with_reducible refine (spec_Cost.calls kj6 t395 _ _ t396 _ _ t399 _ _ t402 _ _ y421 t424 _ ?side1 ?side2 ?side3 ?side4 ?side5 ?side6 ?side7 ?side8 A24.out).mono ?_); (case side1 => exact rD_ HO_410001); (case side2 => exact (Kd.R_reads' HO_410001.out).2.1); (case side3 => exact rD_ HO_410002); (case side4 => exact (Kd.R_reads' HO_410002.out).2.1); (case side5 => repeat (first | exact (Kd.N_reads' HO_410003.out).2.2 | (with_reducible refine Kd.C_alloc ?_ _) | (with_reducible refine Kd.C_drewN ?_ _) | (with_reducible refine Kd.C_drew ?_))); (case side6 => exact (Kd.N_reads' HO_410003.out).2.1); (case side7 => exact rD_ HO423); (case side8 => exact (Kd.R_reads' HO423.out).2.1); rintro e w30 ⟨rfl, hb⟩; refine ⟨_, rfl, ?_⟩; replace HO_4 := rB_ HO_4 hb; replace HO_8 := rB_ HO_8 hb; replace HO_410001 := rB_ HO_410001 hb; replace HO_410002 := rB_ HO_410002 hb; replace HO_410003 := Aside0.mk (Kd.N_below (by (with_reducible repeat (first | apply Kd.N_alloc | apply Kd.N_drewN | apply Kd.N_drew)); exact HO_410003.out) hb); replace HO423 := rB_ HO423 hb; replace BK409 := bB_ BK409 hb; replace HB := bS_ HB hb; (try clear hb); (try clear hk)))
      go_loopg [11, 12] kj6 (fun kq v11 v12 w' => ∃ (x10_2 : List Int) (x11_2 : Int) (x12_2 : Int), v11 = .int .i64 x11_2 ∧ v12 = .int .i64 x12_2 ∧ Aside0 (laws_FnDescends.l0 kq t405 t408 t414 x10_2 x11_2 x12_2 t395 t396 t399 t402 = some r) ∧ Aside0 (kq ≤ kj6) ∧ Aside0 (Kd.R (Kd.int .i64) 2 w' w.heap.size (fun k_ => some k_ ≠ ((.slice Ao29 y421.length co29) : Value).ownBlock ∧ some k_ ≠ ((.slice Ao11 t396.length co11) : Value).ownBlock ∧ some k_ ≠ ((.slice Ao12 t399.length co12) : Value).ownBlock) (.slice Ao14 t405.length co14) t405) ∧ Aside0 (Kd.R k50 50 w' w.heap.size (fun _ => True) v415 t414) ∧ Aside0 (Kd.R (Kd.int .i64) 2 w' w.heap.size (fun k_ => some k_ ≠ ((.slice Ao14 t405.length co14) : Value).ownBlock ∧ some k_ ≠ ((.slice Ao11 t396.length co11) : Value).ownBlock ∧ some k_ ≠ ((.slice Ao12 t399.length co12) : Value).ownBlock) (.slice Ao29 y421.length co29) x10_2) ∧ Aside0 (Kd.R (Kd.int .i64) 2 w' w.heap.size (fun k_ => some k_ ≠ ((.slice Ao14 t405.length co14) : Value).ownBlock ∧ some k_ ≠ ((.slice Ao29 y421.length co29) : Value).ownBlock ∧ some k_ ≠ ((.slice Ao12 t399.length co12) : Value).ownBlock) (.slice Ao11 t396.length co11) t396) ∧ Aside0 (Kd.R (Kd.int .i64) 2 w' w.heap.size (fun k_ => some k_ ≠ ((.slice Ao14 t405.length co14) : Value).ownBlock ∧ some k_ ≠ ((.slice Ao29 y421.length co29) : Value).ownBlock ∧ some k_ ≠ ((.slice Ao11 t396.length co11) : Value).ownBlock) (.slice Ao12 t399.length co12) t399) ∧ Aside0 (Kd.N k52 52 w' w.heap.size (fun k_ => some k_ ≠ ((.slice Ao14 t405.length co14) : Value).ownBlock ∧ some k_ ≠ (v415 : Value).ownBlock ∧ some k_ ≠ ((.slice Ao29 y421.length co29) : Value).ownBlock ∧ some k_ ≠ ((.slice Ao11 t396.length co11) : Value).ownBlock ∧ some k_ ≠ ((.slice Ao12 t399.length co12) : Value).ownBlock ∧ k_ ≠ gb409) (.slice Ao13 t402.length co13) t402) ∧ Aside0 (w'.heap[gb409]? = some (.cells #[.int .i64 t395, (.slice Ao11 t396.length co11), (.slice Ao12 t399.length co12), (.slice Ao13 t402.length co13)] 30 (0, 0))) ∧ Aside0 (Below w.heap.size w w'))
      case atStart => exact ⟨(y421), (t424), (0), (by first | rfl | (simp; done) | (simp [*]; done)), (by first | rfl | (simp; done) | (simp [*]; done)), H', ⟨Nat.le_refl _⟩, ⟨rM2_ HO_4⟩, ⟨rT_ HO_8⟩, ⟨rT_ HO423⟩, ⟨rM2_ HO_410001⟩, ⟨rM2_ HO_410002⟩, ⟨by (with_reducible repeat (first | apply Kd.N_alloc | apply Kd.N_drewN | apply Kd.N_drew)); exact Kd.N_mono HO_410003.out (fun _ hk => ⟨hk.1.1, ⟨hk.1.2.1, ⟨hk.2, ⟨hk.1.2.2.1, ⟨hk.1.2.2.2.1, hk.1.2.2.2.2⟩⟩⟩⟩⟩)⟩, ⟨bT_ BK409⟩, ⟨sABelo_14⟩⟩
      case round => as_aux_lemma =>
       clear H'; (try clear c3); (try clear c21); (try clear c22); (try clear c23); (try clear hcz10_0); (try clear hcz10_1); (try clear hcz10_2); (try clear hcz10_3); (try clear hcz16_0); (try clear hcz16_1); (try clear hcz16_2); (try clear hcz16_3); (try clear hcz28_0); (try clear hcz28_1); (try clear hcz28_2); (try clear hcz28_3); (try clear hfz10_0); (try clear hfz10_1); (try clear hfz10_2); (try clear hfz10_3); (try clear hfz16_0); (try clear hfz16_1); (try clear hfz16_2); (try clear hfz16_3); (try clear hfz28_0); (try clear hfz28_1); (try clear hfz28_2); (try clear hfz28_3)
       obtain ⟨x10_2, x11_2, x12_2, rfl, rfl, HA, HK2, HO_4, HO_8, HO_10, HO_410001, HO_410002, HO_410003, BK409, HB⟩ := hrel
       have hl10_2 := (Kd.R_reads' HO_10.out).1
       rw [hl10_2] at HO_10
       (try simp only [hl10_2])
       (try simp only [hl10_2] at BK409)
       (try simp only [hl10_2] at HO_4)
       (try simp only [hl10_2] at HO_8)
       (try simp only [hl10_2] at HO_410001)
       (try simp only [hl10_2] at HO_410002)
       (try simp only [hl10_2] at HO_410003)
       cases gk with
       | zero => exact absurd HA.out (by simp [laws_FnDescends.l0])
       | succ k2 =>
        have H := HA.out; clear HA
        simp only [laws_FnDescends.l0] at H
        by_cases c31 : x12_2 < (t414.length : Int)
        ·rw [if_pos c31] at H
         have c31b0 := decide_eq_true c31
         have c31b0q := c31b0
         (try simp only [hl10_2] at c31b0q)
         clear c31
         obtain ⟨c32, H⟩ := ifS_ H
         have c32b0 : decide (0 ≤ x12_2) = true := decide_eq_true c32
         clear c32; have HC33 := Aside0.mk H; clear H
         obtain ⟨Ao34, co34, eo34⟩ := Kd.R_slice HO_8.out
         subst eo34
         have p425 : 0 ≤ (x12_2 : Int) := dA_
         have q425 : x12_2 < (t414.length : Int) := dA_
         obtain ⟨ad425, e425, hx425_0, hx425_1, hx425_2⟩ := at_T50 (Kd.R_reads' HO_8.out).2.2 x12_2 p425 q425
         cases e425
         replace p425 := eq_true p425; replace q425 := eq_true q425
         go_upto_region 16 with (first | ((with_reducible refine gate_dst (N := 13) rfl ?_); (try (refine gate_guard (by rfl) ?_; dsimp only)); refine box_event ?hg (N := 13) ?hd (cs := #[.int .i64 0, .int .i64 0, .int .i64 0]) (t := 50) ?hr ?_; (case hd => rfl); (case hg => rfl); (case hr => first | (go_simp; done) | (go_simp; rfl)); intro gb426 hg w35 hbox hb; replace HO_4 := rB_ HO_4 hb; replace HO_8 := Aside0.mk (Kd.R_below (Kd.R_elderB (rT_ HO_8) gb426 (Nat.le_of_eq hg.symm)) hb); replace HO_10 := rB_ HO_10 hb; replace HO_410001 := rB_ HO_410001 hb; replace HO_410002 := rB_ HO_410002 hb; replace HO_410003 := Aside0.mk (Kd.N_below (Kd.N_elderB (by (with_reducible repeat (first | apply Kd.N_alloc | apply Kd.N_drewN | apply Kd.N_drew)); exact HO_410003.out) gb426 (Nat.le_of_eq hg.symm)) hb); have BK426 := Aside0.mk (hbox); have GW426 := gE_ HB hg; have GE426 := gE_ HB hg; replace HB := bS_ HB hb; have NB409_426 := nL_ BK409 hg; have NB426_409 := nG_ BK409 hg; replace BK409 := bB_ BK409 hb; clear hb hbox hg; have hnb36 := NB426_409.out; have hnc36 := NB409_426.out; obtain ⟨hcz37_0, hcz37_1, hcz37_2, hfz37_0, hfz37_1, hfz37_2⟩ := cf3_ BK426))
         (try simp only [Act.put, List.setIfInBounds_toArray, List.set_cons_zero, List.set_cons_succ])
         go_cut [78] (fun v78 wc => ∃ (kq : Nat) (x78_32 : Bool), v78 = .bool x78_32 ∧ Aside0 (laws_FnDescends.j2 kq t405 t408 t414 x10_2 x11_2 x12_2 x78_32 t395 t396 t399 t402 ((rd_T50 t414 x12_2).f0) ((rd_T50 t414 x12_2).f1) ((rd_T50 t414 x12_2).f2) = some r) ∧ Aside0 (kq ≤ k2) ∧ Aside0 (Kd.R (Kd.int .i64) 2 wc w.heap.size (fun k_ => some k_ ≠ ((.slice Ao29 x10_2.length co29) : Value).ownBlock ∧ some k_ ≠ ((.slice Ao11 t396.length co11) : Value).ownBlock ∧ some k_ ≠ ((.slice Ao12 t399.length co12) : Value).ownBlock) (.slice Ao14 t405.length co14) t405) ∧ Aside0 (Kd.R k50 50 wc w.heap.size (fun k_ => k_ ≠ gb426) (.slice (some ad425) t414.length co34) t414) ∧ Aside0 (Kd.R (Kd.int .i64) 2 wc w.heap.size (fun k_ => some k_ ≠ ((.slice Ao14 t405.length co14) : Value).ownBlock ∧ some k_ ≠ ((.slice Ao11 t396.length co11) : Value).ownBlock ∧ some k_ ≠ ((.slice Ao12 t399.length co12) : Value).ownBlock) (.slice Ao29 x10_2.length co29) x10_2) ∧ Aside0 (Kd.R (Kd.int .i64) 2 wc w.heap.size (fun k_ => some k_ ≠ ((.slice Ao14 t405.length co14) : Value).ownBlock ∧ some k_ ≠ ((.slice Ao29 x10_2.length co29) : Value).ownBlock ∧ some k_ ≠ ((.slice Ao12 t399.length co12) : Value).ownBlock) (.slice Ao11 t396.length co11) t396) ∧ Aside0 (Kd.R (Kd.int .i64) 2 wc w.heap.size (fun k_ => some k_ ≠ ((.slice Ao14 t405.length co14) : Value).ownBlock ∧ some k_ ≠ ((.slice Ao29 x10_2.length co29) : Value).ownBlock ∧ some k_ ≠ ((.slice Ao11 t396.length co11) : Value).ownBlock) (.slice Ao12 t399.length co12) t399) ∧ Aside0 (Kd.N k52 52 wc w.heap.size (fun k_ => some k_ ≠ ((.slice Ao14 t405.length co14) : Value).ownBlock ∧ some k_ ≠ ((.slice (some ad425) t414.length co34) : Value).ownBlock ∧ some k_ ≠ ((.slice Ao29 x10_2.length co29) : Value).ownBlock ∧ some k_ ≠ ((.slice Ao11 t396.length co11) : Value).ownBlock ∧ some k_ ≠ ((.slice Ao12 t399.length co12) : Value).ownBlock ∧ k_ ≠ gb409 ∧ k_ ≠ gb426) (.slice Ao13 t402.length co13) t402) ∧ Aside0 (wc.heap[gb409]? = some (.cells #[.int .i64 t395, (.slice Ao11 t396.length co11), (.slice Ao12 t399.length co12), (.slice Ao13 t402.length co13)] 30 (0, 0))) ∧ Aside0 (wc.heap[gb426]? = some (.cells #[.int .i64 ((rd_T50 t414 x12_2).f0), .int .i64 ((rd_T50 t414 x12_2).f1), .int .i64 ((rd_T50 t414 x12_2).f2)] 50 (0, 0))) ∧ Aside0 (Below w.heap.size w wc))
         case first =>
          have H := HC33.out; clear HC33
          by_cases c38 : ((rd_T50 t414 x12_2).f0) < 0
          ·rw [if_pos c38] at H
           have c38b0 := decide_eq_true c38
           clear c38
           (first | rw [c38b0] | (simp only [i64_w, i32_w]; rw [c38b0]) | skip)
           have H' := Aside0.mk H; clear H; have hnb39 := NB426_409.out; have hnc39 := NB409_426.out
           obtain ⟨hcz40_0, hcz40_1, hcz40_2, hfz40_0, hfz40_1, hfz40_2⟩ := cf3_ BK426
           go_wp2
           go_meet
           case rel => as_aux_lemma => exact ⟨_, (true), (by first | rfl | (simp; done) | (simp [*]; done)), H', ⟨by have := HJ6.out; have := HK2.out; first | omega | exact Nat.le_refl _⟩, ⟨by (try simp only [hl10_2]); (with_reducible repeat (first | apply Kd.R_alloc | apply Kd.R_drewN | apply Kd.R_drew)); exact Kd.R_mono (Kd.R_far (p := ⟨gb426, 2, none⟩) (Kd.R_far (p := ⟨gb426, 1, none⟩) (Kd.R_far (p := ⟨gb426, 0, none⟩) (Kd.R_types HO_4.out BK426.out (by decide)) (fun _ hk => hk.2) (.int .i64 ((rd_T50 t414 x12_2).f0))) (fun _ hk => hk.2) (.int .i64 ((rd_T50 t414 x12_2).f1))) (fun _ hk => hk.2) (.int .i64 ((rd_T50 t414 x12_2).f2))) (fun _ hk => ⟨hk.1.1, ⟨hk.1.2.1, hk.1.2.2⟩⟩)⟩, ⟨by (try simp only [hl10_2]); (with_reducible repeat (first | apply Kd.R_alloc | apply Kd.R_drewN | apply Kd.R_drew)); exact Kd.R_mono (Kd.R_far (p := ⟨gb426, 2, none⟩) (Kd.R_far (p := ⟨gb426, 1, none⟩) (Kd.R_far (p := ⟨gb426, 0, none⟩) (Kd.R_mono HO_8.out (fun k_ hk => (⟨hk, hk.2⟩ : _ ∧ k_ ≠ gb426))) (fun _ hk => hk.2) (.int .i64 ((rd_T50 t414 x12_2).f0))) (fun _ hk => hk.2) (.int .i64 ((rd_T50 t414 x12_2).f1))) (fun _ hk => hk.2) (.int .i64 ((rd_T50 t414 x12_2).f2))) (fun _ hk => hk.1.2)⟩, ⟨by (try simp only [hl10_2]); (with_reducible repeat (first | apply Kd.R_alloc | apply Kd.R_drewN | apply Kd.R_drew)); exact Kd.R_mono (Kd.R_far (p := ⟨gb426, 2, none⟩) (Kd.R_far (p := ⟨gb426, 1, none⟩) (Kd.R_far (p := ⟨gb426, 0, none⟩) (Kd.R_types HO_10.out BK426.out (by decide)) (fun _ hk => hk.2) (.int .i64 ((rd_T50 t414 x12_2).f0))) (fun _ hk => hk.2) (.int .i64 ((rd_T50 t414 x12_2).f1))) (fun _ hk => hk.2) (.int .i64 ((rd_T50 t414 x12_2).f2))) (fun _ hk => ⟨hk.1.1, ⟨hk.1.2.1, hk.1.2.2⟩⟩)⟩, ⟨by (try simp only [hl10_2]); (with_reducible repeat (first | apply Kd.R_alloc | apply Kd.R_drewN | apply Kd.R_drew)); exact Kd.R_mono (Kd.R_far (p := ⟨gb426, 2, none⟩) (Kd.R_far (p := ⟨gb426, 1, none⟩) (Kd.R_far (p := ⟨gb426, 0, none⟩) (Kd.R_types HO_410001.out BK426.out (by decide)) (fun _ hk => hk.2) (.int .i64 ((rd_T50 t414 x12_2).f0))) (fun _ hk => hk.2) (.int .i64 ((rd_T50 t414 x12_2).f1))) (fun _ hk => hk.2) (.int .i64 ((rd_T50 t414 x12_2).f2))) (fun _ hk => ⟨hk.1.1, ⟨hk.1.2.1, hk.1.2.2⟩⟩)⟩, ⟨by (try simp only [hl10_2]); (with_reducible repeat (first | apply Kd.R_alloc | apply Kd.R_drewN | apply Kd.R_drew)); exact Kd.R_mono (Kd.R_far (p := ⟨gb426, 2, none⟩) (Kd.R_far (p := ⟨gb426, 1, none⟩) (Kd.R_far (p := ⟨gb426, 0, none⟩) (Kd.R_types HO_410002.out BK426.out (by decide)) (fun _ hk => hk.2) (.int .i64 ((rd_T50 t414 x12_2).f0))) (fun _ hk => hk.2) (.int .i64 ((rd_T50 t414 x12_2).f1))) (fun _ hk => hk.2) (.int .i64 ((rd_T50 t414 x12_2).f2))) (fun _ hk => ⟨hk.1.1, ⟨hk.1.2.1, hk.1.2.2⟩⟩)⟩, ⟨by (try simp only [hl10_2]); (with_reducible repeat (first | apply Kd.N_alloc | apply Kd.N_drewN | apply Kd.N_drew)); exact Kd.N_mono (Kd.N_far (p := ⟨gb426, 2, none⟩) (Kd.N_far (p := ⟨gb426, 1, none⟩) (Kd.N_far (p := ⟨gb426, 0, none⟩) (Kd.N_mono HO_410003.out (fun k_ hk => (⟨hk, hk.2⟩ : _ ∧ k_ ≠ gb426))) (fun _ hk => hk.2) (.int .i64 ((rd_T50 t414 x12_2).f0))) (fun _ hk => hk.2) (.int .i64 ((rd_T50 t414 x12_2).f1))) (fun _ hk => hk.2) (.int .i64 ((rd_T50 t414 x12_2).f2))) (fun _ hk => ⟨hk.1.1.1, ⟨hk.1.1.2.1, ⟨hk.1.1.2.2.1, ⟨hk.1.1.2.2.2.1, ⟨hk.1.1.2.2.2.2.1, ⟨hk.1.1.2.2.2.2.2, hk.1.2⟩⟩⟩⟩⟩⟩)⟩, ⟨by (try simp only [hl10_2]); (with_reducible repeat (first | refine blk_drewN ?_ _ | refine blk_drew ?_ | refine blk_alloc ?_ _)); refine blk_far ?_ NB409_426.out _; (with_reducible repeat (first | refine blk_drewN ?_ _ | refine blk_drew ?_ | refine blk_alloc ?_ _)); refine blk_far ?_ NB409_426.out _; (with_reducible repeat (first | refine blk_drewN ?_ _ | refine blk_drew ?_ | refine blk_alloc ?_ _)); refine blk_far ?_ NB409_426.out _; exact bT_ BK409⟩, ⟨by (try simp only [hl10_2]); (with_reducible repeat (first | refine blk_drewN ?_ _ | refine blk_drew ?_ | refine blk_alloc ?_ _)); refine blk_put (cs := #[.int .i64 ((rd_T50 t414 x12_2).f0), .int .i64 ((rd_T50 t414 x12_2).f1), .int .i64 0]) ?_ 2 _ rfl; (with_reducible repeat (first | refine blk_drewN ?_ _ | refine blk_drew ?_ | refine blk_alloc ?_ _)); refine blk_put (cs := #[.int .i64 ((rd_T50 t414 x12_2).f0), .int .i64 0, .int .i64 0]) ?_ 1 _ rfl; (with_reducible repeat (first | refine blk_drewN ?_ _ | refine blk_drew ?_ | refine blk_alloc ?_ _)); refine blk_put (cs := #[.int .i64 0, .int .i64 0, .int .i64 0]) ?_ 0 _ rfl; exact bT_ BK426⟩, ⟨sABelo_14⟩⟩
          ·rw [if_neg c38] at H
           have c38b0 := decide_eq_false c38
           clear c38
           (first | rw [c38b0] | (simp only [i64_w, i32_w]; rw [c38b0]) | skip)
           have H' := Aside0.mk H; clear H; have hnb41 := NB426_409.out; have hnc41 := NB409_426.out
           obtain ⟨hcz42_0, hcz42_1, hcz42_2, hfz42_0, hfz42_1, hfz42_2⟩ := cf3_ BK426
           obtain ⟨hcz43_0, hcz43_1, hcz43_2, hcz43_3, hfz43_0, hfz43_1, hfz43_2, hfz43_3⟩ := cf4_ BK409
           go_wp2
           go_meet
           case rel => as_aux_lemma => exact ⟨_, (decide (((rd_T50 t414 x12_2).f0) ≥ t395)), (by first | rfl | (simp; done) | (simp [*]; done)), H', ⟨by have := HJ6.out; have := HK2.out; first | omega | exact Nat.le_refl _⟩, ⟨by (try simp only [hl10_2]); (with_reducible repeat (first | apply Kd.R_alloc | apply Kd.R_drewN | apply Kd.R_drew)); exact Kd.R_mono (Kd.R_far (p := ⟨gb426, 2, none⟩) (Kd.R_far (p := ⟨gb426, 1, none⟩) (Kd.R_far (p := ⟨gb426, 0, none⟩) (Kd.R_types HO_4.out BK426.out (by decide)) (fun _ hk => hk.2) (.int .i64 ((rd_T50 t414 x12_2).f0))) (fun _ hk => hk.2) (.int .i64 ((rd_T50 t414 x12_2).f1))) (fun _ hk => hk.2) (.int .i64 ((rd_T50 t414 x12_2).f2))) (fun _ hk => ⟨hk.1.1, ⟨hk.1.2.1, hk.1.2.2⟩⟩)⟩, ⟨by (try simp only [hl10_2]); (with_reducible repeat (first | apply Kd.R_alloc | apply Kd.R_drewN | apply Kd.R_drew)); exact Kd.R_mono (Kd.R_far (p := ⟨gb426, 2, none⟩) (Kd.R_far (p := ⟨gb426, 1, none⟩) (Kd.R_far (p := ⟨gb426, 0, none⟩) (Kd.R_mono HO_8.out (fun k_ hk => (⟨hk, hk.2⟩ : _ ∧ k_ ≠ gb426))) (fun _ hk => hk.2) (.int .i64 ((rd_T50 t414 x12_2).f0))) (fun _ hk => hk.2) (.int .i64 ((rd_T50 t414 x12_2).f1))) (fun _ hk => hk.2) (.int .i64 ((rd_T50 t414 x12_2).f2))) (fun _ hk => hk.1.2)⟩, ⟨by (try simp only [hl10_2]); (with_reducible repeat (first | apply Kd.R_alloc | apply Kd.R_drewN | apply Kd.R_drew)); exact Kd.R_mono (Kd.R_far (p := ⟨gb426, 2, none⟩) (Kd.R_far (p := ⟨gb426, 1, none⟩) (Kd.R_far (p := ⟨gb426, 0, none⟩) (Kd.R_types HO_10.out BK426.out (by decide)) (fun _ hk => hk.2) (.int .i64 ((rd_T50 t414 x12_2).f0))) (fun _ hk => hk.2) (.int .i64 ((rd_T50 t414 x12_2).f1))) (fun _ hk => hk.2) (.int .i64 ((rd_T50 t414 x12_2).f2))) (fun _ hk => ⟨hk.1.1, ⟨hk.1.2.1, hk.1.2.2⟩⟩)⟩, ⟨by (try simp only [hl10_2]); (with_reducible repeat (first | apply Kd.R_alloc | apply Kd.R_drewN | apply Kd.R_drew)); exact Kd.R_mono (Kd.R_far (p := ⟨gb426, 2, none⟩) (Kd.R_far (p := ⟨gb426, 1, none⟩) (Kd.R_far (p := ⟨gb426, 0, none⟩) (Kd.R_types HO_410001.out BK426.out (by decide)) (fun _ hk => hk.2) (.int .i64 ((rd_T50 t414 x12_2).f0))) (fun _ hk => hk.2) (.int .i64 ((rd_T50 t414 x12_2).f1))) (fun _ hk => hk.2) (.int .i64 ((rd_T50 t414 x12_2).f2))) (fun _ hk => ⟨hk.1.1, ⟨hk.1.2.1, hk.1.2.2⟩⟩)⟩, ⟨by (try simp only [hl10_2]); (with_reducible repeat (first | apply Kd.R_alloc | apply Kd.R_drewN | apply Kd.R_drew)); exact Kd.R_mono (Kd.R_far (p := ⟨gb426, 2, none⟩) (Kd.R_far (p := ⟨gb426, 1, none⟩) (Kd.R_far (p := ⟨gb426, 0, none⟩) (Kd.R_types HO_410002.out BK426.out (by decide)) (fun _ hk => hk.2) (.int .i64 ((rd_T50 t414 x12_2).f0))) (fun _ hk => hk.2) (.int .i64 ((rd_T50 t414 x12_2).f1))) (fun _ hk => hk.2) (.int .i64 ((rd_T50 t414 x12_2).f2))) (fun _ hk => ⟨hk.1.1, ⟨hk.1.2.1, hk.1.2.2⟩⟩)⟩, ⟨by (try simp only [hl10_2]); (with_reducible repeat (first | apply Kd.N_alloc | apply Kd.N_drewN | apply Kd.N_drew)); exact Kd.N_mono (Kd.N_far (p := ⟨gb426, 2, none⟩) (Kd.N_far (p := ⟨gb426, 1, none⟩) (Kd.N_far (p := ⟨gb426, 0, none⟩) (Kd.N_mono HO_410003.out (fun k_ hk => (⟨hk, hk.2⟩ : _ ∧ k_ ≠ gb426))) (fun _ hk => hk.2) (.int .i64 ((rd_T50 t414 x12_2).f0))) (fun _ hk => hk.2) (.int .i64 ((rd_T50 t414 x12_2).f1))) (fun _ hk => hk.2) (.int .i64 ((rd_T50 t414 x12_2).f2))) (fun _ hk => ⟨hk.1.1.1, ⟨hk.1.1.2.1, ⟨hk.1.1.2.2.1, ⟨hk.1.1.2.2.2.1, ⟨hk.1.1.2.2.2.2.1, ⟨hk.1.1.2.2.2.2.2, hk.1.2⟩⟩⟩⟩⟩⟩)⟩, ⟨by (try simp only [hl10_2]); (with_reducible repeat (first | refine blk_drewN ?_ _ | refine blk_drew ?_ | refine blk_alloc ?_ _)); refine blk_far ?_ NB409_426.out _; (with_reducible repeat (first | refine blk_drewN ?_ _ | refine blk_drew ?_ | refine blk_alloc ?_ _)); refine blk_far ?_ NB409_426.out _; (with_reducible repeat (first | refine blk_drewN ?_ _ | refine blk_drew ?_ | refine blk_alloc ?_ _)); refine blk_far ?_ NB409_426.out _; exact bT_ BK409⟩, ⟨by (try simp only [hl10_2]); (with_reducible repeat (first | refine blk_drewN ?_ _ | refine blk_drew ?_ | refine blk_alloc ?_ _)); refine blk_put (cs := #[.int .i64 ((rd_T50 t414 x12_2).f0), .int .i64 ((rd_T50 t414 x12_2).f1), .int .i64 0]) ?_ 2 _ rfl; (with_reducible repeat (first | refine blk_drewN ?_ _ | refine blk_drew ?_ | refine blk_alloc ?_ _)); refine blk_put (cs := #[.int .i64 ((rd_T50 t414 x12_2).f0), .int .i64 0, .int .i64 0]) ?_ 1 _ rfl; (with_reducible repeat (first | refine blk_drewN ?_ _ | refine blk_drew ?_ | refine blk_alloc ?_ _)); refine blk_put (cs := #[.int .i64 0, .int .i64 0, .int .i64 0]) ?_ 0 _ rfl; exact bT_ BK426⟩, ⟨sABelo_14⟩⟩
         case rest => as_aux_lemma =>
          clear HC33; (try clear c3); (try clear c21); (try clear c22); (try clear c23); (try clear c31); (try clear c31b0); (try clear c32); (try clear c32b0); (try clear hcz10_0); (try clear hcz10_1); (try clear hcz10_2); (try clear hcz10_3); (try clear hcz16_0); (try clear hcz16_1); (try clear hcz16_2); (try clear hcz16_3); (try clear hcz28_0); (try clear hcz28_1); (try clear hcz28_2); (try clear hcz28_3); (try clear hcz37_0); (try clear hcz37_1); (try clear hcz37_2); (try clear hfz10_0); (try clear hfz10_1); (try clear hfz10_2); (try clear hfz10_3); (try clear hfz16_0); (try clear hfz16_1); (try clear hfz16_2); (try clear hfz16_3); (try clear hfz28_0); (try clear hfz28_1); (try clear hfz28_2); (try clear hfz28_3); (try clear hfz37_0); (try clear hfz37_1); (try clear hfz37_2); (try clear hx425_0); (try clear hx425_1); (try clear hx425_2); (try clear p425); (try clear q425)
          obtain ⟨kq, x78_32, rfl, HA, HJ32, HO_4, HO_8, HO_10, HO_410001, HO_410002, HO_410003, BK409, BK426, HB⟩ := hcut
          cases kq with
          | zero => exact absurd HA.out (by simp [laws_FnDescends.j2])
          | succ kj32 =>
           have H := HA.out; clear HA
           simp only [laws_FnDescends.j2] at H
           by_cases c44 : x78_32 = true
           ·subst c44
            replace H := ifT_ H
            obtain rfl := Option.some.inj H
            go_wp2
            go_ret
            exact ⟨by first | rfl | (simp [errW_none, errW_some] <;> rfl) | (simp [*, errW_none, errW_some] <;> rfl), sABelo_14⟩
           ·replace c44 := Bool.eq_false_iff.mpr c44
            subst c44
            replace H := ifF_ H
            obtain ⟨c45, H⟩ := ifS_ H
            have c45b0 : decide (0 ≤ ((rd_T50 t414 x12_2).f0)) = true := decide_eq_true c45
            clear c45
            obtain ⟨c46, H⟩ := ifS_ H
            have c46b0 : decide (((rd_T50 t414 x12_2).f0) < (x10_2.length : Int)) = true := decide_eq_true c46
            have c46b0q := c46b0
            (try simp only [hl10_2] at c46b0q)
            clear c46
            obtain ⟨y428, hy428⟩ : ∃ y_ : List Int, y_ = (x10_2.set (((rd_T50 t414 x12_2).f0) : Int).toNat (wrap64 ((rd x10_2 ((rd_T50 t414 x12_2).f0)) + ((rd_T50 t414 x12_2).f1)))) := ⟨_, rfl⟩
            replace H : ((impl_Cost.f kj32 t395 t396 t399 t402 y428).bind fun t429 => (if ((rd_T50 t414 x12_2).f2) = t429 then ((spec_Cost.f kj32 t395 t396 t399 t402 y428).bind fun t430 => (if ((rd_T50 t414 x12_2).f2) = t430 then (if ((rd_T50 t414 x12_2).f2) ≥ x11_2 then (some false) else (laws_FnDescends.l0 kj32 t405 t408 t414 y428 ((rd_T50 t414 x12_2).f2) (wrap64 (x12_2 + 1)) t395 t396 t399 t402)) else (some false))) else (some false))) = some r := by first | (rw [hy428]; with_reducible exact H) | (have H2_ := (Option.bind_some _ _).symm.trans H; rw [hy428]; with_reducible exact H2_) | (have H2_ := (Option.bind_some _ _).symm.trans H; with_reducible exact H2_) | with_reducible exact H | (rw [hy428]; exact H) | exact H
            have Ny428 := Aside0.mk hy428; clear hy428; replace H := Option.bind_eq_some_iff.mp H
            obtain ⟨t429, A480, H⟩ := H
            replace H : (if ((rd_T50 t414 x12_2).f2) = t429 then ((spec_Cost.f kj32 t395 t396 t399 t402 y428).bind fun t430 => (if ((rd_T50 t414 x12_2).f2) = t430 then (if ((rd_T50 t414 x12_2).f2) ≥ x11_2 then (some false) else (laws_FnDescends.l0 kj32 t405 t408 t414 y428 ((rd_T50 t414 x12_2).f2) (wrap64 (x12_2 + 1)) t395 t396 t399 t402)) else (some false))) else (some false)) = some r := H
            have A48 := Aside0.mk A480; clear A480
            by_cases c49 : ((rd_T50 t414 x12_2).f2) = t429
            ·rw [if_pos c49] at H
             have c49b0 := beq_iff_eq.mpr c49
             have c49b1 := bne_eq_false_iff_eq.mpr c49
             clear c49; replace H := Option.bind_eq_some_iff.mp H
             obtain ⟨t430, A500, H⟩ := H
             replace H : (if ((rd_T50 t414 x12_2).f2) = t430 then (if ((rd_T50 t414 x12_2).f2) ≥ x11_2 then (some false) else (laws_FnDescends.l0 kj32 t405 t408 t414 y428 ((rd_T50 t414 x12_2).f2) (wrap64 (x12_2 + 1)) t395 t396 t399 t402)) else (some false)) = some r := H
             have A50 := Aside0.mk A500; clear A500
             by_cases c51 : ((rd_T50 t414 x12_2).f2) = t430
             ·rw [if_pos c51] at H
              have c51b0 := beq_iff_eq.mpr c51
              have c51b1 := bne_eq_false_iff_eq.mpr c51
              clear c51
              by_cases c52 : ((rd_T50 t414 x12_2).f2) ≥ x11_2
              ·rw [if_pos c52] at H
               have c52b0 : decide (x11_2 ≤ ((rd_T50 t414 x12_2).f2)) = true := decide_eq_true c52
               clear c52
               obtain rfl := Option.some.inj H
               try go_wp2
               replace HO_4 := Aside0.mk (Kd.R_drew HO_4.out)
               replace HO_8 := Aside0.mk (Kd.R_drew HO_8.out)
               replace HO_10 := Aside0.mk (Kd.R_drew HO_10.out)
               replace HO_410001 := Aside0.mk (Kd.R_drew HO_410001.out)
               replace HO_410002 := Aside0.mk (Kd.R_drew HO_410002.out)
               replace HO_410003 := Aside0.mk (Kd.N_drew HO_410003.out)
               replace BK409 := Aside0.mk (blk_drew BK409.out)
               replace BK426 := Aside0.mk (blk_drew BK426.out)
               replace HB := Aside0.mk (below_drew1 HB.out)
               have p427 : 0 ≤ (((rd_T50 t414 x12_2).f0) : Int) := dA_
               have q427 : ((rd_T50 t414 x12_2).f0) < (x10_2.length : Int) := dA_
               obtain ⟨ad427, e427, hx427_0⟩ := Kd.at_int (Kd.R_reads' HO_10.out).2.2 ((rd_T50 t414 x12_2).f0) p427 q427
               cases e427
               replace p427 := eq_true p427; replace q427 := eq_true q427
               have p47 : 0 ≤ (((rd_T50 t414 x12_2).f0) : Int) := dA_
               have q47 : (((rd_T50 t414 x12_2).f0) : Int) < ((x10_2.length : Int) : Int) := dA_
               obtain ⟨go47, co47, eo47, gb47, gl47, cl47, HG47⟩ := Kd.R_form HO_10.out (by omega)
               (first | cases eo47 | (injection eo47 with ea_ en_ ec_; (first | subst ea_ | (injection ea_ with ea_; subst ea_)); subst ec_; clear en_))
               have GB47 := Aside0.mk gb47; have GG47 := Aside0.mk HG47; clear gb47 gl47 HG47
               (first | simp only [add_plain] at hx427_0 | skip)
               obtain ⟨hx47_0, hf47_0⟩ := Kd.R_celln 0 HO_10.out (((rd_T50 t414 x12_2).f0) : Int) p47 q47
               replace p47 := eq_true p47; replace q47 := eq_true q47
               have HP54 := Kd.R_putn HO_10.out (((rd_T50 t414 x12_2).f0) : Int) (wrap64 ((rd x10_2 ((rd_T50 t414 x12_2).f0)) + ((rd_T50 t414 x12_2).f1)))
               rw [← Ny428.out] at HP54
               have HQ54 := Aside0.mk HP54; clear HP54
               refine start_ (n := 13) (S := fun w' => w'.cell? ⟨gb426, 0, none⟩ = some (.int .i64 ((rd_T50 t414 x12_2).f0)) ∧ w'.cell? ⟨gb426, 1, none⟩ = some (.int .i64 ((rd_T50 t414 x12_2).f1)) ∧ w'.cell? ⟨gb426, 2, none⟩ = some (.int .i64 ((rd_T50 t414 x12_2).f2)) ∧ w'.cell? ⟨go47, (((rd_T50 t414 x12_2).f0)).toNat, none⟩ = some (.int .i64 (rd x10_2 ((rd_T50 t414 x12_2).f0)))) (ds := [12]) #[false, false, false, false, false, false, false, false, false, false, false, false, false] (by kernel_rfl) rfl rfl ⟨(blk_cell BK426.out 0).trans rfl, (blk_cell BK426.out 1).trans rfl, (blk_cell BK426.out 2).trans rfl, hx427_0⟩ (fun hHeld => ?_); refine with_tabW laws_FnDescends.tab18 laws_FnDescends.bits18 (fun HT_ HW_ => ?_)
               generalize wc.drew = w53 at HO_4 HO_8 HO_10 HO_410001 HO_410002 HO_410003 BK409 BK426 HB GG47 HQ54 hf47_0 hx427_0 hx47_0 hHeld ⊢
               refine pT_ 0 (some 79) #[true, false, false, false, false, false, false, false, false, false, false, false, false] HT_ ?_
               refine pT_ 1 (some 80) #[true, true, false, false, false, false, false, false, false, false, false, false, false] HT_ ?_
               refine pT_ 3 (some 82) #[true, true, false, true, false, false, false, false, false, false, false, false, false] HT_ ?_
               refine pT_ 4 (some 83) #[true, true, false, true, true, false, false, false, false, false, false, false, false] HT_ ?_
               refine pT_ 8 (some 87) #[true, true, false, true, true, false, false, false, true, false, false, false, false] HT_ ?_
               refine tT_ 2 (some 81) #[true, true, true, true, true, false, false, false, true, false, false, false, false] HT_ HW_ hHeld ?_ (hy := by rintro w' ⟨s0, s1, s2, s3⟩; go_simp; with_reducible rfl)
               refine tT_ 5 (some 84) #[true, true, true, true, true, true, false, false, true, false, false, false, false] HT_ HW_ hHeld ?_ (hy := by rintro w' ⟨s0, s1, s2, s3⟩; go_simp; with_reducible rfl)
               refine pT_ 6 (some 85) #[true, true, true, true, true, true, true, false, true, false, false, false, false] HT_ ?_
               refine tT_ 7 (some 86) #[true, true, true, true, true, true, true, true, true, false, false, false, false] HT_ HW_ hHeld ?_ (hy := by rintro w' ⟨s0, s1, s2, s3⟩; go_simp; with_reducible rfl)
               refine tT_ 9 (some 88) #[true, true, true, true, true, true, true, true, true, true, false, false, false] HT_ HW_ hHeld ?_ (hy := by rintro w' ⟨s0, s1, s2, s3⟩; go_simp; with_reducible rfl)
               refine pT_ 10 (some 89) #[true, true, true, true, true, true, true, true, true, true, true, false, false] HT_ ?_
               refine pT_ 11 (some 90) #[true, true, true, true, true, true, true, true, true, true, true, true, false] HT_ ?_
               refine last_ (i := 12) (N := none) #[true, true, true, true, true, true, true, true, true, true, true, true, true] rfl rfl (one_of HT_.out (by kernel_rfl)) (by decide) (fun K hK => ?_)
               refine skip_ (w1 := ?_) (by rfl) rfl ?_ ?_
               rotate_left
               ·go_simp
                rfl
               refine hK.out _ _ ?_
               clear hK K
               refine done_ (done_of HT_.out (by kernel_rfl)) ?_
               try go_wp2
               have n0_ : Aside0 (Kd.R (Kd.int .i64) 2 (w53.setCell ⟨go47, (((rd_T50 t414 x12_2).f0) : Int).toNat, none⟩ (.int .i64 (wrap64 ((rd x10_2 ((rd_T50 t414 x12_2).f0)) + ((rd_T50 t414 x12_2).f1))))) w.heap.size (fun k_ => some k_ ≠ (.slice (some ⟨go47, 0, none⟩) x10_2.length co29 : Value).ownBlock ∧ some k_ ≠ (.slice Ao11 t396.length co11 : Value).ownBlock ∧ some k_ ≠ (.slice Ao12 t399.length co12 : Value).ownBlock) (.slice Ao14 t405.length co14) t405) := ⟨by (with_reducible repeat (first | apply Kd.R_alloc | apply Kd.R_drewN | apply Kd.R_drew)); exact Kd.R_mono (Kd.R_far (p := ⟨go47, (((rd_T50 t414 x12_2).f0) : Int).toNat, none⟩) (Kd.R_mono HO_4.out (fun k_ hk => (⟨hk, fun e_ => hk.1 (by rw [e_]; rfl)⟩ : _ ∧ k_ ≠ go47))) (fun _ hk => hk.2) (.int .i64 (wrap64 ((rd x10_2 ((rd_T50 t414 x12_2).f0)) + ((rd_T50 t414 x12_2).f1))))) (fun _ hk => ⟨hk.1.1, ⟨hk.1.2.1, hk.1.2.2⟩⟩)⟩
               have n1_ : Aside0 (Kd.R k50 50 (w53.setCell ⟨go47, (((rd_T50 t414 x12_2).f0) : Int).toNat, none⟩ (.int .i64 (wrap64 ((rd x10_2 ((rd_T50 t414 x12_2).f0)) + ((rd_T50 t414 x12_2).f1))))) w.heap.size (fun k_ => k_ ≠ gb426) (.slice (some ad425) t414.length co34) t414) := ⟨by (with_reducible repeat (first | apply Kd.R_alloc | apply Kd.R_drewN | apply Kd.R_drew)); exact Kd.R_mono (Kd.R_far (p := ⟨go47, (((rd_T50 t414 x12_2).f0) : Int).toNat, none⟩) (Kd.R_types HO_8.out GG47.out (by decide)) (fun _ hk => hk.2) (.int .i64 (wrap64 ((rd x10_2 ((rd_T50 t414 x12_2).f0)) + ((rd_T50 t414 x12_2).f1))))) (fun _ hk => hk.1)⟩
               have n2_ : Aside0 (Kd.R (Kd.int .i64) 2 (w53.setCell ⟨go47, (((rd_T50 t414 x12_2).f0) : Int).toNat, none⟩ (.int .i64 (wrap64 ((rd x10_2 ((rd_T50 t414 x12_2).f0)) + ((rd_T50 t414 x12_2).f1))))) w.heap.size (fun k_ => some k_ ≠ (.slice Ao14 t405.length co14 : Value).ownBlock ∧ some k_ ≠ (.slice Ao11 t396.length co11 : Value).ownBlock ∧ some k_ ≠ (.slice Ao12 t399.length co12 : Value).ownBlock) (.slice (some ⟨go47, 0, none⟩) x10_2.length co29) y428) := ⟨by (with_reducible repeat (first | apply Kd.R_alloc | apply Kd.R_drewN | apply Kd.R_drew)); exact HQ54.out⟩
               have n3_ : Aside0 (Kd.R (Kd.int .i64) 2 (w53.setCell ⟨go47, (((rd_T50 t414 x12_2).f0) : Int).toNat, none⟩ (.int .i64 (wrap64 ((rd x10_2 ((rd_T50 t414 x12_2).f0)) + ((rd_T50 t414 x12_2).f1))))) w.heap.size (fun k_ => some k_ ≠ (.slice Ao14 t405.length co14 : Value).ownBlock ∧ some k_ ≠ (.slice (some ⟨go47, 0, none⟩) x10_2.length co29 : Value).ownBlock ∧ some k_ ≠ (.slice Ao12 t399.length co12 : Value).ownBlock) (.slice Ao11 t396.length co11) t396) := ⟨by (with_reducible repeat (first | apply Kd.R_alloc | apply Kd.R_drewN | apply Kd.R_drew)); exact Kd.R_mono (Kd.R_far (p := ⟨go47, (((rd_T50 t414 x12_2).f0) : Int).toNat, none⟩) (Kd.R_mono HO_410001.out (fun k_ hk => (⟨hk, fun e_ => hk.2.1 (by rw [e_]; rfl)⟩ : _ ∧ k_ ≠ go47))) (fun _ hk => hk.2) (.int .i64 (wrap64 ((rd x10_2 ((rd_T50 t414 x12_2).f0)) + ((rd_T50 t414 x12_2).f1))))) (fun _ hk => ⟨hk.1.1, ⟨hk.1.2.1, hk.1.2.2⟩⟩)⟩
               have n4_ : Aside0 (Kd.R (Kd.int .i64) 2 (w53.setCell ⟨go47, (((rd_T50 t414 x12_2).f0) : Int).toNat, none⟩ (.int .i64 (wrap64 ((rd x10_2 ((rd_T50 t414 x12_2).f0)) + ((rd_T50 t414 x12_2).f1))))) w.heap.size (fun k_ => some k_ ≠ (.slice Ao14 t405.length co14 : Value).ownBlock ∧ some k_ ≠ (.slice (some ⟨go47, 0, none⟩) x10_2.length co29 : Value).ownBlock ∧ some k_ ≠ (.slice Ao11 t396.length co11 : Value).ownBlock) (.slice Ao12 t399.length co12) t399) := ⟨by (with_reducible repeat (first | apply Kd.R_alloc | apply Kd.R_drewN | apply Kd.R_drew)); exact Kd.R_mono (Kd.R_far (p := ⟨go47, (((rd_T50 t414 x12_2).f0) : Int).toNat, none⟩) (Kd.R_mono HO_410002.out (fun k_ hk => (⟨hk, fun e_ => hk.2.1 (by rw [e_]; rfl)⟩ : _ ∧ k_ ≠ go47))) (fun _ hk => hk.2) (.int .i64 (wrap64 ((rd x10_2 ((rd_T50 t414 x12_2).f0)) + ((rd_T50 t414 x12_2).f1))))) (fun _ hk => ⟨hk.1.1, ⟨hk.1.2.1, hk.1.2.2⟩⟩)⟩
               have n5_ : Aside0 (Kd.N k52 52 (w53.setCell ⟨go47, (((rd_T50 t414 x12_2).f0) : Int).toNat, none⟩ (.int .i64 (wrap64 ((rd x10_2 ((rd_T50 t414 x12_2).f0)) + ((rd_T50 t414 x12_2).f1))))) w.heap.size (fun k_ => some k_ ≠ (.slice Ao14 t405.length co14 : Value).ownBlock ∧ some k_ ≠ (.slice (some ad425) t414.length co34 : Value).ownBlock ∧ some k_ ≠ (.slice (some ⟨go47, 0, none⟩) x10_2.length co29 : Value).ownBlock ∧ some k_ ≠ (.slice Ao11 t396.length co11 : Value).ownBlock ∧ some k_ ≠ (.slice Ao12 t399.length co12 : Value).ownBlock ∧ k_ ≠ gb409 ∧ k_ ≠ gb426) (.slice Ao13 t402.length co13) t402) := ⟨by (with_reducible repeat (first | apply Kd.N_alloc | apply Kd.N_drewN | apply Kd.N_drew)); exact Kd.N_mono (Kd.N_far (p := ⟨go47, (((rd_T50 t414 x12_2).f0) : Int).toNat, none⟩) (Kd.N_mono HO_410003.out (fun k_ hk => (⟨hk, fun e_ => hk.2.2.1 (by rw [e_]; rfl)⟩ : _ ∧ k_ ≠ go47))) (fun _ hk => hk.2) (.int .i64 (wrap64 ((rd x10_2 ((rd_T50 t414 x12_2).f0)) + ((rd_T50 t414 x12_2).f1))))) (fun _ hk => ⟨hk.1.1, ⟨hk.1.2.1, ⟨hk.1.2.2.1, ⟨hk.1.2.2.2.1, ⟨hk.1.2.2.2.2.1, ⟨hk.1.2.2.2.2.2.1, hk.1.2.2.2.2.2.2⟩⟩⟩⟩⟩⟩)⟩
               have n6_ : Aside0 ((w53.setCell ⟨go47, (((rd_T50 t414 x12_2).f0) : Int).toNat, none⟩ (.int .i64 (wrap64 ((rd x10_2 ((rd_T50 t414 x12_2).f0)) + ((rd_T50 t414 x12_2).f1))))).heap[gb409]? = some (.cells #[.int .i64 t395, .slice Ao11 t396.length co11, .slice Ao12 t399.length co12, .slice Ao13 t402.length co13] 30 (0, 0))) := ⟨by (with_reducible repeat (first | refine blk_drewN ?_ _ | refine blk_drew ?_ | refine blk_alloc ?_ _)); refine blk_far ?_ (by have h_ := Kd.R_ne HO_10.out BK409.out (by decide); intro e_; exact h_ (by rw [e_]; rfl)) _; exact bT_ BK409⟩
               have n7_ : Aside0 ((w53.setCell ⟨go47, (((rd_T50 t414 x12_2).f0) : Int).toNat, none⟩ (.int .i64 (wrap64 ((rd x10_2 ((rd_T50 t414 x12_2).f0)) + ((rd_T50 t414 x12_2).f1))))).heap[gb426]? = some (.cells #[.int .i64 ((rd_T50 t414 x12_2).f0), .int .i64 ((rd_T50 t414 x12_2).f1), .int .i64 ((rd_T50 t414 x12_2).f2)] 50 (0, 0))) := ⟨by (with_reducible repeat (first | refine blk_drewN ?_ _ | refine blk_drew ?_ | refine blk_alloc ?_ _)); refine blk_far ?_ (by have h_ := Kd.R_ne HO_10.out BK426.out (by decide); intro e_; exact h_ (by rw [e_]; rfl)) _; exact bT_ BK426⟩
               have n8_ : Aside0 (Below w.heap.size w (w53.setCell ⟨go47, (((rd_T50 t414 x12_2).f0) : Int).toNat, none⟩ (.int .i64 (wrap64 ((rd x10_2 ((rd_T50 t414 x12_2).f0)) + ((rd_T50 t414 x12_2).f1)))))) := ⟨sABelo_14⟩
               (try clear HO_4); (try clear HO_8); (try clear HO_10); (try clear HO_410001); (try clear HO_410002); (try clear HO_410003); (try clear BK409); (try clear BK426); (try clear HB)
               generalize (w53.setCell ⟨go47, (((rd_T50 t414 x12_2).f0) : Int).toNat, none⟩ (.int .i64 (wrap64 ((rd x10_2 ((rd_T50 t414 x12_2).f0)) + ((rd_T50 t414 x12_2).f1))))) = w55 at n0_ n1_ n2_ n3_ n4_ n5_ n6_ n7_ n8_ ⊢
               have HO_4 := n0_; have HO_8 := n1_; have HO_10 := n2_; have HO_410001 := n3_; have HO_410002 := n4_; have HO_410003 := n5_; have BK409 := n6_; have BK426 := n7_; have HB := n8_; clear n0_ n1_ n2_ n3_ n4_ n5_ n6_ n7_ n8_
               replace HO_4 := Aside0.mk (Kd.R_drew HO_4.out)
               replace HO_8 := Aside0.mk (Kd.R_drew HO_8.out)
               replace HO_10 := Aside0.mk (Kd.R_drew HO_10.out)
               replace HO_410001 := Aside0.mk (Kd.R_drew HO_410001.out)
               replace HO_410002 := Aside0.mk (Kd.R_drew HO_410002.out)
               replace HO_410003 := Aside0.mk (Kd.N_drew HO_410003.out)
               replace BK409 := Aside0.mk (blk_drew BK409.out)
               replace BK426 := Aside0.mk (blk_drew BK426.out)
               replace HB := Aside0.mk (below_drew1 HB.out)
               refine start_ (n := 20) (S := fun w' => w'.cell? ⟨gb426, 0, none⟩ = some (.int .i64 ((rd_T50 t414 x12_2).f0)) ∧ w'.cell? ⟨gb426, 1, none⟩ = some (.int .i64 ((rd_T50 t414 x12_2).f1)) ∧ w'.cell? ⟨gb426, 2, none⟩ = some (.int .i64 ((rd_T50 t414 x12_2).f2)) ∧ w'.cell? ⟨gb409, 0, none⟩ = some (.int .i64 t395) ∧ w'.cell? ⟨gb409, 1, none⟩ = some (.slice Ao11 t396.length co11) ∧ w'.cell? ⟨gb409, 2, none⟩ = some (.slice Ao12 t399.length co12) ∧ w'.cell? ⟨gb409, 3, none⟩ = some (.slice Ao13 t402.length co13)) (ds := []) #[false, false, false, false, false, false, false, false, false, false, false, false, false, false, false, false, false, false, false, false] (by kernel_rfl) rfl rfl ⟨(blk_cell BK426.out 0).trans rfl, (blk_cell BK426.out 1).trans rfl, (blk_cell BK426.out 2).trans rfl, (blk_cell BK409.out 0).trans rfl, (blk_cell BK409.out 1).trans rfl, (blk_cell BK409.out 2).trans rfl, (blk_cell BK409.out 3).trans rfl⟩ (fun hHeld => ?_); refine with_tabW laws_FnDescends.tab19 laws_FnDescends.bits19 (fun HT_ HW_ => ?_)
               generalize w55.drew = w56 at HO_4 HO_8 HO_10 HO_410001 HO_410002 HO_410003 BK409 BK426 HB HQ54 hHeld ⊢
               refine pT_ 0 (some 91) #[true, false, false, false, false, false, false, false, false, false, false, false, false, false, false, false, false, false, false, false] HT_ ?_
               refine pT_ 3 (some 94) #[true, false, false, true, false, false, false, false, false, false, false, false, false, false, false, false, false, false, false, false] HT_ ?_
               refine tT_ 1 (some 92) #[true, true, false, true, false, false, false, false, false, false, false, false, false, false, false, false, false, false, false, false] HT_ HW_ hHeld ?_ (hy := by rintro w' ⟨s0, s1, s2, s3, s4, s5, s6⟩; go_simp; with_reducible rfl)
               refine tT_ 2 (some 93) #[true, true, true, true, false, false, false, false, false, false, false, false, false, false, false, false, false, false, false, false] HT_ HW_ hHeld ?_ (hy := by rintro w' ⟨s0, s1, s2, s3, s4, s5, s6⟩; go_simp; with_reducible rfl)
               refine one_ (i := 4) (N := some 95) #[true, true, true, true, true, false, false, false, false, false, false, false, false, false, false, false, false, false, false, false] rfl rfl (one_of HT_.out (by kernel_rfl)) (by decide) (fun K hK => ?_)
               refine goes_ Try.func11 (by kernel_rfl) rfl #[.agg #[.int .i64 t395, .slice Ao11 t396.length co11, .slice Ao12 t399.length co12, .slice Ao13 t402.length co13], .slice (some ⟨go47, 0, none⟩) y428.length co29] (by rfl) rfl rfl (by (try simp only [List.map_toArray, List.map_cons, List.map_nil]); first | done | (rw [show y428.length = x10_2.length from (Kd.R_reads' HO_10.out).1.symm] <;> rfl) | rfl | (simp only [List.length_drop, List.length_take]; rfl)) ?_
               with_reducible refine (impl_Cost.calls kj32 t395 _ _ t396 _ _ t399 _ _ t402 _ _ y428 t429 _ ?side1 ?side2 ?side3 ?side4 ?side5 ?side6 ?side7 ?side8 A48.out).mono ?_
               (case side1 => exact rD_ HO_410001)
               (case side2 => exact (Kd.R_reads' HO_410001.out).2.1)
               (case side3 => exact rD_ HO_410002)
               (case side4 => exact (Kd.R_reads' HO_410002.out).2.1)
               (case side5 => repeat (first | exact (Kd.N_reads' HO_410003.out).2.2 | (with_reducible refine Kd.C_alloc ?_ _) | (with_reducible refine Kd.C_drewN ?_ _) | (with_reducible refine Kd.C_drew ?_)))
               (case side6 => exact (Kd.N_reads' HO_410003.out).2.1)
               (case side7 => exact rD_ HO_10)
               (case side8 => rw [show y428.length = x10_2.length from (Kd.R_reads' HO_10.out).1.symm]; exact (Kd.R_reads' HO_10.out).2.1)
               rintro e w57 ⟨rfl, hb⟩
               refine ⟨_, rfl, ?_⟩
               replace HO_4 := rB_ HO_4 hb; replace HO_8 := rB_ HO_8 hb; replace HO_10 := rB_ HO_10 hb; replace HO_410001 := rB_ HO_410001 hb; replace HO_410002 := rB_ HO_410002 hb
               replace HO_410003 := Aside0.mk (Kd.N_below (by (with_reducible repeat (first | apply Kd.N_alloc | apply Kd.N_drewN | apply Kd.N_drew)); exact HO_410003.out) hb)
               replace BK409 := bB_ BK409 hb; replace BK426 := bB_ BK426 hb; replace HB := bS_ HB hb; (try clear hb); (try clear hk)
               refine hK.out _ _ ⟨(blk_cell BK426.out 0).trans rfl, (blk_cell BK426.out 1).trans rfl, (blk_cell BK426.out 2).trans rfl, (blk_cell BK409.out 0).trans rfl, (blk_cell BK409.out 1).trans rfl, (blk_cell BK409.out 2).trans rfl, (blk_cell BK409.out 3).trans rfl⟩ (fun hHeld => ?_)
               clear hK K
               refine nS_ (some 95) ?_
               refine pT_ 5 (some 96) #[true, true, true, true, true, true, false, false, false, false, false, false, false, false, false, false, false, false, false, false] HT_ ?_
               refine pT_ 6 (some 97) #[true, true, true, true, true, true, true, false, false, false, false, false, false, false, false, false, false, false, false, false] HT_ ?_
               refine pT_ 7 (some 98) #[true, true, true, true, true, true, true, true, false, false, false, false, false, false, false, false, false, false, false, false] HT_ ?_
               refine pT_ 10 (some 101) #[true, true, true, true, true, true, true, true, false, false, true, false, false, false, false, false, false, false, false, false] HT_ ?_
               refine tT_ 8 (some 99) #[true, true, true, true, true, true, true, true, true, false, true, false, false, false, false, false, false, false, false, false] HT_ HW_ hHeld ?_ (hy := by rintro w' ⟨s0, s1, s2, s3, s4, s5, s6⟩; go_simp; with_reducible rfl)
               refine tT_ 9 (some 100) #[true, true, true, true, true, true, true, true, true, true, true, false, false, false, false, false, false, false, false, false] HT_ HW_ hHeld ?_ (hy := by rintro w' ⟨s0, s1, s2, s3, s4, s5, s6⟩; go_simp; with_reducible rfl)
               refine one_ (i := 11) (N := some 102) #[true, true, true, true, true, true, true, true, true, true, true, true, false, false, false, false, false, false, false, false] rfl rfl (one_of HT_.out (by kernel_rfl)) (by decide) (fun K hK => ?_)
               refine goes_ Try.func8 (by kernel_rfl) rfl #[.agg #[.int .i64 t395, .slice Ao11 t396.length co11, .slice Ao12 t399.length co12, .slice Ao13 t402.length co13], .slice (some ⟨go47, 0, none⟩) y428.length co29] (by rfl) rfl rfl (by (try simp only [List.map_toArray, List.map_cons, List.map_nil]); first | done | (rw [show y428.length = x10_2.length from (Kd.R_reads' HO_10.out).1.symm] <;> rfl) | rfl | (simp only [List.length_drop, List.length_take]; rfl)) ?_
               with_reducible refine (spec_Cost.calls kj32 t395 _ _ t396 _ _ t399 _ _ t402 _ _ y428 t430 _ ?side1 ?side2 ?side3 ?side4 ?side5 ?side6 ?side7 ?side8 A50.out).mono ?_
               (case side1 => exact rD_ HO_410001)
               (case side2 => exact (Kd.R_reads' HO_410001.out).2.1)
               (case side3 => exact rD_ HO_410002)
               (case side4 => exact (Kd.R_reads' HO_410002.out).2.1)
               (case side5 => repeat (first | exact (Kd.N_reads' HO_410003.out).2.2 | (with_reducible refine Kd.C_alloc ?_ _) | (with_reducible refine Kd.C_drewN ?_ _) | (with_reducible refine Kd.C_drew ?_)))
               (case side6 => exact (Kd.N_reads' HO_410003.out).2.1)
               (case side7 => exact rD_ HO_10)
               (case side8 => rw [show y428.length = x10_2.length from (Kd.R_reads' HO_10.out).1.symm]; exact (Kd.R_reads' HO_10.out).2.1)
               rintro e w58 ⟨rfl, hb⟩
               refine ⟨_, rfl, ?_⟩
               replace HO_4 := rB_ HO_4 hb; replace HO_8 := rB_ HO_8 hb; replace HO_10 := rB_ HO_10 hb; replace HO_410001 := rB_ HO_410001 hb; replace HO_410002 := rB_ HO_410002 hb
               replace HO_410003 := Aside0.mk (Kd.N_below (by (with_reducible repeat (first | apply Kd.N_alloc | apply Kd.N_drewN | apply Kd.N_drew)); exact HO_410003.out) hb)
               replace BK409 := bB_ BK409 hb; replace BK426 := bB_ BK426 hb; replace HB := bS_ HB hb; (try clear hb); (try clear hk)
               refine hK.out _ _ ⟨(blk_cell BK426.out 0).trans rfl, (blk_cell BK426.out 1).trans rfl, (blk_cell BK426.out 2).trans rfl, (blk_cell BK409.out 0).trans rfl, (blk_cell BK409.out 1).trans rfl, (blk_cell BK409.out 2).trans rfl, (blk_cell BK409.out 3).trans rfl⟩ (fun hHeld => ?_)
               clear hK K
               refine nS_ (some 102) ?_
               refine pT_ 12 (some 103) #[true, true, true, true, true, true, true, true, true, true, true, true, true, false, false, false, false, false, false, false] HT_ ?_
               refine pT_ 13 (some 104) #[true, true, true, true, true, true, true, true, true, true, true, true, true, true, false, false, false, false, false, false] HT_ ?_
               refine pT_ 14 (some 105) #[true, true, true, true, true, true, true, true, true, true, true, true, true, true, true, false, false, false, false, false] HT_ ?_
               refine pT_ 15 (some 106) #[true, true, true, true, true, true, true, true, true, true, true, true, true, true, true, true, false, false, false, false] HT_ ?_
               refine pT_ 17 (some 108) #[true, true, true, true, true, true, true, true, true, true, true, true, true, true, true, true, false, true, false, false] HT_ ?_
               refine tT_ 16 (some 107) #[true, true, true, true, true, true, true, true, true, true, true, true, true, true, true, true, true, true, false, false] HT_ HW_ hHeld ?_ (hy := by rintro w' ⟨s0, s1, s2, s3, s4, s5, s6⟩; go_simp; with_reducible rfl)
               refine pT_ 18 (some 109) #[true, true, true, true, true, true, true, true, true, true, true, true, true, true, true, true, true, true, true, false] HT_ ?_
               refine pT_ 19 (some 110) #[true, true, true, true, true, true, true, true, true, true, true, true, true, true, true, true, true, true, true, true] HT_ ?_
               refine done_ (done_of HT_.out (by kernel_rfl)) ?_
               try go_wp2
               go_ret
               exact ⟨by first | rfl | (simp [errW_none, errW_some] <;> rfl) | (simp [*, errW_none, errW_some] <;> rfl), sABelo_14⟩
              ·rw [if_neg c52] at H
               have c52b0 : decide (x11_2 ≤ ((rd_T50 t414 x12_2).f2)) = false := decide_eq_false c52
               clear c52; have H' := Aside0.mk H; clear H
               try go_wp2
               replace HO_4 := Aside0.mk (Kd.R_drew HO_4.out)
               replace HO_8 := Aside0.mk (Kd.R_drew HO_8.out)
               replace HO_10 := Aside0.mk (Kd.R_drew HO_10.out)
               replace HO_410001 := Aside0.mk (Kd.R_drew HO_410001.out)
               replace HO_410002 := Aside0.mk (Kd.R_drew HO_410002.out)
               replace HO_410003 := Aside0.mk (Kd.N_drew HO_410003.out)
               replace BK409 := Aside0.mk (blk_drew BK409.out)
               replace BK426 := Aside0.mk (blk_drew BK426.out)
               replace HB := Aside0.mk (below_drew1 HB.out)
               have p427 : 0 ≤ (((rd_T50 t414 x12_2).f0) : Int) := dA_
               have q427 : ((rd_T50 t414 x12_2).f0) < (x10_2.length : Int) := dA_
               obtain ⟨ad427, e427, hx427_0⟩ := Kd.at_int (Kd.R_reads' HO_10.out).2.2 ((rd_T50 t414 x12_2).f0) p427 q427
               cases e427
               replace p427 := eq_true p427; replace q427 := eq_true q427
               have p47 : 0 ≤ (((rd_T50 t414 x12_2).f0) : Int) := dA_
               have q47 : (((rd_T50 t414 x12_2).f0) : Int) < ((x10_2.length : Int) : Int) := dA_
               obtain ⟨go47, co47, eo47, gb47, gl47, cl47, HG47⟩ := Kd.R_form HO_10.out (by omega)
               (first | cases eo47 | (injection eo47 with ea_ en_ ec_; (first | subst ea_ | (injection ea_ with ea_; subst ea_)); subst ec_; clear en_))
               have GB47 := Aside0.mk gb47; have GG47 := Aside0.mk HG47; clear gb47 gl47 HG47
               (first | simp only [add_plain] at hx427_0 | skip)
               obtain ⟨hx47_0, hf47_0⟩ := Kd.R_celln 0 HO_10.out (((rd_T50 t414 x12_2).f0) : Int) p47 q47
               replace p47 := eq_true p47; replace q47 := eq_true q47
               have HP60 := Kd.R_putn HO_10.out (((rd_T50 t414 x12_2).f0) : Int) (wrap64 ((rd x10_2 ((rd_T50 t414 x12_2).f0)) + ((rd_T50 t414 x12_2).f1)))
               rw [← Ny428.out] at HP60
               have HQ60 := Aside0.mk HP60; clear HP60
               refine start_ (n := 13) (S := fun w' => w'.cell? ⟨gb426, 0, none⟩ = some (.int .i64 ((rd_T50 t414 x12_2).f0)) ∧ w'.cell? ⟨gb426, 1, none⟩ = some (.int .i64 ((rd_T50 t414 x12_2).f1)) ∧ w'.cell? ⟨gb426, 2, none⟩ = some (.int .i64 ((rd_T50 t414 x12_2).f2)) ∧ w'.cell? ⟨go47, (((rd_T50 t414 x12_2).f0)).toNat, none⟩ = some (.int .i64 (rd x10_2 ((rd_T50 t414 x12_2).f0)))) (ds := [12]) #[false, false, false, false, false, false, false, false, false, false, false, false, false] (by kernel_rfl) rfl rfl ⟨(blk_cell BK426.out 0).trans rfl, (blk_cell BK426.out 1).trans rfl, (blk_cell BK426.out 2).trans rfl, hx427_0⟩ (fun hHeld => ?_); refine with_tabW laws_FnDescends.tab18 laws_FnDescends.bits18 (fun HT_ HW_ => ?_)
               generalize wc.drew = w59 at HO_4 HO_8 HO_10 HO_410001 HO_410002 HO_410003 BK409 BK426 HB GG47 HQ60 hf47_0 hx427_0 hx47_0 hHeld ⊢
               refine pT_ 0 (some 79) #[true, false, false, false, false, false, false, false, false, false, false, false, false] HT_ ?_
               refine pT_ 1 (some 80) #[true, true, false, false, false, false, false, false, false, false, false, false, false] HT_ ?_
               refine pT_ 3 (some 82) #[true, true, false, true, false, false, false, false, false, false, false, false, false] HT_ ?_
               refine pT_ 4 (some 83) #[true, true, false, true, true, false, false, false, false, false, false, false, false] HT_ ?_
               refine pT_ 8 (some 87) #[true, true, false, true, true, false, false, false, true, false, false, false, false] HT_ ?_
               refine tT_ 2 (some 81) #[true, true, true, true, true, false, false, false, true, false, false, false, false] HT_ HW_ hHeld ?_ (hy := by rintro w' ⟨s0, s1, s2, s3⟩; go_simp; with_reducible rfl)
               refine tT_ 5 (some 84) #[true, true, true, true, true, true, false, false, true, false, false, false, false] HT_ HW_ hHeld ?_ (hy := by rintro w' ⟨s0, s1, s2, s3⟩; go_simp; with_reducible rfl)
               refine pT_ 6 (some 85) #[true, true, true, true, true, true, true, false, true, false, false, false, false] HT_ ?_
               refine tT_ 7 (some 86) #[true, true, true, true, true, true, true, true, true, false, false, false, false] HT_ HW_ hHeld ?_ (hy := by rintro w' ⟨s0, s1, s2, s3⟩; go_simp; with_reducible rfl)
               refine tT_ 9 (some 88) #[true, true, true, true, true, true, true, true, true, true, false, false, false] HT_ HW_ hHeld ?_ (hy := by rintro w' ⟨s0, s1, s2, s3⟩; go_simp; with_reducible rfl)
               refine pT_ 10 (some 89) #[true, true, true, true, true, true, true, true, true, true, true, false, false] HT_ ?_
               refine pT_ 11 (some 90) #[true, true, true, true, true, true, true, true, true, true, true, true, false] HT_ ?_
               refine last_ (i := 12) (N := none) #[true, true, true, true, true, true, true, true, true, true, true, true, true] rfl rfl (one_of HT_.out (by kernel_rfl)) (by decide) (fun K hK => ?_)
               refine skip_ (w1 := ?_) (by rfl) rfl ?_ ?_
               rotate_left
               ·go_simp
                rfl
               refine hK.out _ _ ?_
               clear hK K
               refine done_ (done_of HT_.out (by kernel_rfl)) ?_
               try go_wp2
               have n0_ : Aside0 (Kd.R (Kd.int .i64) 2 (w59.setCell ⟨go47, (((rd_T50 t414 x12_2).f0) : Int).toNat, none⟩ (.int .i64 (wrap64 ((rd x10_2 ((rd_T50 t414 x12_2).f0)) + ((rd_T50 t414 x12_2).f1))))) w.heap.size (fun k_ => some k_ ≠ (.slice (some ⟨go47, 0, none⟩) x10_2.length co29 : Value).ownBlock ∧ some k_ ≠ (.slice Ao11 t396.length co11 : Value).ownBlock ∧ some k_ ≠ (.slice Ao12 t399.length co12 : Value).ownBlock) (.slice Ao14 t405.length co14) t405) := ⟨by (with_reducible repeat (first | apply Kd.R_alloc | apply Kd.R_drewN | apply Kd.R_drew)); exact Kd.R_mono (Kd.R_far (p := ⟨go47, (((rd_T50 t414 x12_2).f0) : Int).toNat, none⟩) (Kd.R_mono HO_4.out (fun k_ hk => (⟨hk, fun e_ => hk.1 (by rw [e_]; rfl)⟩ : _ ∧ k_ ≠ go47))) (fun _ hk => hk.2) (.int .i64 (wrap64 ((rd x10_2 ((rd_T50 t414 x12_2).f0)) + ((rd_T50 t414 x12_2).f1))))) (fun _ hk => ⟨hk.1.1, ⟨hk.1.2.1, hk.1.2.2⟩⟩)⟩
               have n1_ : Aside0 (Kd.R k50 50 (w59.setCell ⟨go47, (((rd_T50 t414 x12_2).f0) : Int).toNat, none⟩ (.int .i64 (wrap64 ((rd x10_2 ((rd_T50 t414 x12_2).f0)) + ((rd_T50 t414 x12_2).f1))))) w.heap.size (fun k_ => k_ ≠ gb426) (.slice (some ad425) t414.length co34) t414) := ⟨by (with_reducible repeat (first | apply Kd.R_alloc | apply Kd.R_drewN | apply Kd.R_drew)); exact Kd.R_mono (Kd.R_far (p := ⟨go47, (((rd_T50 t414 x12_2).f0) : Int).toNat, none⟩) (Kd.R_types HO_8.out GG47.out (by decide)) (fun _ hk => hk.2) (.int .i64 (wrap64 ((rd x10_2 ((rd_T50 t414 x12_2).f0)) + ((rd_T50 t414 x12_2).f1))))) (fun _ hk => hk.1)⟩
               have n2_ : Aside0 (Kd.R (Kd.int .i64) 2 (w59.setCell ⟨go47, (((rd_T50 t414 x12_2).f0) : Int).toNat, none⟩ (.int .i64 (wrap64 ((rd x10_2 ((rd_T50 t414 x12_2).f0)) + ((rd_T50 t414 x12_2).f1))))) w.heap.size (fun k_ => some k_ ≠ (.slice Ao14 t405.length co14 : Value).ownBlock ∧ some k_ ≠ (.slice Ao11 t396.length co11 : Value).ownBlock ∧ some k_ ≠ (.slice Ao12 t399.length co12 : Value).ownBlock) (.slice (some ⟨go47, 0, none⟩) x10_2.length co29) y428) := ⟨by (with_reducible repeat (first | apply Kd.R_alloc | apply Kd.R_drewN | apply Kd.R_drew)); exact HQ60.out⟩
               have n3_ : Aside0 (Kd.R (Kd.int .i64) 2 (w59.setCell ⟨go47, (((rd_T50 t414 x12_2).f0) : Int).toNat, none⟩ (.int .i64 (wrap64 ((rd x10_2 ((rd_T50 t414 x12_2).f0)) + ((rd_T50 t414 x12_2).f1))))) w.heap.size (fun k_ => some k_ ≠ (.slice Ao14 t405.length co14 : Value).ownBlock ∧ some k_ ≠ (.slice (some ⟨go47, 0, none⟩) x10_2.length co29 : Value).ownBlock ∧ some k_ ≠ (.slice Ao12 t399.length co12 : Value).ownBlock) (.slice Ao11 t396.length co11) t396) := ⟨by (with_reducible repeat (first | apply Kd.R_alloc | apply Kd.R_drewN | apply Kd.R_drew)); exact Kd.R_mono (Kd.R_far (p := ⟨go47, (((rd_T50 t414 x12_2).f0) : Int).toNat, none⟩) (Kd.R_mono HO_410001.out (fun k_ hk => (⟨hk, fun e_ => hk.2.1 (by rw [e_]; rfl)⟩ : _ ∧ k_ ≠ go47))) (fun _ hk => hk.2) (.int .i64 (wrap64 ((rd x10_2 ((rd_T50 t414 x12_2).f0)) + ((rd_T50 t414 x12_2).f1))))) (fun _ hk => ⟨hk.1.1, ⟨hk.1.2.1, hk.1.2.2⟩⟩)⟩
               have n4_ : Aside0 (Kd.R (Kd.int .i64) 2 (w59.setCell ⟨go47, (((rd_T50 t414 x12_2).f0) : Int).toNat, none⟩ (.int .i64 (wrap64 ((rd x10_2 ((rd_T50 t414 x12_2).f0)) + ((rd_T50 t414 x12_2).f1))))) w.heap.size (fun k_ => some k_ ≠ (.slice Ao14 t405.length co14 : Value).ownBlock ∧ some k_ ≠ (.slice (some ⟨go47, 0, none⟩) x10_2.length co29 : Value).ownBlock ∧ some k_ ≠ (.slice Ao11 t396.length co11 : Value).ownBlock) (.slice Ao12 t399.length co12) t399) := ⟨by (with_reducible repeat (first | apply Kd.R_alloc | apply Kd.R_drewN | apply Kd.R_drew)); exact Kd.R_mono (Kd.R_far (p := ⟨go47, (((rd_T50 t414 x12_2).f0) : Int).toNat, none⟩) (Kd.R_mono HO_410002.out (fun k_ hk => (⟨hk, fun e_ => hk.2.1 (by rw [e_]; rfl)⟩ : _ ∧ k_ ≠ go47))) (fun _ hk => hk.2) (.int .i64 (wrap64 ((rd x10_2 ((rd_T50 t414 x12_2).f0)) + ((rd_T50 t414 x12_2).f1))))) (fun _ hk => ⟨hk.1.1, ⟨hk.1.2.1, hk.1.2.2⟩⟩)⟩
               have n5_ : Aside0 (Kd.N k52 52 (w59.setCell ⟨go47, (((rd_T50 t414 x12_2).f0) : Int).toNat, none⟩ (.int .i64 (wrap64 ((rd x10_2 ((rd_T50 t414 x12_2).f0)) + ((rd_T50 t414 x12_2).f1))))) w.heap.size (fun k_ => some k_ ≠ (.slice Ao14 t405.length co14 : Value).ownBlock ∧ some k_ ≠ (.slice (some ad425) t414.length co34 : Value).ownBlock ∧ some k_ ≠ (.slice (some ⟨go47, 0, none⟩) x10_2.length co29 : Value).ownBlock ∧ some k_ ≠ (.slice Ao11 t396.length co11 : Value).ownBlock ∧ some k_ ≠ (.slice Ao12 t399.length co12 : Value).ownBlock ∧ k_ ≠ gb409 ∧ k_ ≠ gb426) (.slice Ao13 t402.length co13) t402) := ⟨by (with_reducible repeat (first | apply Kd.N_alloc | apply Kd.N_drewN | apply Kd.N_drew)); exact Kd.N_mono (Kd.N_far (p := ⟨go47, (((rd_T50 t414 x12_2).f0) : Int).toNat, none⟩) (Kd.N_mono HO_410003.out (fun k_ hk => (⟨hk, fun e_ => hk.2.2.1 (by rw [e_]; rfl)⟩ : _ ∧ k_ ≠ go47))) (fun _ hk => hk.2) (.int .i64 (wrap64 ((rd x10_2 ((rd_T50 t414 x12_2).f0)) + ((rd_T50 t414 x12_2).f1))))) (fun _ hk => ⟨hk.1.1, ⟨hk.1.2.1, ⟨hk.1.2.2.1, ⟨hk.1.2.2.2.1, ⟨hk.1.2.2.2.2.1, ⟨hk.1.2.2.2.2.2.1, hk.1.2.2.2.2.2.2⟩⟩⟩⟩⟩⟩)⟩
               have n6_ : Aside0 ((w59.setCell ⟨go47, (((rd_T50 t414 x12_2).f0) : Int).toNat, none⟩ (.int .i64 (wrap64 ((rd x10_2 ((rd_T50 t414 x12_2).f0)) + ((rd_T50 t414 x12_2).f1))))).heap[gb409]? = some (.cells #[.int .i64 t395, .slice Ao11 t396.length co11, .slice Ao12 t399.length co12, .slice Ao13 t402.length co13] 30 (0, 0))) := ⟨by (with_reducible repeat (first | refine blk_drewN ?_ _ | refine blk_drew ?_ | refine blk_alloc ?_ _)); refine blk_far ?_ (by have h_ := Kd.R_ne HO_10.out BK409.out (by decide); intro e_; exact h_ (by rw [e_]; rfl)) _; exact bT_ BK409⟩
               have n7_ : Aside0 ((w59.setCell ⟨go47, (((rd_T50 t414 x12_2).f0) : Int).toNat, none⟩ (.int .i64 (wrap64 ((rd x10_2 ((rd_T50 t414 x12_2).f0)) + ((rd_T50 t414 x12_2).f1))))).heap[gb426]? = some (.cells #[.int .i64 ((rd_T50 t414 x12_2).f0), .int .i64 ((rd_T50 t414 x12_2).f1), .int .i64 ((rd_T50 t414 x12_2).f2)] 50 (0, 0))) := ⟨by (with_reducible repeat (first | refine blk_drewN ?_ _ | refine blk_drew ?_ | refine blk_alloc ?_ _)); refine blk_far ?_ (by have h_ := Kd.R_ne HO_10.out BK426.out (by decide); intro e_; exact h_ (by rw [e_]; rfl)) _; exact bT_ BK426⟩
               have n8_ : Aside0 (Below w.heap.size w (w59.setCell ⟨go47, (((rd_T50 t414 x12_2).f0) : Int).toNat, none⟩ (.int .i64 (wrap64 ((rd x10_2 ((rd_T50 t414 x12_2).f0)) + ((rd_T50 t414 x12_2).f1)))))) := ⟨sABelo_14⟩
               (try clear HO_4); (try clear HO_8); (try clear HO_10); (try clear HO_410001); (try clear HO_410002); (try clear HO_410003); (try clear BK409); (try clear BK426); (try clear HB)
               generalize (w59.setCell ⟨go47, (((rd_T50 t414 x12_2).f0) : Int).toNat, none⟩ (.int .i64 (wrap64 ((rd x10_2 ((rd_T50 t414 x12_2).f0)) + ((rd_T50 t414 x12_2).f1))))) = w61 at n0_ n1_ n2_ n3_ n4_ n5_ n6_ n7_ n8_ ⊢
               have HO_4 := n0_; have HO_8 := n1_; have HO_10 := n2_; have HO_410001 := n3_; have HO_410002 := n4_; have HO_410003 := n5_; have BK409 := n6_; have BK426 := n7_; have HB := n8_; clear n0_ n1_ n2_ n3_ n4_ n5_ n6_ n7_ n8_
               replace HO_4 := Aside0.mk (Kd.R_drew HO_4.out)
               replace HO_8 := Aside0.mk (Kd.R_drew HO_8.out)
               replace HO_10 := Aside0.mk (Kd.R_drew HO_10.out)
               replace HO_410001 := Aside0.mk (Kd.R_drew HO_410001.out)
               replace HO_410002 := Aside0.mk (Kd.R_drew HO_410002.out)
               replace HO_410003 := Aside0.mk (Kd.N_drew HO_410003.out)
               replace BK409 := Aside0.mk (blk_drew BK409.out)
               replace BK426 := Aside0.mk (blk_drew BK426.out)
               replace HB := Aside0.mk (below_drew1 HB.out)
               refine start_ (n := 20) (S := fun w' => w'.cell? ⟨gb426, 0, none⟩ = some (.int .i64 ((rd_T50 t414 x12_2).f0)) ∧ w'.cell? ⟨gb426, 1, none⟩ = some (.int .i64 ((rd_T50 t414 x12_2).f1)) ∧ w'.cell? ⟨gb426, 2, none⟩ = some (.int .i64 ((rd_T50 t414 x12_2).f2)) ∧ w'.cell? ⟨gb409, 0, none⟩ = some (.int .i64 t395) ∧ w'.cell? ⟨gb409, 1, none⟩ = some (.slice Ao11 t396.length co11) ∧ w'.cell? ⟨gb409, 2, none⟩ = some (.slice Ao12 t399.length co12) ∧ w'.cell? ⟨gb409, 3, none⟩ = some (.slice Ao13 t402.length co13)) (ds := []) #[false, false, false, false, false, false, false, false, false, false, false, false, false, false, false, false, false, false, false, false] (by kernel_rfl) rfl rfl ⟨(blk_cell BK426.out 0).trans rfl, (blk_cell BK426.out 1).trans rfl, (blk_cell BK426.out 2).trans rfl, (blk_cell BK409.out 0).trans rfl, (blk_cell BK409.out 1).trans rfl, (blk_cell BK409.out 2).trans rfl, (blk_cell BK409.out 3).trans rfl⟩ (fun hHeld => ?_); refine with_tabW laws_FnDescends.tab19 laws_FnDescends.bits19 (fun HT_ HW_ => ?_)
               generalize w61.drew = w62 at HO_4 HO_8 HO_10 HO_410001 HO_410002 HO_410003 BK409 BK426 HB HQ60 hHeld ⊢
               refine pT_ 0 (some 91) #[true, false, false, false, false, false, false, false, false, false, false, false, false, false, false, false, false, false, false, false] HT_ ?_
               refine pT_ 3 (some 94) #[true, false, false, true, false, false, false, false, false, false, false, false, false, false, false, false, false, false, false, false] HT_ ?_
               refine tT_ 1 (some 92) #[true, true, false, true, false, false, false, false, false, false, false, false, false, false, false, false, false, false, false, false] HT_ HW_ hHeld ?_ (hy := by rintro w' ⟨s0, s1, s2, s3, s4, s5, s6⟩; go_simp; with_reducible rfl)
               refine tT_ 2 (some 93) #[true, true, true, true, false, false, false, false, false, false, false, false, false, false, false, false, false, false, false, false] HT_ HW_ hHeld ?_ (hy := by rintro w' ⟨s0, s1, s2, s3, s4, s5, s6⟩; go_simp; with_reducible rfl)
               refine one_ (i := 4) (N := some 95) #[true, true, true, true, true, false, false, false, false, false, false, false, false, false, false, false, false, false, false, false] rfl rfl (one_of HT_.out (by kernel_rfl)) (by decide) (fun K hK => ?_)
               refine goes_ Try.func11 (by kernel_rfl) rfl #[.agg #[.int .i64 t395, .slice Ao11 t396.length co11, .slice Ao12 t399.length co12, .slice Ao13 t402.length co13], .slice (some ⟨go47, 0, none⟩) y428.length co29] (by rfl) rfl rfl (by (try simp only [List.map_toArray, List.map_cons, List.map_nil]); first | done | (rw [show y428.length = x10_2.length from (Kd.R_reads' HO_10.out).1.symm] <;> rfl) | rfl | (simp only [List.length_drop, List.length_take]; rfl)) ?_
               with_reducible refine (impl_Cost.calls kj32 t395 _ _ t396 _ _ t399 _ _ t402 _ _ y428 t429 _ ?side1 ?side2 ?side3 ?side4 ?side5 ?side6 ?side7 ?side8 A48.out).mono ?_
               (case side1 => exact rD_ HO_410001)
               (case side2 => exact (Kd.R_reads' HO_410001.out).2.1)
               (case side3 => exact rD_ HO_410002)
               (case side4 => exact (Kd.R_reads' HO_410002.out).2.1)
               (case side5 => repeat (first | exact (Kd.N_reads' HO_410003.out).2.2 | (with_reducible refine Kd.C_alloc ?_ _) | (with_reducible refine Kd.C_drewN ?_ _) | (with_reducible refine Kd.C_drew ?_)))
               (case side6 => exact (Kd.N_reads' HO_410003.out).2.1)
               (case side7 => exact rD_ HO_10)
               (case side8 => rw [show y428.length = x10_2.length from (Kd.R_reads' HO_10.out).1.symm]; exact (Kd.R_reads' HO_10.out).2.1)
               rintro e w63 ⟨rfl, hb⟩
               refine ⟨_, rfl, ?_⟩
               replace HO_4 := rB_ HO_4 hb; replace HO_8 := rB_ HO_8 hb; replace HO_10 := rB_ HO_10 hb; replace HO_410001 := rB_ HO_410001 hb; replace HO_410002 := rB_ HO_410002 hb
               replace HO_410003 := Aside0.mk (Kd.N_below (by (with_reducible repeat (first | apply Kd.N_alloc | apply Kd.N_drewN | apply Kd.N_drew)); exact HO_410003.out) hb)
               replace BK409 := bB_ BK409 hb; replace BK426 := bB_ BK426 hb; replace HB := bS_ HB hb; (try clear hb); (try clear hk)
               refine hK.out _ _ ⟨(blk_cell BK426.out 0).trans rfl, (blk_cell BK426.out 1).trans rfl, (blk_cell BK426.out 2).trans rfl, (blk_cell BK409.out 0).trans rfl, (blk_cell BK409.out 1).trans rfl, (blk_cell BK409.out 2).trans rfl, (blk_cell BK409.out 3).trans rfl⟩ (fun hHeld => ?_)
               clear hK K
               refine nS_ (some 95) ?_
               refine pT_ 5 (some 96) #[true, true, true, true, true, true, false, false, false, false, false, false, false, false, false, false, false, false, false, false] HT_ ?_
               refine pT_ 6 (some 97) #[true, true, true, true, true, true, true, false, false, false, false, false, false, false, false, false, false, false, false, false] HT_ ?_
               refine pT_ 7 (some 98) #[true, true, true, true, true, true, true, true, false, false, false, false, false, false, false, false, false, false, false, false] HT_ ?_
               refine pT_ 10 (some 101) #[true, true, true, true, true, true, true, true, false, false, true, false, false, false, false, false, false, false, false, false] HT_ ?_
               refine tT_ 8 (some 99) #[true, true, true, true, true, true, true, true, true, false, true, false, false, false, false, false, false, false, false, false] HT_ HW_ hHeld ?_ (hy := by rintro w' ⟨s0, s1, s2, s3, s4, s5, s6⟩; go_simp; with_reducible rfl)
               refine tT_ 9 (some 100) #[true, true, true, true, true, true, true, true, true, true, true, false, false, false, false, false, false, false, false, false] HT_ HW_ hHeld ?_ (hy := by rintro w' ⟨s0, s1, s2, s3, s4, s5, s6⟩; go_simp; with_reducible rfl)
               refine one_ (i := 11) (N := some 102) #[true, true, true, true, true, true, true, true, true, true, true, true, false, false, false, false, false, false, false, false] rfl rfl (one_of HT_.out (by kernel_rfl)) (by decide) (fun K hK => ?_)
               refine goes_ Try.func8 (by kernel_rfl) rfl #[.agg #[.int .i64 t395, .slice Ao11 t396.length co11, .slice Ao12 t399.length co12, .slice Ao13 t402.length co13], .slice (some ⟨go47, 0, none⟩) y428.length co29] (by rfl) rfl rfl (by (try simp only [List.map_toArray, List.map_cons, List.map_nil]); first | done | (rw [show y428.length = x10_2.length from (Kd.R_reads' HO_10.out).1.symm] <;> rfl) | rfl | (simp only [List.length_drop, List.length_take]; rfl)) ?_
               with_reducible refine (spec_Cost.calls kj32 t395 _ _ t396 _ _ t399 _ _ t402 _ _ y428 t430 _ ?side1 ?side2 ?side3 ?side4 ?side5 ?side6 ?side7 ?side8 A50.out).mono ?_
               (case side1 => exact rD_ HO_410001)
               (case side2 => exact (Kd.R_reads' HO_410001.out).2.1)
               (case side3 => exact rD_ HO_410002)
               (case side4 => exact (Kd.R_reads' HO_410002.out).2.1)
               (case side5 => repeat (first | exact (Kd.N_reads' HO_410003.out).2.2 | (with_reducible refine Kd.C_alloc ?_ _) | (with_reducible refine Kd.C_drewN ?_ _) | (with_reducible refine Kd.C_drew ?_)))
               (case side6 => exact (Kd.N_reads' HO_410003.out).2.1)
               (case side7 => exact rD_ HO_10)
               (case side8 => rw [show y428.length = x10_2.length from (Kd.R_reads' HO_10.out).1.symm]; exact (Kd.R_reads' HO_10.out).2.1)
               rintro e w64 ⟨rfl, hb⟩
               refine ⟨_, rfl, ?_⟩
               replace HO_4 := rB_ HO_4 hb; replace HO_8 := rB_ HO_8 hb; replace HO_10 := rB_ HO_10 hb; replace HO_410001 := rB_ HO_410001 hb; replace HO_410002 := rB_ HO_410002 hb
               replace HO_410003 := Aside0.mk (Kd.N_below (by (with_reducible repeat (first | apply Kd.N_alloc | apply Kd.N_drewN | apply Kd.N_drew)); exact HO_410003.out) hb)
               replace BK409 := bB_ BK409 hb; replace BK426 := bB_ BK426 hb; replace HB := bS_ HB hb; (try clear hb); (try clear hk)
               refine hK.out _ _ ⟨(blk_cell BK426.out 0).trans rfl, (blk_cell BK426.out 1).trans rfl, (blk_cell BK426.out 2).trans rfl, (blk_cell BK409.out 0).trans rfl, (blk_cell BK409.out 1).trans rfl, (blk_cell BK409.out 2).trans rfl, (blk_cell BK409.out 3).trans rfl⟩ (fun hHeld => ?_)
               clear hK K
               refine nS_ (some 102) ?_
               refine pT_ 12 (some 103) #[true, true, true, true, true, true, true, true, true, true, true, true, true, false, false, false, false, false, false, false] HT_ ?_
               refine pT_ 13 (some 104) #[true, true, true, true, true, true, true, true, true, true, true, true, true, true, false, false, false, false, false, false] HT_ ?_
               refine pT_ 14 (some 105) #[true, true, true, true, true, true, true, true, true, true, true, true, true, true, true, false, false, false, false, false] HT_ ?_
               refine pT_ 15 (some 106) #[true, true, true, true, true, true, true, true, true, true, true, true, true, true, true, true, false, false, false, false] HT_ ?_
               refine pT_ 17 (some 108) #[true, true, true, true, true, true, true, true, true, true, true, true, true, true, true, true, false, true, false, false] HT_ ?_
               refine tT_ 16 (some 107) #[true, true, true, true, true, true, true, true, true, true, true, true, true, true, true, true, true, true, false, false] HT_ HW_ hHeld ?_ (hy := by rintro w' ⟨s0, s1, s2, s3, s4, s5, s6⟩; go_simp; with_reducible rfl)
               refine pT_ 18 (some 109) #[true, true, true, true, true, true, true, true, true, true, true, true, true, true, true, true, true, true, true, false] HT_ ?_
               refine pT_ 19 (some 110) #[true, true, true, true, true, true, true, true, true, true, true, true, true, true, true, true, true, true, true, true] HT_ ?_
               refine done_ (done_of HT_.out (by kernel_rfl)) ?_
               have hnb65 := NB426_409.out; have hnc65 := NB409_426.out
               obtain ⟨hcz66_0, hcz66_1, hcz66_2, hfz66_0, hfz66_1, hfz66_2⟩ := cf3_ BK426
               try go_wp2
               (try simp only [← hl10_2])
               go_roundg kj32
               case measure => as_aux_lemma => have := HJ6.out; have := HK2.out; have := HJ32.out; omega
               case rel => as_aux_lemma => exact ⟨(y428), (((rd_T50 t414 x12_2).f2)), (wrap64 (x12_2 + 1)), (by first | rfl | (simp; done) | (simp [*]; done)), (by first | rfl | (simp; done) | (simp [*]; done)), H', ⟨by have := HJ6.out; have := HK2.out; have := HJ32.out; omega⟩, ⟨by (try simp only [hl10_2]); (with_reducible repeat (first | apply Kd.R_alloc | apply Kd.R_drewN | apply Kd.R_drew)); exact HO_4.out⟩, ⟨by (try simp only [hl10_2]); (with_reducible repeat (first | apply Kd.R_alloc | apply Kd.R_drewN | apply Kd.R_drew)); exact Kd.R_mono HO_8.out (fun _ hk => trivial)⟩, ⟨by (try simp only [hl10_2]); (with_reducible repeat (first | apply Kd.R_alloc | apply Kd.R_drewN | apply Kd.R_drew)); exact HO_10.out⟩, ⟨by (try simp only [hl10_2]); (with_reducible repeat (first | apply Kd.R_alloc | apply Kd.R_drewN | apply Kd.R_drew)); exact HO_410001.out⟩, ⟨by (try simp only [hl10_2]); (with_reducible repeat (first | apply Kd.R_alloc | apply Kd.R_drewN | apply Kd.R_drew)); exact HO_410002.out⟩, ⟨by (try simp only [hl10_2]); (with_reducible repeat (first | apply Kd.N_alloc | apply Kd.N_drewN | apply Kd.N_drew)); exact Kd.N_mono HO_410003.out (fun _ hk => ⟨hk.1, ⟨hk.2.1, ⟨hk.2.2.1, ⟨hk.2.2.2.1, ⟨hk.2.2.2.2.1, hk.2.2.2.2.2.1⟩⟩⟩⟩⟩)⟩, ⟨by (try simp only [hl10_2]); exact bT_ BK409⟩, ⟨sABelo_14⟩⟩
             ·rw [if_neg c51] at H
              have c51b0 := beq_eq_false_iff_ne.mpr c51
              have c51b1 := bne_iff_ne.mpr c51
              obtain rfl := Option.some.inj H
              try go_wp2
              replace HO_4 := Aside0.mk (Kd.R_drew HO_4.out)
              replace HO_8 := Aside0.mk (Kd.R_drew HO_8.out)
              replace HO_10 := Aside0.mk (Kd.R_drew HO_10.out)
              replace HO_410001 := Aside0.mk (Kd.R_drew HO_410001.out)
              replace HO_410002 := Aside0.mk (Kd.R_drew HO_410002.out)
              replace HO_410003 := Aside0.mk (Kd.N_drew HO_410003.out)
              replace BK409 := Aside0.mk (blk_drew BK409.out)
              replace BK426 := Aside0.mk (blk_drew BK426.out)
              replace HB := Aside0.mk (below_drew1 HB.out)
              have p427 : 0 ≤ (((rd_T50 t414 x12_2).f0) : Int) := dA_
              have q427 : ((rd_T50 t414 x12_2).f0) < (x10_2.length : Int) := dA_
              obtain ⟨ad427, e427, hx427_0⟩ := Kd.at_int (Kd.R_reads' HO_10.out).2.2 ((rd_T50 t414 x12_2).f0) p427 q427
              cases e427
              replace p427 := eq_true p427; replace q427 := eq_true q427
              have p47 : 0 ≤ (((rd_T50 t414 x12_2).f0) : Int) := dA_
              have q47 : (((rd_T50 t414 x12_2).f0) : Int) < ((x10_2.length : Int) : Int) := dA_
              obtain ⟨go47, co47, eo47, gb47, gl47, cl47, HG47⟩ := Kd.R_form HO_10.out (by omega)
              (first | cases eo47 | (injection eo47 with ea_ en_ ec_; (first | subst ea_ | (injection ea_ with ea_; subst ea_)); subst ec_; clear en_))
              have GB47 := Aside0.mk gb47; have GG47 := Aside0.mk HG47; clear gb47 gl47 HG47
              (first | simp only [add_plain] at hx427_0 | skip)
              obtain ⟨hx47_0, hf47_0⟩ := Kd.R_celln 0 HO_10.out (((rd_T50 t414 x12_2).f0) : Int) p47 q47
              replace p47 := eq_true p47; replace q47 := eq_true q47
              have HP68 := Kd.R_putn HO_10.out (((rd_T50 t414 x12_2).f0) : Int) (wrap64 ((rd x10_2 ((rd_T50 t414 x12_2).f0)) + ((rd_T50 t414 x12_2).f1)))
              rw [← Ny428.out] at HP68
              have HQ68 := Aside0.mk HP68; clear HP68
              refine start_ (n := 13) (S := fun w' => w'.cell? ⟨gb426, 0, none⟩ = some (.int .i64 ((rd_T50 t414 x12_2).f0)) ∧ w'.cell? ⟨gb426, 1, none⟩ = some (.int .i64 ((rd_T50 t414 x12_2).f1)) ∧ w'.cell? ⟨gb426, 2, none⟩ = some (.int .i64 ((rd_T50 t414 x12_2).f2)) ∧ w'.cell? ⟨go47, (((rd_T50 t414 x12_2).f0)).toNat, none⟩ = some (.int .i64 (rd x10_2 ((rd_T50 t414 x12_2).f0)))) (ds := [12]) #[false, false, false, false, false, false, false, false, false, false, false, false, false] (by kernel_rfl) rfl rfl ⟨(blk_cell BK426.out 0).trans rfl, (blk_cell BK426.out 1).trans rfl, (blk_cell BK426.out 2).trans rfl, hx427_0⟩ (fun hHeld => ?_); refine with_tabW laws_FnDescends.tab18 laws_FnDescends.bits18 (fun HT_ HW_ => ?_)
              generalize wc.drew = w67 at HO_4 HO_8 HO_10 HO_410001 HO_410002 HO_410003 BK409 BK426 HB GG47 HQ68 hf47_0 hx427_0 hx47_0 hHeld ⊢
              refine pT_ 0 (some 79) #[true, false, false, false, false, false, false, false, false, false, false, false, false] HT_ ?_
              refine pT_ 1 (some 80) #[true, true, false, false, false, false, false, false, false, false, false, false, false] HT_ ?_
              refine pT_ 3 (some 82) #[true, true, false, true, false, false, false, false, false, false, false, false, false] HT_ ?_
              refine pT_ 4 (some 83) #[true, true, false, true, true, false, false, false, false, false, false, false, false] HT_ ?_
              refine pT_ 8 (some 87) #[true, true, false, true, true, false, false, false, true, false, false, false, false] HT_ ?_
              refine tT_ 2 (some 81) #[true, true, true, true, true, false, false, false, true, false, false, false, false] HT_ HW_ hHeld ?_ (hy := by rintro w' ⟨s0, s1, s2, s3⟩; go_simp; with_reducible rfl)
              refine tT_ 5 (some 84) #[true, true, true, true, true, true, false, false, true, false, false, false, false] HT_ HW_ hHeld ?_ (hy := by rintro w' ⟨s0, s1, s2, s3⟩; go_simp; with_reducible rfl)
              refine pT_ 6 (some 85) #[true, true, true, true, true, true, true, false, true, false, false, false, false] HT_ ?_
              refine tT_ 7 (some 86) #[true, true, true, true, true, true, true, true, true, false, false, false, false] HT_ HW_ hHeld ?_ (hy := by rintro w' ⟨s0, s1, s2, s3⟩; go_simp; with_reducible rfl)
              refine tT_ 9 (some 88) #[true, true, true, true, true, true, true, true, true, true, false, false, false] HT_ HW_ hHeld ?_ (hy := by rintro w' ⟨s0, s1, s2, s3⟩; go_simp; with_reducible rfl)
              refine pT_ 10 (some 89) #[true, true, true, true, true, true, true, true, true, true, true, false, false] HT_ ?_
              refine pT_ 11 (some 90) #[true, true, true, true, true, true, true, true, true, true, true, true, false] HT_ ?_
              refine last_ (i := 12) (N := none) #[true, true, true, true, true, true, true, true, true, true, true, true, true] rfl rfl (one_of HT_.out (by kernel_rfl)) (by decide) (fun K hK => ?_)
              refine skip_ (w1 := ?_) (by rfl) rfl ?_ ?_
              rotate_left
              ·go_simp
               rfl
              refine hK.out _ _ ?_
              clear hK K
              refine done_ (done_of HT_.out (by kernel_rfl)) ?_
              try go_wp2
              have n0_ : Aside0 (Kd.R (Kd.int .i64) 2 (w67.setCell ⟨go47, (((rd_T50 t414 x12_2).f0) : Int).toNat, none⟩ (.int .i64 (wrap64 ((rd x10_2 ((rd_T50 t414 x12_2).f0)) + ((rd_T50 t414 x12_2).f1))))) w.heap.size (fun k_ => some k_ ≠ (.slice (some ⟨go47, 0, none⟩) x10_2.length co29 : Value).ownBlock ∧ some k_ ≠ (.slice Ao11 t396.length co11 : Value).ownBlock ∧ some k_ ≠ (.slice Ao12 t399.length co12 : Value).ownBlock) (.slice Ao14 t405.length co14) t405) := ⟨by (with_reducible repeat (first | apply Kd.R_alloc | apply Kd.R_drewN | apply Kd.R_drew)); exact Kd.R_mono (Kd.R_far (p := ⟨go47, (((rd_T50 t414 x12_2).f0) : Int).toNat, none⟩) (Kd.R_mono HO_4.out (fun k_ hk => (⟨hk, fun e_ => hk.1 (by rw [e_]; rfl)⟩ : _ ∧ k_ ≠ go47))) (fun _ hk => hk.2) (.int .i64 (wrap64 ((rd x10_2 ((rd_T50 t414 x12_2).f0)) + ((rd_T50 t414 x12_2).f1))))) (fun _ hk => ⟨hk.1.1, ⟨hk.1.2.1, hk.1.2.2⟩⟩)⟩
              have n1_ : Aside0 (Kd.R k50 50 (w67.setCell ⟨go47, (((rd_T50 t414 x12_2).f0) : Int).toNat, none⟩ (.int .i64 (wrap64 ((rd x10_2 ((rd_T50 t414 x12_2).f0)) + ((rd_T50 t414 x12_2).f1))))) w.heap.size (fun k_ => k_ ≠ gb426) (.slice (some ad425) t414.length co34) t414) := ⟨by (with_reducible repeat (first | apply Kd.R_alloc | apply Kd.R_drewN | apply Kd.R_drew)); exact Kd.R_mono (Kd.R_far (p := ⟨go47, (((rd_T50 t414 x12_2).f0) : Int).toNat, none⟩) (Kd.R_types HO_8.out GG47.out (by decide)) (fun _ hk => hk.2) (.int .i64 (wrap64 ((rd x10_2 ((rd_T50 t414 x12_2).f0)) + ((rd_T50 t414 x12_2).f1))))) (fun _ hk => hk.1)⟩
              have n2_ : Aside0 (Kd.R (Kd.int .i64) 2 (w67.setCell ⟨go47, (((rd_T50 t414 x12_2).f0) : Int).toNat, none⟩ (.int .i64 (wrap64 ((rd x10_2 ((rd_T50 t414 x12_2).f0)) + ((rd_T50 t414 x12_2).f1))))) w.heap.size (fun k_ => some k_ ≠ (.slice Ao14 t405.length co14 : Value).ownBlock ∧ some k_ ≠ (.slice Ao11 t396.length co11 : Value).ownBlock ∧ some k_ ≠ (.slice Ao12 t399.length co12 : Value).ownBlock) (.slice (some ⟨go47, 0, none⟩) x10_2.length co29) y428) := ⟨by (with_reducible repeat (first | apply Kd.R_alloc | apply Kd.R_drewN | apply Kd.R_drew)); exact HQ68.out⟩
              have n3_ : Aside0 (Kd.R (Kd.int .i64) 2 (w67.setCell ⟨go47, (((rd_T50 t414 x12_2).f0) : Int).toNat, none⟩ (.int .i64 (wrap64 ((rd x10_2 ((rd_T50 t414 x12_2).f0)) + ((rd_T50 t414 x12_2).f1))))) w.heap.size (fun k_ => some k_ ≠ (.slice Ao14 t405.length co14 : Value).ownBlock ∧ some k_ ≠ (.slice (some ⟨go47, 0, none⟩) x10_2.length co29 : Value).ownBlock ∧ some k_ ≠ (.slice Ao12 t399.length co12 : Value).ownBlock) (.slice Ao11 t396.length co11) t396) := ⟨by (with_reducible repeat (first | apply Kd.R_alloc | apply Kd.R_drewN | apply Kd.R_drew)); exact Kd.R_mono (Kd.R_far (p := ⟨go47, (((rd_T50 t414 x12_2).f0) : Int).toNat, none⟩) (Kd.R_mono HO_410001.out (fun k_ hk => (⟨hk, fun e_ => hk.2.1 (by rw [e_]; rfl)⟩ : _ ∧ k_ ≠ go47))) (fun _ hk => hk.2) (.int .i64 (wrap64 ((rd x10_2 ((rd_T50 t414 x12_2).f0)) + ((rd_T50 t414 x12_2).f1))))) (fun _ hk => ⟨hk.1.1, ⟨hk.1.2.1, hk.1.2.2⟩⟩)⟩
              have n4_ : Aside0 (Kd.R (Kd.int .i64) 2 (w67.setCell ⟨go47, (((rd_T50 t414 x12_2).f0) : Int).toNat, none⟩ (.int .i64 (wrap64 ((rd x10_2 ((rd_T50 t414 x12_2).f0)) + ((rd_T50 t414 x12_2).f1))))) w.heap.size (fun k_ => some k_ ≠ (.slice Ao14 t405.length co14 : Value).ownBlock ∧ some k_ ≠ (.slice (some ⟨go47, 0, none⟩) x10_2.length co29 : Value).ownBlock ∧ some k_ ≠ (.slice Ao11 t396.length co11 : Value).ownBlock) (.slice Ao12 t399.length co12) t399) := ⟨by (with_reducible repeat (first | apply Kd.R_alloc | apply Kd.R_drewN | apply Kd.R_drew)); exact Kd.R_mono (Kd.R_far (p := ⟨go47, (((rd_T50 t414 x12_2).f0) : Int).toNat, none⟩) (Kd.R_mono HO_410002.out (fun k_ hk => (⟨hk, fun e_ => hk.2.1 (by rw [e_]; rfl)⟩ : _ ∧ k_ ≠ go47))) (fun _ hk => hk.2) (.int .i64 (wrap64 ((rd x10_2 ((rd_T50 t414 x12_2).f0)) + ((rd_T50 t414 x12_2).f1))))) (fun _ hk => ⟨hk.1.1, ⟨hk.1.2.1, hk.1.2.2⟩⟩)⟩
              have n5_ : Aside0 (Kd.N k52 52 (w67.setCell ⟨go47, (((rd_T50 t414 x12_2).f0) : Int).toNat, none⟩ (.int .i64 (wrap64 ((rd x10_2 ((rd_T50 t414 x12_2).f0)) + ((rd_T50 t414 x12_2).f1))))) w.heap.size (fun k_ => some k_ ≠ (.slice Ao14 t405.length co14 : Value).ownBlock ∧ some k_ ≠ (.slice (some ad425) t414.length co34 : Value).ownBlock ∧ some k_ ≠ (.slice (some ⟨go47, 0, none⟩) x10_2.length co29 : Value).ownBlock ∧ some k_ ≠ (.slice Ao11 t396.length co11 : Value).ownBlock ∧ some k_ ≠ (.slice Ao12 t399.length co12 : Value).ownBlock ∧ k_ ≠ gb409 ∧ k_ ≠ gb426) (.slice Ao13 t402.length co13) t402) := ⟨by (with_reducible repeat (first | apply Kd.N_alloc | apply Kd.N_drewN | apply Kd.N_drew)); exact Kd.N_mono (Kd.N_far (p := ⟨go47, (((rd_T50 t414 x12_2).f0) : Int).toNat, none⟩) (Kd.N_mono HO_410003.out (fun k_ hk => (⟨hk, fun e_ => hk.2.2.1 (by rw [e_]; rfl)⟩ : _ ∧ k_ ≠ go47))) (fun _ hk => hk.2) (.int .i64 (wrap64 ((rd x10_2 ((rd_T50 t414 x12_2).f0)) + ((rd_T50 t414 x12_2).f1))))) (fun _ hk => ⟨hk.1.1, ⟨hk.1.2.1, ⟨hk.1.2.2.1, ⟨hk.1.2.2.2.1, ⟨hk.1.2.2.2.2.1, ⟨hk.1.2.2.2.2.2.1, hk.1.2.2.2.2.2.2⟩⟩⟩⟩⟩⟩)⟩
              have n6_ : Aside0 ((w67.setCell ⟨go47, (((rd_T50 t414 x12_2).f0) : Int).toNat, none⟩ (.int .i64 (wrap64 ((rd x10_2 ((rd_T50 t414 x12_2).f0)) + ((rd_T50 t414 x12_2).f1))))).heap[gb409]? = some (.cells #[.int .i64 t395, .slice Ao11 t396.length co11, .slice Ao12 t399.length co12, .slice Ao13 t402.length co13] 30 (0, 0))) := ⟨by (with_reducible repeat (first | refine blk_drewN ?_ _ | refine blk_drew ?_ | refine blk_alloc ?_ _)); refine blk_far ?_ (by have h_ := Kd.R_ne HO_10.out BK409.out (by decide); intro e_; exact h_ (by rw [e_]; rfl)) _; exact bT_ BK409⟩
              have n7_ : Aside0 ((w67.setCell ⟨go47, (((rd_T50 t414 x12_2).f0) : Int).toNat, none⟩ (.int .i64 (wrap64 ((rd x10_2 ((rd_T50 t414 x12_2).f0)) + ((rd_T50 t414 x12_2).f1))))).heap[gb426]? = some (.cells #[.int .i64 ((rd_T50 t414 x12_2).f0), .int .i64 ((rd_T50 t414 x12_2).f1), .int .i64 ((rd_T50 t414 x12_2).f2)] 50 (0, 0))) := ⟨by (with_reducible repeat (first | refine blk_drewN ?_ _ | refine blk_drew ?_ | refine blk_alloc ?_ _)); refine blk_far ?_ (by have h_ := Kd.R_ne HO_10.out BK426.out (by decide); intro e_; exact h_ (by rw [e_]; rfl)) _; exact bT_ BK426⟩
              have n8_ : Aside0 (Below w.heap.size w (w67.setCell ⟨go47, (((rd_T50 t414 x12_2).f0) : Int).toNat, none⟩ (.int .i64 (wrap64 ((rd x10_2 ((rd_T50 t414 x12_2).f0)) + ((rd_T50 t414 x12_2).f1)))))) := ⟨sABelo_14⟩
              (try clear HO_4); (try clear HO_8); (try clear HO_10); (try clear HO_410001); (try clear HO_410002); (try clear HO_410003); (try clear BK409); (try clear BK426); (try clear HB)
              generalize (w67.setCell ⟨go47, (((rd_T50 t414 x12_2).f0) : Int).toNat, none⟩ (.int .i64 (wrap64 ((rd x10_2 ((rd_T50 t414 x12_2).f0)) + ((rd_T50 t414 x12_2).f1))))) = w69 at n0_ n1_ n2_ n3_ n4_ n5_ n6_ n7_ n8_ ⊢
              have HO_4 := n0_; have HO_8 := n1_; have HO_10 := n2_; have HO_410001 := n3_; have HO_410002 := n4_; have HO_410003 := n5_; have BK409 := n6_; have BK426 := n7_; have HB := n8_; clear n0_ n1_ n2_ n3_ n4_ n5_ n6_ n7_ n8_
              replace HO_4 := Aside0.mk (Kd.R_drew HO_4.out)
              replace HO_8 := Aside0.mk (Kd.R_drew HO_8.out)
              replace HO_10 := Aside0.mk (Kd.R_drew HO_10.out)
              replace HO_410001 := Aside0.mk (Kd.R_drew HO_410001.out)
              replace HO_410002 := Aside0.mk (Kd.R_drew HO_410002.out)
              replace HO_410003 := Aside0.mk (Kd.N_drew HO_410003.out)
              replace BK409 := Aside0.mk (blk_drew BK409.out)
              replace BK426 := Aside0.mk (blk_drew BK426.out)
              replace HB := Aside0.mk (below_drew1 HB.out)
              refine start_ (n := 20) (S := fun w' => w'.cell? ⟨gb426, 0, none⟩ = some (.int .i64 ((rd_T50 t414 x12_2).f0)) ∧ w'.cell? ⟨gb426, 1, none⟩ = some (.int .i64 ((rd_T50 t414 x12_2).f1)) ∧ w'.cell? ⟨gb426, 2, none⟩ = some (.int .i64 ((rd_T50 t414 x12_2).f2)) ∧ w'.cell? ⟨gb409, 0, none⟩ = some (.int .i64 t395) ∧ w'.cell? ⟨gb409, 1, none⟩ = some (.slice Ao11 t396.length co11) ∧ w'.cell? ⟨gb409, 2, none⟩ = some (.slice Ao12 t399.length co12) ∧ w'.cell? ⟨gb409, 3, none⟩ = some (.slice Ao13 t402.length co13)) (ds := []) #[false, false, false, false, false, false, false, false, false, false, false, false, false, false, false, false, false, false, false, false] (by kernel_rfl) rfl rfl ⟨(blk_cell BK426.out 0).trans rfl, (blk_cell BK426.out 1).trans rfl, (blk_cell BK426.out 2).trans rfl, (blk_cell BK409.out 0).trans rfl, (blk_cell BK409.out 1).trans rfl, (blk_cell BK409.out 2).trans rfl, (blk_cell BK409.out 3).trans rfl⟩ (fun hHeld => ?_); refine with_tabW laws_FnDescends.tab19 laws_FnDescends.bits19 (fun HT_ HW_ => ?_)
              generalize w69.drew = w70 at HO_4 HO_8 HO_10 HO_410001 HO_410002 HO_410003 BK409 BK426 HB HQ68 hHeld ⊢
              refine pT_ 0 (some 91) #[true, false, false, false, false, false, false, false, false, false, false, false, false, false, false, false, false, false, false, false] HT_ ?_
              refine pT_ 3 (some 94) #[true, false, false, true, false, false, false, false, false, false, false, false, false, false, false, false, false, false, false, false] HT_ ?_
              refine tT_ 1 (some 92) #[true, true, false, true, false, false, false, false, false, false, false, false, false, false, false, false, false, false, false, false] HT_ HW_ hHeld ?_ (hy := by rintro w' ⟨s0, s1, s2, s3, s4, s5, s6⟩; go_simp; with_reducible rfl)
              refine tT_ 2 (some 93) #[true, true, true, true, false, false, false, false, false, false, false, false, false, false, false, false, false, false, false, false] HT_ HW_ hHeld ?_ (hy := by rintro w' ⟨s0, s1, s2, s3, s4, s5, s6⟩; go_simp; with_reducible rfl)
              refine one_ (i := 4) (N := some 95) #[true, true, true, true, true, false, false, false, false, false, false, false, false, false, false, false, false, false, false, false] rfl rfl (one_of HT_.out (by kernel_rfl)) (by decide) (fun K hK => ?_)
              refine goes_ Try.func11 (by kernel_rfl) rfl #[.agg #[.int .i64 t395, .slice Ao11 t396.length co11, .slice Ao12 t399.length co12, .slice Ao13 t402.length co13], .slice (some ⟨go47, 0, none⟩) y428.length co29] (by rfl) rfl rfl (by (try simp only [List.map_toArray, List.map_cons, List.map_nil]); first | done | (rw [show y428.length = x10_2.length from (Kd.R_reads' HO_10.out).1.symm] <;> rfl) | rfl | (simp only [List.length_drop, List.length_take]; rfl)) ?_
              with_reducible refine (impl_Cost.calls kj32 t395 _ _ t396 _ _ t399 _ _ t402 _ _ y428 t429 _ ?side1 ?side2 ?side3 ?side4 ?side5 ?side6 ?side7 ?side8 A48.out).mono ?_
              (case side1 => exact rD_ HO_410001)
              (case side2 => exact (Kd.R_reads' HO_410001.out).2.1)
              (case side3 => exact rD_ HO_410002)
              (case side4 => exact (Kd.R_reads' HO_410002.out).2.1)
              (case side5 => repeat (first | exact (Kd.N_reads' HO_410003.out).2.2 | (with_reducible refine Kd.C_alloc ?_ _) | (with_reducible refine Kd.C_drewN ?_ _) | (with_reducible refine Kd.C_drew ?_)))
              (case side6 => exact (Kd.N_reads' HO_410003.out).2.1)
              (case side7 => exact rD_ HO_10)
              (case side8 => rw [show y428.length = x10_2.length from (Kd.R_reads' HO_10.out).1.symm]; exact (Kd.R_reads' HO_10.out).2.1)
              rintro e w71 ⟨rfl, hb⟩
              refine ⟨_, rfl, ?_⟩
              replace HO_4 := rB_ HO_4 hb; replace HO_8 := rB_ HO_8 hb; replace HO_10 := rB_ HO_10 hb; replace HO_410001 := rB_ HO_410001 hb; replace HO_410002 := rB_ HO_410002 hb
              replace HO_410003 := Aside0.mk (Kd.N_below (by (with_reducible repeat (first | apply Kd.N_alloc | apply Kd.N_drewN | apply Kd.N_drew)); exact HO_410003.out) hb)
              replace BK409 := bB_ BK409 hb; replace BK426 := bB_ BK426 hb; replace HB := bS_ HB hb; (try clear hb); (try clear hk)
              refine hK.out _ _ ⟨(blk_cell BK426.out 0).trans rfl, (blk_cell BK426.out 1).trans rfl, (blk_cell BK426.out 2).trans rfl, (blk_cell BK409.out 0).trans rfl, (blk_cell BK409.out 1).trans rfl, (blk_cell BK409.out 2).trans rfl, (blk_cell BK409.out 3).trans rfl⟩ (fun hHeld => ?_)
              clear hK K
              refine nS_ (some 95) ?_
              refine pT_ 5 (some 96) #[true, true, true, true, true, true, false, false, false, false, false, false, false, false, false, false, false, false, false, false] HT_ ?_
              refine pT_ 6 (some 97) #[true, true, true, true, true, true, true, false, false, false, false, false, false, false, false, false, false, false, false, false] HT_ ?_
              refine pT_ 7 (some 98) #[true, true, true, true, true, true, true, true, false, false, false, false, false, false, false, false, false, false, false, false] HT_ ?_
              refine pT_ 10 (some 101) #[true, true, true, true, true, true, true, true, false, false, true, false, false, false, false, false, false, false, false, false] HT_ ?_
              refine tT_ 8 (some 99) #[true, true, true, true, true, true, true, true, true, false, true, false, false, false, false, false, false, false, false, false] HT_ HW_ hHeld ?_ (hy := by rintro w' ⟨s0, s1, s2, s3, s4, s5, s6⟩; go_simp; with_reducible rfl)
              refine tT_ 9 (some 100) #[true, true, true, true, true, true, true, true, true, true, true, false, false, false, false, false, false, false, false, false] HT_ HW_ hHeld ?_ (hy := by rintro w' ⟨s0, s1, s2, s3, s4, s5, s6⟩; go_simp; with_reducible rfl)
              refine one_ (i := 11) (N := some 102) #[true, true, true, true, true, true, true, true, true, true, true, true, false, false, false, false, false, false, false, false] rfl rfl (one_of HT_.out (by kernel_rfl)) (by decide) (fun K hK => ?_)
              refine goes_ Try.func8 (by kernel_rfl) rfl #[.agg #[.int .i64 t395, .slice Ao11 t396.length co11, .slice Ao12 t399.length co12, .slice Ao13 t402.length co13], .slice (some ⟨go47, 0, none⟩) y428.length co29] (by rfl) rfl rfl (by (try simp only [List.map_toArray, List.map_cons, List.map_nil]); first | done | (rw [show y428.length = x10_2.length from (Kd.R_reads' HO_10.out).1.symm] <;> rfl) | rfl | (simp only [List.length_drop, List.length_take]; rfl)) ?_
              with_reducible refine (spec_Cost.calls kj32 t395 _ _ t396 _ _ t399 _ _ t402 _ _ y428 t430 _ ?side1 ?side2 ?side3 ?side4 ?side5 ?side6 ?side7 ?side8 A50.out).mono ?_
              (case side1 => exact rD_ HO_410001)
              (case side2 => exact (Kd.R_reads' HO_410001.out).2.1)
              (case side3 => exact rD_ HO_410002)
              (case side4 => exact (Kd.R_reads' HO_410002.out).2.1)
              (case side5 => repeat (first | exact (Kd.N_reads' HO_410003.out).2.2 | (with_reducible refine Kd.C_alloc ?_ _) | (with_reducible refine Kd.C_drewN ?_ _) | (with_reducible refine Kd.C_drew ?_)))
              (case side6 => exact (Kd.N_reads' HO_410003.out).2.1)
              (case side7 => exact rD_ HO_10)
              (case side8 => rw [show y428.length = x10_2.length from (Kd.R_reads' HO_10.out).1.symm]; exact (Kd.R_reads' HO_10.out).2.1)
              rintro e w72 ⟨rfl, hb⟩
              refine ⟨_, rfl, ?_⟩
              replace HO_4 := rB_ HO_4 hb; replace HO_8 := rB_ HO_8 hb; replace HO_10 := rB_ HO_10 hb; replace HO_410001 := rB_ HO_410001 hb; replace HO_410002 := rB_ HO_410002 hb
              replace HO_410003 := Aside0.mk (Kd.N_below (by (with_reducible repeat (first | apply Kd.N_alloc | apply Kd.N_drewN | apply Kd.N_drew)); exact HO_410003.out) hb)
              replace BK409 := bB_ BK409 hb; replace BK426 := bB_ BK426 hb; replace HB := bS_ HB hb; (try clear hb); (try clear hk)
              refine hK.out _ _ ⟨(blk_cell BK426.out 0).trans rfl, (blk_cell BK426.out 1).trans rfl, (blk_cell BK426.out 2).trans rfl, (blk_cell BK409.out 0).trans rfl, (blk_cell BK409.out 1).trans rfl, (blk_cell BK409.out 2).trans rfl, (blk_cell BK409.out 3).trans rfl⟩ (fun hHeld => ?_)
              clear hK K
              refine nS_ (some 102) ?_
              refine pT_ 12 (some 103) #[true, true, true, true, true, true, true, true, true, true, true, true, true, false, false, false, false, false, false, false] HT_ ?_
              refine pT_ 13 (some 104) #[true, true, true, true, true, true, true, true, true, true, true, true, true, true, false, false, false, false, false, false] HT_ ?_
              refine pT_ 14 (some 105) #[true, true, true, true, true, true, true, true, true, true, true, true, true, true, true, false, false, false, false, false] HT_ ?_
              refine pU_ 15 (some 106) #[true, true, true, true, true, true, true, true, true, true, true, true, true, true, true, true, false, false, false, false] HT_ ?_
              refine pU_ 16 (some 107) #[true, true, true, true, true, true, true, true, true, true, true, true, true, true, true, true, true, false, false, false] HT_ ?_
              refine pU_ 17 (some 108) #[true, true, true, true, true, true, true, true, true, true, true, true, true, true, true, true, true, true, false, false] HT_ ?_
              refine pU_ 18 (some 109) #[true, true, true, true, true, true, true, true, true, true, true, true, true, true, true, true, true, true, true, false] HT_ ?_
              refine pT_ 19 (some 110) #[true, true, true, true, true, true, true, true, true, true, true, true, true, true, true, true, true, true, true, true] HT_ ?_
              refine done_ (done_of HT_.out (by kernel_rfl)) ?_
              try go_wp2
              go_ret
              exact ⟨by first | rfl | (simp [errW_none, errW_some] <;> rfl) | (simp [*, errW_none, errW_some] <;> rfl), sABelo_14⟩
            ·rw [if_neg c49] at H
             have c49b0 := beq_eq_false_iff_ne.mpr c49
             have c49b1 := bne_iff_ne.mpr c49
             obtain rfl := Option.some.inj H
             try go_wp2
             replace HO_4 := Aside0.mk (Kd.R_drew HO_4.out)
             replace HO_8 := Aside0.mk (Kd.R_drew HO_8.out)
             replace HO_10 := Aside0.mk (Kd.R_drew HO_10.out)
             replace HO_410001 := Aside0.mk (Kd.R_drew HO_410001.out)
             replace HO_410002 := Aside0.mk (Kd.R_drew HO_410002.out)
             replace HO_410003 := Aside0.mk (Kd.N_drew HO_410003.out)
             replace BK409 := Aside0.mk (blk_drew BK409.out)
             replace BK426 := Aside0.mk (blk_drew BK426.out)
             replace HB := Aside0.mk (below_drew1 HB.out)
             have p427 : 0 ≤ (((rd_T50 t414 x12_2).f0) : Int) := dA_
             have q427 : ((rd_T50 t414 x12_2).f0) < (x10_2.length : Int) := dA_
             obtain ⟨ad427, e427, hx427_0⟩ := Kd.at_int (Kd.R_reads' HO_10.out).2.2 ((rd_T50 t414 x12_2).f0) p427 q427
             cases e427
             replace p427 := eq_true p427; replace q427 := eq_true q427
             have p47 : 0 ≤ (((rd_T50 t414 x12_2).f0) : Int) := dA_
             have q47 : (((rd_T50 t414 x12_2).f0) : Int) < ((x10_2.length : Int) : Int) := dA_
             obtain ⟨go47, co47, eo47, gb47, gl47, cl47, HG47⟩ := Kd.R_form HO_10.out (by omega)
             (first | cases eo47 | (injection eo47 with ea_ en_ ec_; (first | subst ea_ | (injection ea_ with ea_; subst ea_)); subst ec_; clear en_))
             have GB47 := Aside0.mk gb47; have GG47 := Aside0.mk HG47; clear gb47 gl47 HG47
             (first | simp only [add_plain] at hx427_0 | skip)
             obtain ⟨hx47_0, hf47_0⟩ := Kd.R_celln 0 HO_10.out (((rd_T50 t414 x12_2).f0) : Int) p47 q47
             replace p47 := eq_true p47; replace q47 := eq_true q47
             have HP74 := Kd.R_putn HO_10.out (((rd_T50 t414 x12_2).f0) : Int) (wrap64 ((rd x10_2 ((rd_T50 t414 x12_2).f0)) + ((rd_T50 t414 x12_2).f1)))
             rw [← Ny428.out] at HP74
             have HQ74 := Aside0.mk HP74; clear HP74
             refine start_ (n := 13) (S := fun w' => w'.cell? ⟨gb426, 0, none⟩ = some (.int .i64 ((rd_T50 t414 x12_2).f0)) ∧ w'.cell? ⟨gb426, 1, none⟩ = some (.int .i64 ((rd_T50 t414 x12_2).f1)) ∧ w'.cell? ⟨gb426, 2, none⟩ = some (.int .i64 ((rd_T50 t414 x12_2).f2)) ∧ w'.cell? ⟨go47, (((rd_T50 t414 x12_2).f0)).toNat, none⟩ = some (.int .i64 (rd x10_2 ((rd_T50 t414 x12_2).f0)))) (ds := [12]) #[false, false, false, false, false, false, false, false, false, false, false, false, false] (by kernel_rfl) rfl rfl ⟨(blk_cell BK426.out 0).trans rfl, (blk_cell BK426.out 1).trans rfl, (blk_cell BK426.out 2).trans rfl, hx427_0⟩ (fun hHeld => ?_); refine with_tabW laws_FnDescends.tab18 laws_FnDescends.bits18 (fun HT_ HW_ => ?_)
             generalize wc.drew = w73 at HO_4 HO_8 HO_10 HO_410001 HO_410002 HO_410003 BK409 BK426 HB GG47 HQ74 hf47_0 hx427_0 hx47_0 hHeld ⊢
             refine pT_ 0 (some 79) #[true, false, false, false, false, false, false, false, false, false, false, false, false] HT_ ?_
             refine pT_ 1 (some 80) #[true, true, false, false, false, false, false, false, false, false, false, false, false] HT_ ?_
             refine pT_ 3 (some 82) #[true, true, false, true, false, false, false, false, false, false, false, false, false] HT_ ?_
             refine pT_ 4 (some 83) #[true, true, false, true, true, false, false, false, false, false, false, false, false] HT_ ?_
             refine pT_ 8 (some 87) #[true, true, false, true, true, false, false, false, true, false, false, false, false] HT_ ?_
             refine tT_ 2 (some 81) #[true, true, true, true, true, false, false, false, true, false, false, false, false] HT_ HW_ hHeld ?_ (hy := by rintro w' ⟨s0, s1, s2, s3⟩; go_simp; with_reducible rfl)
             refine tT_ 5 (some 84) #[true, true, true, true, true, true, false, false, true, false, false, false, false] HT_ HW_ hHeld ?_ (hy := by rintro w' ⟨s0, s1, s2, s3⟩; go_simp; with_reducible rfl)
             refine pT_ 6 (some 85) #[true, true, true, true, true, true, true, false, true, false, false, false, false] HT_ ?_
             refine tT_ 7 (some 86) #[true, true, true, true, true, true, true, true, true, false, false, false, false] HT_ HW_ hHeld ?_ (hy := by rintro w' ⟨s0, s1, s2, s3⟩; go_simp; with_reducible rfl)
             refine tT_ 9 (some 88) #[true, true, true, true, true, true, true, true, true, true, false, false, false] HT_ HW_ hHeld ?_ (hy := by rintro w' ⟨s0, s1, s2, s3⟩; go_simp; with_reducible rfl)
             refine pT_ 10 (some 89) #[true, true, true, true, true, true, true, true, true, true, true, false, false] HT_ ?_
             refine pT_ 11 (some 90) #[true, true, true, true, true, true, true, true, true, true, true, true, false] HT_ ?_
             refine last_ (i := 12) (N := none) #[true, true, true, true, true, true, true, true, true, true, true, true, true] rfl rfl (one_of HT_.out (by kernel_rfl)) (by decide) (fun K hK => ?_)
             refine skip_ (w1 := ?_) (by rfl) rfl ?_ ?_
             rotate_left
             ·go_simp
              rfl
             refine hK.out _ _ ?_
             clear hK K
             refine done_ (done_of HT_.out (by kernel_rfl)) ?_
             try go_wp2
             have n0_ : Aside0 (Kd.R (Kd.int .i64) 2 (w73.setCell ⟨go47, (((rd_T50 t414 x12_2).f0) : Int).toNat, none⟩ (.int .i64 (wrap64 ((rd x10_2 ((rd_T50 t414 x12_2).f0)) + ((rd_T50 t414 x12_2).f1))))) w.heap.size (fun k_ => some k_ ≠ (.slice (some ⟨go47, 0, none⟩) x10_2.length co29 : Value).ownBlock ∧ some k_ ≠ (.slice Ao11 t396.length co11 : Value).ownBlock ∧ some k_ ≠ (.slice Ao12 t399.length co12 : Value).ownBlock) (.slice Ao14 t405.length co14) t405) := ⟨by (with_reducible repeat (first | apply Kd.R_alloc | apply Kd.R_drewN | apply Kd.R_drew)); exact Kd.R_mono (Kd.R_far (p := ⟨go47, (((rd_T50 t414 x12_2).f0) : Int).toNat, none⟩) (Kd.R_mono HO_4.out (fun k_ hk => (⟨hk, fun e_ => hk.1 (by rw [e_]; rfl)⟩ : _ ∧ k_ ≠ go47))) (fun _ hk => hk.2) (.int .i64 (wrap64 ((rd x10_2 ((rd_T50 t414 x12_2).f0)) + ((rd_T50 t414 x12_2).f1))))) (fun _ hk => ⟨hk.1.1, ⟨hk.1.2.1, hk.1.2.2⟩⟩)⟩
             have n1_ : Aside0 (Kd.R k50 50 (w73.setCell ⟨go47, (((rd_T50 t414 x12_2).f0) : Int).toNat, none⟩ (.int .i64 (wrap64 ((rd x10_2 ((rd_T50 t414 x12_2).f0)) + ((rd_T50 t414 x12_2).f1))))) w.heap.size (fun k_ => k_ ≠ gb426) (.slice (some ad425) t414.length co34) t414) := ⟨by (with_reducible repeat (first | apply Kd.R_alloc | apply Kd.R_drewN | apply Kd.R_drew)); exact Kd.R_mono (Kd.R_far (p := ⟨go47, (((rd_T50 t414 x12_2).f0) : Int).toNat, none⟩) (Kd.R_types HO_8.out GG47.out (by decide)) (fun _ hk => hk.2) (.int .i64 (wrap64 ((rd x10_2 ((rd_T50 t414 x12_2).f0)) + ((rd_T50 t414 x12_2).f1))))) (fun _ hk => hk.1)⟩
             have n2_ : Aside0 (Kd.R (Kd.int .i64) 2 (w73.setCell ⟨go47, (((rd_T50 t414 x12_2).f0) : Int).toNat, none⟩ (.int .i64 (wrap64 ((rd x10_2 ((rd_T50 t414 x12_2).f0)) + ((rd_T50 t414 x12_2).f1))))) w.heap.size (fun k_ => some k_ ≠ (.slice Ao14 t405.length co14 : Value).ownBlock ∧ some k_ ≠ (.slice Ao11 t396.length co11 : Value).ownBlock ∧ some k_ ≠ (.slice Ao12 t399.length co12 : Value).ownBlock) (.slice (some ⟨go47, 0, none⟩) x10_2.length co29) y428) := ⟨by (with_reducible repeat (first | apply Kd.R_alloc | apply Kd.R_drewN | apply Kd.R_drew)); exact HQ74.out⟩
             have n3_ : Aside0 (Kd.R (Kd.int .i64) 2 (w73.setCell ⟨go47, (((rd_T50 t414 x12_2).f0) : Int).toNat, none⟩ (.int .i64 (wrap64 ((rd x10_2 ((rd_T50 t414 x12_2).f0)) + ((rd_T50 t414 x12_2).f1))))) w.heap.size (fun k_ => some k_ ≠ (.slice Ao14 t405.length co14 : Value).ownBlock ∧ some k_ ≠ (.slice (some ⟨go47, 0, none⟩) x10_2.length co29 : Value).ownBlock ∧ some k_ ≠ (.slice Ao12 t399.length co12 : Value).ownBlock) (.slice Ao11 t396.length co11) t396) := ⟨by (with_reducible repeat (first | apply Kd.R_alloc | apply Kd.R_drewN | apply Kd.R_drew)); exact Kd.R_mono (Kd.R_far (p := ⟨go47, (((rd_T50 t414 x12_2).f0) : Int).toNat, none⟩) (Kd.R_mono HO_410001.out (fun k_ hk => (⟨hk, fun e_ => hk.2.1 (by rw [e_]; rfl)⟩ : _ ∧ k_ ≠ go47))) (fun _ hk => hk.2) (.int .i64 (wrap64 ((rd x10_2 ((rd_T50 t414 x12_2).f0)) + ((rd_T50 t414 x12_2).f1))))) (fun _ hk => ⟨hk.1.1, ⟨hk.1.2.1, hk.1.2.2⟩⟩)⟩
             have n4_ : Aside0 (Kd.R (Kd.int .i64) 2 (w73.setCell ⟨go47, (((rd_T50 t414 x12_2).f0) : Int).toNat, none⟩ (.int .i64 (wrap64 ((rd x10_2 ((rd_T50 t414 x12_2).f0)) + ((rd_T50 t414 x12_2).f1))))) w.heap.size (fun k_ => some k_ ≠ (.slice Ao14 t405.length co14 : Value).ownBlock ∧ some k_ ≠ (.slice (some ⟨go47, 0, none⟩) x10_2.length co29 : Value).ownBlock ∧ some k_ ≠ (.slice Ao11 t396.length co11 : Value).ownBlock) (.slice Ao12 t399.length co12) t399) := ⟨by (with_reducible repeat (first | apply Kd.R_alloc | apply Kd.R_drewN | apply Kd.R_drew)); exact Kd.R_mono (Kd.R_far (p := ⟨go47, (((rd_T50 t414 x12_2).f0) : Int).toNat, none⟩) (Kd.R_mono HO_410002.out (fun k_ hk => (⟨hk, fun e_ => hk.2.1 (by rw [e_]; rfl)⟩ : _ ∧ k_ ≠ go47))) (fun _ hk => hk.2) (.int .i64 (wrap64 ((rd x10_2 ((rd_T50 t414 x12_2).f0)) + ((rd_T50 t414 x12_2).f1))))) (fun _ hk => ⟨hk.1.1, ⟨hk.1.2.1, hk.1.2.2⟩⟩)⟩
             have n5_ : Aside0 (Kd.N k52 52 (w73.setCell ⟨go47, (((rd_T50 t414 x12_2).f0) : Int).toNat, none⟩ (.int .i64 (wrap64 ((rd x10_2 ((rd_T50 t414 x12_2).f0)) + ((rd_T50 t414 x12_2).f1))))) w.heap.size (fun k_ => some k_ ≠ (.slice Ao14 t405.length co14 : Value).ownBlock ∧ some k_ ≠ (.slice (some ad425) t414.length co34 : Value).ownBlock ∧ some k_ ≠ (.slice (some ⟨go47, 0, none⟩) x10_2.length co29 : Value).ownBlock ∧ some k_ ≠ (.slice Ao11 t396.length co11 : Value).ownBlock ∧ some k_ ≠ (.slice Ao12 t399.length co12 : Value).ownBlock ∧ k_ ≠ gb409 ∧ k_ ≠ gb426) (.slice Ao13 t402.length co13) t402) := ⟨by (with_reducible repeat (first | apply Kd.N_alloc | apply Kd.N_drewN | apply Kd.N_drew)); exact Kd.N_mono (Kd.N_far (p := ⟨go47, (((rd_T50 t414 x12_2).f0) : Int).toNat, none⟩) (Kd.N_mono HO_410003.out (fun k_ hk => (⟨hk, fun e_ => hk.2.2.1 (by rw [e_]; rfl)⟩ : _ ∧ k_ ≠ go47))) (fun _ hk => hk.2) (.int .i64 (wrap64 ((rd x10_2 ((rd_T50 t414 x12_2).f0)) + ((rd_T50 t414 x12_2).f1))))) (fun _ hk => ⟨hk.1.1, ⟨hk.1.2.1, ⟨hk.1.2.2.1, ⟨hk.1.2.2.2.1, ⟨hk.1.2.2.2.2.1, ⟨hk.1.2.2.2.2.2.1, hk.1.2.2.2.2.2.2⟩⟩⟩⟩⟩⟩)⟩
             have n6_ : Aside0 ((w73.setCell ⟨go47, (((rd_T50 t414 x12_2).f0) : Int).toNat, none⟩ (.int .i64 (wrap64 ((rd x10_2 ((rd_T50 t414 x12_2).f0)) + ((rd_T50 t414 x12_2).f1))))).heap[gb409]? = some (.cells #[.int .i64 t395, .slice Ao11 t396.length co11, .slice Ao12 t399.length co12, .slice Ao13 t402.length co13] 30 (0, 0))) := ⟨by (with_reducible repeat (first | refine blk_drewN ?_ _ | refine blk_drew ?_ | refine blk_alloc ?_ _)); refine blk_far ?_ (by have h_ := Kd.R_ne HO_10.out BK409.out (by decide); intro e_; exact h_ (by rw [e_]; rfl)) _; exact bT_ BK409⟩
             have n7_ : Aside0 ((w73.setCell ⟨go47, (((rd_T50 t414 x12_2).f0) : Int).toNat, none⟩ (.int .i64 (wrap64 ((rd x10_2 ((rd_T50 t414 x12_2).f0)) + ((rd_T50 t414 x12_2).f1))))).heap[gb426]? = some (.cells #[.int .i64 ((rd_T50 t414 x12_2).f0), .int .i64 ((rd_T50 t414 x12_2).f1), .int .i64 ((rd_T50 t414 x12_2).f2)] 50 (0, 0))) := ⟨by (with_reducible repeat (first | refine blk_drewN ?_ _ | refine blk_drew ?_ | refine blk_alloc ?_ _)); refine blk_far ?_ (by have h_ := Kd.R_ne HO_10.out BK426.out (by decide); intro e_; exact h_ (by rw [e_]; rfl)) _; exact bT_ BK426⟩
             have n8_ : Aside0 (Below w.heap.size w (w73.setCell ⟨go47, (((rd_T50 t414 x12_2).f0) : Int).toNat, none⟩ (.int .i64 (wrap64 ((rd x10_2 ((rd_T50 t414 x12_2).f0)) + ((rd_T50 t414 x12_2).f1)))))) := ⟨sABelo_14⟩
             (try clear HO_4); (try clear HO_8); (try clear HO_10); (try clear HO_410001); (try clear HO_410002); (try clear HO_410003); (try clear BK409); (try clear BK426); (try clear HB)
             generalize (w73.setCell ⟨go47, (((rd_T50 t414 x12_2).f0) : Int).toNat, none⟩ (.int .i64 (wrap64 ((rd x10_2 ((rd_T50 t414 x12_2).f0)) + ((rd_T50 t414 x12_2).f1))))) = w75 at n0_ n1_ n2_ n3_ n4_ n5_ n6_ n7_ n8_ ⊢
             have HO_4 := n0_; have HO_8 := n1_; have HO_10 := n2_; have HO_410001 := n3_; have HO_410002 := n4_; have HO_410003 := n5_; have BK409 := n6_; have BK426 := n7_; have HB := n8_; clear n0_ n1_ n2_ n3_ n4_ n5_ n6_ n7_ n8_
             replace HO_4 := Aside0.mk (Kd.R_drew HO_4.out)
             replace HO_8 := Aside0.mk (Kd.R_drew HO_8.out)
             replace HO_10 := Aside0.mk (Kd.R_drew HO_10.out)
             replace HO_410001 := Aside0.mk (Kd.R_drew HO_410001.out)
             replace HO_410002 := Aside0.mk (Kd.R_drew HO_410002.out)
             replace HO_410003 := Aside0.mk (Kd.N_drew HO_410003.out)
             replace BK409 := Aside0.mk (blk_drew BK409.out)
             replace BK426 := Aside0.mk (blk_drew BK426.out)
             replace HB := Aside0.mk (below_drew1 HB.out)
             refine start_ (n := 20) (S := fun w' => w'.cell? ⟨gb426, 0, none⟩ = some (.int .i64 ((rd_T50 t414 x12_2).f0)) ∧ w'.cell? ⟨gb426, 1, none⟩ = some (.int .i64 ((rd_T50 t414 x12_2).f1)) ∧ w'.cell? ⟨gb426, 2, none⟩ = some (.int .i64 ((rd_T50 t414 x12_2).f2)) ∧ w'.cell? ⟨gb409, 0, none⟩ = some (.int .i64 t395) ∧ w'.cell? ⟨gb409, 1, none⟩ = some (.slice Ao11 t396.length co11) ∧ w'.cell? ⟨gb409, 2, none⟩ = some (.slice Ao12 t399.length co12) ∧ w'.cell? ⟨gb409, 3, none⟩ = some (.slice Ao13 t402.length co13)) (ds := []) #[false, false, false, false, false, false, false, false, false, false, false, false, false, false, false, false, false, false, false, false] (by kernel_rfl) rfl rfl ⟨(blk_cell BK426.out 0).trans rfl, (blk_cell BK426.out 1).trans rfl, (blk_cell BK426.out 2).trans rfl, (blk_cell BK409.out 0).trans rfl, (blk_cell BK409.out 1).trans rfl, (blk_cell BK409.out 2).trans rfl, (blk_cell BK409.out 3).trans rfl⟩ (fun hHeld => ?_); refine with_tabW laws_FnDescends.tab19 laws_FnDescends.bits19 (fun HT_ HW_ => ?_)
             generalize w75.drew = w76 at HO_4 HO_8 HO_10 HO_410001 HO_410002 HO_410003 BK409 BK426 HB HQ74 hHeld ⊢
             refine pT_ 0 (some 91) #[true, false, false, false, false, false, false, false, false, false, false, false, false, false, false, false, false, false, false, false] HT_ ?_
             refine pT_ 3 (some 94) #[true, false, false, true, false, false, false, false, false, false, false, false, false, false, false, false, false, false, false, false] HT_ ?_
             refine tT_ 1 (some 92) #[true, true, false, true, false, false, false, false, false, false, false, false, false, false, false, false, false, false, false, false] HT_ HW_ hHeld ?_ (hy := by rintro w' ⟨s0, s1, s2, s3, s4, s5, s6⟩; go_simp; with_reducible rfl)
             refine tT_ 2 (some 93) #[true, true, true, true, false, false, false, false, false, false, false, false, false, false, false, false, false, false, false, false] HT_ HW_ hHeld ?_ (hy := by rintro w' ⟨s0, s1, s2, s3, s4, s5, s6⟩; go_simp; with_reducible rfl)
             refine one_ (i := 4) (N := some 95) #[true, true, true, true, true, false, false, false, false, false, false, false, false, false, false, false, false, false, false, false] rfl rfl (one_of HT_.out (by kernel_rfl)) (by decide) (fun K hK => ?_)
             refine goes_ Try.func11 (by kernel_rfl) rfl #[.agg #[.int .i64 t395, .slice Ao11 t396.length co11, .slice Ao12 t399.length co12, .slice Ao13 t402.length co13], .slice (some ⟨go47, 0, none⟩) y428.length co29] (by rfl) rfl rfl (by (try simp only [List.map_toArray, List.map_cons, List.map_nil]); first | done | (rw [show y428.length = x10_2.length from (Kd.R_reads' HO_10.out).1.symm] <;> rfl) | rfl | (simp only [List.length_drop, List.length_take]; rfl)) ?_
             with_reducible refine (impl_Cost.calls kj32 t395 _ _ t396 _ _ t399 _ _ t402 _ _ y428 t429 _ ?side1 ?side2 ?side3 ?side4 ?side5 ?side6 ?side7 ?side8 A48.out).mono ?_
             (case side1 => exact rD_ HO_410001)
             (case side2 => exact (Kd.R_reads' HO_410001.out).2.1)
             (case side3 => exact rD_ HO_410002)
             (case side4 => exact (Kd.R_reads' HO_410002.out).2.1)
             (case side5 => repeat (first | exact (Kd.N_reads' HO_410003.out).2.2 | (with_reducible refine Kd.C_alloc ?_ _) | (with_reducible refine Kd.C_drewN ?_ _) | (with_reducible refine Kd.C_drew ?_)))
             (case side6 => exact (Kd.N_reads' HO_410003.out).2.1)
             (case side7 => exact rD_ HO_10)
             (case side8 => rw [show y428.length = x10_2.length from (Kd.R_reads' HO_10.out).1.symm]; exact (Kd.R_reads' HO_10.out).2.1)
             rintro e w77 ⟨rfl, hb⟩
             refine ⟨_, rfl, ?_⟩
             replace HO_4 := rB_ HO_4 hb; replace HO_8 := rB_ HO_8 hb; replace HO_10 := rB_ HO_10 hb; replace HO_410001 := rB_ HO_410001 hb; replace HO_410002 := rB_ HO_410002 hb
             replace HO_410003 := Aside0.mk (Kd.N_below (by (with_reducible repeat (first | apply Kd.N_alloc | apply Kd.N_drewN | apply Kd.N_drew)); exact HO_410003.out) hb)
             replace BK409 := bB_ BK409 hb; replace BK426 := bB_ BK426 hb; replace HB := bS_ HB hb; (try clear hb); (try clear hk)
             refine hK.out _ _ ⟨(blk_cell BK426.out 0).trans rfl, (blk_cell BK426.out 1).trans rfl, (blk_cell BK426.out 2).trans rfl, (blk_cell BK409.out 0).trans rfl, (blk_cell BK409.out 1).trans rfl, (blk_cell BK409.out 2).trans rfl, (blk_cell BK409.out 3).trans rfl⟩ (fun hHeld => ?_)
             clear hK K
             refine nS_ (some 95) ?_
             refine pT_ 5 (some 96) #[true, true, true, true, true, true, false, false, false, false, false, false, false, false, false, false, false, false, false, false] HT_ ?_
             refine pT_ 6 (some 97) #[true, true, true, true, true, true, true, false, false, false, false, false, false, false, false, false, false, false, false, false] HT_ ?_
             refine pU_ 7 (some 98) #[true, true, true, true, true, true, true, true, false, false, false, false, false, false, false, false, false, false, false, false] HT_ ?_
             refine pU_ 8 (some 99) #[true, true, true, true, true, true, true, true, true, false, false, false, false, false, false, false, false, false, false, false] HT_ ?_
             refine pU_ 9 (some 100) #[true, true, true, true, true, true, true, true, true, true, false, false, false, false, false, false, false, false, false, false] HT_ ?_
             refine pU_ 10 (some 101) #[true, true, true, true, true, true, true, true, true, true, true, false, false, false, false, false, false, false, false, false] HT_ ?_
             refine pU_ 11 (some 102) #[true, true, true, true, true, true, true, true, true, true, true, true, false, false, false, false, false, false, false, false] HT_ ?_
             refine pU_ 12 (some 103) #[true, true, true, true, true, true, true, true, true, true, true, true, true, false, false, false, false, false, false, false] HT_ ?_
             refine pT_ 13 (some 104) #[true, true, true, true, true, true, true, true, true, true, true, true, true, true, false, false, false, false, false, false] HT_ ?_
             refine pT_ 14 (some 105) #[true, true, true, true, true, true, true, true, true, true, true, true, true, true, true, false, false, false, false, false] HT_ ?_
             refine pU_ 15 (some 106) #[true, true, true, true, true, true, true, true, true, true, true, true, true, true, true, true, false, false, false, false] HT_ ?_
             refine pU_ 16 (some 107) #[true, true, true, true, true, true, true, true, true, true, true, true, true, true, true, true, true, false, false, false] HT_ ?_
             refine pU_ 17 (some 108) #[true, true, true, true, true, true, true, true, true, true, true, true, true, true, true, true, true, true, false, false] HT_ ?_
             refine pU_ 18 (some 109) #[true, true, true, true, true, true, true, true, true, true, true, true, true, true, true, true, true, true, true, false] HT_ ?_
             refine pT_ 19 (some 110) #[true, true, true, true, true, true, true, true, true, true, true, true, true, true, true, true, true, true, true, true] HT_ ?_
             refine done_ (done_of HT_.out (by kernel_rfl)) ?_
             try go_wp2
             go_ret
             exact ⟨by first | rfl | (simp [errW_none, errW_some] <;> rfl) | (simp [*, errW_none, errW_some] <;> rfl), sABelo_14⟩
        ·rw [if_neg c31] at H
         have c31b0 := decide_eq_false c31
         have c31b0q := c31b0
         (try simp only [hl10_2] at c31b0q)
         clear c31; have HC78 := Aside0.mk H; clear H
         obtain ⟨Ao79, co79, eo79⟩ := Kd.R_slice HO_8.out
         subst eo79
         go_upto_region 22 with (fail)
         go_cut [122] (fun v122 wc => ∃ (kq : Nat) (x122_77 : Bool), v122 = .bool x122_77 ∧ Aside0 (laws_FnDescends.j3 kq t405 t408 t414 x122_77 t395 t396 t399 t402 = some r) ∧ Aside0 (kq ≤ k2) ∧ Aside0 (Kd.R (Kd.int .i64) 2 wc w.heap.size (fun k_ => some k_ ≠ ((.slice Ao11 t396.length co11) : Value).ownBlock ∧ some k_ ≠ ((.slice Ao12 t399.length co12) : Value).ownBlock) (.slice Ao14 t405.length co14) t405) ∧ Aside0 (Kd.R k50 50 wc w.heap.size (fun _ => True) (.slice Ao79 t414.length co79) t414) ∧ Aside0 (Kd.R (Kd.int .i64) 2 wc w.heap.size (fun k_ => some k_ ≠ ((.slice Ao14 t405.length co14) : Value).ownBlock ∧ some k_ ≠ ((.slice Ao12 t399.length co12) : Value).ownBlock) (.slice Ao11 t396.length co11) t396) ∧ Aside0 (Kd.R (Kd.int .i64) 2 wc w.heap.size (fun k_ => some k_ ≠ ((.slice Ao14 t405.length co14) : Value).ownBlock ∧ some k_ ≠ ((.slice Ao11 t396.length co11) : Value).ownBlock) (.slice Ao12 t399.length co12) t399) ∧ Aside0 (Kd.N k52 52 wc w.heap.size (fun k_ => some k_ ≠ ((.slice Ao14 t405.length co14) : Value).ownBlock ∧ some k_ ≠ ((.slice Ao79 t414.length co79) : Value).ownBlock ∧ some k_ ≠ ((.slice Ao11 t396.length co11) : Value).ownBlock ∧ some k_ ≠ ((.slice Ao12 t399.length co12) : Value).ownBlock ∧ k_ ≠ gb409) (.slice Ao13 t402.length co13) t402) ∧ Aside0 (wc.heap[gb409]? = some (.cells #[.int .i64 t395, (.slice Ao11 t396.length co11), (.slice Ao12 t399.length co12), (.slice Ao13 t402.length co13)] 30 (0, 0))) ∧ Aside0 (Below w.heap.size w wc))
         case first =>
          have H := HC78.out; clear HC78
          by_cases c80 : (t414.length : Int) < t408
          ·rw [if_pos c80] at H
           have c80b0 := decide_eq_true c80
           have c80b0q := c80b0
           (try simp only [hl10_2] at c80b0q)
           clear c80
           (first | rw [c80b0] | (simp only [i64_w, i32_w]; rw [c80b0]) | skip)
           replace H := Option.bind_eq_some_iff.mp H
           obtain ⟨t431, A810, H⟩ := H
           replace H : (laws_FnDescends.j3 k2 t405 t408 t414 (!t431) t395 t396 t399 t402) = some r := H
           have A81 := Aside0.mk A810; clear A810; have H' := Aside0.mk H; clear H
           obtain ⟨hcz82_0, hcz82_1, hcz82_2, hcz82_3, hfz82_0, hfz82_1, hfz82_2, hfz82_3⟩ := cf4_ BK409
           go_wp2_with (first | (go_at_call 15; (with_reducible refine (impl_Certified.calls k2 t395 _ _ t396 _ _ t399 _ _ t402 _ _ x10_2 t431 _ ?side1 ?side2 ?side3 ?side4 ?side5 ?side6 ?side7 ?side8 A81.out).mono ?_); (case side1 => exact rD_ HO_410001); (case side2 => exact (Kd.R_reads' HO_410001.out).2.1); (case side3 => exact rD_ HO_410002); (case side4 => exact (Kd.R_reads' HO_410002.out).2.1); (case side5 => repeat (first | exact (Kd.N_reads' HO_410003.out).2.2 | (with_reducible refine Kd.C_alloc ?_ _) | (with_reducible refine Kd.C_drewN ?_ _) | (with_reducible refine Kd.C_drew ?_))); (case side6 => exact (Kd.N_reads' HO_410003.out).2.1); (case side7 => exact rD_ HO_10); (case side8 => exact (Kd.R_reads' HO_10.out).2.1); rintro e w83 ⟨rfl, hb⟩; replace HO_4 := rB_ HO_4 hb; replace HO_8 := rB_ HO_8 hb; replace HO_10 := rB_ HO_10 hb; replace HO_410001 := rB_ HO_410001 hb; replace HO_410002 := rB_ HO_410002 hb; replace HO_410003 := Aside0.mk (Kd.N_below (by (with_reducible repeat (first | apply Kd.N_alloc | apply Kd.N_drewN | apply Kd.N_drew)); exact HO_410003.out) hb); replace BK409 := bB_ BK409 hb; replace HB := bS_ HB hb; (try clear hb); (try clear hk)))
           go_meet
           case rel => as_aux_lemma => exact ⟨_, (!t431), (by first | rfl | (simp; done) | (simp [*]; done)), H', ⟨by have := HJ6.out; have := HK2.out; first | omega | exact Nat.le_refl _⟩, ⟨by (try simp only [hl10_2]); (with_reducible repeat (first | apply Kd.R_alloc | apply Kd.R_drewN | apply Kd.R_drew)); exact Kd.R_mono HO_4.out (fun _ hk => ⟨hk.2.1, hk.2.2⟩)⟩, ⟨by (try simp only [hl10_2]); (with_reducible repeat (first | apply Kd.R_alloc | apply Kd.R_drewN | apply Kd.R_drew)); exact HO_8.out⟩, ⟨by (try simp only [hl10_2]); (with_reducible repeat (first | apply Kd.R_alloc | apply Kd.R_drewN | apply Kd.R_drew)); exact Kd.R_mono HO_410001.out (fun _ hk => ⟨hk.1, hk.2.2⟩)⟩, ⟨by (try simp only [hl10_2]); (with_reducible repeat (first | apply Kd.R_alloc | apply Kd.R_drewN | apply Kd.R_drew)); exact Kd.R_mono HO_410002.out (fun _ hk => ⟨hk.1, hk.2.2⟩)⟩, ⟨by (try simp only [hl10_2]); (with_reducible repeat (first | apply Kd.N_alloc | apply Kd.N_drewN | apply Kd.N_drew)); exact Kd.N_mono HO_410003.out (fun _ hk => ⟨hk.1, ⟨hk.2.1, ⟨hk.2.2.2.1, ⟨hk.2.2.2.2.1, hk.2.2.2.2.2⟩⟩⟩⟩)⟩, ⟨by (try simp only [hl10_2]); exact bT_ BK409⟩, ⟨sABelo_14⟩⟩
          ·rw [if_neg c80] at H
           have c80b0 := decide_eq_false c80
           have c80b0q := c80b0
           (try simp only [hl10_2] at c80b0q)
           clear c80
           (first | rw [c80b0] | (simp only [i64_w, i32_w]; rw [c80b0]) | skip)
           have H' := Aside0.mk H; clear H
           go_wp2
           go_meet
           case rel => as_aux_lemma => exact ⟨_, (false), (by first | rfl | (simp; done) | (simp [*]; done)), H', ⟨by have := HJ6.out; have := HK2.out; first | omega | exact Nat.le_refl _⟩, ⟨by (try simp only [hl10_2]); (with_reducible repeat (first | apply Kd.R_alloc | apply Kd.R_drewN | apply Kd.R_drew)); exact Kd.R_mono HO_4.out (fun _ hk => ⟨hk.2.1, hk.2.2⟩)⟩, ⟨by (try simp only [hl10_2]); (with_reducible repeat (first | apply Kd.R_alloc | apply Kd.R_drewN | apply Kd.R_drew)); exact HO_8.out⟩, ⟨by (try simp only [hl10_2]); (with_reducible repeat (first | apply Kd.R_alloc | apply Kd.R_drewN | apply Kd.R_drew)); exact Kd.R_mono HO_410001.out (fun _ hk => ⟨hk.1, hk.2.2⟩)⟩, ⟨by (try simp only [hl10_2]); (with_reducible repeat (first | apply Kd.R_alloc | apply Kd.R_drewN | apply Kd.R_drew)); exact Kd.R_mono HO_410002.out (fun _ hk => ⟨hk.1, hk.2.2⟩)⟩, ⟨by (try simp only [hl10_2]); (with_reducible repeat (first | apply Kd.N_alloc | apply Kd.N_drewN | apply Kd.N_drew)); exact Kd.N_mono HO_410003.out (fun _ hk => ⟨hk.1, ⟨hk.2.1, ⟨hk.2.2.2.1, ⟨hk.2.2.2.2.1, hk.2.2.2.2.2⟩⟩⟩⟩)⟩, ⟨by (try simp only [hl10_2]); exact bT_ BK409⟩, ⟨sABelo_14⟩⟩
         case rest => as_aux_lemma =>
          clear HC78; (try clear c3); (try clear c31); (try clear c31b0)
          obtain ⟨kq, x122_77, rfl, HA, HJ77, HO_4, HO_8, HO_410001, HO_410002, HO_410003, BK409, HB⟩ := hcut
          cases kq with
          | zero => exact absurd HA.out (by simp [laws_FnDescends.j3])
          | succ kj77 =>
           have H := HA.out; clear HA
           simp only [laws_FnDescends.j3] at H
           by_cases c84 : x122_77 = true
           ·subst c84
            replace H := ifT_ H
            obtain rfl := Option.some.inj H
            go_wp2
            go_ret
            exact ⟨by first | rfl | (simp [errW_none, errW_some] <;> rfl) | (simp [*, errW_none, errW_some] <;> rfl), sABelo_14⟩
           ·replace c84 := Bool.eq_false_iff.mpr c84
            subst c84
            replace H := ifF_ H
            obtain ⟨y433, hy433⟩ : ∃ y_ : List (S52), y_ = (([] : List (S52))) := ⟨_, rfl⟩
            replace H : (laws_FnDescends.l1 kj77 t405 t408 t414 (wrap64 ((t402.length : Int) - 1)) t395 t396 t399 t402 t395 t396 t399 y433) = some r := by first | (rw [hy433]; with_reducible exact H) | (have H2_ := (Option.bind_some _ _).symm.trans H; rw [hy433]; with_reducible exact H2_) | (have H2_ := (Option.bind_some _ _).symm.trans H; with_reducible exact H2_) | with_reducible exact H | (rw [hy433]; exact H) | exact H
            have Ny433 := Aside0.mk hy433; clear hy433; have H' := Aside0.mk H; clear H
            obtain ⟨hcz85_0, hcz85_1, hcz85_2, hcz85_3, hfz85_0, hfz85_1, hfz85_2, hfz85_3⟩ := cf4_ BK409
            go_wp2_with (first | ((with_reducible refine gate_dst (N := 14) rfl ?_); (try (refine gate_guard (by rfl) ?_; dsimp only)); refine box_event ?hg (N := 14) ?hd (cs := #[.int .i64 0, .slice none 0 0, .slice none 0 0, .slice none 0 0]) (t := 30) ?hr ?_; (case hd => rfl); (case hg => rfl); (case hr => first | (go_simp; done) | (go_simp; rfl)); intro gb432 hg w86 hbox hb; replace HO_4 := rB_ HO_4 hb; replace HO_8 := rB_ HO_8 hb; replace HO_410001 := rB_ HO_410001 hb; replace HO_410002 := rB_ HO_410002 hb; replace HO_410003 := Aside0.mk (Kd.N_below (Kd.N_elderB (by (with_reducible repeat (first | apply Kd.N_alloc | apply Kd.N_drewN | apply Kd.N_drew)); exact HO_410003.out) gb432 (Nat.le_of_eq hg.symm)) hb); have BK432 := Aside0.mk (hbox); have GW432 := gE_ HB hg; have GE432 := gE_ HB hg; replace HB := bS_ HB hb; have NB409_432 := nL_ BK409 hg; have NB432_409 := nG_ BK409 hg; replace BK409 := bB_ BK409 hb; clear hb hbox hg; have hnb87 := NB432_409.out; have hnc87 := NB409_432.out; obtain ⟨hcz88_0, hcz88_1, hcz88_2, hcz88_3, hfz88_0, hfz88_1, hfz88_2, hfz88_3⟩ := cf4_ BK432) | ((with_reducible refine gate_dst (N := 124) rfl ?_); (try (refine gate_guard (by rfl) ?_; dsimp only)); refine Kd.N_lit k52 _ 52 ?hg (N' := 124) ?hd (xs := ([] : List (S52))) (inner := []) (ok := (fun k_ => some k_ ≠ (.slice Ao14 t405.length co14 : Value).ownBlock ∧ some k_ ≠ (.slice Ao79 t414.length co79 : Value).ownBlock ∧ some k_ ≠ (.slice Ao11 t396.length co11 : Value).ownBlock ∧ some k_ ≠ (.slice Ao12 t399.length co12 : Value).ownBlock ∧ some k_ ≠ (.slice Ao13 t402.length co13 : Value).ownBlock ∧ k_ ≠ gb409 ∧ k_ ≠ gb432)) (okp := (fun k_ => some k_ ≠ (.slice Ao14 t405.length co14 : Value).ownBlock ∧ some k_ ≠ (.slice Ao79 t414.length co79 : Value).ownBlock ∧ some k_ ≠ (.slice Ao11 t396.length co11 : Value).ownBlock ∧ some k_ ≠ (.slice Ao12 t399.length co12 : Value).ownBlock ∧ some k_ ≠ (.slice Ao13 t402.length co13 : Value).ownBlock ∧ k_ ≠ gb409 ∧ k_ ≠ gb432)) ?hr ?hp (fun _ hk => hk) (by simp only [World.size_setCell]; exact (show ∀ k_, w86.heap.size ≤ k_ → (fun k_ => some k_ ≠ (.slice Ao14 t405.length co14 : Value).ownBlock ∧ some k_ ≠ (.slice Ao79 t414.length co79 : Value).ownBlock ∧ some k_ ≠ (.slice Ao11 t396.length co11 : Value).ownBlock ∧ some k_ ≠ (.slice Ao12 t399.length co12 : Value).ownBlock ∧ some k_ ≠ (.slice Ao13 t402.length co13 : Value).ownBlock ∧ k_ ≠ gb409 ∧ k_ ≠ gb432) k_ from fun k_ hk => ⟨Kd.fresh' (rLt_ HO_4) k_ hk, Kd.fresh' (rLt_ HO_8) k_ hk, Kd.fresh' (rLt_ HO_410001) k_ hk, Kd.fresh' (rLt_ HO_410002) k_ hk, Kd.fresh' (Kd.N_lt HO_410003.out) k_ hk, Kd.freshB BK409.out k_ hk, Kd.freshB BK432.out k_ hk⟩) _ (Nat.le_refl _)) (Below.refl _ _) (Nat.le_refl _) (by simp) ?_; (case hd => rfl); (case hg => rfl); (case hr => first | (go_simp; done) | (go_simp; rfl)); (case hp => exact (Reps.none _ _)); intro v434 w89 ho90 hb hg_ hnew_; clear hg_ hnew_; (first | rw [← Ny433.out] at ho90 | (simp only [Int.reduceToNat] at ho90; rw [← Ny433.out] at ho90)); replace HO_4 := rBF_ HO_4 BK432 hb; replace HO_8 := rBF_ HO_8 BK432 hb; replace HO_410001 := rBF_ HO_410001 BK432 hb; replace HO_410002 := rBF_ HO_410002 BK432 hb; replace HO_410003 := Aside0.mk (Kd.N_elder' (by (with_reducible repeat (first | apply Kd.N_alloc | apply Kd.N_drewN | apply Kd.N_drew)); exact (Kd.N_mono (Kd.N_far (p := ⟨gb432, 3, none⟩) (Kd.N_far (p := ⟨gb432, 2, none⟩) (Kd.N_far (p := ⟨gb432, 1, none⟩) (Kd.N_far (p := ⟨gb432, 0, none⟩) (Kd.N_mono HO_410003.out (fun k_ hk => (⟨hk, hk.2⟩ : _ ∧ k_ ≠ gb432))) (fun _ hk => hk.2) (.int .i64 t395)) (fun _ hk => hk.2) (.slice Ao11 t396.length co11)) (fun _ hk => hk.2) (.slice Ao12 t399.length co12)) (fun _ hk => hk.2) (.slice Ao13 t402.length co13)) (fun _ h_ => h_.1))) (Kd.N_base ho90) hb); have HO435 := Aside0.mk (Kd.N_lower ho90 (below_size sABelo_14)); replace BK409 := bBF_ BK409 NB409_432 hb; replace BK432 := Aside0.mk (blk_below (g := gb432) (o := .cells #[.int .i64 t395, .slice Ao11 t396.length co11, .slice Ao12 t399.length co12, .slice Ao13 t402.length co13] 30 (0, 0)) (bP_ BK432) hb); replace HB := bSF_ HB GE432 hb; clear hb ho90; obtain ⟨Ao91, co91, eo91⟩ := Kd.N_slice HO435.out; subst eo91; obtain ⟨hcz92_0, hcz92_1, hcz92_2, hcz92_3, hfz92_0, hfz92_1, hfz92_2, hfz92_3⟩ := cf4_ BK432; obtain ⟨hcz93_0, hcz93_1, hcz93_2, hcz93_3, hfz93_0, hfz93_1, hfz93_2, hfz93_3⟩ := cf4_ BK409))
            go_loopg [15] kj77 (fun kq v15 w' => ∃ (x15_4 : Int) (x433003_4 : List (S52)) (u433003 : Value), v15 = .int .i64 x15_4 ∧ Aside0 (laws_FnDescends.l1 kq t405 t408 t414 x15_4 t395 t396 t399 t402 t395 t396 t399 x433003_4 = some r) ∧ Aside0 (kq ≤ kj77) ∧ Aside0 (Kd.R (Kd.int .i64) 2 w' w.heap.size (fun k_ => some k_ ≠ ((.slice Ao11 t396.length co11) : Value).ownBlock ∧ some k_ ≠ ((.slice Ao12 t399.length co12) : Value).ownBlock ∧ some k_ ≠ ((.slice Ao11 t396.length co11) : Value).ownBlock ∧ some k_ ≠ ((.slice Ao12 t399.length co12) : Value).ownBlock) (.slice Ao14 t405.length co14) t405) ∧ Aside0 (Kd.R k50 50 w' w.heap.size (fun _ => True) (.slice Ao79 t414.length co79) t414) ∧ Aside0 (Kd.R (Kd.int .i64) 2 w' w.heap.size (fun k_ => some k_ ≠ ((.slice Ao14 t405.length co14) : Value).ownBlock ∧ some k_ ≠ ((.slice Ao12 t399.length co12) : Value).ownBlock ∧ some k_ ≠ ((.slice Ao12 t399.length co12) : Value).ownBlock) (.slice Ao11 t396.length co11) t396) ∧ Aside0 (Kd.R (Kd.int .i64) 2 w' w.heap.size (fun k_ => some k_ ≠ ((.slice Ao14 t405.length co14) : Value).ownBlock ∧ some k_ ≠ ((.slice Ao11 t396.length co11) : Value).ownBlock ∧ some k_ ≠ ((.slice Ao11 t396.length co11) : Value).ownBlock) (.slice Ao12 t399.length co12) t399) ∧ Aside0 (Kd.N k52 52 w' w.heap.size (fun k_ => some k_ ≠ ((.slice Ao14 t405.length co14) : Value).ownBlock ∧ some k_ ≠ ((.slice Ao79 t414.length co79) : Value).ownBlock ∧ some k_ ≠ ((.slice Ao11 t396.length co11) : Value).ownBlock ∧ some k_ ≠ ((.slice Ao12 t399.length co12) : Value).ownBlock ∧ some k_ ≠ ((.slice Ao11 t396.length co11) : Value).ownBlock ∧ some k_ ≠ ((.slice Ao12 t399.length co12) : Value).ownBlock ∧ some k_ ≠ (u433003 : Value).ownBlock ∧ k_ ≠ gb409 ∧ k_ ≠ gb432) (.slice Ao13 t402.length co13) t402) ∧ Aside0 (Kd.R (Kd.int .i64) 2 w' w.heap.size (fun k_ => some k_ ≠ ((.slice Ao14 t405.length co14) : Value).ownBlock ∧ some k_ ≠ ((.slice Ao12 t399.length co12) : Value).ownBlock ∧ some k_ ≠ ((.slice Ao12 t399.length co12) : Value).ownBlock) (.slice Ao11 t396.length co11) t396) ∧ Aside0 (Kd.R (Kd.int .i64) 2 w' w.heap.size (fun k_ => some k_ ≠ ((.slice Ao14 t405.length co14) : Value).ownBlock ∧ some k_ ≠ ((.slice Ao11 t396.length co11) : Value).ownBlock ∧ some k_ ≠ ((.slice Ao11 t396.length co11) : Value).ownBlock) (.slice Ao12 t399.length co12) t399) ∧ Aside0 (Kd.N k52 52 w' w.heap.size (fun k_ => some k_ ≠ ((.slice Ao14 t405.length co14) : Value).ownBlock ∧ some k_ ≠ ((.slice Ao79 t414.length co79) : Value).ownBlock ∧ some k_ ≠ ((.slice Ao11 t396.length co11) : Value).ownBlock ∧ some k_ ≠ ((.slice Ao12 t399.length co12) : Value).ownBlock ∧ some k_ ≠ ((.slice Ao13 t402.length co13) : Value).ownBlock ∧ some k_ ≠ ((.slice Ao11 t396.length co11) : Value).ownBlock ∧ some k_ ≠ ((.slice Ao12 t399.length co12) : Value).ownBlock ∧ k_ ≠ gb409 ∧ k_ ≠ gb432) u433003 x433003_4) ∧ Aside0 (w'.heap[gb409]? = some (.cells #[.int .i64 t395, (.slice Ao11 t396.length co11), (.slice Ao12 t399.length co12), (.slice Ao13 t402.length co13)] 30 (0, 0))) ∧ Aside0 (w'.heap[gb432]? = some (.cells #[.int .i64 t395, (.slice Ao11 t396.length co11), (.slice Ao12 t399.length co12), u433003] 30 (0, 0))) ∧ Aside0 (Below w.heap.size w w'))
            case atStart => exact ⟨(wrap64 ((t402.length : Int) - 1)), (y433), (.slice Ao91 y433.length co91), (by first | rfl | (simp; done) | (simp [*]; done)), H', ⟨Nat.le_refl _⟩, ⟨by (try simp only [hl10_2]); (with_reducible repeat (first | apply Kd.R_alloc | apply Kd.R_drewN | apply Kd.R_drew)); exact Kd.R_mono (Kd.R_far (p := ⟨gb432, 3, none⟩) (Kd.R_types HO_4.out BK432.out (by decide)) (fun _ hk => hk.2) (.slice Ao91 y433.length co91)) (fun _ hk => ⟨hk.1.1, ⟨hk.1.2, ⟨hk.1.1, hk.1.2⟩⟩⟩)⟩, ⟨by (try simp only [hl10_2]); (with_reducible repeat (first | apply Kd.R_alloc | apply Kd.R_drewN | apply Kd.R_drew)); exact Kd.R_mono (Kd.R_far (p := ⟨gb432, 3, none⟩) (Kd.R_types HO_8.out BK432.out (by decide)) (fun _ hk => hk.2) (.slice Ao91 y433.length co91)) (fun _ hk => trivial)⟩, ⟨by (try simp only [hl10_2]); (with_reducible repeat (first | apply Kd.R_alloc | apply Kd.R_drewN | apply Kd.R_drew)); exact Kd.R_mono (Kd.R_far (p := ⟨gb432, 3, none⟩) (Kd.R_types HO_410001.out BK432.out (by decide)) (fun _ hk => hk.2) (.slice Ao91 y433.length co91)) (fun _ hk => ⟨hk.1.1, ⟨hk.1.2, hk.1.2⟩⟩)⟩, ⟨by (try simp only [hl10_2]); (with_reducible repeat (first | apply Kd.R_alloc | apply Kd.R_drewN | apply Kd.R_drew)); exact Kd.R_mono (Kd.R_far (p := ⟨gb432, 3, none⟩) (Kd.R_types HO_410002.out BK432.out (by decide)) (fun _ hk => hk.2) (.slice Ao91 y433.length co91)) (fun _ hk => ⟨hk.1.1, ⟨hk.1.2, hk.1.2⟩⟩)⟩, ⟨by (try simp only [hl10_2]); (with_reducible repeat (first | apply Kd.N_alloc | apply Kd.N_drewN | apply Kd.N_drew)); exact Kd.N_mono (Kd.N_far (p := ⟨gb432, 3, none⟩) (Kd.N_mono HO_410003.out (fun k_ hk => (⟨hk, hk.1.2⟩ : _ ∧ k_ ≠ gb432))) (fun _ hk => hk.2) (.slice Ao91 y433.length co91)) (fun _ hk => ⟨hk.1.1.1.1, ⟨hk.1.1.1.2.1, ⟨hk.1.1.1.2.2.1, ⟨hk.1.1.1.2.2.2.1, ⟨hk.1.1.1.2.2.1, ⟨hk.1.1.1.2.2.2.1, ⟨hk.1.2, ⟨hk.1.1.1.2.2.2.2, hk.1.1.2⟩⟩⟩⟩⟩⟩⟩⟩)⟩, ⟨by (try simp only [hl10_2]); (with_reducible repeat (first | apply Kd.R_alloc | apply Kd.R_drewN | apply Kd.R_drew)); exact Kd.R_mono (Kd.R_far (p := ⟨gb432, 3, none⟩) (Kd.R_types HO_410001.out BK432.out (by decide)) (fun _ hk => hk.2) (.slice Ao91 y433.length co91)) (fun _ hk => ⟨hk.1.1, ⟨hk.1.2, hk.1.2⟩⟩)⟩, ⟨by (try simp only [hl10_2]); (with_reducible repeat (first | apply Kd.R_alloc | apply Kd.R_drewN | apply Kd.R_drew)); exact Kd.R_mono (Kd.R_far (p := ⟨gb432, 3, none⟩) (Kd.R_types HO_410002.out BK432.out (by decide)) (fun _ hk => hk.2) (.slice Ao91 y433.length co91)) (fun _ hk => ⟨hk.1.1, ⟨hk.1.2, hk.1.2⟩⟩)⟩, ⟨by (try simp only [hl10_2]); (with_reducible repeat (first | apply Kd.N_alloc | apply Kd.N_drewN | apply Kd.N_drew)); exact Kd.N_mono (Kd.N_far (p := ⟨gb432, 3, none⟩) (Kd.N_mono HO435.out (fun k_ hk => (⟨hk, hk.2.2.2.2.2.2⟩ : _ ∧ k_ ≠ gb432))) (fun _ hk => hk.2) (.slice Ao91 y433.length co91)) (fun _ hk => ⟨hk.1.1, ⟨hk.1.2.1, ⟨hk.1.2.2.1, ⟨hk.1.2.2.2.1, ⟨hk.1.2.2.2.2.1, ⟨hk.1.2.2.1, ⟨hk.1.2.2.2.1, ⟨hk.1.2.2.2.2.2.1, hk.1.2.2.2.2.2.2⟩⟩⟩⟩⟩⟩⟩⟩)⟩, ⟨by (try simp only [hl10_2]); (with_reducible repeat (first | refine blk_drewN ?_ _ | refine blk_drew ?_ | refine blk_alloc ?_ _)); refine blk_far ?_ NB409_432.out _; exact bT_ BK409⟩, ⟨by (try simp only [hl10_2]); (with_reducible repeat (first | refine blk_drewN ?_ _ | refine blk_drew ?_ | refine blk_alloc ?_ _)); refine blk_put (cs := #[.int .i64 t395, .slice Ao11 t396.length co11, .slice Ao12 t399.length co12, .slice Ao13 t402.length co13]) ?_ 3 _ rfl; exact bT_ BK432⟩, ⟨sABelo_14⟩⟩
            case round => as_aux_lemma =>
             clear H'; (try clear c3); (try clear c31); (try clear c31b0); (try clear c84); (try clear hcz85_0); (try clear hcz85_1); (try clear hcz85_2); (try clear hcz85_3); (try clear hcz88_0); (try clear hcz88_1); (try clear hcz88_2); (try clear hcz88_3); (try clear hcz92_0); (try clear hcz92_1); (try clear hcz92_2); (try clear hcz92_3); (try clear hcz93_0); (try clear hcz93_1); (try clear hcz93_2); (try clear hcz93_3); (try clear hfz85_0); (try clear hfz85_1); (try clear hfz85_2); (try clear hfz85_3); (try clear hfz88_0); (try clear hfz88_1); (try clear hfz88_2); (try clear hfz88_3); (try clear hfz92_0); (try clear hfz92_1); (try clear hfz92_2); (try clear hfz92_3); (try clear hfz93_0); (try clear hfz93_1); (try clear hfz93_2); (try clear hfz93_3)
             clear BK432
             obtain ⟨x15_4, x433003_4, u433003, rfl, HA, HK4, HO_4, HO_8, HO_410001, HO_410002, HO_410003, HO_433001, HO_433002, HO_433003, BK409, BK432, HB⟩ := hrel
             cases gk with
             | zero => exact absurd HA.out (by simp [laws_FnDescends.l1])
             | succ k4 =>
              have H := HA.out; clear HA
              simp only [laws_FnDescends.l1] at H
              by_cases c94 : x15_4 ≥ 0
              ·rw [if_pos c94] at H
               have c94b0 : decide (0 ≤ x15_4) = true := decide_eq_true c94
               clear c94
               obtain ⟨c95, H⟩ := ifS_ H
               have c95b0 : decide (0 ≤ x15_4) = true := decide_eq_true c95
               clear c95
               obtain ⟨c96, H⟩ := ifS_ H
               have c96b0 : decide (x15_4 < (t402.length : Int)) = true := decide_eq_true c96
               have c96b0q := c96b0
               (try simp only [hl10_2] at c96b0q)
               clear c96
               obtain ⟨c97, H⟩ := ifS_ H
               have LMc97 := Aside0.mk c97; clear c97
               obtain ⟨y437, hy437⟩ : ∃ y_ : List (S52), y_ = (x433003_4 ++ [(⟨(rd_T52 t402 x15_4).f0, (rd_T52 t402 x15_4).f1, (rd_T52 t402 x15_4).f2⟩ : S52)]) := ⟨_, rfl⟩
               replace H : (laws_FnDescends.l1 k4 t405 t408 t414 (wrap64 (x15_4 - 1)) t395 t396 t399 t402 t395 t396 t399 y437) = some r := by first | (rw [hy437]; with_reducible exact H) | (have H2_ := (Option.bind_some _ _).symm.trans H; rw [hy437]; with_reducible exact H2_) | (have H2_ := (Option.bind_some _ _).symm.trans H; with_reducible exact H2_) | with_reducible exact H | (rw [hy437]; exact H) | exact H
               have Ny437 := Aside0.mk hy437; clear hy437; have H' := Aside0.mk H; clear H
               try go_wp2
               replace HO_4 := Aside0.mk (Kd.R_drew HO_4.out)
               replace HO_8 := Aside0.mk (Kd.R_drew HO_8.out)
               replace HO_410001 := Aside0.mk (Kd.R_drew HO_410001.out)
               replace HO_410002 := Aside0.mk (Kd.R_drew HO_410002.out)
               replace HO_410003 := Aside0.mk (Kd.N_drew HO_410003.out)
               replace HO_433001 := Aside0.mk (Kd.R_drew HO_433001.out)
               replace HO_433002 := Aside0.mk (Kd.R_drew HO_433002.out)
               replace HO_433003 := Aside0.mk (Kd.N_drew HO_433003.out)
               replace BK409 := Aside0.mk (blk_drew BK409.out)
               replace BK432 := Aside0.mk (blk_drew BK432.out)
               replace HB := Aside0.mk (below_drew1 HB.out)
               have p436 : 0 ≤ (x15_4 : Int) := dA_
               have q436 : x15_4 < (t402.length : Int) := dA_
               obtain ⟨ad436, A436_0, c436_0, e436, hx436_0, hx436_1, hx436_2, hl436_0, hi436_0⟩ := at_T52 (Kd.N_reads' HO_410003.out).2.2 x15_4 p436 q436
               cases e436
               obtain ⟨ce436, hce436, hMe436, hcc436⟩ := Kd.N_get HO_410003.out z52 x15_4 p436 (by first | exact q436 | exact of_decide_eq_true (by first | (with_reducible assumption) | assumption) | (have e_ := (Kd.N_reads' HO_410003.out).1; omega))
               obtain ⟨ua436_0, uc436_0, rfl, ul436_0, ge436_0⟩ := k52_openF hMe436
               have hv436_0 := hcc436 0 _ rfl
               rw [Nat.add_zero] at hv436_0
               replace hv436_0 := Option.some.inj (hv436_0.symm.trans hx436_0)
               injection hv436_0 with hva_ hvn_ hvc_
               rw [hva_] at ge436_0
               rw [hvc_] at ul436_0
               have HL436_0 := Aside0.mk (show Kd.V (Kd.int .i64) 2 _ w.heap.size _ _ ((rd_T52 t402 x15_4).f0) from Kd.V_mk ul436_0 ge436_0)
               clear hva_ hvn_ hvc_ ge436_0 ul436_0 hcc436 hce436; have HR436_0 := Aside0.mk hi436_0; have HC436_0 := Aside0.mk hl436_0; clear hi436_0 hl436_0; replace p436 := eq_true p436; replace q436 := eq_true q436
               refine start_ (n := 11) (S := fun w' => w'.cell? ⟨gb432, 0, none⟩ = some (.int .i64 t395) ∧ w'.cell? ⟨gb432, 1, none⟩ = some (.slice Ao11 t396.length co11) ∧ w'.cell? ⟨gb432, 2, none⟩ = some (.slice Ao12 t399.length co12) ∧ w'.cell? ⟨gb432, 3, none⟩ = some (u433003) ∧ w'.cell? ⟨gb409, 0, none⟩ = some (.int .i64 t395) ∧ w'.cell? ⟨gb409, 1, none⟩ = some (.slice Ao11 t396.length co11) ∧ w'.cell? ⟨gb409, 2, none⟩ = some (.slice Ao12 t399.length co12) ∧ w'.cell? ⟨gb409, 3, none⟩ = some (.slice (some ad436) t402.length co13) ∧ w'.cell? (ad436.add ((x15_4).toNat * 3)) = some (.slice A436_0 ((rd_T52 t402 x15_4).f0).length c436_0) ∧ w'.cell? ⟨(ad436.add ((x15_4).toNat * 3)).block, (ad436.add ((x15_4).toNat * 3)).off + 1, none⟩ = some (.int .i64 ((rd_T52 t402 x15_4).f1)) ∧ w'.cell? ⟨(ad436.add ((x15_4).toNat * 3)).block, (ad436.add ((x15_4).toNat * 3)).off + 2, none⟩ = some (.int .i64 ((rd_T52 t402 x15_4).f2))) (ds := [8, 10]) #[false, false, false, false, false, false, false, false, false, false, false] (by kernel_rfl) rfl rfl ⟨(blk_cell BK432.out 0).trans rfl, (blk_cell BK432.out 1).trans rfl, (blk_cell BK432.out 2).trans rfl, (blk_cell BK432.out 3).trans rfl, (blk_cell BK409.out 0).trans rfl, (blk_cell BK409.out 1).trans rfl, (blk_cell BK409.out 2).trans rfl, (blk_cell BK409.out 3).trans rfl, hx436_0, hx436_1, hx436_2⟩ (fun hHeld => ?_); refine with_tabW laws_FnDescends.tab29 laws_FnDescends.bits29 (fun HT_ HW_ => ?_)
               generalize wr.drew = w98 at HO_4 HO_8 HO_410001 HO_410002 HO_410003 HO_433001 HO_433002 HO_433003 BK409 BK432 HB HL436_0 HR436_0 hx436_0 hx436_1 hx436_2 hHeld ⊢
               refine pT_ 0 (some 134) #[true, false, false, false, false, false, false, false, false, false, false] HT_ ?_
               refine pT_ 2 (some 136) #[true, false, true, false, false, false, false, false, false, false, false] HT_ ?_
               refine pT_ 4 (some 138) #[true, false, true, false, true, false, false, false, false, false, false] HT_ ?_
               refine tT_ 1 (some 135) #[true, true, true, false, true, false, false, false, false, false, false] HT_ HW_ hHeld ?_ (hy := by rintro w' ⟨s0, s1, s2, s3, s4, s5, s6, s7, s8, s9, s10⟩; go_simp; with_reducible rfl)
               refine tT_ 3 (some 137) #[true, true, true, true, true, false, false, false, false, false, false] HT_ HW_ hHeld ?_ (hy := by rintro w' ⟨s0, s1, s2, s3, s4, s5, s6, s7, s8, s9, s10⟩; go_simp; with_reducible rfl)
               refine pT_ 5 (some 139) #[true, true, true, true, true, true, false, false, false, false, false] HT_ ?_
               refine tT_ 6 (some 140) #[true, true, true, true, true, true, true, false, false, false, false] HT_ HW_ hHeld ?_ (hy := by rintro w' ⟨s0, s1, s2, s3, s4, s5, s6, s7, s8, s9, s10⟩; go_simp; with_reducible rfl)
               refine one_ (i := 7) (N := some 141) #[true, true, true, true, true, true, true, true, false, false, false] rfl rfl (one_of HT_.out (by kernel_rfl)) (by decide) (fun K hK => ?_)
               refine value_ (w1 := ?_) (v := ?_) (by rfl) rfl ?_ ?_
               rotate_left 2
               ·go_simp
                constructor
                ·rfl
                ·rfl
               refine hK.out _ _ ⟨(blk_cell (blk_alloc BK432.out _) 0).trans rfl, (blk_cell (blk_alloc BK432.out _) 1).trans rfl, (blk_cell (blk_alloc BK432.out _) 2).trans rfl, (blk_cell (blk_alloc BK432.out _) 3).trans rfl, (blk_cell (blk_alloc BK409.out _) 0).trans rfl, (blk_cell (blk_alloc BK409.out _) 1).trans rfl, (blk_cell (blk_alloc BK409.out _) 2).trans rfl, (blk_cell (blk_alloc BK409.out _) 3).trans rfl, (World.cell?_alloc_lt _ _ _ (World.block_lt_of_cell? _ _ (hHeld.2.2.2.2.2.2.2.2.1))).trans (hHeld.2.2.2.2.2.2.2.2.1), (World.cell?_alloc_lt _ _ _ (World.block_lt_of_cell? _ _ (hHeld.2.2.2.2.2.2.2.2.2.1))).trans (hHeld.2.2.2.2.2.2.2.2.2.1), (World.cell?_alloc_lt _ _ _ (World.block_lt_of_cell? _ _ (hHeld.2.2.2.2.2.2.2.2.2.2))).trans (hHeld.2.2.2.2.2.2.2.2.2.2)⟩ (fun hHeld => ?_)
               clear hK K
               refine nS_ (some 141) ?_
               refine last_ (i := 8) (N := some 142) #[true, true, true, true, true, true, true, true, true, false, false] rfl rfl (one_of HT_.out (by kernel_rfl)) (by decide) (fun K hK => ?_)
               refine Kd.N_append_step k52 (w0 := w) w.heap.size (by rfl) (.tmp 135) (.tmp 141) 28 52 (.agg #[(.slice none 0 0), (.int .i64 0), (.int .i64 0)]) 40 rfl Try.underlying28 info52 rfl (by decide) (by omega) u433003 x433003_4 (⟨(rd_T52 t402 x15_4).f0, (rd_T52 t402 x15_4).f1, (rd_T52 t402 x15_4).f2⟩ : S52) [.slice A436_0 ((rd_T52 t402 x15_4).f0).length c436_0, .int .i64 ((rd_T52 t402 x15_4).f1), .int .i64 ((rd_T52 t402 x15_4).f2)] (fun k_ => some k_ ≠ (.slice Ao14 t405.length co14 : Value).ownBlock ∧ some k_ ≠ (.slice Ao79 t414.length co79 : Value).ownBlock ∧ some k_ ≠ (.slice Ao11 t396.length co11 : Value).ownBlock ∧ some k_ ≠ (.slice Ao12 t399.length co12 : Value).ownBlock ∧ some k_ ≠ (.slice (some ad436) t402.length co13 : Value).ownBlock ∧ some k_ ≠ (.slice Ao11 t396.length co11 : Value).ownBlock ∧ some k_ ≠ (.slice Ao12 t399.length co12 : Value).ownBlock ∧ k_ ≠ gb409 ∧ k_ ≠ gb432) (fun k_ => ((fun k_ => some k_ ≠ (.slice Ao14 t405.length co14 : Value).ownBlock ∧ some k_ ≠ (.slice Ao79 t414.length co79 : Value).ownBlock ∧ some k_ ≠ (.slice Ao11 t396.length co11 : Value).ownBlock ∧ some k_ ≠ (.slice Ao12 t399.length co12 : Value).ownBlock ∧ some k_ ≠ (.slice (some ad436) t402.length co13 : Value).ownBlock ∧ some k_ ≠ (.slice Ao11 t396.length co11 : Value).ownBlock ∧ some k_ ≠ (.slice Ao12 t399.length co12 : Value).ownBlock ∧ k_ ≠ gb409 ∧ k_ ≠ gb432)) k_ ∧ some k_ ≠ (u433003 : Value).ownBlock) rfl rfl ?aP (fun _ hk => hk) ?aF ?aO ?aB ?aS ?aL ?_
               (case aP => exact (k52_mkF _ _ (⟨(rd_T52 t402 x15_4).f0, (rd_T52 t402 x15_4).f1, (rd_T52 t402 x15_4).f2⟩ : S52) (Kd.V_reads' (Kd.V_mono (ok' := (fun k_ => ((fun k_ => some k_ ≠ (.slice Ao14 t405.length co14 : Value).ownBlock ∧ some k_ ≠ (.slice Ao79 t414.length co79 : Value).ownBlock ∧ some k_ ≠ (.slice Ao11 t396.length co11 : Value).ownBlock ∧ some k_ ≠ (.slice Ao12 t399.length co12 : Value).ownBlock ∧ some k_ ≠ (.slice (some ad436) t402.length co13 : Value).ownBlock ∧ some k_ ≠ (.slice Ao11 t396.length co11 : Value).ownBlock ∧ some k_ ≠ (.slice Ao12 t399.length co12 : Value).ownBlock ∧ k_ ≠ gb409 ∧ k_ ≠ gb432)) k_ ∧ some k_ ≠ (u433003 : Value).ownBlock)) (HL436_0.out) (fun k_ hk => ⟨⟨hk.1.1, ⟨hk.1.2.1, ⟨hk.1.2.2.1, ⟨hk.1.2.2.2.1, ⟨hk.2, ⟨hk.1.2.2.2.2.1, ⟨hk.1.2.2.2.2.2.1, ⟨hk.1.2.2.2.2.2.2.2.1, hk.1.2.2.2.2.2.2.2.2⟩⟩⟩⟩⟩⟩⟩⟩, hk.1.2.2.2.2.2.2.1⟩))).2.1 (Kd.V_F (Kd.V_mono (ok' := (fun k_ => ((fun k_ => some k_ ≠ (.slice Ao14 t405.length co14 : Value).ownBlock ∧ some k_ ≠ (.slice Ao79 t414.length co79 : Value).ownBlock ∧ some k_ ≠ (.slice Ao11 t396.length co11 : Value).ownBlock ∧ some k_ ≠ (.slice Ao12 t399.length co12 : Value).ownBlock ∧ some k_ ≠ (.slice (some ad436) t402.length co13 : Value).ownBlock ∧ some k_ ≠ (.slice Ao11 t396.length co11 : Value).ownBlock ∧ some k_ ≠ (.slice Ao12 t399.length co12 : Value).ownBlock ∧ k_ ≠ gb409 ∧ k_ ≠ gb432)) k_ ∧ some k_ ≠ (u433003 : Value).ownBlock)) (HL436_0.out) (fun k_ hk => ⟨⟨hk.1.1, ⟨hk.1.2.1, ⟨hk.1.2.2.1, ⟨hk.1.2.2.2.1, ⟨hk.2, ⟨hk.1.2.2.2.2.1, ⟨hk.1.2.2.2.2.2.1, ⟨hk.1.2.2.2.2.2.2.2.1, hk.1.2.2.2.2.2.2.2.2⟩⟩⟩⟩⟩⟩⟩⟩, hk.1.2.2.2.2.2.2.1⟩)))))
               (case aB => exact sABelo_14)
               (case aF => exact (fun k_ hk => ⟨Kd.fresh' (rLt_ HO_4) k_ hk, Kd.fresh' (rLt_ HO_8) k_ hk, Kd.fresh' (rLt_ HO_410001) k_ hk, Kd.fresh' (rLt_ HO_410002) k_ hk, Kd.fresh' (Kd.N_lt (by (with_reducible repeat (first | apply Kd.N_alloc | apply Kd.N_drewN | apply Kd.N_drew)); exact HO_410003.out)) k_ hk, Kd.fresh' (rLt_ HO_433001) k_ hk, Kd.fresh' (rLt_ HO_433002) k_ hk, Kd.freshB (g := gb409) (o := .cells #[.int .i64 t395, .slice Ao11 t396.length co11, .slice Ao12 t399.length co12, .slice (some ad436) t402.length co13] 30 (0, 0)) (bT_ BK409) k_ hk, Kd.freshB (g := gb432) (o := .cells #[.int .i64 t395, .slice Ao11 t396.length co11, .slice Ao12 t399.length co12, u433003] 30 (0, 0)) (bT_ BK432) k_ hk⟩))
               (case aO => exact (by (with_reducible repeat (first | apply Kd.N_alloc | apply Kd.N_drewN | apply Kd.N_drew)); exact HO_433003.out))
               (case aS => exact (below_size sABelo_14))
               (case aL => have := LMc97.out; omega)
               intro v438 w99 ho hb hg hat
               rw [← Ny437.out] at ho
               replace HO_4 := Aside0.mk (Kd.R_over' (rT_ HO_4) (Kd.N_typed (by (with_reducible repeat (first | apply Kd.N_alloc | apply Kd.N_drewN | apply Kd.N_drew)); exact HO_433003.out)) (by decide) hg)
               replace HO_8 := Aside0.mk (Kd.R_over' (rT_ HO_8) (Kd.N_typed (by (with_reducible repeat (first | apply Kd.N_alloc | apply Kd.N_drewN | apply Kd.N_drew)); exact HO_433003.out)) (by decide) hg)
               replace HO_410001 := Aside0.mk (Kd.R_over' (rT_ HO_410001) (Kd.N_typed (by (with_reducible repeat (first | apply Kd.N_alloc | apply Kd.N_drewN | apply Kd.N_drew)); exact HO_433003.out)) (by decide) hg)
               replace HO_410002 := Aside0.mk (Kd.R_over' (rT_ HO_410002) (Kd.N_typed (by (with_reducible repeat (first | apply Kd.N_alloc | apply Kd.N_drewN | apply Kd.N_drew)); exact HO_433003.out)) (by decide) hg)
               replace HO_410003 := Aside0.mk (Kd.N_afterv (ok := (fun k_ => some k_ ≠ (.slice Ao14 t405.length co14 : Value).ownBlock ∧ some k_ ≠ (.slice Ao79 t414.length co79 : Value).ownBlock ∧ some k_ ≠ (.slice Ao11 t396.length co11 : Value).ownBlock ∧ some k_ ≠ (.slice Ao12 t399.length co12 : Value).ownBlock ∧ some k_ ≠ (.slice Ao11 t396.length co11 : Value).ownBlock ∧ some k_ ≠ (.slice Ao12 t399.length co12 : Value).ownBlock ∧ k_ ≠ gb409 ∧ k_ ≠ gb432)) (by (with_reducible repeat (first | apply Kd.N_alloc | apply Kd.N_drewN | apply Kd.N_drew)); exact Kd.N_mono HO_410003.out (fun _ hk => ⟨⟨hk.1, ⟨hk.2.1, ⟨hk.2.2.1, ⟨hk.2.2.2.1, ⟨hk.2.2.2.2.1, ⟨hk.2.2.2.2.2.1, ⟨hk.2.2.2.2.2.2.2.1, hk.2.2.2.2.2.2.2.2⟩⟩⟩⟩⟩⟩⟩, hk.2.2.2.2.2.2.1⟩)) hg hat)
               replace HO_433001 := Aside0.mk (Kd.R_over' (rT_ HO_433001) (Kd.N_typed (by (with_reducible repeat (first | apply Kd.N_alloc | apply Kd.N_drewN | apply Kd.N_drew)); exact HO_433003.out)) (by decide) hg)
               replace HO_433002 := Aside0.mk (Kd.R_over' (rT_ HO_433002) (Kd.N_typed (by (with_reducible repeat (first | apply Kd.N_alloc | apply Kd.N_drewN | apply Kd.N_drew)); exact HO_433003.out)) (by decide) hg)
               replace BK409 := Aside0.mk (blk_grown (g := gb409) (o := .cells #[.int .i64 t395, .slice Ao11 t396.length co11, .slice Ao12 t399.length co12, .slice (some ad436) t402.length co13] 30 (0, 0)) (bT_ BK409) hg (Kd.N_ne HO_433003.out BK409.out (by decide)))
               replace BK432 := Aside0.mk (blk_grown (g := gb432) (o := .cells #[.int .i64 t395, .slice Ao11 t396.length co11, .slice Ao12 t399.length co12, u433003] 30 (0, 0)) (bT_ BK432) hg (Kd.N_ne HO_433003.out BK432.out (by decide)))
               replace HL436_0 := Aside0.mk (Kd.V_afterv (ok := (fun k_ => some k_ ≠ (.slice Ao14 t405.length co14 : Value).ownBlock ∧ some k_ ≠ (.slice Ao79 t414.length co79 : Value).ownBlock ∧ some k_ ≠ (.slice Ao11 t396.length co11 : Value).ownBlock ∧ some k_ ≠ (.slice Ao12 t399.length co12 : Value).ownBlock ∧ some k_ ≠ (.slice (some ad436) t402.length co13 : Value).ownBlock ∧ some k_ ≠ (.slice Ao11 t396.length co11 : Value).ownBlock ∧ some k_ ≠ (.slice Ao12 t399.length co12 : Value).ownBlock ∧ k_ ≠ gb409 ∧ k_ ≠ gb432)) (by (with_reducible repeat (first | apply Kd.V_alloc | apply Kd.V_drewN | apply Kd.V_drew)); exact Kd.V_mono HL436_0.out (fun _ hk => ⟨⟨hk.1.1, ⟨hk.1.2.1, ⟨hk.1.2.2.1, ⟨hk.1.2.2.2.1, ⟨hk.2, ⟨hk.1.2.2.2.2.1, ⟨hk.1.2.2.2.2.2.1, ⟨hk.1.2.2.2.2.2.2.2.1, hk.1.2.2.2.2.2.2.2.2⟩⟩⟩⟩⟩⟩⟩⟩, hk.1.2.2.2.2.2.2.1⟩)) hg hat)
               replace HB := Aside0.mk (hb)
               have HO439 := Aside0.mk (ho)
               clear HO_433003 ho hb hg hat
               obtain ⟨Ao100, co100, eo100⟩ := Kd.N_slice HO439.out
               (first | subst eo100 | (injection eo100 with f1_ f2_ f3_; have f4_ := f1_.symm; have f5_ := f3_.symm; clear f1_ f2_ f3_; subst f4_; subst f5_))
               refine hK.out _ _ ?_
               clear hK K
               refine nS_ (some 142) ?_
               refine pT_ 9 (some 143) #[true, true, true, true, true, true, true, true, true, true, false] HT_ ?_
               refine last_ (i := 10) (N := none) #[true, true, true, true, true, true, true, true, true, true, true] rfl rfl (one_of HT_.out (by kernel_rfl)) (by decide) (fun K hK => ?_)
               have hs101 : w99.cell? ⟨gb432, 3, none⟩ = some (u433003) := (blk_cell BK432.out 3).trans rfl
               have hfs101 := blk_frozen BK432.out 3; have hns101_0 := NB409_432.out; have hms101_0 := NB432_409.out
               refine skip_ (w1 := ?_) (by rfl) rfl ?_ ?_
               rotate_left
               ·go_simp
                rfl
               refine hK.out _ _ ?_
               clear hK K
               refine done_ (done_of HT_.out (by kernel_rfl)) ?_
               try go_wp2
               go_roundg k4
               case measure => as_aux_lemma => have := HJ6.out; have := HK2.out; have := HJ77.out; have := HK4.out; omega
               case rel => as_aux_lemma => exact ⟨(wrap64 (x15_4 - 1)), (y437), (.slice Ao100 y437.length co100), (by first | rfl | (simp; done) | (simp [*]; done)), H', ⟨by have := HJ6.out; have := HK2.out; have := HJ77.out; have := HK4.out; omega⟩, ⟨by (try simp only [hl10_2]); (with_reducible repeat (first | apply Kd.R_alloc | apply Kd.R_drewN | apply Kd.R_drew)); exact Kd.R_mono (Kd.R_far (p := ⟨gb432, 3, none⟩) (Kd.R_types HO_4.out BK432.out (by decide)) (fun _ hk => hk.2) (.slice Ao100 y437.length co100)) (fun _ hk => ⟨hk.1.1, ⟨hk.1.2.1, ⟨hk.1.2.2.1, hk.1.2.2.2⟩⟩⟩)⟩, ⟨by (try simp only [hl10_2]); (with_reducible repeat (first | apply Kd.R_alloc | apply Kd.R_drewN | apply Kd.R_drew)); exact Kd.R_mono (Kd.R_far (p := ⟨gb432, 3, none⟩) (Kd.R_types HO_8.out BK432.out (by decide)) (fun _ hk => hk.2) (.slice Ao100 y437.length co100)) (fun _ hk => trivial)⟩, ⟨by (try simp only [hl10_2]); (with_reducible repeat (first | apply Kd.R_alloc | apply Kd.R_drewN | apply Kd.R_drew)); exact Kd.R_mono (Kd.R_far (p := ⟨gb432, 3, none⟩) (Kd.R_types HO_410001.out BK432.out (by decide)) (fun _ hk => hk.2) (.slice Ao100 y437.length co100)) (fun _ hk => ⟨hk.1.1, ⟨hk.1.2.1, hk.1.2.2⟩⟩)⟩, ⟨by (try simp only [hl10_2]); (with_reducible repeat (first | apply Kd.R_alloc | apply Kd.R_drewN | apply Kd.R_drew)); exact Kd.R_mono (Kd.R_far (p := ⟨gb432, 3, none⟩) (Kd.R_types HO_410002.out BK432.out (by decide)) (fun _ hk => hk.2) (.slice Ao100 y437.length co100)) (fun _ hk => ⟨hk.1.1, ⟨hk.1.2.1, hk.1.2.2⟩⟩)⟩, ⟨by (try simp only [hl10_2]); (with_reducible repeat (first | apply Kd.N_alloc | apply Kd.N_drewN | apply Kd.N_drew)); exact Kd.N_mono (Kd.N_far (p := ⟨gb432, 3, none⟩) (Kd.N_mono HO_410003.out (fun k_ hk => (⟨hk, hk.1.2.2.2.2.2.2.2⟩ : _ ∧ k_ ≠ gb432))) (fun _ hk => hk.2) (.slice Ao100 y437.length co100)) (fun _ hk => ⟨hk.1.1.1, ⟨hk.1.1.2.1, ⟨hk.1.1.2.2.1, ⟨hk.1.1.2.2.2.1, ⟨hk.1.1.2.2.2.2.1, ⟨hk.1.1.2.2.2.2.2.1, ⟨hk.1.2, ⟨hk.1.1.2.2.2.2.2.2.1, hk.1.1.2.2.2.2.2.2.2⟩⟩⟩⟩⟩⟩⟩⟩)⟩, ⟨by (try simp only [hl10_2]); (with_reducible repeat (first | apply Kd.R_alloc | apply Kd.R_drewN | apply Kd.R_drew)); exact Kd.R_mono (Kd.R_far (p := ⟨gb432, 3, none⟩) (Kd.R_types HO_433001.out BK432.out (by decide)) (fun _ hk => hk.2) (.slice Ao100 y437.length co100)) (fun _ hk => ⟨hk.1.1, ⟨hk.1.2.1, hk.1.2.2⟩⟩)⟩, ⟨by (try simp only [hl10_2]); (with_reducible repeat (first | apply Kd.R_alloc | apply Kd.R_drewN | apply Kd.R_drew)); exact Kd.R_mono (Kd.R_far (p := ⟨gb432, 3, none⟩) (Kd.R_types HO_433002.out BK432.out (by decide)) (fun _ hk => hk.2) (.slice Ao100 y437.length co100)) (fun _ hk => ⟨hk.1.1, ⟨hk.1.2.1, hk.1.2.2⟩⟩)⟩, ⟨by (try simp only [hl10_2]); (with_reducible repeat (first | apply Kd.N_alloc | apply Kd.N_drewN | apply Kd.N_drew)); exact Kd.N_mono (Kd.N_far (p := ⟨gb432, 3, none⟩) (Kd.N_mono HO439.out (fun k_ hk => (⟨hk, hk.2.2.2.2.2.2.2.2⟩ : _ ∧ k_ ≠ gb432))) (fun _ hk => hk.2) (.slice Ao100 y437.length co100)) (fun _ hk => ⟨hk.1.1, ⟨hk.1.2.1, ⟨hk.1.2.2.1, ⟨hk.1.2.2.2.1, ⟨hk.1.2.2.2.2.1, ⟨hk.1.2.2.2.2.2.1, ⟨hk.1.2.2.2.2.2.2.1, ⟨hk.1.2.2.2.2.2.2.2.1, hk.1.2.2.2.2.2.2.2.2⟩⟩⟩⟩⟩⟩⟩⟩)⟩, ⟨by (try simp only [hl10_2]); (with_reducible repeat (first | refine blk_drewN ?_ _ | refine blk_drew ?_ | refine blk_alloc ?_ _)); refine blk_far ?_ NB409_432.out _; exact bT_ BK409⟩, ⟨by (try simp only [hl10_2]); (with_reducible repeat (first | refine blk_drewN ?_ _ | refine blk_drew ?_ | refine blk_alloc ?_ _)); refine blk_put (cs := #[.int .i64 t395, .slice Ao11 t396.length co11, .slice Ao12 t399.length co12, u433003]) ?_ 3 _ rfl; exact bT_ BK432⟩, ⟨sABelo_14⟩⟩
              ·rw [if_neg c94] at H
               have c94b0 : decide (0 ≤ x15_4) = false := decide_eq_false c94
               clear c94; replace H := Option.bind_eq_some_iff.mp H
               obtain ⟨⟨t440, t443⟩, A1020, H⟩ := H
               replace H : (if t443 = true then (laws_FnDescends.j5 k4 t414 t440 ((t440.length : Int) != (t414.length : Int))) else (laws_FnDescends.j5 k4 t414 t440 true)) = some r := H
               have A102 := Aside0.mk A1020; clear A1020; have HC103 := Aside0.mk H; clear H; have hnb104 := NB432_409.out; have hnc104 := NB409_432.out
               obtain ⟨hcz105_0, hcz105_1, hcz105_2, hcz105_3, hfz105_0, hfz105_1, hfz105_2, hfz105_3⟩ := cf4_ BK432
               obtain ⟨Ao106, co106, eo106⟩ := Kd.N_slice HO_433003.out
               subst eo106
               go_upto_region 31 with (first | ((with_reducible refine gate_callee (f := 17) rfl ?_); refine gL_ (some 148) Try.func17 #[.agg #[.int .i64 t395, .slice Ao11 t396.length co11, .slice Ao12 t399.length co12, .slice Ao106 x433003_4.length co106], .slice Ao14 t405.length co14, .int .i64 t408] ?_; (with_reducible refine (impl_Descend.calls k4 t395 _ _ t396 _ _ t399 _ _ x433003_4 _ _ t405 t408 t440 t443 _ ?side1 ?side2 ?side3 ?side4 ?side5 ?side6 ?side7 ?side8 A102.out).mono ?_); (case side1 => exact rD_ HO_433001); (case side2 => exact (Kd.R_reads' HO_433001.out).2.1); (case side3 => exact rD_ HO_433002); (case side4 => exact (Kd.R_reads' HO_433002.out).2.1); (case side5 => repeat (first | exact (Kd.N_reads' HO_433003.out).2.2 | (with_reducible refine Kd.C_alloc ?_ _) | (with_reducible refine Kd.C_drewN ?_ _) | (with_reducible refine Kd.C_drew ?_))); (case side6 => exact (Kd.N_reads' HO_433003.out).2.1); (case side7 => exact rD_ HO_4); (case side8 => exact (Kd.R_reads' HO_4.out).2.1); rintro e w107 ⟨v441, rfl, ho0, hb⟩; refine ⟨_, rfl, ?_⟩; replace HO_4 := rB_ HO_4 hb; replace HO_410001 := rB_ HO_410001 hb; replace HO_410002 := rB_ HO_410002 hb; replace HO_410003 := Aside0.mk (Kd.N_elder' (by (with_reducible repeat (first | apply Kd.N_alloc | apply Kd.N_drewN | apply Kd.N_drew)); exact HO_410003.out) (Kd.R_base ho0) hb); replace HO_433001 := rB_ HO_433001 hb; replace HO_433002 := rB_ HO_433002 hb; replace HO_433003 := Aside0.mk (Kd.N_elder' (by (with_reducible repeat (first | apply Kd.N_alloc | apply Kd.N_drewN | apply Kd.N_drew)); exact HO_433003.out) (Kd.R_base ho0) hb); have HO442 := rL_ (rN_ ho0 HO_8) HB; replace HO_8 := rE_ HO_8 ho0 hb; replace BK409 := bB_ BK409 hb; replace BK432 := bB_ BK432 hb; replace HB := bS_ HB hb; (try clear hb); (try clear hk); (try clear ho0)))
               (try simp only [Act.put, List.setIfInBounds_toArray, List.set_cons_zero, List.set_cons_succ])
               go_cut [159] (fun v159 wc => ∃ (kq : Nat) (x159_102 : Bool), v159 = .bool x159_102 ∧ Aside0 (laws_FnDescends.j5 kq t414 t440 x159_102 = some r) ∧ Aside0 (kq ≤ k4) ∧ Aside0 (Kd.R k50 50 wc w.heap.size (fun k_ => some k_ ≠ (v441 : Value).ownBlock) (.slice Ao79 t414.length co79) t414) ∧ Aside0 (Kd.R k50 50 wc w.heap.size (fun k_ => some k_ ≠ ((.slice Ao79 t414.length co79) : Value).ownBlock) v441 t440) ∧ Aside0 (Kd.R (Kd.int .i64) 2 wc w.heap.size (fun k_ => some k_ ≠ ((.slice Ao12 t399.length co12) : Value).ownBlock ∧ some k_ ≠ ((.slice Ao12 t399.length co12) : Value).ownBlock) (.slice Ao11 t396.length co11) t396) ∧ Aside0 (Kd.R (Kd.int .i64) 2 wc w.heap.size (fun k_ => some k_ ≠ ((.slice Ao11 t396.length co11) : Value).ownBlock ∧ some k_ ≠ ((.slice Ao11 t396.length co11) : Value).ownBlock) (.slice Ao12 t399.length co12) t399) ∧ Aside0 (Kd.N k52 52 wc w.heap.size (fun k_ => some k_ ≠ ((.slice Ao79 t414.length co79) : Value).ownBlock ∧ some k_ ≠ (v441 : Value).ownBlock ∧ some k_ ≠ ((.slice Ao11 t396.length co11) : Value).ownBlock ∧ some k_ ≠ ((.slice Ao12 t399.length co12) : Value).ownBlock ∧ some k_ ≠ ((.slice Ao11 t396.length co11) : Value).ownBlock ∧ some k_ ≠ ((.slice Ao12 t399.length co12) : Value).ownBlock ∧ some k_ ≠ ((.slice Ao106 x433003_4.length co106) : Value).ownBlock ∧ k_ ≠ gb409 ∧ k_ ≠ gb432) (.slice Ao13 t402.length co13) t402) ∧ Aside0 (Kd.R (Kd.int .i64) 2 wc w.heap.size (fun k_ => some k_ ≠ ((.slice Ao12 t399.length co12) : Value).ownBlock ∧ some k_ ≠ ((.slice Ao12 t399.length co12) : Value).ownBlock) (.slice Ao11 t396.length co11) t396) ∧ Aside0 (Kd.R (Kd.int .i64) 2 wc w.heap.size (fun k_ => some k_ ≠ ((.slice Ao11 t396.length co11) : Value).ownBlock ∧ some k_ ≠ ((.slice Ao11 t396.length co11) : Value).ownBlock) (.slice Ao12 t399.length co12) t399) ∧ Aside0 (Kd.N k52 52 wc w.heap.size (fun k_ => some k_ ≠ ((.slice Ao79 t414.length co79) : Value).ownBlock ∧ some k_ ≠ (v441 : Value).ownBlock ∧ some k_ ≠ ((.slice Ao11 t396.length co11) : Value).ownBlock ∧ some k_ ≠ ((.slice Ao12 t399.length co12) : Value).ownBlock ∧ some k_ ≠ ((.slice Ao13 t402.length co13) : Value).ownBlock ∧ some k_ ≠ ((.slice Ao11 t396.length co11) : Value).ownBlock ∧ some k_ ≠ ((.slice Ao12 t399.length co12) : Value).ownBlock ∧ k_ ≠ gb409 ∧ k_ ≠ gb432) (.slice Ao106 x433003_4.length co106) x433003_4) ∧ Aside0 (wc.heap[gb409]? = some (.cells #[.int .i64 t395, (.slice Ao11 t396.length co11), (.slice Ao12 t399.length co12), (.slice Ao13 t402.length co13)] 30 (0, 0))) ∧ Aside0 (wc.heap[gb432]? = some (.cells #[.int .i64 t395, (.slice Ao11 t396.length co11), (.slice Ao12 t399.length co12), (.slice Ao106 x433003_4.length co106)] 30 (0, 0))) ∧ Aside0 (Below w.heap.size w wc))
               case first =>
                have H := HC103.out; clear HC103
                by_cases c108 : t443 = true
                ·subst c108
                 replace H := ifT_ H; have H' := Aside0.mk H; clear H
                 obtain ⟨Ao109, co109, eo109⟩ := Kd.R_slice HO442.out
                 subst eo109
                 go_wp2
                 go_meet
                 case rel => as_aux_lemma => exact ⟨_, (((t440.length : Int) != (t414.length : Int))), (by first | rfl | (simp; done) | (simp [*]; done)), H', ⟨by have := HJ6.out; have := HK2.out; have := HJ77.out; have := HK4.out; first | omega | exact Nat.le_refl _⟩, ⟨by (try simp only [hl10_2]); (with_reducible repeat (first | apply Kd.R_alloc | apply Kd.R_drewN | apply Kd.R_drew)); exact Kd.R_mono HO_8.out (fun _ hk => hk.2)⟩, ⟨by (try simp only [hl10_2]); (with_reducible repeat (first | apply Kd.R_alloc | apply Kd.R_drewN | apply Kd.R_drew)); exact Kd.R_mono HO442.out (fun _ hk => hk.2)⟩, ⟨by (try simp only [hl10_2]); (with_reducible repeat (first | apply Kd.R_alloc | apply Kd.R_drewN | apply Kd.R_drew)); exact Kd.R_mono HO_410001.out (fun _ hk => ⟨hk.2.1, hk.2.2⟩)⟩, ⟨by (try simp only [hl10_2]); (with_reducible repeat (first | apply Kd.R_alloc | apply Kd.R_drewN | apply Kd.R_drew)); exact Kd.R_mono HO_410002.out (fun _ hk => ⟨hk.2.1, hk.2.2⟩)⟩, ⟨by (try simp only [hl10_2]); (with_reducible repeat (first | apply Kd.N_alloc | apply Kd.N_drewN | apply Kd.N_drew)); exact Kd.N_mono HO_410003.out (fun _ hk => ⟨hk.1.2.1, ⟨hk.2, ⟨hk.1.2.2.1, ⟨hk.1.2.2.2.1, ⟨hk.1.2.2.2.2.1, ⟨hk.1.2.2.2.2.2.1, ⟨hk.1.2.2.2.2.2.2.1, ⟨hk.1.2.2.2.2.2.2.2.1, hk.1.2.2.2.2.2.2.2.2⟩⟩⟩⟩⟩⟩⟩⟩)⟩, ⟨by (try simp only [hl10_2]); (with_reducible repeat (first | apply Kd.R_alloc | apply Kd.R_drewN | apply Kd.R_drew)); exact Kd.R_mono HO_433001.out (fun _ hk => ⟨hk.2.1, hk.2.2⟩)⟩, ⟨by (try simp only [hl10_2]); (with_reducible repeat (first | apply Kd.R_alloc | apply Kd.R_drewN | apply Kd.R_drew)); exact Kd.R_mono HO_433002.out (fun _ hk => ⟨hk.2.1, hk.2.2⟩)⟩, ⟨by (try simp only [hl10_2]); (with_reducible repeat (first | apply Kd.N_alloc | apply Kd.N_drewN | apply Kd.N_drew)); exact Kd.N_mono HO_433003.out (fun _ hk => ⟨hk.1.2.1, ⟨hk.2, ⟨hk.1.2.2.1, ⟨hk.1.2.2.2.1, ⟨hk.1.2.2.2.2.1, ⟨hk.1.2.2.2.2.2.1, ⟨hk.1.2.2.2.2.2.2.1, ⟨hk.1.2.2.2.2.2.2.2.1, hk.1.2.2.2.2.2.2.2.2⟩⟩⟩⟩⟩⟩⟩⟩)⟩, ⟨by (try simp only [hl10_2]); exact bT_ BK409⟩, ⟨by (try simp only [hl10_2]); exact bT_ BK432⟩, ⟨sABelo_14⟩⟩
                ·replace c108 := Bool.eq_false_iff.mpr c108
                 subst c108
                 replace H := ifF_ H; have H' := Aside0.mk H; clear H
                 go_wp2
                 go_meet
                 case rel => as_aux_lemma => exact ⟨_, (true), (by first | rfl | (simp; done) | (simp [*]; done)), H', ⟨by have := HJ6.out; have := HK2.out; have := HJ77.out; have := HK4.out; first | omega | exact Nat.le_refl _⟩, ⟨by (try simp only [hl10_2]); (with_reducible repeat (first | apply Kd.R_alloc | apply Kd.R_drewN | apply Kd.R_drew)); exact Kd.R_mono HO_8.out (fun _ hk => hk.2)⟩, ⟨by (try simp only [hl10_2]); (with_reducible repeat (first | apply Kd.R_alloc | apply Kd.R_drewN | apply Kd.R_drew)); exact Kd.R_mono HO442.out (fun _ hk => hk.2)⟩, ⟨by (try simp only [hl10_2]); (with_reducible repeat (first | apply Kd.R_alloc | apply Kd.R_drewN | apply Kd.R_drew)); exact Kd.R_mono HO_410001.out (fun _ hk => ⟨hk.2.1, hk.2.2⟩)⟩, ⟨by (try simp only [hl10_2]); (with_reducible repeat (first | apply Kd.R_alloc | apply Kd.R_drewN | apply Kd.R_drew)); exact Kd.R_mono HO_410002.out (fun _ hk => ⟨hk.2.1, hk.2.2⟩)⟩, ⟨by (try simp only [hl10_2]); (with_reducible repeat (first | apply Kd.N_alloc | apply Kd.N_drewN | apply Kd.N_drew)); exact Kd.N_mono HO_410003.out (fun _ hk => ⟨hk.1.2.1, ⟨hk.2, ⟨hk.1.2.2.1, ⟨hk.1.2.2.2.1, ⟨hk.1.2.2.2.2.1, ⟨hk.1.2.2.2.2.2.1, ⟨hk.1.2.2.2.2.2.2.1, ⟨hk.1.2.2.2.2.2.2.2.1, hk.1.2.2.2.2.2.2.2.2⟩⟩⟩⟩⟩⟩⟩⟩)⟩, ⟨by (try simp only [hl10_2]); (with_reducible repeat (first | apply Kd.R_alloc | apply Kd.R_drewN | apply Kd.R_drew)); exact Kd.R_mono HO_433001.out (fun _ hk => ⟨hk.2.1, hk.2.2⟩)⟩, ⟨by (try simp only [hl10_2]); (with_reducible repeat (first | apply Kd.R_alloc | apply Kd.R_drewN | apply Kd.R_drew)); exact Kd.R_mono HO_433002.out (fun _ hk => ⟨hk.2.1, hk.2.2⟩)⟩, ⟨by (try simp only [hl10_2]); (with_reducible repeat (first | apply Kd.N_alloc | apply Kd.N_drewN | apply Kd.N_drew)); exact Kd.N_mono HO_433003.out (fun _ hk => ⟨hk.1.2.1, ⟨hk.2, ⟨hk.1.2.2.1, ⟨hk.1.2.2.2.1, ⟨hk.1.2.2.2.2.1, ⟨hk.1.2.2.2.2.2.1, ⟨hk.1.2.2.2.2.2.2.1, ⟨hk.1.2.2.2.2.2.2.2.1, hk.1.2.2.2.2.2.2.2.2⟩⟩⟩⟩⟩⟩⟩⟩)⟩, ⟨by (try simp only [hl10_2]); exact bT_ BK409⟩, ⟨by (try simp only [hl10_2]); exact bT_ BK432⟩, ⟨sABelo_14⟩⟩
               case rest => as_aux_lemma =>
                clear HC103; (try clear c3); (try clear c31); (try clear c31b0); (try clear c84); (try clear c94); (try clear c94b0); (try clear hcz105_0); (try clear hcz105_1); (try clear hcz105_2); (try clear hcz105_3); (try clear hcz85_0); (try clear hcz85_1); (try clear hcz85_2); (try clear hcz85_3); (try clear hcz88_0); (try clear hcz88_1); (try clear hcz88_2); (try clear hcz88_3); (try clear hcz92_0); (try clear hcz92_1); (try clear hcz92_2); (try clear hcz92_3); (try clear hcz93_0); (try clear hcz93_1); (try clear hcz93_2); (try clear hcz93_3); (try clear hfz105_0); (try clear hfz105_1); (try clear hfz105_2); (try clear hfz105_3); (try clear hfz85_0); (try clear hfz85_1); (try clear hfz85_2); (try clear hfz85_3); (try clear hfz88_0); (try clear hfz88_1); (try clear hfz88_2); (try clear hfz88_3); (try clear hfz92_0); (try clear hfz92_1); (try clear hfz92_2); (try clear hfz92_3); (try clear hfz93_0); (try clear hfz93_1); (try clear hfz93_2); (try clear hfz93_3)
                obtain ⟨kq, x159_102, rfl, HA, HJ102, HO_8, HO_16, HO_410001, HO_410002, HO_410003, HO_433001, HO_433002, HO_433003, BK409, BK432, HB⟩ := hcut
                cases kq with
                | zero => exact absurd HA.out (by simp [laws_FnDescends.j5])
                | succ kj102 =>
                 have H := HA.out; clear HA
                 simp only [laws_FnDescends.j5] at H
                 by_cases c110 : x159_102 = true
                 ·subst c110
                  replace H := ifT_ H
                  obtain rfl := Option.some.inj H
                  go_wp2
                  go_ret
                  exact ⟨by first | rfl | (simp [errW_none, errW_some] <;> rfl) | (simp [*, errW_none, errW_some] <;> rfl), sABelo_14⟩
                 ·replace c110 := Bool.eq_false_iff.mpr c110
                  subst c110
                  replace H := ifF_ H; have H' := Aside0.mk H; clear H
                  go_wp2
                  go_loopg [18] kj102 (fun kq v18 w' => ∃ (x18_6 : Int), v18 = .int .i64 x18_6 ∧ Aside0 (laws_FnDescends.l2 kq t414 t440 x18_6 = some r) ∧ Aside0 (kq ≤ kj102) ∧ Aside0 (Kd.R k50 50 w' w.heap.size (fun k_ => some k_ ≠ (v441 : Value).ownBlock) (.slice Ao79 t414.length co79) t414) ∧ Aside0 (Kd.R k50 50 w' w.heap.size (fun k_ => some k_ ≠ ((.slice Ao79 t414.length co79) : Value).ownBlock) v441 t440) ∧ Aside0 (Kd.R (Kd.int .i64) 2 w' w.heap.size (fun k_ => some k_ ≠ ((.slice Ao12 t399.length co12) : Value).ownBlock ∧ some k_ ≠ ((.slice Ao12 t399.length co12) : Value).ownBlock) (.slice Ao11 t396.length co11) t396) ∧ Aside0 (Kd.R (Kd.int .i64) 2 w' w.heap.size (fun k_ => some k_ ≠ ((.slice Ao11 t396.length co11) : Value).ownBlock ∧ some k_ ≠ ((.slice Ao11 t396.length co11) : Value).ownBlock) (.slice Ao12 t399.length co12) t399) ∧ Aside0 (Kd.N k52 52 w' w.heap.size (fun k_ => some k_ ≠ ((.slice Ao79 t414.length co79) : Value).ownBlock ∧ some k_ ≠ (v441 : Value).ownBlock ∧ some k_ ≠ ((.slice Ao11 t396.length co11) : Value).ownBlock ∧ some k_ ≠ ((.slice Ao12 t399.length co12) : Value).ownBlock ∧ some k_ ≠ ((.slice Ao11 t396.length co11) : Value).ownBlock ∧ some k_ ≠ ((.slice Ao12 t399.length co12) : Value).ownBlock ∧ some k_ ≠ ((.slice Ao106 x433003_4.length co106) : Value).ownBlock ∧ k_ ≠ gb409 ∧ k_ ≠ gb432) (.slice Ao13 t402.length co13) t402) ∧ Aside0 (Kd.R (Kd.int .i64) 2 w' w.heap.size (fun k_ => some k_ ≠ ((.slice Ao12 t399.length co12) : Value).ownBlock ∧ some k_ ≠ ((.slice Ao12 t399.length co12) : Value).ownBlock) (.slice Ao11 t396.length co11) t396) ∧ Aside0 (Kd.R (Kd.int .i64) 2 w' w.heap.size (fun k_ => some k_ ≠ ((.slice Ao11 t396.length co11) : Value).ownBlock ∧ some k_ ≠ ((.slice Ao11 t396.length co11) : Value).ownBlock) (.slice Ao12 t399.length co12) t399) ∧ Aside0 (Kd.N k52 52 w' w.heap.size (fun k_ => some k_ ≠ ((.slice Ao79 t414.length co79) : Value).ownBlock ∧ some k_ ≠ (v441 : Value).ownBlock ∧ some k_ ≠ ((.slice Ao11 t396.length co11) : Value).ownBlock ∧ some k_ ≠ ((.slice Ao12 t399.length co12) : Value).ownBlock ∧ some k_ ≠ ((.slice Ao13 t402.length co13) : Value).ownBlock ∧ some k_ ≠ ((.slice Ao11 t396.length co11) : Value).ownBlock ∧ some k_ ≠ ((.slice Ao12 t399.length co12) : Value).ownBlock ∧ k_ ≠ gb409 ∧ k_ ≠ gb432) (.slice Ao106 x433003_4.length co106) x433003_4) ∧ Aside0 (w'.heap[gb409]? = some (.cells #[.int .i64 t395, (.slice Ao11 t396.length co11), (.slice Ao12 t399.length co12), (.slice Ao13 t402.length co13)] 30 (0, 0))) ∧ Aside0 (w'.heap[gb432]? = some (.cells #[.int .i64 t395, (.slice Ao11 t396.length co11), (.slice Ao12 t399.length co12), (.slice Ao106 x433003_4.length co106)] 30 (0, 0))) ∧ Aside0 (Below w.heap.size w w'))
                  case atStart => exact ⟨(0), (by first | rfl | (simp; done) | (simp [*]; done)), H', ⟨Nat.le_refl _⟩, ⟨by (try simp only [hl10_2]); (with_reducible repeat (first | apply Kd.R_alloc | apply Kd.R_drewN | apply Kd.R_drew)); exact HO_8.out⟩, ⟨by (try simp only [hl10_2]); (with_reducible repeat (first | apply Kd.R_alloc | apply Kd.R_drewN | apply Kd.R_drew)); exact HO_16.out⟩, ⟨by (try simp only [hl10_2]); (with_reducible repeat (first | apply Kd.R_alloc | apply Kd.R_drewN | apply Kd.R_drew)); exact HO_410001.out⟩, ⟨by (try simp only [hl10_2]); (with_reducible repeat (first | apply Kd.R_alloc | apply Kd.R_drewN | apply Kd.R_drew)); exact HO_410002.out⟩, ⟨by (try simp only [hl10_2]); (with_reducible repeat (first | apply Kd.N_alloc | apply Kd.N_drewN | apply Kd.N_drew)); exact HO_410003.out⟩, ⟨by (try simp only [hl10_2]); (with_reducible repeat (first | apply Kd.R_alloc | apply Kd.R_drewN | apply Kd.R_drew)); exact HO_433001.out⟩, ⟨by (try simp only [hl10_2]); (with_reducible repeat (first | apply Kd.R_alloc | apply Kd.R_drewN | apply Kd.R_drew)); exact HO_433002.out⟩, ⟨by (try simp only [hl10_2]); (with_reducible repeat (first | apply Kd.N_alloc | apply Kd.N_drewN | apply Kd.N_drew)); exact HO_433003.out⟩, ⟨by (try simp only [hl10_2]); exact bT_ BK409⟩, ⟨by (try simp only [hl10_2]); exact bT_ BK432⟩, ⟨sABelo_14⟩⟩
                  case round => as_aux_lemma =>
                   clear H'; (try clear c3); (try clear c31); (try clear c31b0); (try clear c84); (try clear c94); (try clear c94b0); (try clear c110); (try clear hcz105_0); (try clear hcz105_1); (try clear hcz105_2); (try clear hcz105_3); (try clear hcz85_0); (try clear hcz85_1); (try clear hcz85_2); (try clear hcz85_3); (try clear hcz88_0); (try clear hcz88_1); (try clear hcz88_2); (try clear hcz88_3); (try clear hcz92_0); (try clear hcz92_1); (try clear hcz92_2); (try clear hcz92_3); (try clear hcz93_0); (try clear hcz93_1); (try clear hcz93_2); (try clear hcz93_3); (try clear hfz105_0); (try clear hfz105_1); (try clear hfz105_2); (try clear hfz105_3); (try clear hfz85_0); (try clear hfz85_1); (try clear hfz85_2); (try clear hfz85_3); (try clear hfz88_0); (try clear hfz88_1); (try clear hfz88_2); (try clear hfz88_3); (try clear hfz92_0); (try clear hfz92_1); (try clear hfz92_2); (try clear hfz92_3); (try clear hfz93_0); (try clear hfz93_1); (try clear hfz93_2); (try clear hfz93_3)
                   obtain ⟨x18_6, rfl, HA, HK6, HO_8, HO_16, HO_410001, HO_410002, HO_410003, HO_433001, HO_433002, HO_433003, BK409, BK432, HB⟩ := hrel
                   cases gk with
                   | zero => exact absurd HA.out (by simp [laws_FnDescends.l2])
                   | succ k6 =>
                    have H := HA.out; clear HA
                    simp only [laws_FnDescends.l2] at H
                    by_cases c111 : x18_6 < (t414.length : Int)
                    ·rw [if_pos c111] at H
                     have c111b0 := decide_eq_true c111
                     have c111b0q := c111b0
                     (try simp only [hl10_2] at c111b0q)
                     clear c111
                     obtain ⟨c112, H⟩ := ifS_ H
                     have c112b0 : decide (0 ≤ x18_6) = true := decide_eq_true c112
                     clear c112
                     obtain ⟨c113, H⟩ := ifS_ H
                     have c113b0 : decide (x18_6 < (t440.length : Int)) = true := decide_eq_true c113
                     have c113b0q := c113b0
                     (try simp only [hl10_2] at c113b0q)
                     clear c113
                     by_cases c114 : (!(((rd_T50 t440 x18_6).f0) == ((rd_T50 t414 x18_6).f0)) || (!(((rd_T50 t440 x18_6).f1) == ((rd_T50 t414 x18_6).f1)) || (!(((rd_T50 t440 x18_6).f2) == ((rd_T50 t414 x18_6).f2))))) = true
                     ·rw [if_pos c114] at H
                      have c114b0 : (!(((rd_T50 t440 x18_6).f0) == ((rd_T50 t414 x18_6).f0)) || (!(((rd_T50 t440 x18_6).f1) == ((rd_T50 t414 x18_6).f1)) || (!(((rd_T50 t440 x18_6).f2) == ((rd_T50 t414 x18_6).f2))))) = true := c114
                      clear c114
                      obtain rfl := Option.some.inj H
                      try go_wp2
                      replace HO_8 := Aside0.mk (Kd.R_drew HO_8.out)
                      replace HO_16 := Aside0.mk (Kd.R_drew HO_16.out)
                      replace HO_410001 := Aside0.mk (Kd.R_drew HO_410001.out)
                      replace HO_410002 := Aside0.mk (Kd.R_drew HO_410002.out)
                      replace HO_410003 := Aside0.mk (Kd.N_drew HO_410003.out)
                      replace HO_433001 := Aside0.mk (Kd.R_drew HO_433001.out)
                      replace HO_433002 := Aside0.mk (Kd.R_drew HO_433002.out)
                      replace HO_433003 := Aside0.mk (Kd.N_drew HO_433003.out)
                      replace BK409 := Aside0.mk (blk_drew BK409.out)
                      replace BK432 := Aside0.mk (blk_drew BK432.out)
                      replace HB := Aside0.mk (below_drew1 HB.out)
                      obtain ⟨Ao116, co116, eo116⟩ := Kd.R_slice HO_16.out
                      (first | subst eo116 | (injection eo116 with f1_ f2_ f3_; have f4_ := f1_.symm; have f5_ := f3_.symm; clear f1_ f2_ f3_; subst f4_; subst f5_))
                      have p444 : 0 ≤ (x18_6 : Int) := dA_
                      have q444 : x18_6 < (t440.length : Int) := dA_
                      obtain ⟨ad444, e444, hx444_0, hx444_1, hx444_2⟩ := at_T50 (Kd.R_reads' HO_16.out).2.2 x18_6 p444 q444
                      cases e444
                      replace p444 := eq_true p444; replace q444 := eq_true q444
                      have p445 : 0 ≤ (x18_6 : Int) := dA_
                      have q445 : x18_6 < (t414.length : Int) := dA_
                      obtain ⟨ad445, e445, hx445_0, hx445_1, hx445_2⟩ := at_T50 (Kd.R_reads' HO_8.out).2.2 x18_6 p445 q445
                      cases e445
                      replace p445 := eq_true p445; replace q445 := eq_true q445
                      refine start_ (n := 9) (S := fun w' => w'.cell? (ad444.add ((x18_6).toNat * 3)) = some (.int .i64 ((rd_T50 t440 x18_6).f0)) ∧ w'.cell? ⟨(ad444.add ((x18_6).toNat * 3)).block, (ad444.add ((x18_6).toNat * 3)).off + 1, none⟩ = some (.int .i64 ((rd_T50 t440 x18_6).f1)) ∧ w'.cell? ⟨(ad444.add ((x18_6).toNat * 3)).block, (ad444.add ((x18_6).toNat * 3)).off + 2, none⟩ = some (.int .i64 ((rd_T50 t440 x18_6).f2)) ∧ w'.cell? (ad445.add ((x18_6).toNat * 3)) = some (.int .i64 ((rd_T50 t414 x18_6).f0)) ∧ w'.cell? ⟨(ad445.add ((x18_6).toNat * 3)).block, (ad445.add ((x18_6).toNat * 3)).off + 1, none⟩ = some (.int .i64 ((rd_T50 t414 x18_6).f1)) ∧ w'.cell? ⟨(ad445.add ((x18_6).toNat * 3)).block, (ad445.add ((x18_6).toNat * 3)).off + 2, none⟩ = some (.int .i64 ((rd_T50 t414 x18_6).f2))) (ds := []) #[false, false, false, false, false, false, false, false, false] (by kernel_rfl) rfl rfl ⟨hx444_0, hx444_1, hx444_2, hx445_0, hx445_1, hx445_2⟩ (fun hHeld => ?_); refine with_tabW laws_FnDescends.tab36 laws_FnDescends.bits36 (fun HT_ HW_ => ?_)
                      generalize wr.drew = w115 at HO_8 HO_16 HO_410001 HO_410002 HO_410003 HO_433001 HO_433002 HO_433003 BK409 BK432 HB hx444_0 hx444_1 hx444_2 hx445_0 hx445_1 hx445_2 hHeld ⊢
                      refine pT_ 0 (some 166) #[true, false, false, false, false, false, false, false, false] HT_ ?_
                      refine pT_ 1 (some 167) #[true, true, false, false, false, false, false, false, false] HT_ ?_
                      refine pT_ 2 (some 168) #[true, true, true, false, false, false, false, false, false] HT_ ?_
                      refine pT_ 4 (some 170) #[true, true, true, false, true, false, false, false, false] HT_ ?_
                      refine pT_ 5 (some 171) #[true, true, true, false, true, true, false, false, false] HT_ ?_
                      refine pT_ 6 (some 172) #[true, true, true, false, true, true, true, false, false] HT_ ?_
                      refine tT_ 3 (some 169) #[true, true, true, true, true, true, true, false, false] HT_ HW_ hHeld ?_ (hy := by rintro w' ⟨s0, s1, s2, s3, s4, s5⟩; go_simp; with_reducible rfl)
                      refine tT_ 7 (some 173) #[true, true, true, true, true, true, true, true, false] HT_ HW_ hHeld ?_ (hy := by rintro w' ⟨s0, s1, s2, s3, s4, s5⟩; go_simp; with_reducible rfl)
                      refine pT_ 8 (some 174) #[true, true, true, true, true, true, true, true, true] HT_ ?_
                      refine done_ (done_of HT_.out (by kernel_rfl)) ?_
                      try go_wp2
                      go_ret
                      exact ⟨by first | rfl | (simp [errW_none, errW_some] <;> rfl) | (simp [*, errW_none, errW_some] <;> rfl), sABelo_14⟩
                     ·rw [if_neg c114] at H
                      have c114b0 : (!(((rd_T50 t440 x18_6).f0) == ((rd_T50 t414 x18_6).f0)) || (!(((rd_T50 t440 x18_6).f1) == ((rd_T50 t414 x18_6).f1)) || (!(((rd_T50 t440 x18_6).f2) == ((rd_T50 t414 x18_6).f2))))) = false := by simpa using c114
                      clear c114; have H' := Aside0.mk H; clear H
                      try go_wp2
                      replace HO_8 := Aside0.mk (Kd.R_drew HO_8.out)
                      replace HO_16 := Aside0.mk (Kd.R_drew HO_16.out)
                      replace HO_410001 := Aside0.mk (Kd.R_drew HO_410001.out)
                      replace HO_410002 := Aside0.mk (Kd.R_drew HO_410002.out)
                      replace HO_410003 := Aside0.mk (Kd.N_drew HO_410003.out)
                      replace HO_433001 := Aside0.mk (Kd.R_drew HO_433001.out)
                      replace HO_433002 := Aside0.mk (Kd.R_drew HO_433002.out)
                      replace HO_433003 := Aside0.mk (Kd.N_drew HO_433003.out)
                      replace BK409 := Aside0.mk (blk_drew BK409.out)
                      replace BK432 := Aside0.mk (blk_drew BK432.out)
                      replace HB := Aside0.mk (below_drew1 HB.out)
                      obtain ⟨Ao118, co118, eo118⟩ := Kd.R_slice HO_16.out
                      (first | subst eo118 | (injection eo118 with f1_ f2_ f3_; have f4_ := f1_.symm; have f5_ := f3_.symm; clear f1_ f2_ f3_; subst f4_; subst f5_))
                      have p444 : 0 ≤ (x18_6 : Int) := dA_
                      have q444 : x18_6 < (t440.length : Int) := dA_
                      obtain ⟨ad444, e444, hx444_0, hx444_1, hx444_2⟩ := at_T50 (Kd.R_reads' HO_16.out).2.2 x18_6 p444 q444
                      cases e444
                      replace p444 := eq_true p444; replace q444 := eq_true q444
                      have p445 : 0 ≤ (x18_6 : Int) := dA_
                      have q445 : x18_6 < (t414.length : Int) := dA_
                      obtain ⟨ad445, e445, hx445_0, hx445_1, hx445_2⟩ := at_T50 (Kd.R_reads' HO_8.out).2.2 x18_6 p445 q445
                      cases e445
                      replace p445 := eq_true p445; replace q445 := eq_true q445
                      refine start_ (n := 9) (S := fun w' => w'.cell? (ad444.add ((x18_6).toNat * 3)) = some (.int .i64 ((rd_T50 t440 x18_6).f0)) ∧ w'.cell? ⟨(ad444.add ((x18_6).toNat * 3)).block, (ad444.add ((x18_6).toNat * 3)).off + 1, none⟩ = some (.int .i64 ((rd_T50 t440 x18_6).f1)) ∧ w'.cell? ⟨(ad444.add ((x18_6).toNat * 3)).block, (ad444.add ((x18_6).toNat * 3)).off + 2, none⟩ = some (.int .i64 ((rd_T50 t440 x18_6).f2)) ∧ w'.cell? (ad445.add ((x18_6).toNat * 3)) = some (.int .i64 ((rd_T50 t414 x18_6).f0)) ∧ w'.cell? ⟨(ad445.add ((x18_6).toNat * 3)).block, (ad445.add ((x18_6).toNat * 3)).off + 1, none⟩ = some (.int .i64 ((rd_T50 t414 x18_6).f1)) ∧ w'.cell? ⟨(ad445.add ((x18_6).toNat * 3)).block, (ad445.add ((x18_6).toNat * 3)).off + 2, none⟩ = some (.int .i64 ((rd_T50 t414 x18_6).f2))) (ds := []) #[false, false, false, false, false, false, false, false, false] (by kernel_rfl) rfl rfl ⟨hx444_0, hx444_1, hx444_2, hx445_0, hx445_1, hx445_2⟩ (fun hHeld => ?_); refine with_tabW laws_FnDescends.tab36 laws_FnDescends.bits36 (fun HT_ HW_ => ?_)
                      generalize wr.drew = w117 at HO_8 HO_16 HO_410001 HO_410002 HO_410003 HO_433001 HO_433002 HO_433003 BK409 BK432 HB hx444_0 hx444_1 hx444_2 hx445_0 hx445_1 hx445_2 hHeld ⊢
                      refine pT_ 0 (some 166) #[true, false, false, false, false, false, false, false, false] HT_ ?_
                      refine pT_ 1 (some 167) #[true, true, false, false, false, false, false, false, false] HT_ ?_
                      refine pT_ 2 (some 168) #[true, true, true, false, false, false, false, false, false] HT_ ?_
                      refine pT_ 4 (some 170) #[true, true, true, false, true, false, false, false, false] HT_ ?_
                      refine pT_ 5 (some 171) #[true, true, true, false, true, true, false, false, false] HT_ ?_
                      refine pT_ 6 (some 172) #[true, true, true, false, true, true, true, false, false] HT_ ?_
                      refine tT_ 3 (some 169) #[true, true, true, true, true, true, true, false, false] HT_ HW_ hHeld ?_ (hy := by rintro w' ⟨s0, s1, s2, s3, s4, s5⟩; go_simp; with_reducible rfl)
                      refine tT_ 7 (some 173) #[true, true, true, true, true, true, true, true, false] HT_ HW_ hHeld ?_ (hy := by rintro w' ⟨s0, s1, s2, s3, s4, s5⟩; go_simp; with_reducible rfl)
                      refine pT_ 8 (some 174) #[true, true, true, true, true, true, true, true, true] HT_ ?_
                      refine done_ (done_of HT_.out (by kernel_rfl)) ?_
                      try go_wp2
                      go_roundg k6
                      case measure => as_aux_lemma => have := HJ6.out; have := HK2.out; have := HJ77.out; have := HK4.out; have := HJ102.out; have := HK6.out; omega
                      case rel => as_aux_lemma => exact ⟨(wrap64 (x18_6 + 1)), (by first | rfl | (simp; done) | (simp [*]; done)), H', ⟨by have := HJ6.out; have := HK2.out; have := HJ77.out; have := HK4.out; have := HJ102.out; have := HK6.out; omega⟩, ⟨by (try simp only [hl10_2]); (with_reducible repeat (first | apply Kd.R_alloc | apply Kd.R_drewN | apply Kd.R_drew)); exact HO_8.out⟩, ⟨by (try simp only [hl10_2]); (with_reducible repeat (first | apply Kd.R_alloc | apply Kd.R_drewN | apply Kd.R_drew)); exact HO_16.out⟩, ⟨by (try simp only [hl10_2]); (with_reducible repeat (first | apply Kd.R_alloc | apply Kd.R_drewN | apply Kd.R_drew)); exact HO_410001.out⟩, ⟨by (try simp only [hl10_2]); (with_reducible repeat (first | apply Kd.R_alloc | apply Kd.R_drewN | apply Kd.R_drew)); exact HO_410002.out⟩, ⟨by (try simp only [hl10_2]); (with_reducible repeat (first | apply Kd.N_alloc | apply Kd.N_drewN | apply Kd.N_drew)); exact HO_410003.out⟩, ⟨by (try simp only [hl10_2]); (with_reducible repeat (first | apply Kd.R_alloc | apply Kd.R_drewN | apply Kd.R_drew)); exact HO_433001.out⟩, ⟨by (try simp only [hl10_2]); (with_reducible repeat (first | apply Kd.R_alloc | apply Kd.R_drewN | apply Kd.R_drew)); exact HO_433002.out⟩, ⟨by (try simp only [hl10_2]); (with_reducible repeat (first | apply Kd.N_alloc | apply Kd.N_drewN | apply Kd.N_drew)); exact HO_433003.out⟩, ⟨by (try simp only [hl10_2]); exact bT_ BK409⟩, ⟨by (try simp only [hl10_2]); exact bT_ BK432⟩, ⟨sABelo_14⟩⟩
                    ·rw [if_neg c111] at H
                     have c111b0 := decide_eq_false c111
                     have c111b0q := c111b0
                     (try simp only [hl10_2] at c111b0q)
                     clear c111
                     obtain rfl := Option.some.inj H
                     go_wp2
                     go_ret
                     exact ⟨by first | rfl | (simp [errW_none, errW_some] <;> rfl) | (simp [*, errW_none, errW_some] <;> rfl), sABelo_14⟩
     ·replace c22 := Bool.eq_false_iff.mpr c22
      subst c22
      replace H := ifF_ H
      obtain rfl := Option.some.inj H
      go_wp2
      go_ret
      exact ⟨by first | rfl | (simp [errW_none, errW_some] <;> rfl) | (simp [*, errW_none, errW_some] <;> rfl), sABelo_14⟩

/-- THE ONE PURE STATEMENT of laws_FnDescends: yours. -/
def laws_FnDescends.Pure : Prop := ∀ (l0 : List Int), l0.length ≤ maxLen → l0.length * 1 ≤ 140737488351232 → (∀ x ∈ l0, (Lit.int .u8 x).wf = true) → ∃ k, laws_FnDescends.f k l0 = some true
theorem laws_FnDescends.walk (P : laws_FnDescends.Pure) (a0 : Option Addr) (len0 cap0 : Nat) (z0 : List Int) (w : World) (w0 : (a0 = none ∧ len0 = 0 ∧ cap0 = 0 ∧ z0 = []) ∨ ∃ x, a0 = some x ∧ len0 ≤ cap0 ∧ cap0 ≤ maxLen ∧ z0.length = cap0 ∧ (∀ i, i < z0.length → w.cell? (x.add i) = some (.int .u8 (z0.getD i 0))) ∧ ∀ n ∈ z0, (Lit.int .u8 n).wf = true) (y0 : len0 * 1 ≤ 140737488351232) :
  Calls Try.prog 6 #[.slice a0 len0 cap0] w fun e w' => e = .returned (.bool true) ∧ Below w.heap.size w w' := by
 obtain ⟨l0, rfl, hr0, hm0, hw0, hc0⟩ := ReadsInt.ofRowC w0
 obtain ⟨k, h⟩ := P l0 hm0 y0 hw0
 refine (laws_FnDescends.calls k _ _ l0 true w (Kd.C_of_reads (d := (0 : Int)) (h1 := fun _ => rfl) hr0) hc0 h).mono ?_
 rintro e w' ⟨rfl, hd⟩
 exact ⟨rfl, hd⟩

end Go.Proofs.Ytcjhbmjimjbphaa.QFnDescends
