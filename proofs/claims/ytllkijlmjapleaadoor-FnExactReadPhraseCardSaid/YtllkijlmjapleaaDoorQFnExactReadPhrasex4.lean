-- Written by a program of this session out of the printer's texts and contracts of its own.
import Derived.Test.YtllkijlmjapleaaDoorQFnExactReadPhrasex0
import Derived.Test.YtllkijlmjapleaaDoorQFnExactReadPhrasex1
import Derived.Test.YtllkijlmjapleaaDoorQFnExactReadPhrasex2
import Derived.Test.YtllkijlmjapleaaDoorQFnExactReadPhrasex3
namespace Go.Proofs.YtllkijlmjapleaaDoor.QFnExactReadPhrase
open Go.RowKit Go.Proofs.YtllkijlmjapleaaDoorW.PrintWords Go.Proofs.YtllkijlmjapleaaDoorW.PrintLast Go.Proofs.YtllkijlmjapleaaDoorW.PrintMore
attribute [local go_sem] max2_int min2_int max_two min_two max_three min_three max_four min_four   -- for this text's walks alone
set_option linter.unusedVariables false
set_option linter.unusedSimpArgs false

/-! ### spec_ReadPhrase: function 9 -/
mutual
def spec_ReadPhrase.j0 : Nat → ByteArray → Int → Bool → Option (Int × Int × Int × Int × Int × Bool)
  | 0, _, _, _ => none
  | k + 1, x0, x1, x20 => if x20 = true then (some (0, 0, 0, 0, 0, false)) else (spec_ReadPhrase.l0 k x0 x1 0)
def spec_ReadPhrase.l0 : Nat → ByteArray → Int → Int → Option (Int × Int × Int × Int × Int × Bool)
  | 0, _, _, _ => none
  | k + 1, x0, x1, x6 => if x6 ≤ 8 then (spec_ReadPhrase.l1 k x0 x1 x6 0) else (some (0, 0, 0, 0, 0, false))
def spec_ReadPhrase.l1 : Nat → ByteArray → Int → Int → Int → Option (Int × Int × Int × Int × Int × Bool)
  | 0, _, _, _, _ => none
  | k + 1, x0, x1, x6, x7 => if x7 ≤ 12 then (if ((x7 == 0) != (x6 == 0)) = true then (spec_ReadPhrase.j3 k x0 x1 x6 x7 true x6 x7 0 0 0) else ((spec_l23Wind.f k x6 x7 0 0 0 x1).bind fun t172 => ((spec_l23Ahead.f x0 t172).bind fun t173 => (spec_ReadPhrase.j3 k x0 x1 x6 x7 (!t173) x6 x7 0 0 0)))) else (spec_ReadPhrase.l0 k x0 x1 (wrap64 (x6 + 1)))
def spec_ReadPhrase.j3 : Nat → ByteArray → Int → Int → Int → Bool → Int → Int → Int → Int → Int → Option (Int × Int × Int × Int × Int × Bool)
  | 0, _, _, _, _, _, _, _, _, _, _ => none
  | k + 1, x0, x1, x6, x7, x45, x172000, x172001, x172002, x172003, x172004 => if x45 = true then (spec_ReadPhrase.l1 k x0 x1 x6 (wrap64 (x7 + 1))) else (spec_ReadPhrase.l2 k x0 x1 x6 x7 x172000 x172001 0 x172003 x172004)
def spec_ReadPhrase.l2 : Nat → ByteArray → Int → Int → Int → Int → Int → Int → Int → Int → Option (Int × Int × Int × Int × Int × Bool)
  | 0, _, _, _, _, _, _, _, _, _ => none
  | k + 1, x0, x1, x6, x7, x172000, x172001, x172002, x172003, x172004 => if x172002 ≤ 12 then ((spec_l23Wind.f k x172000 x172001 x172002 x172003 x172004 x1).bind fun t174 => ((spec_l23Later.f k x172000 x172001 x172002 x172003 x172004 x1).bind fun t175 => (if t174.size + t175.size ≤ 9223372036854775807 then (if (t174 ++ t175).size + 2 ≤ 9223372036854775807 then ((spec_l23Ahead.f x0 ((t174 ++ t175) ++ (⟨#[46, 32]⟩ : ByteArray))).bind fun t176 => (if t176 = true then (spec_ReadPhrase.l3 k x0 x1 x6 x7 0 x172000 x172001 x172002 x172003 x172004) else (spec_ReadPhrase.l2 k x0 x1 x6 x7 x172000 x172001 (wrap64 (x172002 + 1)) x172003 x172004))) else (none)) else (none)))) else (spec_ReadPhrase.l1 k x0 x1 x6 (wrap64 (x7 + 1)))
def spec_ReadPhrase.l3 : Nat → ByteArray → Int → Int → Int → Int → Int → Int → Int → Int → Int → Option (Int × Int × Int × Int × Int × Bool)
  | 0, _, _, _, _, _, _, _, _, _, _ => none
  | k + 1, x0, x1, x6, x7, x10, x172000, x172001, x172002, x172003, x172004 => if x10 ≤ 3 then (spec_ReadPhrase.l4 k x0 x1 x6 x7 x10 0 x172000 x172001 x172002 x172003 x172004) else (spec_ReadPhrase.l2 k x0 x1 x6 x7 x172000 x172001 (wrap64 (x172002 + 1)) x172003 x172004)
def spec_ReadPhrase.l4 : Nat → ByteArray → Int → Int → Int → Int → Int → Int → Int → Int → Int → Int → Option (Int × Int × Int × Int × Int × Bool)
  | 0, _, _, _, _, _, _, _, _, _, _, _ => none
  | k + 1, x0, x1, x6, x7, x10, x11, x172000, x172001, x172002, x172003, x172004 => if x11 ≤ 100 then ((spec_l23Ok.f x6 x7 x172002 x10 x11).bind fun t178 => (if t178 = true then ((spec_Phrase.f k x6 x7 x172002 x10 x11 x1).bind fun t179 => (if t179.toList = x0.toList then (some (x6, x7, x172002, x10, x11, true)) else (spec_ReadPhrase.l4 k x0 x1 x6 x7 x10 (wrap64 (x11 + 1)) x172000 x172001 x172002 x172003 x172004))) else (spec_ReadPhrase.l4 k x0 x1 x6 x7 x10 (wrap64 (x11 + 1)) x172000 x172001 x172002 x172003 x172004))) else (spec_ReadPhrase.l3 k x0 x1 x6 x7 (wrap64 (x10 + 1)) x172000 x172001 x172002 x172003 x172004)
end
def spec_ReadPhrase.f (k : Nat) (a0 : ByteArray) (a1 : Int) : Option (Int × Int × Int × Int × Int × Bool) := (spec_l2In.f a1 1 3).bind fun t170 => (if t170 = true then (spec_ReadPhrase.j0 k a0 a1 (decide ((a0.size : Int) > 200))) else (spec_ReadPhrase.j0 k a0 a1 true))
theorem spec_ReadPhrase.mono_l : ∀ k, (∀ y0 y1 y2, LeO (spec_ReadPhrase.j0 k y0 y1 y2) (spec_ReadPhrase.j0 (k + 1) y0 y1 y2)) ∧ (∀ y0 y1 y2, LeO (spec_ReadPhrase.l0 k y0 y1 y2) (spec_ReadPhrase.l0 (k + 1) y0 y1 y2)) ∧ (∀ y0 y1 y2 y3, LeO (spec_ReadPhrase.l1 k y0 y1 y2 y3) (spec_ReadPhrase.l1 (k + 1) y0 y1 y2 y3)) ∧ (∀ y0 y1 y2 y3 y4 y5 y6 y7 y8 y9, LeO (spec_ReadPhrase.j3 k y0 y1 y2 y3 y4 y5 y6 y7 y8 y9) (spec_ReadPhrase.j3 (k + 1) y0 y1 y2 y3 y4 y5 y6 y7 y8 y9)) ∧ (∀ y0 y1 y2 y3 y4 y5 y6 y7 y8, LeO (spec_ReadPhrase.l2 k y0 y1 y2 y3 y4 y5 y6 y7 y8) (spec_ReadPhrase.l2 (k + 1) y0 y1 y2 y3 y4 y5 y6 y7 y8)) ∧ (∀ y0 y1 y2 y3 y4 y5 y6 y7 y8 y9, LeO (spec_ReadPhrase.l3 k y0 y1 y2 y3 y4 y5 y6 y7 y8 y9) (spec_ReadPhrase.l3 (k + 1) y0 y1 y2 y3 y4 y5 y6 y7 y8 y9)) ∧ (∀ y0 y1 y2 y3 y4 y5 y6 y7 y8 y9 y10, LeO (spec_ReadPhrase.l4 k y0 y1 y2 y3 y4 y5 y6 y7 y8 y9 y10) (spec_ReadPhrase.l4 (k + 1) y0 y1 y2 y3 y4 y5 y6 y7 y8 y9 y10))
  | 0 => ⟨fun _ _ _ r h => by simp [spec_ReadPhrase.j0] at h, fun _ _ _ r h => by simp [spec_ReadPhrase.l0] at h, fun _ _ _ _ r h => by simp [spec_ReadPhrase.l1] at h, fun _ _ _ _ _ _ _ _ _ _ r h => by simp [spec_ReadPhrase.j3] at h, fun _ _ _ _ _ _ _ _ _ r h => by simp [spec_ReadPhrase.l2] at h, fun _ _ _ _ _ _ _ _ _ _ r h => by simp [spec_ReadPhrase.l3] at h, fun _ _ _ _ _ _ _ _ _ _ _ r h => by simp [spec_ReadPhrase.l4] at h⟩
  | k + 1 => by
    obtain ⟨ih0, ih1, ih2, ih3, ih4, ih5, ih6⟩ := spec_ReadPhrase.mono_l k
    refine ⟨?_, ?_, ?_, ?_, ?_, ?_, ?_⟩
    · intro y0 y1 y2
      unfold spec_ReadPhrase.j0
      repeat' first
      | (with_reducible exact ih0 _ _ _)
      | (with_reducible exact ih1 _ _ _)
      | (with_reducible exact ih2 _ _ _ _)
      | (with_reducible exact ih3 _ _ _ _ _ _ _ _ _ _)
      | (with_reducible exact ih4 _ _ _ _ _ _ _ _ _)
      | (with_reducible exact ih5 _ _ _ _ _ _ _ _ _ _)
      | (with_reducible exact ih6 _ _ _ _ _ _ _ _ _ _ _)
      | (with_reducible exact spec_Phrase.mono _ _ _ _ _ _ _)
      | (with_reducible exact spec_l23Later.mono _ _ _ _ _ _ _)
      | (with_reducible exact spec_l23Wind.mono _ _ _ _ _ _ _)
      | (with_reducible exact LeO.refl _)
      | (with_reducible exact LeO.none _)
      | (with_reducible refine LeO.ite ?_ ?_)
      | (with_reducible refine LeO.bind ?_ (fun _ => ?_))
      | exact ih0 _ _ _
      | exact ih1 _ _ _
      | exact ih2 _ _ _ _
      | exact ih3 _ _ _ _ _ _ _ _ _ _
      | exact ih4 _ _ _ _ _ _ _ _ _
      | exact ih5 _ _ _ _ _ _ _ _ _ _
      | exact ih6 _ _ _ _ _ _ _ _ _ _ _
      | exact spec_Phrase.mono _ _ _ _ _ _ _
      | exact spec_l23Later.mono _ _ _ _ _ _ _
      | exact spec_l23Wind.mono _ _ _ _ _ _ _
      | exact LeO.none _
      | refine LeO.ite ?_ ?_
      | refine LeO.bind ?_ (fun _ => ?_)
    · intro y0 y1 y2
      unfold spec_ReadPhrase.l0
      repeat' first
      | (with_reducible exact ih0 _ _ _)
      | (with_reducible exact ih1 _ _ _)
      | (with_reducible exact ih2 _ _ _ _)
      | (with_reducible exact ih3 _ _ _ _ _ _ _ _ _ _)
      | (with_reducible exact ih4 _ _ _ _ _ _ _ _ _)
      | (with_reducible exact ih5 _ _ _ _ _ _ _ _ _ _)
      | (with_reducible exact ih6 _ _ _ _ _ _ _ _ _ _ _)
      | (with_reducible exact spec_Phrase.mono _ _ _ _ _ _ _)
      | (with_reducible exact spec_l23Later.mono _ _ _ _ _ _ _)
      | (with_reducible exact spec_l23Wind.mono _ _ _ _ _ _ _)
      | (with_reducible exact LeO.refl _)
      | (with_reducible exact LeO.none _)
      | (with_reducible refine LeO.ite ?_ ?_)
      | (with_reducible refine LeO.bind ?_ (fun _ => ?_))
      | exact ih0 _ _ _
      | exact ih1 _ _ _
      | exact ih2 _ _ _ _
      | exact ih3 _ _ _ _ _ _ _ _ _ _
      | exact ih4 _ _ _ _ _ _ _ _ _
      | exact ih5 _ _ _ _ _ _ _ _ _ _
      | exact ih6 _ _ _ _ _ _ _ _ _ _ _
      | exact spec_Phrase.mono _ _ _ _ _ _ _
      | exact spec_l23Later.mono _ _ _ _ _ _ _
      | exact spec_l23Wind.mono _ _ _ _ _ _ _
      | exact LeO.none _
      | refine LeO.ite ?_ ?_
      | refine LeO.bind ?_ (fun _ => ?_)
    · intro y0 y1 y2 y3
      unfold spec_ReadPhrase.l1
      repeat' first
      | (with_reducible exact ih0 _ _ _)
      | (with_reducible exact ih1 _ _ _)
      | (with_reducible exact ih2 _ _ _ _)
      | (with_reducible exact ih3 _ _ _ _ _ _ _ _ _ _)
      | (with_reducible exact ih4 _ _ _ _ _ _ _ _ _)
      | (with_reducible exact ih5 _ _ _ _ _ _ _ _ _ _)
      | (with_reducible exact ih6 _ _ _ _ _ _ _ _ _ _ _)
      | (with_reducible exact spec_Phrase.mono _ _ _ _ _ _ _)
      | (with_reducible exact spec_l23Later.mono _ _ _ _ _ _ _)
      | (with_reducible exact spec_l23Wind.mono _ _ _ _ _ _ _)
      | (with_reducible exact LeO.refl _)
      | (with_reducible exact LeO.none _)
      | (with_reducible refine LeO.ite ?_ ?_)
      | (with_reducible refine LeO.bind ?_ (fun _ => ?_))
      | exact ih0 _ _ _
      | exact ih1 _ _ _
      | exact ih2 _ _ _ _
      | exact ih3 _ _ _ _ _ _ _ _ _ _
      | exact ih4 _ _ _ _ _ _ _ _ _
      | exact ih5 _ _ _ _ _ _ _ _ _ _
      | exact ih6 _ _ _ _ _ _ _ _ _ _ _
      | exact spec_Phrase.mono _ _ _ _ _ _ _
      | exact spec_l23Later.mono _ _ _ _ _ _ _
      | exact spec_l23Wind.mono _ _ _ _ _ _ _
      | exact LeO.none _
      | refine LeO.ite ?_ ?_
      | refine LeO.bind ?_ (fun _ => ?_)
    · intro y0 y1 y2 y3 y4 y5 y6 y7 y8 y9
      unfold spec_ReadPhrase.j3
      repeat' first
      | (with_reducible exact ih0 _ _ _)
      | (with_reducible exact ih1 _ _ _)
      | (with_reducible exact ih2 _ _ _ _)
      | (with_reducible exact ih3 _ _ _ _ _ _ _ _ _ _)
      | (with_reducible exact ih4 _ _ _ _ _ _ _ _ _)
      | (with_reducible exact ih5 _ _ _ _ _ _ _ _ _ _)
      | (with_reducible exact ih6 _ _ _ _ _ _ _ _ _ _ _)
      | (with_reducible exact spec_Phrase.mono _ _ _ _ _ _ _)
      | (with_reducible exact spec_l23Later.mono _ _ _ _ _ _ _)
      | (with_reducible exact spec_l23Wind.mono _ _ _ _ _ _ _)
      | (with_reducible exact LeO.refl _)
      | (with_reducible exact LeO.none _)
      | (with_reducible refine LeO.ite ?_ ?_)
      | (with_reducible refine LeO.bind ?_ (fun _ => ?_))
      | exact ih0 _ _ _
      | exact ih1 _ _ _
      | exact ih2 _ _ _ _
      | exact ih3 _ _ _ _ _ _ _ _ _ _
      | exact ih4 _ _ _ _ _ _ _ _ _
      | exact ih5 _ _ _ _ _ _ _ _ _ _
      | exact ih6 _ _ _ _ _ _ _ _ _ _ _
      | exact spec_Phrase.mono _ _ _ _ _ _ _
      | exact spec_l23Later.mono _ _ _ _ _ _ _
      | exact spec_l23Wind.mono _ _ _ _ _ _ _
      | exact LeO.none _
      | refine LeO.ite ?_ ?_
      | refine LeO.bind ?_ (fun _ => ?_)
    · intro y0 y1 y2 y3 y4 y5 y6 y7 y8
      unfold spec_ReadPhrase.l2
      repeat' first
      | (with_reducible exact ih0 _ _ _)
      | (with_reducible exact ih1 _ _ _)
      | (with_reducible exact ih2 _ _ _ _)
      | (with_reducible exact ih3 _ _ _ _ _ _ _ _ _ _)
      | (with_reducible exact ih4 _ _ _ _ _ _ _ _ _)
      | (with_reducible exact ih5 _ _ _ _ _ _ _ _ _ _)
      | (with_reducible exact ih6 _ _ _ _ _ _ _ _ _ _ _)
      | (with_reducible exact spec_Phrase.mono _ _ _ _ _ _ _)
      | (with_reducible exact spec_l23Later.mono _ _ _ _ _ _ _)
      | (with_reducible exact spec_l23Wind.mono _ _ _ _ _ _ _)
      | (with_reducible exact LeO.refl _)
      | (with_reducible exact LeO.none _)
      | (with_reducible refine LeO.ite ?_ ?_)
      | (with_reducible refine LeO.bind ?_ (fun _ => ?_))
      | exact ih0 _ _ _
      | exact ih1 _ _ _
      | exact ih2 _ _ _ _
      | exact ih3 _ _ _ _ _ _ _ _ _ _
      | exact ih4 _ _ _ _ _ _ _ _ _
      | exact ih5 _ _ _ _ _ _ _ _ _ _
      | exact ih6 _ _ _ _ _ _ _ _ _ _ _
      | exact spec_Phrase.mono _ _ _ _ _ _ _
      | exact spec_l23Later.mono _ _ _ _ _ _ _
      | exact spec_l23Wind.mono _ _ _ _ _ _ _
      | exact LeO.none _
      | refine LeO.ite ?_ ?_
      | refine LeO.bind ?_ (fun _ => ?_)
    · intro y0 y1 y2 y3 y4 y5 y6 y7 y8 y9
      unfold spec_ReadPhrase.l3
      repeat' first
      | (with_reducible exact ih0 _ _ _)
      | (with_reducible exact ih1 _ _ _)
      | (with_reducible exact ih2 _ _ _ _)
      | (with_reducible exact ih3 _ _ _ _ _ _ _ _ _ _)
      | (with_reducible exact ih4 _ _ _ _ _ _ _ _ _)
      | (with_reducible exact ih5 _ _ _ _ _ _ _ _ _ _)
      | (with_reducible exact ih6 _ _ _ _ _ _ _ _ _ _ _)
      | (with_reducible exact spec_Phrase.mono _ _ _ _ _ _ _)
      | (with_reducible exact spec_l23Later.mono _ _ _ _ _ _ _)
      | (with_reducible exact spec_l23Wind.mono _ _ _ _ _ _ _)
      | (with_reducible exact LeO.refl _)
      | (with_reducible exact LeO.none _)
      | (with_reducible refine LeO.ite ?_ ?_)
      | (with_reducible refine LeO.bind ?_ (fun _ => ?_))
      | exact ih0 _ _ _
      | exact ih1 _ _ _
      | exact ih2 _ _ _ _
      | exact ih3 _ _ _ _ _ _ _ _ _ _
      | exact ih4 _ _ _ _ _ _ _ _ _
      | exact ih5 _ _ _ _ _ _ _ _ _ _
      | exact ih6 _ _ _ _ _ _ _ _ _ _ _
      | exact spec_Phrase.mono _ _ _ _ _ _ _
      | exact spec_l23Later.mono _ _ _ _ _ _ _
      | exact spec_l23Wind.mono _ _ _ _ _ _ _
      | exact LeO.none _
      | refine LeO.ite ?_ ?_
      | refine LeO.bind ?_ (fun _ => ?_)
    · intro y0 y1 y2 y3 y4 y5 y6 y7 y8 y9 y10
      unfold spec_ReadPhrase.l4
      repeat' first
      | (with_reducible exact ih0 _ _ _)
      | (with_reducible exact ih1 _ _ _)
      | (with_reducible exact ih2 _ _ _ _)
      | (with_reducible exact ih3 _ _ _ _ _ _ _ _ _ _)
      | (with_reducible exact ih4 _ _ _ _ _ _ _ _ _)
      | (with_reducible exact ih5 _ _ _ _ _ _ _ _ _ _)
      | (with_reducible exact ih6 _ _ _ _ _ _ _ _ _ _ _)
      | (with_reducible exact spec_Phrase.mono _ _ _ _ _ _ _)
      | (with_reducible exact spec_l23Later.mono _ _ _ _ _ _ _)
      | (with_reducible exact spec_l23Wind.mono _ _ _ _ _ _ _)
      | (with_reducible exact LeO.refl _)
      | (with_reducible exact LeO.none _)
      | (with_reducible refine LeO.ite ?_ ?_)
      | (with_reducible refine LeO.bind ?_ (fun _ => ?_))
      | exact ih0 _ _ _
      | exact ih1 _ _ _
      | exact ih2 _ _ _ _
      | exact ih3 _ _ _ _ _ _ _ _ _ _
      | exact ih4 _ _ _ _ _ _ _ _ _
      | exact ih5 _ _ _ _ _ _ _ _ _ _
      | exact ih6 _ _ _ _ _ _ _ _ _ _ _
      | exact spec_Phrase.mono _ _ _ _ _ _ _
      | exact spec_l23Later.mono _ _ _ _ _ _ _
      | exact spec_l23Wind.mono _ _ _ _ _ _ _
      | exact LeO.none _
      | refine LeO.ite ?_ ?_
      | refine LeO.bind ?_ (fun _ => ?_)
theorem spec_ReadPhrase.mono : ∀ a0 a1 k, LeO (spec_ReadPhrase.f k a0 a1) (spec_ReadPhrase.f (k + 1) a0 a1) := by
  intro a0 a1 k
  obtain ⟨ih0, ih1, ih2, ih3, ih4, ih5, ih6⟩ := spec_ReadPhrase.mono_l k
  unfold spec_ReadPhrase.f
  repeat' first
      | (with_reducible exact ih0 _ _ _)
      | (with_reducible exact ih1 _ _ _)
      | (with_reducible exact ih2 _ _ _ _)
      | (with_reducible exact ih3 _ _ _ _ _ _ _ _ _ _)
      | (with_reducible exact ih4 _ _ _ _ _ _ _ _ _)
      | (with_reducible exact ih5 _ _ _ _ _ _ _ _ _ _)
      | (with_reducible exact ih6 _ _ _ _ _ _ _ _ _ _ _)
      | (with_reducible exact spec_Phrase.mono _ _ _ _ _ _ _)
      | (with_reducible exact spec_l23Later.mono _ _ _ _ _ _ _)
      | (with_reducible exact spec_l23Wind.mono _ _ _ _ _ _ _)
      | (with_reducible exact LeO.refl _)
      | (with_reducible exact LeO.none _)
      | (with_reducible refine LeO.ite ?_ ?_)
      | (with_reducible refine LeO.bind ?_ (fun _ => ?_))
      | exact ih0 _ _ _
      | exact ih1 _ _ _
      | exact ih2 _ _ _ _
      | exact ih3 _ _ _ _ _ _ _ _ _ _
      | exact ih4 _ _ _ _ _ _ _ _ _
      | exact ih5 _ _ _ _ _ _ _ _ _ _
      | exact ih6 _ _ _ _ _ _ _ _ _ _ _
      | exact spec_Phrase.mono _ _ _ _ _ _ _
      | exact spec_l23Later.mono _ _ _ _ _ _ _
      | exact spec_l23Wind.mono _ _ _ _ _ _ _
      | exact LeO.none _
      | refine LeO.ite ?_ ?_
      | refine LeO.bind ?_ (fun _ => ?_)
def spec_ReadPhrase.T14 : Bool × List (List Nat × List Nat) := (true, [([], []), ([], []), ([0, 1], [0, 1]), ([], []), ([], []), ([3, 4, 2], [3, 4]), ([2, 5], [2, 5]), ([6], [6]), ([7, 5, 0, 1, 2, 3, 4, 5, 6, 7], [7])])
def spec_ReadPhrase.B14 : List Nat := [0, 0, 3, 0, 0, 31, 63, 127, 255]
theorem spec_ReadPhrase.tab14 : rtab .any (opsOf Tryd.f9 14) = spec_ReadPhrase.T14 := by kernel_rfl
theorem spec_ReadPhrase.bits14 : waitsOk spec_ReadPhrase.T14.2 spec_ReadPhrase.B14 = true := by kernel_rfl
set_option maxHeartbeats 8000000 in
set_option maxRecDepth 100000 in
theorem spec_ReadPhrase.calls (k : Nat) (a0 : ByteArray) (a1 : Int) (r1 : Int) (r2 : Int) (r3 : Int) (r4 : Int) (r5 : Int) (r6 : Bool) (w : World) (h : spec_ReadPhrase.f k a0 a1 = some (r1, r2, r3, r4, r5, r6)) :
    Calls Tryd.prog 9 #[.string a0, .int .i64 a1] w fun e w' => e = .returned (.tuple #[.agg #[.int .i64 r1, .int .i64 r2, .int .i64 r3, .int .i64 r4, .int .i64 r5], .bool r6]) ∧ Below w.heap.size w w' := by
  have hu25 := Tryd.underlying25
  have HB := Aside0.mk (Below.refl w.heap.size w)
  have H : ((spec_l2In.f a1 1 3).bind fun t170 => (if t170 = true then (spec_ReadPhrase.j0 k a0 a1 (decide ((a0.size : Int) > 200))) else (spec_ReadPhrase.j0 k a0 a1 true))) = some (r1, r2, r3, r4, r5, r6) := h
  clear h
  have HC3 := Aside0.mk H
  clear H
  go_enter Tryd.func9, Tryd.ntmps9
  go_upto_region 1 with (first | ((with_reducible refine gate_dst (N := 4) rfl ?_); (try (refine gate_guard (by rfl) ?_; dsimp only)); refine box_event ?hg (N := 4) ?hd (cs := #[.int .i64 0, .int .i64 0, .int .i64 0, .int .i64 0, .int .i64 0]) (t := 25) ?hr ?_; (case hd => rfl); (case hg => rfl); (case hr => first | (go_simp; done) | (go_simp; rfl)); intro gb169 hg w4 hbox hb; have n0_ := Aside0.mk (below_step (by repeat (first | (with_reducible first | exact HB.out | apply below_alloc | apply pw_below_drewN | apply below_drew1) | exact HB.out)) hb); have n1_ := Aside0.mk (hbox); have n2_ := Aside0.mk ((by rw [hg]; exact (below_size (by repeat (first | (with_reducible first | exact HB.out | apply below_alloc | apply pw_below_drewN | apply below_drew1) | exact HB.out))) : w.heap.size ≤ gb169)); have n3_ := Aside0.mk ((by rw [hg]; exact (below_size (by repeat (first | (with_reducible first | exact HB.out | apply below_alloc | apply pw_below_drewN | apply below_drew1) | exact HB.out))) : w.heap.size ≤ gb169)); clear HB; have HB := n0_; have BK169 := n1_; have GW169 := n2_; have GE169 := n3_; clear n0_ n1_ n2_ n3_; clear hb hbox hg))
  (try simp only [Act.put, List.setIfInBounds_toArray, List.set_cons_zero, List.set_cons_succ])
  go_cut [20] (fun v20 wc => ∃ (kq : Nat) (x20_2 : Bool), v20 = .bool x20_2 ∧ Aside0 (spec_ReadPhrase.j0 kq a0 a1 x20_2 = some (r1, r2, r3, r4, r5, r6)) ∧ Aside0 (kq ≤ k) ∧ Aside0 (wc.heap[gb169]? = some (.cells #[.int .i64 0, .int .i64 0, .int .i64 0, .int .i64 0, .int .i64 0] 25 (0, 0))) ∧ Aside0 (Below w.heap.size w wc))
  case first =>
    have H := HC3.out
    clear HC3
    replace H := Option.bind_eq_some_iff.mp H
    obtain ⟨t170, A50, H⟩ := H
    replace H : (if t170 = true then (spec_ReadPhrase.j0 k a0 a1 (decide ((a0.size : Int) > 200))) else (spec_ReadPhrase.j0 k a0 a1 true)) = some (r1, r2, r3, r4, r5, r6) := H
    have A5 := Aside0.mk A50
    clear A50
    by_cases c6 : t170 = true
    · subst c6
      have H1 : (spec_ReadPhrase.j0 k a0 a1 (decide ((a0.size : Int) > 200))) = some (r1, r2, r3, r4, r5, r6) := by rw [if_pos rfl] at H; exact H
      clear H
      have H := H1
      clear H1
      have H' := Aside0.mk H
      clear H
      go_wp2_with (first | ((with_reducible refine gate_callee (f := 16) rfl ?_); refine goesL_ (some 14) rfl rfl Tryd.func16 (by kernel_rfl) rfl #[.int .i64 a1, .int .i64 1, .int .i64 3] rfl (by (try simp only [List.map_toArray, List.map_cons, List.map_nil]); first | done | rfl | (simp only [List.length_drop, List.length_take]; rfl)) ?_; (with_reducible refine (spec_l2In.calls a1 1 3 true _ A5.out).mono ?_); rintro e w' ⟨rfl, ⟨nd, rfl⟩⟩; refine ⟨_, rfl, ?_⟩))
      go_meet
      case rel => exact ⟨_, (decide ((a0.size : Int) > 200)), (by first | rfl | (simp; done) | (simp [*]; done)), H', ⟨by first | omega | exact Nat.le_refl _⟩, ⟨by (with_reducible repeat (first | refine blk_drewN ?_ _ | refine blk_drew ?_ | refine blk_alloc ?_ _)); exact BK169.out⟩, ⟨by repeat (first | (with_reducible first | exact HB.out | apply below_alloc | apply pw_below_drewN | apply below_drew1 | refine below_set ?_ GE169.out) | exact HB.out)⟩⟩
    · replace c6 := Bool.eq_false_iff.mpr c6
      subst c6
      have H1 : (spec_ReadPhrase.j0 k a0 a1 true) = some (r1, r2, r3, r4, r5, r6) := by rw [if_neg (show ¬ (false = true) by decide)] at H; exact H
      clear H
      have H := H1
      clear H1
      have H' := Aside0.mk H
      clear H
      go_wp2_with (first | ((with_reducible refine gate_callee (f := 16) rfl ?_); refine goesL_ (some 14) rfl rfl Tryd.func16 (by kernel_rfl) rfl #[.int .i64 a1, .int .i64 1, .int .i64 3] rfl (by (try simp only [List.map_toArray, List.map_cons, List.map_nil]); first | done | rfl | (simp only [List.length_drop, List.length_take]; rfl)) ?_; (with_reducible refine (spec_l2In.calls a1 1 3 false _ A5.out).mono ?_); rintro e w' ⟨rfl, ⟨nd, rfl⟩⟩; refine ⟨_, rfl, ?_⟩))
      go_meet
      case rel => exact ⟨_, (true), (by first | rfl | (simp; done) | (simp [*]; done)), H', ⟨by first | omega | exact Nat.le_refl _⟩, ⟨by (with_reducible repeat (first | refine blk_drewN ?_ _ | refine blk_drew ?_ | refine blk_alloc ?_ _)); exact BK169.out⟩, ⟨by repeat (first | (with_reducible first | exact HB.out | apply below_alloc | apply pw_below_drewN | apply below_drew1 | refine below_set ?_ GE169.out) | exact HB.out)⟩⟩
  case rest =>
    clear HC3
    try clear c1
    try clear p2
    try clear c6
    obtain ⟨kq, x20_2, rfl, HA, HJ2, BK169, HB⟩ := hcut
    cases kq with
    | zero => exact absurd HA.out (by simp [spec_ReadPhrase.j0])
    | succ kj2 =>
      have H := HA.out
      clear HA
      simp only [spec_ReadPhrase.j0] at H
      by_cases c7 : x20_2 = true
      · subst c7
        have H1 : (some (0, 0, 0, 0, 0, false)) = some (r1, r2, r3, r4, r5, r6) := by rw [if_pos rfl] at H; exact H
        clear H
        have H := H1
        clear H1
        simp only [Option.some.injEq, Prod.mk.injEq] at H
        obtain ⟨rfl, rfl, rfl, rfl, rfl, rfl⟩ := H
        have hcz8_0 : wc.cell? ⟨gb169, 0, none⟩ = some (.int .i64 0) := (blk_cell BK169.out 0).trans rfl
        have hcz8_1 : wc.cell? ⟨gb169, 1, none⟩ = some (.int .i64 0) := (blk_cell BK169.out 1).trans rfl
        have hcz8_2 : wc.cell? ⟨gb169, 2, none⟩ = some (.int .i64 0) := (blk_cell BK169.out 2).trans rfl
        have hcz8_3 : wc.cell? ⟨gb169, 3, none⟩ = some (.int .i64 0) := (blk_cell BK169.out 3).trans rfl
        have hcz8_4 : wc.cell? ⟨gb169, 4, none⟩ = some (.int .i64 0) := (blk_cell BK169.out 4).trans rfl
        have hfz8_0 := blk_frozen BK169.out 0
        have hfz8_1 := blk_frozen BK169.out 1
        have hfz8_2 := blk_frozen BK169.out 2
        have hfz8_3 := blk_frozen BK169.out 3
        have hfz8_4 := blk_frozen BK169.out 4
        go_wp2
        refine bodyPost_ret (results_ct rfl _ _ gb169 25 #[.int .i64 0, .int .i64 0, .int .i64 0, .int .i64 0, .int .i64 0] (0, 0) _ rfl (by (with_reducible repeat (first | refine blk_drewN ?_ _ | refine blk_drew ?_ | refine blk_alloc ?_ _)); refine blk_put (cs := #[.int .i64 0, .int .i64 0, .int .i64 0, .int .i64 0, .int .i64 0]) ?_ 4 _ rfl; (with_reducible repeat (first | refine blk_drewN ?_ _ | refine blk_drew ?_ | refine blk_alloc ?_ _)); refine blk_put (cs := #[.int .i64 0, .int .i64 0, .int .i64 0, .int .i64 0, .int .i64 0]) ?_ 3 _ rfl; (with_reducible repeat (first | refine blk_drewN ?_ _ | refine blk_drew ?_ | refine blk_alloc ?_ _)); refine blk_put (cs := #[.int .i64 0, .int .i64 0, .int .i64 0, .int .i64 0, .int .i64 0]) ?_ 2 _ rfl; (with_reducible repeat (first | refine blk_drewN ?_ _ | refine blk_drew ?_ | refine blk_alloc ?_ _)); refine blk_put (cs := #[.int .i64 0, .int .i64 0, .int .i64 0, .int .i64 0, .int .i64 0]) ?_ 1 _ rfl; (with_reducible repeat (first | refine blk_drewN ?_ _ | refine blk_drew ?_ | refine blk_alloc ?_ _)); refine blk_put (cs := #[.int .i64 0, .int .i64 0, .int .i64 0, .int .i64 0, .int .i64 0]) ?_ 0 _ rfl; (with_reducible repeat (first | refine blk_drewN ?_ _ | refine blk_drew ?_ | refine blk_alloc ?_ _)); exact BK169.out) Tryd.underlying25 rfl (by kernel_rfl)) rfl ?_
        exact ⟨by first | rfl | (simp [errW_none, errW_some] <;> rfl) | (simp [*, errW_none, errW_some] <;> rfl), by repeat (first | (with_reducible first | exact HB.out | apply below_alloc | apply pw_below_drewN | apply below_drew1 | refine below_set ?_ GE169.out) | exact HB.out)⟩
      · replace c7 := Bool.eq_false_iff.mpr c7
        subst c7
        have H1 : (spec_ReadPhrase.l0 kj2 a0 a1 0) = some (r1, r2, r3, r4, r5, r6) := by rw [if_neg (show ¬ (false = true) by decide)] at H; exact H
        clear H
        have H := H1
        clear H1
        have H' := Aside0.mk H
        clear H
        go_wp2
        go_loopg [6] kj2 (fun kq v6 w' => ∃ (x6_2 : Int) (x170000_2 : Int) (x170001_2 : Int) (x170002_2 : Int) (x170003_2 : Int) (x170004_2 : Int), v6 = .int .i64 x6_2 ∧ Aside0 (spec_ReadPhrase.l0 kq a0 a1 x6_2 = some (r1, r2, r3, r4, r5, r6)) ∧ Aside0 (kq ≤ kj2) ∧ Aside0 (w'.heap[gb169]? = some (.cells #[.int .i64 x170000_2, .int .i64 x170001_2, .int .i64 x170002_2, .int .i64 x170003_2, .int .i64 x170004_2] 25 (0, 0))) ∧ Aside0 (Below w.heap.size w w'))
        case atStart => exact ⟨(0), (0), (0), (0), (0), (0), (by first | rfl | (simp; done) | (simp [*]; done)), H', ⟨Nat.le_refl _⟩, ⟨by (with_reducible repeat (first | refine blk_drewN ?_ _ | refine blk_drew ?_ | refine blk_alloc ?_ _)); exact BK169.out⟩, ⟨by repeat (first | (with_reducible first | exact HB.out | apply below_alloc | apply pw_below_drewN | apply below_drew1 | refine below_set ?_ GE169.out) | exact HB.out)⟩⟩
        case round =>
          clear H'
          try clear c1
          try clear p2
          try clear c6
          try clear c7
          try clear hcz8_0
          try clear hcz8_1
          try clear hcz8_2
          try clear hcz8_3
          try clear hcz8_4
          try clear hfz8_0
          try clear hfz8_1
          try clear hfz8_2
          try clear hfz8_3
          try clear hfz8_4
          try clear p2
          obtain ⟨x6_2, x170000_2, x170001_2, x170002_2, x170003_2, x170004_2, rfl, HA, HK2, BK169, HB⟩ := hrel
          cases gk with
          | zero => exact absurd HA.out (by simp [spec_ReadPhrase.l0])
          | succ k2 =>
            have H := HA.out
            clear HA
            simp only [spec_ReadPhrase.l0] at H
            by_cases c9 : x6_2 ≤ 8
            · rw [if_pos c9] at H
              have c9b0 : decide (x6_2 ≤ 8) = true := decide_eq_true c9
              clear c9
              have H' := Aside0.mk H
              clear H
              go_wp2
              go_loopg [7] k2 (fun kq v7 w' => ∃ (x7_3 : Int) (x170000_3 : Int) (x170001_3 : Int) (x170002_3 : Int) (x170003_3 : Int) (x170004_3 : Int), v7 = .int .i64 x7_3 ∧ Aside0 (spec_ReadPhrase.l1 kq a0 a1 x6_2 x7_3 = some (r1, r2, r3, r4, r5, r6)) ∧ Aside0 (kq ≤ k2) ∧ Aside0 (w'.heap[gb169]? = some (.cells #[.int .i64 x170000_3, .int .i64 x170001_3, .int .i64 x170002_3, .int .i64 x170003_3, .int .i64 x170004_3] 25 (0, 0))) ∧ Aside0 (Below w.heap.size w w'))
              case atStart => exact ⟨(0), (x170000_2), (x170001_2), (x170002_2), (x170003_2), (x170004_2), (by first | rfl | (simp; done) | (simp [*]; done)), H', ⟨Nat.le_refl _⟩, ⟨by (with_reducible repeat (first | refine blk_drewN ?_ _ | refine blk_drew ?_ | refine blk_alloc ?_ _)); exact BK169.out⟩, ⟨by repeat (first | (with_reducible first | exact HB.out | apply below_alloc | apply pw_below_drewN | apply below_drew1 | refine below_set ?_ GE169.out) | exact HB.out)⟩⟩
              case round =>
                clear H'
                try clear c1
                try clear p2
                try clear c6
                try clear c7
                try clear c9
                try clear c9b0
                try clear hcz8_0
                try clear hcz8_1
                try clear hcz8_2
                try clear hcz8_3
                try clear hcz8_4
                try clear hfz8_0
                try clear hfz8_1
                try clear hfz8_2
                try clear hfz8_3
                try clear hfz8_4
                try clear p2
                obtain ⟨x7_3, x170000_3, x170001_3, x170002_3, x170003_3, x170004_3, rfl, HA, HK3, BK169, HB⟩ := hrel
                cases gk with
                | zero => exact absurd HA.out (by simp [spec_ReadPhrase.l1])
                | succ k3 =>
                  have H := HA.out
                  clear HA
                  simp only [spec_ReadPhrase.l1] at H
                  by_cases c10 : x7_3 ≤ 12
                  · rw [if_pos c10] at H
                    have c10b0 : decide (x7_3 ≤ 12) = true := decide_eq_true c10
                    clear c10
                    have HC11 := Aside0.mk H
                    clear H
                    go_upto_region 10 with (first | ((with_reducible refine gate_dst (N := 8) rfl ?_); (try (refine gate_guard (by rfl) ?_; dsimp only)); refine box_event ?hg (N := 8) ?hd (cs := #[.int .i64 0, .int .i64 0, .int .i64 0, .int .i64 0, .int .i64 0]) (t := 25) ?hr ?_; (case hd => rfl); (case hg => rfl); (case hr => first | (go_simp; done) | (go_simp; rfl)); intro gb171 hg w12 hbox hb; have n0_ := Aside0.mk (blk_below (g := gb169) (o := .cells #[.int .i64 x170000_3, .int .i64 x170001_3, .int .i64 x170002_3, .int .i64 x170003_3, .int .i64 x170004_3] 25 (0, 0)) (by (with_reducible repeat (first | refine blk_drewN ?_ _ | refine blk_drew ?_ | refine blk_alloc ?_ _)); exact BK169.out) hb); have n1_ := Aside0.mk (below_step (by repeat (first | (with_reducible first | exact HB.out | apply below_alloc | apply pw_below_drewN | apply below_drew1 | refine below_set ?_ GE169.out) | exact HB.out)) hb); have n2_ := Aside0.mk (hbox); have n3_ := Aside0.mk ((by rw [hg]; exact (below_size (by repeat (first | (with_reducible first | exact HB.out | apply below_alloc | apply pw_below_drewN | apply below_drew1 | refine below_set ?_ GE169.out) | exact HB.out))) : w.heap.size ≤ gb171)); have n4_ := Aside0.mk ((by rw [hg]; exact (below_size (by repeat (first | (with_reducible first | exact HB.out | apply below_alloc | apply pw_below_drewN | apply below_drew1 | refine below_set ?_ GE169.out) | exact HB.out))) : w.heap.size ≤ gb171)); have n5_ := Aside0.mk ((by rw [hg]; exact Nat.ne_of_lt (blk_lt (g := gb169) (o := .cells #[.int .i64 x170000_3, .int .i64 x170001_3, .int .i64 x170002_3, .int .i64 x170003_3, .int .i64 x170004_3] 25 (0, 0)) (by (with_reducible repeat (first | refine blk_drewN ?_ _ | refine blk_drew ?_ | refine blk_alloc ?_ _)); exact BK169.out)) : gb169 ≠ gb171)); have n6_ := Aside0.mk ((by rw [hg]; exact Nat.ne_of_gt (blk_lt (g := gb169) (o := .cells #[.int .i64 x170000_3, .int .i64 x170001_3, .int .i64 x170002_3, .int .i64 x170003_3, .int .i64 x170004_3] 25 (0, 0)) (by (with_reducible repeat (first | refine blk_drewN ?_ _ | refine blk_drew ?_ | refine blk_alloc ?_ _)); exact BK169.out)) : gb171 ≠ gb169)); clear BK169; clear HB; have BK169 := n0_; have HB := n1_; have BK171 := n2_; have GW171 := n3_; have GE171 := n4_; have NB169_171 := n5_; have NB171_169 := n6_; clear n0_ n1_ n2_ n3_ n4_ n5_ n6_; clear hb hbox hg; have hnb13 := NB171_169.out; have hnc13 := NB169_171.out; have hcz14_0 : w12.cell? ⟨gb171, 0, none⟩ = some (.int .i64 0) := (blk_cell BK171.out 0).trans rfl; have hcz14_1 : w12.cell? ⟨gb171, 1, none⟩ = some (.int .i64 0) := (blk_cell BK171.out 1).trans rfl; have hcz14_2 : w12.cell? ⟨gb171, 2, none⟩ = some (.int .i64 0) := (blk_cell BK171.out 2).trans rfl; have hcz14_3 : w12.cell? ⟨gb171, 3, none⟩ = some (.int .i64 0) := (blk_cell BK171.out 3).trans rfl; have hcz14_4 : w12.cell? ⟨gb171, 4, none⟩ = some (.int .i64 0) := (blk_cell BK171.out 4).trans rfl; have hfz14_0 := blk_frozen BK171.out 0; have hfz14_1 := blk_frozen BK171.out 1; have hfz14_2 := blk_frozen BK171.out 2; have hfz14_3 := blk_frozen BK171.out 3; have hfz14_4 := blk_frozen BK171.out 4))
                    (try simp only [Act.put, List.setIfInBounds_toArray, List.set_cons_zero, List.set_cons_succ])
                    go_cut [45] (fun v45 wc => ∃ (kq : Nat) (x45_10 : Bool), v45 = .bool x45_10 ∧ Aside0 (spec_ReadPhrase.j3 kq a0 a1 x6_2 x7_3 x45_10 x6_2 x7_3 0 0 0 = some (r1, r2, r3, r4, r5, r6)) ∧ Aside0 (kq ≤ k3) ∧ Aside0 (wc.heap[gb169]? = some (.cells #[.int .i64 x170000_3, .int .i64 x170001_3, .int .i64 x170002_3, .int .i64 x170003_3, .int .i64 x170004_3] 25 (0, 0))) ∧ Aside0 (wc.heap[gb171]? = some (.cells #[.int .i64 x6_2, .int .i64 x7_3, .int .i64 0, .int .i64 0, .int .i64 0] 25 (0, 0))) ∧ Aside0 (Below w.heap.size w wc))
                    case first =>
                      have H := HC11.out
                      clear HC11
                      by_cases c15 : ((x7_3 == 0) != (x6_2 == 0)) = true
                      · rw [if_pos c15] at H
                        have c15b0 : ((x7_3 == 0) != (x6_2 == 0)) = true := c15
                        (try (have c15b1 : decide ((x7_3 == 0) = (x6_2 == 0)) = false := by simpa using c15))
                        (try (have c15b2 : ((x7_3 == 0) == (x6_2 == 0)) = false := by simpa using c15))
                        (try (have c15b3 : ¬ ((x7_3 == 0) = (x6_2 == 0)) := by simpa using c15))
                        clear c15
                        (first | rw [c15b0] | (simp only [i64_w, i32_w]; rw [c15b0]) | skip)
                        have H' := Aside0.mk H
                        clear H
                        go_wp2
                        go_meet
                        case rel => exact ⟨_, (true), (by first | rfl | (simp; done) | (simp [*]; done)), H', ⟨by have := HJ2.out; have := HK2.out; have := HK3.out; first | omega | exact Nat.le_refl _⟩, ⟨by (with_reducible repeat (first | refine blk_drewN ?_ _ | refine blk_drew ?_ | refine blk_alloc ?_ _)); refine blk_far ?_ NB169_171.out _; (with_reducible repeat (first | refine blk_drewN ?_ _ | refine blk_drew ?_ | refine blk_alloc ?_ _)); refine blk_far ?_ NB169_171.out _; (with_reducible repeat (first | refine blk_drewN ?_ _ | refine blk_drew ?_ | refine blk_alloc ?_ _)); refine blk_far ?_ NB169_171.out _; (with_reducible repeat (first | refine blk_drewN ?_ _ | refine blk_drew ?_ | refine blk_alloc ?_ _)); refine blk_far ?_ NB169_171.out _; (with_reducible repeat (first | refine blk_drewN ?_ _ | refine blk_drew ?_ | refine blk_alloc ?_ _)); refine blk_far ?_ NB169_171.out _; (with_reducible repeat (first | refine blk_drewN ?_ _ | refine blk_drew ?_ | refine blk_alloc ?_ _)); exact BK169.out⟩, ⟨by (with_reducible repeat (first | refine blk_drewN ?_ _ | refine blk_drew ?_ | refine blk_alloc ?_ _)); refine blk_put (cs := #[.int .i64 x6_2, .int .i64 x7_3, .int .i64 0, .int .i64 0, .int .i64 0]) ?_ 4 _ rfl; (with_reducible repeat (first | refine blk_drewN ?_ _ | refine blk_drew ?_ | refine blk_alloc ?_ _)); refine blk_put (cs := #[.int .i64 x6_2, .int .i64 x7_3, .int .i64 0, .int .i64 0, .int .i64 0]) ?_ 3 _ rfl; (with_reducible repeat (first | refine blk_drewN ?_ _ | refine blk_drew ?_ | refine blk_alloc ?_ _)); refine blk_put (cs := #[.int .i64 x6_2, .int .i64 x7_3, .int .i64 0, .int .i64 0, .int .i64 0]) ?_ 2 _ rfl; (with_reducible repeat (first | refine blk_drewN ?_ _ | refine blk_drew ?_ | refine blk_alloc ?_ _)); refine blk_put (cs := #[.int .i64 x6_2, .int .i64 0, .int .i64 0, .int .i64 0, .int .i64 0]) ?_ 1 _ rfl; (with_reducible repeat (first | refine blk_drewN ?_ _ | refine blk_drew ?_ | refine blk_alloc ?_ _)); refine blk_put (cs := #[.int .i64 0, .int .i64 0, .int .i64 0, .int .i64 0, .int .i64 0]) ?_ 0 _ rfl; (with_reducible repeat (first | refine blk_drewN ?_ _ | refine blk_drew ?_ | refine blk_alloc ?_ _)); exact BK171.out⟩, ⟨by repeat (first | (with_reducible first | exact HB.out | apply below_alloc | apply pw_below_drewN | apply below_drew1 | refine below_set ?_ GE169.out | refine below_set ?_ GE171.out) | exact HB.out)⟩⟩
                      · rw [if_neg c15] at H
                        have c15b0 : ((x7_3 == 0) != (x6_2 == 0)) = false := by simpa using c15
                        (try (have c15b1 : decide ((x7_3 == 0) = (x6_2 == 0)) = true := by simpa using c15))
                        (try (have c15b2 : ((x7_3 == 0) == (x6_2 == 0)) = true := by simpa using c15))
                        clear c15
                        (first | rw [c15b0] | (simp only [i64_w, i32_w]; rw [c15b0]) | skip)
                        replace H := Option.bind_eq_some_iff.mp H
                        obtain ⟨t172, A160, H⟩ := H
                        replace H : ((spec_l23Ahead.f a0 t172).bind fun t173 => (spec_ReadPhrase.j3 k3 a0 a1 x6_2 x7_3 (!t173) x6_2 x7_3 0 0 0)) = some (r1, r2, r3, r4, r5, r6) := H
                        have A16 := Aside0.mk A160
                        clear A160
                        replace H := Option.bind_eq_some_iff.mp H
                        obtain ⟨t173, A170, H⟩ := H
                        replace H : (spec_ReadPhrase.j3 k3 a0 a1 x6_2 x7_3 (!t173) x6_2 x7_3 0 0 0) = some (r1, r2, r3, r4, r5, r6) := H
                        have A17 := Aside0.mk A170
                        clear A170
                        have H' := Aside0.mk H
                        clear H
                        have hnb18 := NB171_169.out
                        have hnc18 := NB169_171.out
                        have hcz19_0 : w12.cell? ⟨gb171, 0, none⟩ = some (.int .i64 0) := (blk_cell BK171.out 0).trans rfl
                        have hcz19_1 : w12.cell? ⟨gb171, 1, none⟩ = some (.int .i64 0) := (blk_cell BK171.out 1).trans rfl
                        have hcz19_2 : w12.cell? ⟨gb171, 2, none⟩ = some (.int .i64 0) := (blk_cell BK171.out 2).trans rfl
                        have hcz19_3 : w12.cell? ⟨gb171, 3, none⟩ = some (.int .i64 0) := (blk_cell BK171.out 3).trans rfl
                        have hcz19_4 : w12.cell? ⟨gb171, 4, none⟩ = some (.int .i64 0) := (blk_cell BK171.out 4).trans rfl
                        have hfz19_0 := blk_frozen BK171.out 0
                        have hfz19_1 := blk_frozen BK171.out 1
                        have hfz19_2 := blk_frozen BK171.out 2
                        have hfz19_3 := blk_frozen BK171.out 3
                        have hfz19_4 := blk_frozen BK171.out 4
                        go_wp2_with (first | (go_at_call 17; (with_reducible refine (spec_l23Wind.calls k3 x6_2 x7_3 0 0 0 a1 t172 _ A16.out).mono ?_); rintro e w20 ⟨rfl, hb⟩; have n0_ := Aside0.mk (blk_below (g := gb169) (o := .cells #[.int .i64 x170000_3, .int .i64 x170001_3, .int .i64 x170002_3, .int .i64 x170003_3, .int .i64 x170004_3] 25 (0, 0)) (by (with_reducible repeat (first | refine blk_drewN ?_ _ | refine blk_drew ?_ | refine blk_alloc ?_ _)); refine blk_far ?_ NB169_171.out _; (with_reducible repeat (first | refine blk_drewN ?_ _ | refine blk_drew ?_ | refine blk_alloc ?_ _)); refine blk_far ?_ NB169_171.out _; (with_reducible repeat (first | refine blk_drewN ?_ _ | refine blk_drew ?_ | refine blk_alloc ?_ _)); refine blk_far ?_ NB169_171.out _; (with_reducible repeat (first | refine blk_drewN ?_ _ | refine blk_drew ?_ | refine blk_alloc ?_ _)); refine blk_far ?_ NB169_171.out _; (with_reducible repeat (first | refine blk_drewN ?_ _ | refine blk_drew ?_ | refine blk_alloc ?_ _)); refine blk_far ?_ NB169_171.out _; (with_reducible repeat (first | refine blk_drewN ?_ _ | refine blk_drew ?_ | refine blk_alloc ?_ _)); exact BK169.out) hb); have n1_ := Aside0.mk (blk_below (g := gb171) (o := .cells #[.int .i64 x6_2, .int .i64 x7_3, .int .i64 0, .int .i64 0, .int .i64 0] 25 (0, 0)) (by (with_reducible repeat (first | refine blk_drewN ?_ _ | refine blk_drew ?_ | refine blk_alloc ?_ _)); refine blk_put (cs := #[.int .i64 x6_2, .int .i64 x7_3, .int .i64 0, .int .i64 0, .int .i64 0]) ?_ 4 _ rfl; (with_reducible repeat (first | refine blk_drewN ?_ _ | refine blk_drew ?_ | refine blk_alloc ?_ _)); refine blk_put (cs := #[.int .i64 x6_2, .int .i64 x7_3, .int .i64 0, .int .i64 0, .int .i64 0]) ?_ 3 _ rfl; (with_reducible repeat (first | refine blk_drewN ?_ _ | refine blk_drew ?_ | refine blk_alloc ?_ _)); refine blk_put (cs := #[.int .i64 x6_2, .int .i64 x7_3, .int .i64 0, .int .i64 0, .int .i64 0]) ?_ 2 _ rfl; (with_reducible repeat (first | refine blk_drewN ?_ _ | refine blk_drew ?_ | refine blk_alloc ?_ _)); refine blk_put (cs := #[.int .i64 x6_2, .int .i64 0, .int .i64 0, .int .i64 0, .int .i64 0]) ?_ 1 _ rfl; (with_reducible repeat (first | refine blk_drewN ?_ _ | refine blk_drew ?_ | refine blk_alloc ?_ _)); refine blk_put (cs := #[.int .i64 0, .int .i64 0, .int .i64 0, .int .i64 0, .int .i64 0]) ?_ 0 _ rfl; (with_reducible repeat (first | refine blk_drewN ?_ _ | refine blk_drew ?_ | refine blk_alloc ?_ _)); exact BK171.out) hb); have n2_ := Aside0.mk (below_step (by repeat (first | (with_reducible first | exact HB.out | apply below_alloc | apply pw_below_drewN | apply below_drew1 | refine below_set ?_ GE169.out | refine below_set ?_ GE171.out) | exact HB.out)) hb); clear BK169; clear BK171; clear HB; have BK169 := n0_; have BK171 := n1_; have HB := n2_; clear n0_ n1_ n2_; (try clear hb); (try clear hb2); (try clear hk); (try clear hi)) | (go_at_call 24; (with_reducible refine (spec_l23Ahead.calls a0 t172 t173 _ A17.out).mono ?_); rintro e w' ⟨rfl, ⟨nd, rfl⟩⟩))
                        go_meet
                        case rel => exact ⟨_, (!t173), (by first | rfl | (simp; done) | (simp [*]; done)), H', ⟨by have := HJ2.out; have := HK2.out; have := HK3.out; first | omega | exact Nat.le_refl _⟩, ⟨by (with_reducible repeat (first | refine blk_drewN ?_ _ | refine blk_drew ?_ | refine blk_alloc ?_ _)); exact BK169.out⟩, ⟨by (with_reducible repeat (first | refine blk_drewN ?_ _ | refine blk_drew ?_ | refine blk_alloc ?_ _)); exact BK171.out⟩, ⟨by repeat (first | (with_reducible first | exact HB.out | apply below_alloc | apply pw_below_drewN | apply below_drew1 | refine below_set ?_ GE169.out | refine below_set ?_ GE171.out) | exact HB.out)⟩⟩
                    case rest =>
                      clear HC11
                      try clear c1
                      try clear p2
                      try clear c6
                      try clear c7
                      try clear c9
                      try clear c9b0
                      try clear c10
                      try clear c10b0
                      try clear c13
                      try clear c15
                      try clear c15b0
                      try clear c15b1
                      try clear c15b2
                      try clear c16
                      try clear c18
                      try clear hcz14_0
                      try clear hcz14_1
                      try clear hcz14_2
                      try clear hcz14_3
                      try clear hcz14_4
                      try clear hcz19_0
                      try clear hcz19_1
                      try clear hcz19_2
                      try clear hcz19_3
                      try clear hcz19_4
                      try clear hcz8_0
                      try clear hcz8_1
                      try clear hcz8_2
                      try clear hcz8_3
                      try clear hcz8_4
                      try clear hfz14_0
                      try clear hfz14_1
                      try clear hfz14_2
                      try clear hfz14_3
                      try clear hfz14_4
                      try clear hfz19_0
                      try clear hfz19_1
                      try clear hfz19_2
                      try clear hfz19_3
                      try clear hfz19_4
                      try clear hfz8_0
                      try clear hfz8_1
                      try clear hfz8_2
                      try clear hfz8_3
                      try clear hfz8_4
                      try clear p2
                      obtain ⟨kq, x45_10, rfl, HA, HJ10, BK169, BK171, HB⟩ := hcut
                      cases kq with
                      | zero => exact absurd HA.out (by simp [spec_ReadPhrase.j3])
                      | succ kj10 =>
                        have H := HA.out
                        clear HA
                        simp only [spec_ReadPhrase.j3] at H
                        by_cases c21 : x45_10 = true
                        · subst c21
                          have H1 : (spec_ReadPhrase.l1 kj10 a0 a1 x6_2 (wrap64 (x7_3 + 1))) = some (r1, r2, r3, r4, r5, r6) := by rw [if_pos rfl] at H; exact H
                          clear H
                          have H := H1
                          clear H1
                          have H' := Aside0.mk H
                          clear H
                          go_wp2
                          go_roundg kj10
                          case measure => have := HJ2.out; have := HK2.out; have := HK3.out; have := HJ10.out; omega
                          case rel => exact ⟨(wrap64 (x7_3 + 1)), (x170000_3), (x170001_3), (x170002_3), (x170003_3), (x170004_3), (by first | rfl | (simp; done) | (simp [*]; done)), H', ⟨by have := HJ2.out; have := HK2.out; have := HK3.out; have := HJ10.out; omega⟩, ⟨by (with_reducible repeat (first | refine blk_drewN ?_ _ | refine blk_drew ?_ | refine blk_alloc ?_ _)); exact BK169.out⟩, ⟨by repeat (first | (with_reducible first | exact HB.out | apply below_alloc | apply pw_below_drewN | apply below_drew1 | refine below_set ?_ GE169.out | refine below_set ?_ GE171.out) | exact HB.out)⟩⟩
                        · replace c21 := Bool.eq_false_iff.mpr c21
                          subst c21
                          have H1 : (spec_ReadPhrase.l2 kj10 a0 a1 x6_2 x7_3 x6_2 x7_3 0 0 0) = some (r1, r2, r3, r4, r5, r6) := by rw [if_neg (show ¬ (false = true) by decide)] at H; exact H
                          clear H
                          have H := H1
                          clear H1
                          have H' := Aside0.mk H
                          clear H
                          have hnb22 := NB171_169.out
                          have hnc22 := NB169_171.out
                          have hcz23_0 : wc.cell? ⟨gb171, 0, none⟩ = some (.int .i64 x6_2) := (blk_cell BK171.out 0).trans rfl
                          have hcz23_1 : wc.cell? ⟨gb171, 1, none⟩ = some (.int .i64 x7_3) := (blk_cell BK171.out 1).trans rfl
                          have hcz23_2 : wc.cell? ⟨gb171, 2, none⟩ = some (.int .i64 0) := (blk_cell BK171.out 2).trans rfl
                          have hcz23_3 : wc.cell? ⟨gb171, 3, none⟩ = some (.int .i64 0) := (blk_cell BK171.out 3).trans rfl
                          have hcz23_4 : wc.cell? ⟨gb171, 4, none⟩ = some (.int .i64 0) := (blk_cell BK171.out 4).trans rfl
                          have hfz23_0 := blk_frozen BK171.out 0
                          have hfz23_1 := blk_frozen BK171.out 1
                          have hfz23_2 := blk_frozen BK171.out 2
                          have hfz23_3 := blk_frozen BK171.out 3
                          have hfz23_4 := blk_frozen BK171.out 4
                          go_wp2
                          go_loopg [] kj10 (fun kq w' => ∃ (x170000_5 : Int) (x170001_5 : Int) (x170002_5 : Int) (x170003_5 : Int) (x170004_5 : Int) (x172002_5 : Int), Aside0 (spec_ReadPhrase.l2 kq a0 a1 x6_2 x7_3 x6_2 x7_3 x172002_5 0 0 = some (r1, r2, r3, r4, r5, r6)) ∧ Aside0 (kq ≤ kj10) ∧ Aside0 (w'.heap[gb169]? = some (.cells #[.int .i64 x170000_5, .int .i64 x170001_5, .int .i64 x170002_5, .int .i64 x170003_5, .int .i64 x170004_5] 25 (0, 0))) ∧ Aside0 (w'.heap[gb171]? = some (.cells #[.int .i64 x6_2, .int .i64 x7_3, .int .i64 x172002_5, .int .i64 0, .int .i64 0] 25 (0, 0))) ∧ Aside0 (Below w.heap.size w w'))
                          case atStart => exact ⟨(x170000_3), (x170001_3), (x170002_3), (x170003_3), (x170004_3), (0), H', ⟨Nat.le_refl _⟩, ⟨by (with_reducible repeat (first | refine blk_drewN ?_ _ | refine blk_drew ?_ | refine blk_alloc ?_ _)); refine blk_far ?_ NB169_171.out _; (with_reducible repeat (first | refine blk_drewN ?_ _ | refine blk_drew ?_ | refine blk_alloc ?_ _)); exact BK169.out⟩, ⟨by (with_reducible repeat (first | refine blk_drewN ?_ _ | refine blk_drew ?_ | refine blk_alloc ?_ _)); refine blk_put (cs := #[.int .i64 x6_2, .int .i64 x7_3, .int .i64 0, .int .i64 0, .int .i64 0]) ?_ 2 _ rfl; (with_reducible repeat (first | refine blk_drewN ?_ _ | refine blk_drew ?_ | refine blk_alloc ?_ _)); exact BK171.out⟩, ⟨by repeat (first | (with_reducible first | exact HB.out | apply below_alloc | apply pw_below_drewN | apply below_drew1 | refine below_set ?_ GE169.out | refine below_set ?_ GE171.out) | exact HB.out)⟩⟩
                          case round =>
                            clear H'
                            try clear c1
                            try clear c2
                            try clear p2
                            try clear c6
                            try clear p6
                            try clear c7
                            try clear c9
                            try clear c9b0
                            try clear c10
                            try clear c10b0
                            try clear c13
                            try clear c15
                            try clear c15b0
                            try clear c15b1
                            try clear c15b2
                            try clear c16
                            try clear c18
                            try clear c21
                            try clear c22
                            try clear hcz14_0
                            try clear hcz14_1
                            try clear hcz14_2
                            try clear hcz14_3
                            try clear hcz14_4
                            try clear hcz19_0
                            try clear hcz19_1
                            try clear hcz19_2
                            try clear hcz19_3
                            try clear hcz19_4
                            try clear hcz23_0
                            try clear hcz23_1
                            try clear hcz23_2
                            try clear hcz23_3
                            try clear hcz23_4
                            try clear hcz8_0
                            try clear hcz8_1
                            try clear hcz8_2
                            try clear hcz8_3
                            try clear hcz8_4
                            try clear hfz14_0
                            try clear hfz14_1
                            try clear hfz14_2
                            try clear hfz14_3
                            try clear hfz14_4
                            try clear hfz19_0
                            try clear hfz19_1
                            try clear hfz19_2
                            try clear hfz19_3
                            try clear hfz19_4
                            try clear hfz23_0
                            try clear hfz23_1
                            try clear hfz23_2
                            try clear hfz23_3
                            try clear hfz23_4
                            try clear hfz8_0
                            try clear hfz8_1
                            try clear hfz8_2
                            try clear hfz8_3
                            try clear hfz8_4
                            try clear p2
                            obtain ⟨x170000_5, x170001_5, x170002_5, x170003_5, x170004_5, x172002_5, HA, HK5, BK169, BK171, HB⟩ := hrel
                            cases gk with
                            | zero => exact absurd HA.out (by simp [spec_ReadPhrase.l2])
                            | succ k5 =>
                              have H := HA.out
                              clear HA
                              simp only [spec_ReadPhrase.l2] at H
                              by_cases c24 : x172002_5 ≤ 12
                              · rw [if_pos c24] at H
                                have c24b0 : decide (x172002_5 ≤ 12) = true := decide_eq_true c24
                                clear c24
                                replace H := Option.bind_eq_some_iff.mp H
                                obtain ⟨t174, A250, H⟩ := H
                                replace H : ((spec_l23Later.f k5 x6_2 x7_3 x172002_5 0 0 a1).bind fun t175 => (if t174.size + t175.size ≤ 9223372036854775807 then (if (t174 ++ t175).size + 2 ≤ 9223372036854775807 then ((spec_l23Ahead.f a0 ((t174 ++ t175) ++ (⟨#[46, 32]⟩ : ByteArray))).bind fun t176 => (if t176 = true then (spec_ReadPhrase.l3 k5 a0 a1 x6_2 x7_3 0 x6_2 x7_3 x172002_5 0 0) else (spec_ReadPhrase.l2 k5 a0 a1 x6_2 x7_3 x6_2 x7_3 (wrap64 (x172002_5 + 1)) 0 0))) else (none)) else (none))) = some (r1, r2, r3, r4, r5, r6) := H
                                have A25 := Aside0.mk A250
                                clear A250
                                replace H := Option.bind_eq_some_iff.mp H
                                obtain ⟨t175, A260, H⟩ := H
                                replace H : (if t174.size + t175.size ≤ 9223372036854775807 then (if (t174 ++ t175).size + 2 ≤ 9223372036854775807 then ((spec_l23Ahead.f a0 ((t174 ++ t175) ++ (⟨#[46, 32]⟩ : ByteArray))).bind fun t176 => (if t176 = true then (spec_ReadPhrase.l3 k5 a0 a1 x6_2 x7_3 0 x6_2 x7_3 x172002_5 0 0) else (spec_ReadPhrase.l2 k5 a0 a1 x6_2 x7_3 x6_2 x7_3 (wrap64 (x172002_5 + 1)) 0 0))) else (none)) else (none)) = some (r1, r2, r3, r4, r5, r6) := H
                                have A26 := Aside0.mk A260
                                clear A260
                                by_cases c27 : t174.size + t175.size ≤ 9223372036854775807
                                · rw [if_pos c27] at H
                                  have c27b0 := eq_true c27
                                  have c27b1 : decide (t174.size + t175.size ≤ 9223372036854775807) = true := decide_eq_true c27
                                  try have c27b2 : (9223372036854775807 < t174.size + t175.size) = False := eq_false (Nat.not_lt.2 c27)
                                  by_cases c28 : (t174 ++ t175).size + 2 ≤ 9223372036854775807
                                  · rw [if_pos c28] at H
                                    have c28b0 := eq_true c28
                                    have c28b1 : decide ((t174 ++ t175).size + 2 ≤ 9223372036854775807) = true := decide_eq_true c28
                                    try have c28b2 : (9223372036854775807 < (t174 ++ t175).size + 2) = False := eq_false (Nat.not_lt.2 c28)
                                    (try (have c28b3 := c28b2; simp only [ByteArray.size_append] at c28b3))
                                    replace H := Option.bind_eq_some_iff.mp H
                                    obtain ⟨t176, A290, H⟩ := H
                                    replace H : (if t176 = true then (spec_ReadPhrase.l3 k5 a0 a1 x6_2 x7_3 0 x6_2 x7_3 x172002_5 0 0) else (spec_ReadPhrase.l2 k5 a0 a1 x6_2 x7_3 x6_2 x7_3 (wrap64 (x172002_5 + 1)) 0 0)) = some (r1, r2, r3, r4, r5, r6) := H
                                    have A29 := Aside0.mk A290
                                    clear A290
                                    by_cases c30 : t176 = true
                                    · subst c30
                                      have H1 : (spec_ReadPhrase.l3 k5 a0 a1 x6_2 x7_3 0 x6_2 x7_3 x172002_5 0 0) = some (r1, r2, r3, r4, r5, r6) := by rw [if_pos rfl] at H; exact H
                                      clear H
                                      have H := H1
                                      clear H1
                                      have H' := Aside0.mk H
                                      clear H
                                      have hnb31 := NB171_169.out
                                      have hnc31 := NB169_171.out
                                      have hcz32_0 : wr.cell? ⟨gb171, 0, none⟩ = some (.int .i64 x6_2) := (blk_cell BK171.out 0).trans rfl
                                      have hcz32_1 : wr.cell? ⟨gb171, 1, none⟩ = some (.int .i64 x7_3) := (blk_cell BK171.out 1).trans rfl
                                      have hcz32_2 : wr.cell? ⟨gb171, 2, none⟩ = some (.int .i64 x172002_5) := (blk_cell BK171.out 2).trans rfl
                                      have hcz32_3 : wr.cell? ⟨gb171, 3, none⟩ = some (.int .i64 0) := (blk_cell BK171.out 3).trans rfl
                                      have hcz32_4 : wr.cell? ⟨gb171, 4, none⟩ = some (.int .i64 0) := (blk_cell BK171.out 4).trans rfl
                                      have hfz32_0 := blk_frozen BK171.out 0
                                      have hfz32_1 := blk_frozen BK171.out 1
                                      have hfz32_2 := blk_frozen BK171.out 2
                                      have hfz32_3 := blk_frozen BK171.out 3
                                      have hfz32_4 := blk_frozen BK171.out 4
                                      try go_wp2
                                      have n0_ := Aside0.mk (blk_drew BK169.out)
                                      have n1_ := Aside0.mk (blk_drew BK171.out)
                                      have n2_ := Aside0.mk (below_drew1 HB.out)
                                      clear BK169
                                      clear BK171
                                      clear HB
                                      have BK169 := n0_
                                      have BK171 := n1_
                                      have HB := n2_
                                      clear n0_ n1_ n2_
                                      refine start_ (n := 9) (S := fun w' => w'.cell? ⟨gb171, 0, none⟩ = some (.int .i64 x6_2) ∧ w'.cell? ⟨gb171, 1, none⟩ = some (.int .i64 x7_3) ∧ w'.cell? ⟨gb171, 2, none⟩ = some (.int .i64 x172002_5) ∧ w'.cell? ⟨gb171, 3, none⟩ = some (.int .i64 0) ∧ w'.cell? ⟨gb171, 4, none⟩ = some (.int .i64 0)) (ds := []) #[false, false, false, false, false, false, false, false, false] (by kernel_rfl) rfl rfl ⟨(blk_cell BK171.out 0).trans rfl, (blk_cell BK171.out 1).trans rfl, (blk_cell BK171.out 2).trans rfl, (blk_cell BK171.out 3).trans rfl, (blk_cell BK171.out 4).trans rfl⟩ (fun hHeld => ?_); refine with_tabW spec_ReadPhrase.tab14 spec_ReadPhrase.bits14 (fun HT_ HW_ => ?_)
                                      generalize wr.drew = w33 at BK169 BK171 HB hHeld ⊢
                                      refine pure_ (i := 1) (N := some 55) (v := ?_) (a' := ?_) #[false, true, false, false, false, false, false, false, false] rfl rfl (any_of HT_.out (by kernel_rfl)) (fun _ _ _ h => h) (Or.inl ⟨by rfl, ?_⟩) ?_ ?_
                                      rotate_left
                                      · intro w'
                                        go_simp
                                        with_reducible rfl
                                      rotate_left
                                      · simp only [Act.put, List.setIfInBounds_toArray, List.set_cons_zero, List.set_cons_succ, i64_w, i32_w]
                                        rfl
                                      refine pure_ (i := 4) (N := some 58) (v := ?_) (a' := ?_) #[false, true, false, false, true, false, false, false, false] rfl rfl (any_of HT_.out (by kernel_rfl)) (fun _ _ _ h => h) (Or.inl ⟨by rfl, ?_⟩) ?_ ?_
                                      rotate_left
                                      · intro w'
                                        go_simp
                                        with_reducible rfl
                                      rotate_left
                                      · simp only [Act.put, List.setIfInBounds_toArray, List.set_cons_zero, List.set_cons_succ, i64_w, i32_w]
                                        rfl
                                      refine take_ (i := 0) (N := some 54) (v := ?_) (a' := ?_) #[true, true, false, false, true, false, false, false, false] rfl rfl (take_ofW HT_.out HW_.out (by kernel_rfl)) (fun _ _ _ h => h) (Or.inl ⟨by rfl, ?_⟩) hHeld ?_ ?_
                                      rotate_left
                                      · rintro w' ⟨s0, s1, s2, s3, s4⟩
                                        go_simp
                                        with_reducible rfl
                                      rotate_left
                                      · simp only [Act.put, List.setIfInBounds_toArray, List.set_cons_zero, List.set_cons_succ, i64_w, i32_w]
                                        rfl
                                      refine take_ (i := 3) (N := some 57) (v := ?_) (a' := ?_) #[true, true, false, true, true, false, false, false, false] rfl rfl (take_ofW HT_.out HW_.out (by kernel_rfl)) (fun _ _ _ h => h) (Or.inl ⟨by rfl, ?_⟩) hHeld ?_ ?_
                                      rotate_left
                                      · rintro w' ⟨s0, s1, s2, s3, s4⟩
                                        go_simp
                                        with_reducible rfl
                                      rotate_left
                                      · simp only [Act.put, List.setIfInBounds_toArray, List.set_cons_zero, List.set_cons_succ, i64_w, i32_w]
                                        rfl
                                      refine one_ (i := 2) (N := some 56) #[true, true, true, true, true, false, false, false, false] rfl rfl (one_of HT_.out (by kernel_rfl)) (by decide) (fun K hK => ?_)
                                      refine goes_ Tryd.func17 (by kernel_rfl) rfl #[.agg #[.int .i64 x6_2, .int .i64 x7_3, .int .i64 x172002_5, .int .i64 0, .int .i64 0], .int .i64 a1] (by rfl) rfl rfl (by (try simp only [List.map_toArray, List.map_cons, List.map_nil]); first | done | rfl | (simp only [List.length_drop, List.length_take]; rfl)) ?_
                                      with_reducible refine (spec_l23Wind.calls k5 x6_2 x7_3 x172002_5 0 0 a1 t174 _ A25.out).mono ?_
                                      rintro e w34 ⟨rfl, hb⟩
                                      refine ⟨_, rfl, ?_⟩
                                      have n0_ := Aside0.mk (blk_below (g := gb169) (o := .cells #[.int .i64 x170000_5, .int .i64 x170001_5, .int .i64 x170002_5, .int .i64 x170003_5, .int .i64 x170004_5] 25 (0, 0)) (by (with_reducible repeat (first | refine blk_drewN ?_ _ | refine blk_drew ?_ | refine blk_alloc ?_ _)); exact BK169.out) hb)
                                      have n1_ := Aside0.mk (blk_below (g := gb171) (o := .cells #[.int .i64 x6_2, .int .i64 x7_3, .int .i64 x172002_5, .int .i64 0, .int .i64 0] 25 (0, 0)) (by (with_reducible repeat (first | refine blk_drewN ?_ _ | refine blk_drew ?_ | refine blk_alloc ?_ _)); exact BK171.out) hb)
                                      have n2_ := Aside0.mk (below_step (by repeat (first | (with_reducible first | exact HB.out | apply below_alloc | apply pw_below_drewN | apply below_drew1 | refine below_set ?_ GE169.out | refine below_set ?_ GE171.out) | exact HB.out)) hb)
                                      clear BK169
                                      clear BK171
                                      clear HB
                                      have BK169 := n0_
                                      have BK171 := n1_
                                      have HB := n2_
                                      clear n0_ n1_ n2_
                                      (try clear hb)
                                      (try clear hb2)
                                      (try clear hk)
                                      (try clear hi)
                                      refine hK.out _ _ ⟨(blk_cell BK171.out 0).trans rfl, (blk_cell BK171.out 1).trans rfl, (blk_cell BK171.out 2).trans rfl, (blk_cell BK171.out 3).trans rfl, (blk_cell BK171.out 4).trans rfl⟩ (fun hHeld => ?_)
                                      clear hK K
                                      refine norm_ (a' := ?_) ?_ ?_
                                      rotate_left
                                      · show Act.put _ (some 56) _ = _
                                        simp only [Act.put, List.setIfInBounds_toArray, List.set_cons_zero, List.set_cons_succ, i64_w, i32_w]
                                        rfl
                                      refine one_ (i := 5) (N := some 59) #[true, true, true, true, true, true, false, false, false] rfl rfl (one_of HT_.out (by kernel_rfl)) (by decide) (fun K hK => ?_)
                                      refine goes_ Tryd.func18 (by kernel_rfl) rfl #[.agg #[.int .i64 x6_2, .int .i64 x7_3, .int .i64 x172002_5, .int .i64 0, .int .i64 0], .int .i64 a1] (by rfl) rfl rfl (by (try simp only [List.map_toArray, List.map_cons, List.map_nil]); first | done | rfl | (simp only [List.length_drop, List.length_take]; rfl)) ?_
                                      with_reducible refine (spec_l23Later.calls k5 x6_2 x7_3 x172002_5 0 0 a1 t175 _ A26.out).mono ?_
                                      rintro e w35 ⟨rfl, hb⟩
                                      refine ⟨_, rfl, ?_⟩
                                      have n0_ := Aside0.mk (blk_below (g := gb169) (o := .cells #[.int .i64 x170000_5, .int .i64 x170001_5, .int .i64 x170002_5, .int .i64 x170003_5, .int .i64 x170004_5] 25 (0, 0)) (by (with_reducible repeat (first | refine blk_drewN ?_ _ | refine blk_drew ?_ | refine blk_alloc ?_ _)); exact BK169.out) hb)
                                      have n1_ := Aside0.mk (blk_below (g := gb171) (o := .cells #[.int .i64 x6_2, .int .i64 x7_3, .int .i64 x172002_5, .int .i64 0, .int .i64 0] 25 (0, 0)) (by (with_reducible repeat (first | refine blk_drewN ?_ _ | refine blk_drew ?_ | refine blk_alloc ?_ _)); exact BK171.out) hb)
                                      have n2_ := Aside0.mk (below_step (by repeat (first | (with_reducible first | exact HB.out | apply below_alloc | apply pw_below_drewN | apply below_drew1 | refine below_set ?_ GE169.out | refine below_set ?_ GE171.out) | exact HB.out)) hb)
                                      clear BK169
                                      clear BK171
                                      clear HB
                                      have BK169 := n0_
                                      have BK171 := n1_
                                      have HB := n2_
                                      clear n0_ n1_ n2_
                                      (try clear hb)
                                      (try clear hb2)
                                      (try clear hk)
                                      (try clear hi)
                                      refine hK.out _ _ ⟨(blk_cell BK171.out 0).trans rfl, (blk_cell BK171.out 1).trans rfl, (blk_cell BK171.out 2).trans rfl, (blk_cell BK171.out 3).trans rfl, (blk_cell BK171.out 4).trans rfl⟩ (fun hHeld => ?_)
                                      clear hK K
                                      refine norm_ (a' := ?_) ?_ ?_
                                      rotate_left
                                      · show Act.put _ (some 59) _ = _
                                        simp only [Act.put, List.setIfInBounds_toArray, List.set_cons_zero, List.set_cons_succ, i64_w, i32_w]
                                        rfl
                                      refine pure_ (i := 6) (N := some 60) (v := ?_) (a' := ?_) #[true, true, true, true, true, true, true, false, false] rfl rfl (any_of HT_.out (by kernel_rfl)) (fun _ _ _ h => h) (Or.inl ⟨by rfl, ?_⟩) ?_ ?_
                                      rotate_left
                                      · intro w'
                                        go_simp
                                        with_reducible rfl
                                      rotate_left
                                      · simp only [Act.put, List.setIfInBounds_toArray, List.set_cons_zero, List.set_cons_succ, i64_w, i32_w]
                                        rfl
                                      refine pure_ (i := 7) (N := some 61) (v := ?_) (a' := ?_) #[true, true, true, true, true, true, true, true, false] rfl rfl (any_of HT_.out (by kernel_rfl)) (fun _ _ _ h => h) (Or.inl ⟨by rfl, ?_⟩) ?_ ?_
                                      rotate_left
                                      · intro w'
                                        go_simp
                                        with_reducible rfl
                                      rotate_left
                                      · simp only [Act.put, List.setIfInBounds_toArray, List.set_cons_zero, List.set_cons_succ, i64_w, i32_w]
                                        rfl
                                      refine pure_ (i := 8) (N := some 9) (v := ?_) (a' := ?_) #[true, true, true, true, true, true, true, true, true] rfl rfl (any_of HT_.out (by kernel_rfl)) (fun _ _ _ h => h) (Or.inl ⟨by rfl, ?_⟩) ?_ ?_
                                      rotate_left
                                      · intro w'
                                        go_simp
                                        with_reducible rfl
                                      rotate_left
                                      · simp only [Act.put, List.setIfInBounds_toArray, List.set_cons_zero, List.set_cons_succ, i64_w, i32_w]
                                        rfl
                                      refine done_ (done_of HT_.out (by kernel_rfl)) ?_
                                      try go_wp2_with (first | ((with_reducible refine gate_callee (f := 24) rfl ?_); refine goesL_ (some 64) rfl rfl Tryd.func24 (by kernel_rfl) rfl #[.string a0, .string ((t174 ++ t175) ++ (⟨#[46, 32]⟩ : ByteArray))] rfl (by (try simp only [List.map_toArray, List.map_cons, List.map_nil]); first | done | rfl | (simp only [List.length_drop, List.length_take]; rfl)) ?_; (with_reducible refine (spec_l23Ahead.calls a0 ((t174 ++ t175) ++ (⟨#[46, 32]⟩ : ByteArray)) true _ A29.out).mono ?_); rintro e w' ⟨rfl, ⟨nd, rfl⟩⟩; refine ⟨_, rfl, ?_⟩))
                                      go_loopg [10] k5 (fun kq v10 w' => ∃ (x10_6 : Int) (x170000_6 : Int) (x170001_6 : Int) (x170002_6 : Int) (x170003_6 : Int) (x170004_6 : Int), v10 = .int .i64 x10_6 ∧ Aside0 (spec_ReadPhrase.l3 kq a0 a1 x6_2 x7_3 x10_6 x6_2 x7_3 x172002_5 0 0 = some (r1, r2, r3, r4, r5, r6)) ∧ Aside0 (kq ≤ k5) ∧ Aside0 (w'.heap[gb169]? = some (.cells #[.int .i64 x170000_6, .int .i64 x170001_6, .int .i64 x170002_6, .int .i64 x170003_6, .int .i64 x170004_6] 25 (0, 0))) ∧ Aside0 (w'.heap[gb171]? = some (.cells #[.int .i64 x6_2, .int .i64 x7_3, .int .i64 x172002_5, .int .i64 0, .int .i64 0] 25 (0, 0))) ∧ Aside0 (Below w.heap.size w w'))
                                      case atStart => exact ⟨(0), (x170000_5), (x170001_5), (x170002_5), (x170003_5), (x170004_5), (by first | rfl | (simp; done) | (simp [*]; done)), H', ⟨Nat.le_refl _⟩, ⟨by (with_reducible repeat (first | refine blk_drewN ?_ _ | refine blk_drew ?_ | refine blk_alloc ?_ _)); exact BK169.out⟩, ⟨by (with_reducible repeat (first | refine blk_drewN ?_ _ | refine blk_drew ?_ | refine blk_alloc ?_ _)); exact BK171.out⟩, ⟨by repeat (first | (with_reducible first | exact HB.out | apply below_alloc | apply pw_below_drewN | apply below_drew1 | refine below_set ?_ GE169.out | refine below_set ?_ GE171.out) | exact HB.out)⟩⟩
                                      case round =>
                                        clear H'
                                        try clear c1
                                        try clear c2
                                        try clear p2
                                        try clear c3
                                        try clear c6
                                        try clear p6
                                        try clear c7
                                        try clear c9
                                        try clear c9b0
                                        try clear c10
                                        try clear c10b0
                                        try clear c13
                                        try clear c15
                                        try clear c15b0
                                        try clear c15b1
                                        try clear c15b2
                                        try clear c16
                                        try clear c17
                                        try clear c18
                                        try clear c21
                                        try clear c22
                                        try clear c24
                                        try clear c24b0
                                        try clear c27
                                        try clear c27b0
                                        try clear c27b1
                                        try clear c27b2
                                        try clear c28
                                        try clear c28b0
                                        try clear c28b1
                                        try clear c28b2
                                        try clear c30
                                        try clear c31
                                        try clear hcz14_0
                                        try clear hcz14_1
                                        try clear hcz14_2
                                        try clear hcz14_3
                                        try clear hcz14_4
                                        try clear hcz19_0
                                        try clear hcz19_1
                                        try clear hcz19_2
                                        try clear hcz19_3
                                        try clear hcz19_4
                                        try clear hcz23_0
                                        try clear hcz23_1
                                        try clear hcz23_2
                                        try clear hcz23_3
                                        try clear hcz23_4
                                        try clear hcz32_0
                                        try clear hcz32_1
                                        try clear hcz32_2
                                        try clear hcz32_3
                                        try clear hcz32_4
                                        try clear hcz8_0
                                        try clear hcz8_1
                                        try clear hcz8_2
                                        try clear hcz8_3
                                        try clear hcz8_4
                                        try clear hfz14_0
                                        try clear hfz14_1
                                        try clear hfz14_2
                                        try clear hfz14_3
                                        try clear hfz14_4
                                        try clear hfz19_0
                                        try clear hfz19_1
                                        try clear hfz19_2
                                        try clear hfz19_3
                                        try clear hfz19_4
                                        try clear hfz23_0
                                        try clear hfz23_1
                                        try clear hfz23_2
                                        try clear hfz23_3
                                        try clear hfz23_4
                                        try clear hfz32_0
                                        try clear hfz32_1
                                        try clear hfz32_2
                                        try clear hfz32_3
                                        try clear hfz32_4
                                        try clear hfz8_0
                                        try clear hfz8_1
                                        try clear hfz8_2
                                        try clear hfz8_3
                                        try clear hfz8_4
                                        try clear p2
                                        try clear p6
                                        obtain ⟨x10_6, x170000_6, x170001_6, x170002_6, x170003_6, x170004_6, rfl, HA, HK6, BK169, BK171, HB⟩ := hrel
                                        cases gk with
                                        | zero => exact absurd HA.out (by simp [spec_ReadPhrase.l3])
                                        | succ k6 =>
                                          have H := HA.out
                                          clear HA
                                          simp only [spec_ReadPhrase.l3] at H
                                          by_cases c36 : x10_6 ≤ 3
                                          · rw [if_pos c36] at H
                                            have c36b0 : decide (x10_6 ≤ 3) = true := decide_eq_true c36
                                            clear c36
                                            have H' := Aside0.mk H
                                            clear H
                                            go_wp2
                                            go_loopg [11] k6 (fun kq v11 w' => ∃ (x11_7 : Int) (x170000_7 : Int) (x170001_7 : Int) (x170002_7 : Int) (x170003_7 : Int) (x170004_7 : Int), v11 = .int .i64 x11_7 ∧ Aside0 (spec_ReadPhrase.l4 kq a0 a1 x6_2 x7_3 x10_6 x11_7 x6_2 x7_3 x172002_5 0 0 = some (r1, r2, r3, r4, r5, r6)) ∧ Aside0 (kq ≤ k6) ∧ Aside0 (w'.heap[gb169]? = some (.cells #[.int .i64 x170000_7, .int .i64 x170001_7, .int .i64 x170002_7, .int .i64 x170003_7, .int .i64 x170004_7] 25 (0, 0))) ∧ Aside0 (w'.heap[gb171]? = some (.cells #[.int .i64 x6_2, .int .i64 x7_3, .int .i64 x172002_5, .int .i64 0, .int .i64 0] 25 (0, 0))) ∧ Aside0 (Below w.heap.size w w'))
                                            case atStart => exact ⟨(0), (x170000_6), (x170001_6), (x170002_6), (x170003_6), (x170004_6), (by first | rfl | (simp; done) | (simp [*]; done)), H', ⟨Nat.le_refl _⟩, ⟨by (with_reducible repeat (first | refine blk_drewN ?_ _ | refine blk_drew ?_ | refine blk_alloc ?_ _)); exact BK169.out⟩, ⟨by (with_reducible repeat (first | refine blk_drewN ?_ _ | refine blk_drew ?_ | refine blk_alloc ?_ _)); exact BK171.out⟩, ⟨by repeat (first | (with_reducible first | exact HB.out | apply below_alloc | apply pw_below_drewN | apply below_drew1 | refine below_set ?_ GE169.out | refine below_set ?_ GE171.out) | exact HB.out)⟩⟩
                                            case round =>
                                              clear H'
                                              try clear c1
                                              try clear c2
                                              try clear p2
                                              try clear c3
                                              try clear c6
                                              try clear p6
                                              try clear c7
                                              try clear c9
                                              try clear c9b0
                                              try clear c10
                                              try clear c10b0
                                              try clear c13
                                              try clear c15
                                              try clear c15b0
                                              try clear c15b1
                                              try clear c15b2
                                              try clear c16
                                              try clear c17
                                              try clear c18
                                              try clear c21
                                              try clear c22
                                              try clear c24
                                              try clear c24b0
                                              try clear c27
                                              try clear c27b0
                                              try clear c27b1
                                              try clear c27b2
                                              try clear c28
                                              try clear c28b0
                                              try clear c28b1
                                              try clear c28b2
                                              try clear c30
                                              try clear c31
                                              try clear c36
                                              try clear c36b0
                                              try clear hcz14_0
                                              try clear hcz14_1
                                              try clear hcz14_2
                                              try clear hcz14_3
                                              try clear hcz14_4
                                              try clear hcz19_0
                                              try clear hcz19_1
                                              try clear hcz19_2
                                              try clear hcz19_3
                                              try clear hcz19_4
                                              try clear hcz23_0
                                              try clear hcz23_1
                                              try clear hcz23_2
                                              try clear hcz23_3
                                              try clear hcz23_4
                                              try clear hcz32_0
                                              try clear hcz32_1
                                              try clear hcz32_2
                                              try clear hcz32_3
                                              try clear hcz32_4
                                              try clear hcz8_0
                                              try clear hcz8_1
                                              try clear hcz8_2
                                              try clear hcz8_3
                                              try clear hcz8_4
                                              try clear hfz14_0
                                              try clear hfz14_1
                                              try clear hfz14_2
                                              try clear hfz14_3
                                              try clear hfz14_4
                                              try clear hfz19_0
                                              try clear hfz19_1
                                              try clear hfz19_2
                                              try clear hfz19_3
                                              try clear hfz19_4
                                              try clear hfz23_0
                                              try clear hfz23_1
                                              try clear hfz23_2
                                              try clear hfz23_3
                                              try clear hfz23_4
                                              try clear hfz32_0
                                              try clear hfz32_1
                                              try clear hfz32_2
                                              try clear hfz32_3
                                              try clear hfz32_4
                                              try clear hfz8_0
                                              try clear hfz8_1
                                              try clear hfz8_2
                                              try clear hfz8_3
                                              try clear hfz8_4
                                              try clear p2
                                              try clear p6
                                              obtain ⟨x11_7, x170000_7, x170001_7, x170002_7, x170003_7, x170004_7, rfl, HA, HK7, BK169, BK171, HB⟩ := hrel
                                              cases gk with
                                              | zero => exact absurd HA.out (by simp [spec_ReadPhrase.l4])
                                              | succ k7 =>
                                                have H := HA.out
                                                clear HA
                                                simp only [spec_ReadPhrase.l4] at H
                                                by_cases c37 : x11_7 ≤ 100
                                                · rw [if_pos c37] at H
                                                  have c37b0 : decide (x11_7 ≤ 100) = true := decide_eq_true c37
                                                  clear c37
                                                  replace H := Option.bind_eq_some_iff.mp H
                                                  obtain ⟨t178, A380, H⟩ := H
                                                  replace H : (if t178 = true then ((spec_Phrase.f k7 x6_2 x7_3 x172002_5 x10_6 x11_7 a1).bind fun t179 => (if t179.toList = a0.toList then (some (x6_2, x7_3, x172002_5, x10_6, x11_7, true)) else (spec_ReadPhrase.l4 k7 a0 a1 x6_2 x7_3 x10_6 (wrap64 (x11_7 + 1)) x6_2 x7_3 x172002_5 0 0))) else (spec_ReadPhrase.l4 k7 a0 a1 x6_2 x7_3 x10_6 (wrap64 (x11_7 + 1)) x6_2 x7_3 x172002_5 0 0)) = some (r1, r2, r3, r4, r5, r6) := H
                                                  have A38 := Aside0.mk A380
                                                  clear A380
                                                  by_cases c39 : t178 = true
                                                  · subst c39
                                                    have H1 : ((spec_Phrase.f k7 x6_2 x7_3 x172002_5 x10_6 x11_7 a1).bind fun t179 => (if t179.toList = a0.toList then (some (x6_2, x7_3, x172002_5, x10_6, x11_7, true)) else (spec_ReadPhrase.l4 k7 a0 a1 x6_2 x7_3 x10_6 (wrap64 (x11_7 + 1)) x6_2 x7_3 x172002_5 0 0))) = some (r1, r2, r3, r4, r5, r6) := by rw [if_pos rfl] at H; exact H
                                                    clear H
                                                    have H := H1
                                                    clear H1
                                                    replace H := Option.bind_eq_some_iff.mp H
                                                    obtain ⟨t179, A400, H⟩ := H
                                                    replace H : (if t179.toList = a0.toList then (some (x6_2, x7_3, x172002_5, x10_6, x11_7, true)) else (spec_ReadPhrase.l4 k7 a0 a1 x6_2 x7_3 x10_6 (wrap64 (x11_7 + 1)) x6_2 x7_3 x172002_5 0 0)) = some (r1, r2, r3, r4, r5, r6) := H
                                                    have A40 := Aside0.mk A400
                                                    clear A400
                                                    by_cases c41 : t179.toList = a0.toList
                                                    · rw [if_pos c41] at H
                                                      have c41b0 : (t179.toList == a0.toList) = true := beq_iff_eq.mpr c41
                                                      have c41b1 : (t179.toList != a0.toList) = false := bne_eq_false_iff_eq.mpr c41
                                                      clear c41
                                                      simp only [Option.some.injEq, Prod.mk.injEq] at H
                                                      obtain ⟨rfl, rfl, rfl, rfl, rfl, rfl⟩ := H
                                                      have hnb42 := NB171_169.out
                                                      have hnc42 := NB169_171.out
                                                      have hcz43_0 : wr.cell? ⟨gb171, 0, none⟩ = some (.int .i64 x6_2) := (blk_cell BK171.out 0).trans rfl
                                                      have hcz43_1 : wr.cell? ⟨gb171, 1, none⟩ = some (.int .i64 x7_3) := (blk_cell BK171.out 1).trans rfl
                                                      have hcz43_2 : wr.cell? ⟨gb171, 2, none⟩ = some (.int .i64 x172002_5) := (blk_cell BK171.out 2).trans rfl
                                                      have hcz43_3 : wr.cell? ⟨gb171, 3, none⟩ = some (.int .i64 0) := (blk_cell BK171.out 3).trans rfl
                                                      have hcz43_4 : wr.cell? ⟨gb171, 4, none⟩ = some (.int .i64 0) := (blk_cell BK171.out 4).trans rfl
                                                      have hfz43_0 := blk_frozen BK171.out 0
                                                      have hfz43_1 := blk_frozen BK171.out 1
                                                      have hfz43_2 := blk_frozen BK171.out 2
                                                      have hfz43_3 := blk_frozen BK171.out 3
                                                      have hfz43_4 := blk_frozen BK171.out 4
                                                      go_wp2_with (first | ((with_reducible refine gate_dst (N := 12) rfl ?_); (try (refine gate_guard (by rfl) ?_; dsimp only)); refine box_event ?hg (N := 12) ?hd (cs := #[.int .i64 0, .int .i64 0, .int .i64 0, .int .i64 0, .int .i64 0]) (t := 25) ?hr ?_; (case hd => rfl); (case hg => rfl); (case hr => first | (go_simp; done) | (go_simp; rfl)); intro gb177 hg w44 hbox hb; have n0_ := Aside0.mk (blk_below (g := gb169) (o := .cells #[.int .i64 x170000_7, .int .i64 x170001_7, .int .i64 x170002_7, .int .i64 x170003_7, .int .i64 x170004_7] 25 (0, 0)) (by (with_reducible repeat (first | refine blk_drewN ?_ _ | refine blk_drew ?_ | refine blk_alloc ?_ _)); exact BK169.out) hb); have n1_ := Aside0.mk (blk_below (g := gb171) (o := .cells #[.int .i64 x6_2, .int .i64 x7_3, .int .i64 x172002_5, .int .i64 0, .int .i64 0] 25 (0, 0)) (by (with_reducible repeat (first | refine blk_drewN ?_ _ | refine blk_drew ?_ | refine blk_alloc ?_ _)); exact BK171.out) hb); have n2_ := Aside0.mk (below_step (by repeat (first | (with_reducible first | exact HB.out | apply below_alloc | apply pw_below_drewN | apply below_drew1 | refine below_set ?_ GE169.out | refine below_set ?_ GE171.out) | exact HB.out)) hb); have n3_ := Aside0.mk (hbox); have n4_ := Aside0.mk ((by rw [hg]; exact (below_size (by repeat (first | (with_reducible first | exact HB.out | apply below_alloc | apply pw_below_drewN | apply below_drew1 | refine below_set ?_ GE169.out | refine below_set ?_ GE171.out) | exact HB.out))) : w.heap.size ≤ gb177)); have n5_ := Aside0.mk ((by rw [hg]; exact (below_size (by repeat (first | (with_reducible first | exact HB.out | apply below_alloc | apply pw_below_drewN | apply below_drew1 | refine below_set ?_ GE169.out | refine below_set ?_ GE171.out) | exact HB.out))) : w.heap.size ≤ gb177)); have n6_ := Aside0.mk ((by rw [hg]; exact Nat.ne_of_lt (blk_lt (g := gb169) (o := .cells #[.int .i64 x170000_7, .int .i64 x170001_7, .int .i64 x170002_7, .int .i64 x170003_7, .int .i64 x170004_7] 25 (0, 0)) (by (with_reducible repeat (first | refine blk_drewN ?_ _ | refine blk_drew ?_ | refine blk_alloc ?_ _)); exact BK169.out)) : gb169 ≠ gb177)); have n7_ := Aside0.mk ((by rw [hg]; exact Nat.ne_of_gt (blk_lt (g := gb169) (o := .cells #[.int .i64 x170000_7, .int .i64 x170001_7, .int .i64 x170002_7, .int .i64 x170003_7, .int .i64 x170004_7] 25 (0, 0)) (by (with_reducible repeat (first | refine blk_drewN ?_ _ | refine blk_drew ?_ | refine blk_alloc ?_ _)); exact BK169.out)) : gb177 ≠ gb169)); have n8_ := Aside0.mk ((by rw [hg]; exact Nat.ne_of_lt (blk_lt (g := gb171) (o := .cells #[.int .i64 x6_2, .int .i64 x7_3, .int .i64 x172002_5, .int .i64 0, .int .i64 0] 25 (0, 0)) (by (with_reducible repeat (first | refine blk_drewN ?_ _ | refine blk_drew ?_ | refine blk_alloc ?_ _)); exact BK171.out)) : gb171 ≠ gb177)); have n9_ := Aside0.mk ((by rw [hg]; exact Nat.ne_of_gt (blk_lt (g := gb171) (o := .cells #[.int .i64 x6_2, .int .i64 x7_3, .int .i64 x172002_5, .int .i64 0, .int .i64 0] 25 (0, 0)) (by (with_reducible repeat (first | refine blk_drewN ?_ _ | refine blk_drew ?_ | refine blk_alloc ?_ _)); exact BK171.out)) : gb177 ≠ gb171)); clear BK169; clear BK171; clear HB; have BK169 := n0_; have BK171 := n1_; have HB := n2_; have BK177 := n3_; have GW177 := n4_; have GE177 := n5_; have NB169_177 := n6_; have NB177_169 := n7_; have NB171_177 := n8_; have NB177_171 := n9_; clear n0_ n1_ n2_ n3_ n4_ n5_ n6_ n7_ n8_ n9_; clear hb hbox hg; have hnb45 := NB177_169.out; have hnc45 := NB169_177.out; have hnb46 := NB177_171.out; have hnc46 := NB171_177.out; have hcz47_0 : w44.cell? ⟨gb177, 0, none⟩ = some (.int .i64 0) := (blk_cell BK177.out 0).trans rfl; have hcz47_1 : w44.cell? ⟨gb177, 1, none⟩ = some (.int .i64 0) := (blk_cell BK177.out 1).trans rfl; have hcz47_2 : w44.cell? ⟨gb177, 2, none⟩ = some (.int .i64 0) := (blk_cell BK177.out 2).trans rfl; have hcz47_3 : w44.cell? ⟨gb177, 3, none⟩ = some (.int .i64 0) := (blk_cell BK177.out 3).trans rfl; have hcz47_4 : w44.cell? ⟨gb177, 4, none⟩ = some (.int .i64 0) := (blk_cell BK177.out 4).trans rfl; have hfz47_0 := blk_frozen BK177.out 0; have hfz47_1 := blk_frozen BK177.out 1; have hfz47_2 := blk_frozen BK177.out 2; have hfz47_3 := blk_frozen BK177.out 3; have hfz47_4 := blk_frozen BK177.out 4) | ((with_reducible refine gate_callee (f := 15) rfl ?_); refine goesL_ (some 82) rfl rfl Tryd.func15 (by kernel_rfl) rfl #[.agg #[.int .i64 x6_2, .int .i64 x7_3, .int .i64 x172002_5, .int .i64 x10_6, .int .i64 x11_7]] rfl (by (try simp only [List.map_toArray, List.map_cons, List.map_nil]); first | done | rfl | (simp only [List.length_drop, List.length_take]; rfl)) ?_; (with_reducible refine (spec_l23Ok.calls x6_2 x7_3 x172002_5 x10_6 x11_7 true _ A38.out).mono ?_); rintro e w48 ⟨rfl, hb⟩; refine ⟨_, rfl, ?_⟩; have n0_ := Aside0.mk (blk_below (g := gb169) (o := .cells #[.int .i64 x170000_7, .int .i64 x170001_7, .int .i64 x170002_7, .int .i64 x170003_7, .int .i64 x170004_7] 25 (0, 0)) (by (with_reducible repeat (first | refine blk_drewN ?_ _ | refine blk_drew ?_ | refine blk_alloc ?_ _)); refine blk_far ?_ NB169_177.out _; (with_reducible repeat (first | refine blk_drewN ?_ _ | refine blk_drew ?_ | refine blk_alloc ?_ _)); refine blk_far ?_ NB169_177.out _; (with_reducible repeat (first | refine blk_drewN ?_ _ | refine blk_drew ?_ | refine blk_alloc ?_ _)); refine blk_far ?_ NB169_177.out _; (with_reducible repeat (first | refine blk_drewN ?_ _ | refine blk_drew ?_ | refine blk_alloc ?_ _)); refine blk_far ?_ NB169_177.out _; (with_reducible repeat (first | refine blk_drewN ?_ _ | refine blk_drew ?_ | refine blk_alloc ?_ _)); refine blk_far ?_ NB169_177.out _; (with_reducible repeat (first | refine blk_drewN ?_ _ | refine blk_drew ?_ | refine blk_alloc ?_ _)); exact BK169.out) hb); have n1_ := Aside0.mk (blk_below (g := gb171) (o := .cells #[.int .i64 x6_2, .int .i64 x7_3, .int .i64 x172002_5, .int .i64 0, .int .i64 0] 25 (0, 0)) (by (with_reducible repeat (first | refine blk_drewN ?_ _ | refine blk_drew ?_ | refine blk_alloc ?_ _)); refine blk_far ?_ NB171_177.out _; (with_reducible repeat (first | refine blk_drewN ?_ _ | refine blk_drew ?_ | refine blk_alloc ?_ _)); refine blk_far ?_ NB171_177.out _; (with_reducible repeat (first | refine blk_drewN ?_ _ | refine blk_drew ?_ | refine blk_alloc ?_ _)); refine blk_far ?_ NB171_177.out _; (with_reducible repeat (first | refine blk_drewN ?_ _ | refine blk_drew ?_ | refine blk_alloc ?_ _)); refine blk_far ?_ NB171_177.out _; (with_reducible repeat (first | refine blk_drewN ?_ _ | refine blk_drew ?_ | refine blk_alloc ?_ _)); refine blk_far ?_ NB171_177.out _; (with_reducible repeat (first | refine blk_drewN ?_ _ | refine blk_drew ?_ | refine blk_alloc ?_ _)); exact BK171.out) hb); have n2_ := Aside0.mk (blk_below (g := gb177) (o := .cells #[.int .i64 x6_2, .int .i64 x7_3, .int .i64 x172002_5, .int .i64 x10_6, .int .i64 x11_7] 25 (0, 0)) (by (with_reducible repeat (first | refine blk_drewN ?_ _ | refine blk_drew ?_ | refine blk_alloc ?_ _)); refine blk_put (cs := #[.int .i64 x6_2, .int .i64 x7_3, .int .i64 x172002_5, .int .i64 x10_6, .int .i64 0]) ?_ 4 _ rfl; (with_reducible repeat (first | refine blk_drewN ?_ _ | refine blk_drew ?_ | refine blk_alloc ?_ _)); refine blk_put (cs := #[.int .i64 x6_2, .int .i64 x7_3, .int .i64 x172002_5, .int .i64 0, .int .i64 0]) ?_ 3 _ rfl; (with_reducible repeat (first | refine blk_drewN ?_ _ | refine blk_drew ?_ | refine blk_alloc ?_ _)); refine blk_put (cs := #[.int .i64 x6_2, .int .i64 x7_3, .int .i64 0, .int .i64 0, .int .i64 0]) ?_ 2 _ rfl; (with_reducible repeat (first | refine blk_drewN ?_ _ | refine blk_drew ?_ | refine blk_alloc ?_ _)); refine blk_put (cs := #[.int .i64 x6_2, .int .i64 0, .int .i64 0, .int .i64 0, .int .i64 0]) ?_ 1 _ rfl; (with_reducible repeat (first | refine blk_drewN ?_ _ | refine blk_drew ?_ | refine blk_alloc ?_ _)); refine blk_put (cs := #[.int .i64 0, .int .i64 0, .int .i64 0, .int .i64 0, .int .i64 0]) ?_ 0 _ rfl; (with_reducible repeat (first | refine blk_drewN ?_ _ | refine blk_drew ?_ | refine blk_alloc ?_ _)); exact BK177.out) hb); have n3_ := Aside0.mk (below_step (by repeat (first | (with_reducible first | exact HB.out | apply below_alloc | apply pw_below_drewN | apply below_drew1 | refine below_set ?_ GE169.out | refine below_set ?_ GE171.out | refine below_set ?_ GE177.out) | exact HB.out)) hb); clear BK169; clear BK171; clear BK177; clear HB; have BK169 := n0_; have BK171 := n1_; have BK177 := n2_; have HB := n3_; clear n0_ n1_ n2_ n3_; (try clear hb); (try clear hb2); (try clear hk); (try clear hi); have hcz49_0 : w48.cell? ⟨gb177, 0, none⟩ = some (.int .i64 x6_2) := (blk_cell BK177.out 0).trans rfl; have hcz49_1 : w48.cell? ⟨gb177, 1, none⟩ = some (.int .i64 x7_3) := (blk_cell BK177.out 1).trans rfl; have hcz49_2 : w48.cell? ⟨gb177, 2, none⟩ = some (.int .i64 x172002_5) := (blk_cell BK177.out 2).trans rfl; have hcz49_3 : w48.cell? ⟨gb177, 3, none⟩ = some (.int .i64 x10_6) := (blk_cell BK177.out 3).trans rfl; have hcz49_4 : w48.cell? ⟨gb177, 4, none⟩ = some (.int .i64 x11_7) := (blk_cell BK177.out 4).trans rfl; have hfz49_0 := blk_frozen BK177.out 0; have hfz49_1 := blk_frozen BK177.out 1; have hfz49_2 := blk_frozen BK177.out 2; have hfz49_3 := blk_frozen BK177.out 3; have hfz49_4 := blk_frozen BK177.out 4) | (go_at_call 6; (with_reducible refine (spec_Phrase.calls k7 x6_2 x7_3 x172002_5 x10_6 x11_7 a1 t179 _ A40.out).mono ?_); rintro e w50 ⟨rfl, hb⟩; have n0_ := Aside0.mk (blk_below (g := gb169) (o := .cells #[.int .i64 x170000_7, .int .i64 x170001_7, .int .i64 x170002_7, .int .i64 x170003_7, .int .i64 x170004_7] 25 (0, 0)) (by (with_reducible repeat (first | refine blk_drewN ?_ _ | refine blk_drew ?_ | refine blk_alloc ?_ _)); exact BK169.out) hb); have n1_ := Aside0.mk (blk_below (g := gb171) (o := .cells #[.int .i64 x6_2, .int .i64 x7_3, .int .i64 x172002_5, .int .i64 0, .int .i64 0] 25 (0, 0)) (by (with_reducible repeat (first | refine blk_drewN ?_ _ | refine blk_drew ?_ | refine blk_alloc ?_ _)); exact BK171.out) hb); have n2_ := Aside0.mk (blk_below (g := gb177) (o := .cells #[.int .i64 x6_2, .int .i64 x7_3, .int .i64 x172002_5, .int .i64 x10_6, .int .i64 x11_7] 25 (0, 0)) (by (with_reducible repeat (first | refine blk_drewN ?_ _ | refine blk_drew ?_ | refine blk_alloc ?_ _)); exact BK177.out) hb); have n3_ := Aside0.mk (below_step (by repeat (first | (with_reducible first | exact HB.out | apply below_alloc | apply pw_below_drewN | apply below_drew1 | refine below_set ?_ GE169.out | refine below_set ?_ GE171.out | refine below_set ?_ GE177.out) | exact HB.out)) hb); clear BK169; clear BK171; clear BK177; clear HB; have BK169 := n0_; have BK171 := n1_; have BK177 := n2_; have HB := n3_; clear n0_ n1_ n2_ n3_; (try clear hb); (try clear hb2); (try clear hk); (try clear hi); have hcz51_0 : w50.cell? ⟨gb177, 0, none⟩ = some (.int .i64 x6_2) := (blk_cell BK177.out 0).trans rfl; have hcz51_1 : w50.cell? ⟨gb177, 1, none⟩ = some (.int .i64 x7_3) := (blk_cell BK177.out 1).trans rfl; have hcz51_2 : w50.cell? ⟨gb177, 2, none⟩ = some (.int .i64 x172002_5) := (blk_cell BK177.out 2).trans rfl; have hcz51_3 : w50.cell? ⟨gb177, 3, none⟩ = some (.int .i64 x10_6) := (blk_cell BK177.out 3).trans rfl; have hcz51_4 : w50.cell? ⟨gb177, 4, none⟩ = some (.int .i64 x11_7) := (blk_cell BK177.out 4).trans rfl; have hfz51_0 := blk_frozen BK177.out 0; have hfz51_1 := blk_frozen BK177.out 1; have hfz51_2 := blk_frozen BK177.out 2; have hfz51_3 := blk_frozen BK177.out 3; have hfz51_4 := blk_frozen BK177.out 4; have hcz52_0 : w50.cell? ⟨gb169, 0, none⟩ = some (.int .i64 x170000_7) := (blk_cell BK169.out 0).trans rfl; have hcz52_1 : w50.cell? ⟨gb169, 1, none⟩ = some (.int .i64 x170001_7) := (blk_cell BK169.out 1).trans rfl; have hcz52_2 : w50.cell? ⟨gb169, 2, none⟩ = some (.int .i64 x170002_7) := (blk_cell BK169.out 2).trans rfl; have hcz52_3 : w50.cell? ⟨gb169, 3, none⟩ = some (.int .i64 x170003_7) := (blk_cell BK169.out 3).trans rfl; have hcz52_4 : w50.cell? ⟨gb169, 4, none⟩ = some (.int .i64 x170004_7) := (blk_cell BK169.out 4).trans rfl; have hfz52_0 := blk_frozen BK169.out 0; have hfz52_1 := blk_frozen BK169.out 1; have hfz52_2 := blk_frozen BK169.out 2; have hfz52_3 := blk_frozen BK169.out 3; have hfz52_4 := blk_frozen BK169.out 4))
                                                      refine bodyPost_ret (results_ct rfl _ _ gb169 25 #[.int .i64 x6_2, .int .i64 x7_3, .int .i64 x172002_5, .int .i64 x10_6, .int .i64 x11_7] (0, 0) _ rfl (by (with_reducible repeat (first | refine blk_drewN ?_ _ | refine blk_drew ?_ | refine blk_alloc ?_ _)); refine blk_put (cs := #[.int .i64 x6_2, .int .i64 x7_3, .int .i64 x172002_5, .int .i64 x10_6, .int .i64 x170004_7]) ?_ 4 _ rfl; (with_reducible repeat (first | refine blk_drewN ?_ _ | refine blk_drew ?_ | refine blk_alloc ?_ _)); refine blk_put (cs := #[.int .i64 x6_2, .int .i64 x7_3, .int .i64 x172002_5, .int .i64 x170003_7, .int .i64 x170004_7]) ?_ 3 _ rfl; (with_reducible repeat (first | refine blk_drewN ?_ _ | refine blk_drew ?_ | refine blk_alloc ?_ _)); refine blk_put (cs := #[.int .i64 x6_2, .int .i64 x7_3, .int .i64 x170002_7, .int .i64 x170003_7, .int .i64 x170004_7]) ?_ 2 _ rfl; (with_reducible repeat (first | refine blk_drewN ?_ _ | refine blk_drew ?_ | refine blk_alloc ?_ _)); refine blk_put (cs := #[.int .i64 x6_2, .int .i64 x170001_7, .int .i64 x170002_7, .int .i64 x170003_7, .int .i64 x170004_7]) ?_ 1 _ rfl; (with_reducible repeat (first | refine blk_drewN ?_ _ | refine blk_drew ?_ | refine blk_alloc ?_ _)); refine blk_put (cs := #[.int .i64 x170000_7, .int .i64 x170001_7, .int .i64 x170002_7, .int .i64 x170003_7, .int .i64 x170004_7]) ?_ 0 _ rfl; (with_reducible repeat (first | refine blk_drewN ?_ _ | refine blk_drew ?_ | refine blk_alloc ?_ _)); exact BK169.out) Tryd.underlying25 rfl (by kernel_rfl)) rfl ?_
                                                      exact ⟨by first | rfl | (simp [errW_none, errW_some] <;> rfl) | (simp [*, errW_none, errW_some] <;> rfl), by repeat (first | (with_reducible first | exact HB.out | apply below_alloc | apply pw_below_drewN | apply below_drew1 | refine below_set ?_ GE169.out | refine below_set ?_ GE171.out | refine below_set ?_ GE177.out) | exact HB.out)⟩
                                                    · rw [if_neg c41] at H
                                                      have c41b0 : (t179.toList == a0.toList) = false := beq_eq_false_iff_ne.mpr c41
                                                      have c41b1 : (t179.toList != a0.toList) = true := bne_iff_ne.mpr c41
                                                      have H' := Aside0.mk H
                                                      clear H
                                                      have hnb53 := NB171_169.out
                                                      have hnc53 := NB169_171.out
                                                      have hcz54_0 : wr.cell? ⟨gb171, 0, none⟩ = some (.int .i64 x6_2) := (blk_cell BK171.out 0).trans rfl
                                                      have hcz54_1 : wr.cell? ⟨gb171, 1, none⟩ = some (.int .i64 x7_3) := (blk_cell BK171.out 1).trans rfl
                                                      have hcz54_2 : wr.cell? ⟨gb171, 2, none⟩ = some (.int .i64 x172002_5) := (blk_cell BK171.out 2).trans rfl
                                                      have hcz54_3 : wr.cell? ⟨gb171, 3, none⟩ = some (.int .i64 0) := (blk_cell BK171.out 3).trans rfl
                                                      have hcz54_4 : wr.cell? ⟨gb171, 4, none⟩ = some (.int .i64 0) := (blk_cell BK171.out 4).trans rfl
                                                      have hfz54_0 := blk_frozen BK171.out 0
                                                      have hfz54_1 := blk_frozen BK171.out 1
                                                      have hfz54_2 := blk_frozen BK171.out 2
                                                      have hfz54_3 := blk_frozen BK171.out 3
                                                      have hfz54_4 := blk_frozen BK171.out 4
                                                      go_wp2_with (first | ((with_reducible refine gate_dst (N := 12) rfl ?_); (try (refine gate_guard (by rfl) ?_; dsimp only)); refine box_event ?hg (N := 12) ?hd (cs := #[.int .i64 0, .int .i64 0, .int .i64 0, .int .i64 0, .int .i64 0]) (t := 25) ?hr ?_; (case hd => rfl); (case hg => rfl); (case hr => first | (go_simp; done) | (go_simp; rfl)); intro gb177 hg w55 hbox hb; have n0_ := Aside0.mk (blk_below (g := gb169) (o := .cells #[.int .i64 x170000_7, .int .i64 x170001_7, .int .i64 x170002_7, .int .i64 x170003_7, .int .i64 x170004_7] 25 (0, 0)) (by (with_reducible repeat (first | refine blk_drewN ?_ _ | refine blk_drew ?_ | refine blk_alloc ?_ _)); exact BK169.out) hb); have n1_ := Aside0.mk (blk_below (g := gb171) (o := .cells #[.int .i64 x6_2, .int .i64 x7_3, .int .i64 x172002_5, .int .i64 0, .int .i64 0] 25 (0, 0)) (by (with_reducible repeat (first | refine blk_drewN ?_ _ | refine blk_drew ?_ | refine blk_alloc ?_ _)); exact BK171.out) hb); have n2_ := Aside0.mk (below_step (by repeat (first | (with_reducible first | exact HB.out | apply below_alloc | apply pw_below_drewN | apply below_drew1 | refine below_set ?_ GE169.out | refine below_set ?_ GE171.out) | exact HB.out)) hb); have n3_ := Aside0.mk (hbox); have n4_ := Aside0.mk ((by rw [hg]; exact (below_size (by repeat (first | (with_reducible first | exact HB.out | apply below_alloc | apply pw_below_drewN | apply below_drew1 | refine below_set ?_ GE169.out | refine below_set ?_ GE171.out) | exact HB.out))) : w.heap.size ≤ gb177)); have n5_ := Aside0.mk ((by rw [hg]; exact (below_size (by repeat (first | (with_reducible first | exact HB.out | apply below_alloc | apply pw_below_drewN | apply below_drew1 | refine below_set ?_ GE169.out | refine below_set ?_ GE171.out) | exact HB.out))) : w.heap.size ≤ gb177)); have n6_ := Aside0.mk ((by rw [hg]; exact Nat.ne_of_lt (blk_lt (g := gb169) (o := .cells #[.int .i64 x170000_7, .int .i64 x170001_7, .int .i64 x170002_7, .int .i64 x170003_7, .int .i64 x170004_7] 25 (0, 0)) (by (with_reducible repeat (first | refine blk_drewN ?_ _ | refine blk_drew ?_ | refine blk_alloc ?_ _)); exact BK169.out)) : gb169 ≠ gb177)); have n7_ := Aside0.mk ((by rw [hg]; exact Nat.ne_of_gt (blk_lt (g := gb169) (o := .cells #[.int .i64 x170000_7, .int .i64 x170001_7, .int .i64 x170002_7, .int .i64 x170003_7, .int .i64 x170004_7] 25 (0, 0)) (by (with_reducible repeat (first | refine blk_drewN ?_ _ | refine blk_drew ?_ | refine blk_alloc ?_ _)); exact BK169.out)) : gb177 ≠ gb169)); have n8_ := Aside0.mk ((by rw [hg]; exact Nat.ne_of_lt (blk_lt (g := gb171) (o := .cells #[.int .i64 x6_2, .int .i64 x7_3, .int .i64 x172002_5, .int .i64 0, .int .i64 0] 25 (0, 0)) (by (with_reducible repeat (first | refine blk_drewN ?_ _ | refine blk_drew ?_ | refine blk_alloc ?_ _)); exact BK171.out)) : gb171 ≠ gb177)); have n9_ := Aside0.mk ((by rw [hg]; exact Nat.ne_of_gt (blk_lt (g := gb171) (o := .cells #[.int .i64 x6_2, .int .i64 x7_3, .int .i64 x172002_5, .int .i64 0, .int .i64 0] 25 (0, 0)) (by (with_reducible repeat (first | refine blk_drewN ?_ _ | refine blk_drew ?_ | refine blk_alloc ?_ _)); exact BK171.out)) : gb177 ≠ gb171)); clear BK169; clear BK171; clear HB; have BK169 := n0_; have BK171 := n1_; have HB := n2_; have BK177 := n3_; have GW177 := n4_; have GE177 := n5_; have NB169_177 := n6_; have NB177_169 := n7_; have NB171_177 := n8_; have NB177_171 := n9_; clear n0_ n1_ n2_ n3_ n4_ n5_ n6_ n7_ n8_ n9_; clear hb hbox hg; have hnb56 := NB177_169.out; have hnc56 := NB169_177.out; have hnb57 := NB177_171.out; have hnc57 := NB171_177.out; have hcz58_0 : w55.cell? ⟨gb177, 0, none⟩ = some (.int .i64 0) := (blk_cell BK177.out 0).trans rfl; have hcz58_1 : w55.cell? ⟨gb177, 1, none⟩ = some (.int .i64 0) := (blk_cell BK177.out 1).trans rfl; have hcz58_2 : w55.cell? ⟨gb177, 2, none⟩ = some (.int .i64 0) := (blk_cell BK177.out 2).trans rfl; have hcz58_3 : w55.cell? ⟨gb177, 3, none⟩ = some (.int .i64 0) := (blk_cell BK177.out 3).trans rfl; have hcz58_4 : w55.cell? ⟨gb177, 4, none⟩ = some (.int .i64 0) := (blk_cell BK177.out 4).trans rfl; have hfz58_0 := blk_frozen BK177.out 0; have hfz58_1 := blk_frozen BK177.out 1; have hfz58_2 := blk_frozen BK177.out 2; have hfz58_3 := blk_frozen BK177.out 3; have hfz58_4 := blk_frozen BK177.out 4) | ((with_reducible refine gate_callee (f := 15) rfl ?_); refine goesL_ (some 82) rfl rfl Tryd.func15 (by kernel_rfl) rfl #[.agg #[.int .i64 x6_2, .int .i64 x7_3, .int .i64 x172002_5, .int .i64 x10_6, .int .i64 x11_7]] rfl (by (try simp only [List.map_toArray, List.map_cons, List.map_nil]); first | done | rfl | (simp only [List.length_drop, List.length_take]; rfl)) ?_; (with_reducible refine (spec_l23Ok.calls x6_2 x7_3 x172002_5 x10_6 x11_7 true _ A38.out).mono ?_); rintro e w59 ⟨rfl, hb⟩; refine ⟨_, rfl, ?_⟩; have n0_ := Aside0.mk (blk_below (g := gb169) (o := .cells #[.int .i64 x170000_7, .int .i64 x170001_7, .int .i64 x170002_7, .int .i64 x170003_7, .int .i64 x170004_7] 25 (0, 0)) (by (with_reducible repeat (first | refine blk_drewN ?_ _ | refine blk_drew ?_ | refine blk_alloc ?_ _)); refine blk_far ?_ NB169_177.out _; (with_reducible repeat (first | refine blk_drewN ?_ _ | refine blk_drew ?_ | refine blk_alloc ?_ _)); refine blk_far ?_ NB169_177.out _; (with_reducible repeat (first | refine blk_drewN ?_ _ | refine blk_drew ?_ | refine blk_alloc ?_ _)); refine blk_far ?_ NB169_177.out _; (with_reducible repeat (first | refine blk_drewN ?_ _ | refine blk_drew ?_ | refine blk_alloc ?_ _)); refine blk_far ?_ NB169_177.out _; (with_reducible repeat (first | refine blk_drewN ?_ _ | refine blk_drew ?_ | refine blk_alloc ?_ _)); refine blk_far ?_ NB169_177.out _; (with_reducible repeat (first | refine blk_drewN ?_ _ | refine blk_drew ?_ | refine blk_alloc ?_ _)); exact BK169.out) hb); have n1_ := Aside0.mk (blk_below (g := gb171) (o := .cells #[.int .i64 x6_2, .int .i64 x7_3, .int .i64 x172002_5, .int .i64 0, .int .i64 0] 25 (0, 0)) (by (with_reducible repeat (first | refine blk_drewN ?_ _ | refine blk_drew ?_ | refine blk_alloc ?_ _)); refine blk_far ?_ NB171_177.out _; (with_reducible repeat (first | refine blk_drewN ?_ _ | refine blk_drew ?_ | refine blk_alloc ?_ _)); refine blk_far ?_ NB171_177.out _; (with_reducible repeat (first | refine blk_drewN ?_ _ | refine blk_drew ?_ | refine blk_alloc ?_ _)); refine blk_far ?_ NB171_177.out _; (with_reducible repeat (first | refine blk_drewN ?_ _ | refine blk_drew ?_ | refine blk_alloc ?_ _)); refine blk_far ?_ NB171_177.out _; (with_reducible repeat (first | refine blk_drewN ?_ _ | refine blk_drew ?_ | refine blk_alloc ?_ _)); refine blk_far ?_ NB171_177.out _; (with_reducible repeat (first | refine blk_drewN ?_ _ | refine blk_drew ?_ | refine blk_alloc ?_ _)); exact BK171.out) hb); have n2_ := Aside0.mk (blk_below (g := gb177) (o := .cells #[.int .i64 x6_2, .int .i64 x7_3, .int .i64 x172002_5, .int .i64 x10_6, .int .i64 x11_7] 25 (0, 0)) (by (with_reducible repeat (first | refine blk_drewN ?_ _ | refine blk_drew ?_ | refine blk_alloc ?_ _)); refine blk_put (cs := #[.int .i64 x6_2, .int .i64 x7_3, .int .i64 x172002_5, .int .i64 x10_6, .int .i64 0]) ?_ 4 _ rfl; (with_reducible repeat (first | refine blk_drewN ?_ _ | refine blk_drew ?_ | refine blk_alloc ?_ _)); refine blk_put (cs := #[.int .i64 x6_2, .int .i64 x7_3, .int .i64 x172002_5, .int .i64 0, .int .i64 0]) ?_ 3 _ rfl; (with_reducible repeat (first | refine blk_drewN ?_ _ | refine blk_drew ?_ | refine blk_alloc ?_ _)); refine blk_put (cs := #[.int .i64 x6_2, .int .i64 x7_3, .int .i64 0, .int .i64 0, .int .i64 0]) ?_ 2 _ rfl; (with_reducible repeat (first | refine blk_drewN ?_ _ | refine blk_drew ?_ | refine blk_alloc ?_ _)); refine blk_put (cs := #[.int .i64 x6_2, .int .i64 0, .int .i64 0, .int .i64 0, .int .i64 0]) ?_ 1 _ rfl; (with_reducible repeat (first | refine blk_drewN ?_ _ | refine blk_drew ?_ | refine blk_alloc ?_ _)); refine blk_put (cs := #[.int .i64 0, .int .i64 0, .int .i64 0, .int .i64 0, .int .i64 0]) ?_ 0 _ rfl; (with_reducible repeat (first | refine blk_drewN ?_ _ | refine blk_drew ?_ | refine blk_alloc ?_ _)); exact BK177.out) hb); have n3_ := Aside0.mk (below_step (by repeat (first | (with_reducible first | exact HB.out | apply below_alloc | apply pw_below_drewN | apply below_drew1 | refine below_set ?_ GE169.out | refine below_set ?_ GE171.out | refine below_set ?_ GE177.out) | exact HB.out)) hb); clear BK169; clear BK171; clear BK177; clear HB; have BK169 := n0_; have BK171 := n1_; have BK177 := n2_; have HB := n3_; clear n0_ n1_ n2_ n3_; (try clear hb); (try clear hb2); (try clear hk); (try clear hi); have hcz60_0 : w59.cell? ⟨gb177, 0, none⟩ = some (.int .i64 x6_2) := (blk_cell BK177.out 0).trans rfl; have hcz60_1 : w59.cell? ⟨gb177, 1, none⟩ = some (.int .i64 x7_3) := (blk_cell BK177.out 1).trans rfl; have hcz60_2 : w59.cell? ⟨gb177, 2, none⟩ = some (.int .i64 x172002_5) := (blk_cell BK177.out 2).trans rfl; have hcz60_3 : w59.cell? ⟨gb177, 3, none⟩ = some (.int .i64 x10_6) := (blk_cell BK177.out 3).trans rfl; have hcz60_4 : w59.cell? ⟨gb177, 4, none⟩ = some (.int .i64 x11_7) := (blk_cell BK177.out 4).trans rfl; have hfz60_0 := blk_frozen BK177.out 0; have hfz60_1 := blk_frozen BK177.out 1; have hfz60_2 := blk_frozen BK177.out 2; have hfz60_3 := blk_frozen BK177.out 3; have hfz60_4 := blk_frozen BK177.out 4) | (go_at_call 6; (with_reducible refine (spec_Phrase.calls k7 x6_2 x7_3 x172002_5 x10_6 x11_7 a1 t179 _ A40.out).mono ?_); rintro e w61 ⟨rfl, hb⟩; have n0_ := Aside0.mk (blk_below (g := gb169) (o := .cells #[.int .i64 x170000_7, .int .i64 x170001_7, .int .i64 x170002_7, .int .i64 x170003_7, .int .i64 x170004_7] 25 (0, 0)) (by (with_reducible repeat (first | refine blk_drewN ?_ _ | refine blk_drew ?_ | refine blk_alloc ?_ _)); exact BK169.out) hb); have n1_ := Aside0.mk (blk_below (g := gb171) (o := .cells #[.int .i64 x6_2, .int .i64 x7_3, .int .i64 x172002_5, .int .i64 0, .int .i64 0] 25 (0, 0)) (by (with_reducible repeat (first | refine blk_drewN ?_ _ | refine blk_drew ?_ | refine blk_alloc ?_ _)); exact BK171.out) hb); have n2_ := Aside0.mk (blk_below (g := gb177) (o := .cells #[.int .i64 x6_2, .int .i64 x7_3, .int .i64 x172002_5, .int .i64 x10_6, .int .i64 x11_7] 25 (0, 0)) (by (with_reducible repeat (first | refine blk_drewN ?_ _ | refine blk_drew ?_ | refine blk_alloc ?_ _)); exact BK177.out) hb); have n3_ := Aside0.mk (below_step (by repeat (first | (with_reducible first | exact HB.out | apply below_alloc | apply pw_below_drewN | apply below_drew1 | refine below_set ?_ GE169.out | refine below_set ?_ GE171.out | refine below_set ?_ GE177.out) | exact HB.out)) hb); clear BK169; clear BK171; clear BK177; clear HB; have BK169 := n0_; have BK171 := n1_; have BK177 := n2_; have HB := n3_; clear n0_ n1_ n2_ n3_; (try clear hb); (try clear hb2); (try clear hk); (try clear hi)))
                                                      go_roundg k7
                                                      case measure => have := HJ2.out; have := HK2.out; have := HK3.out; have := HJ10.out; have := HK5.out; have := HK6.out; have := HK7.out; omega
                                                      case rel => exact ⟨(wrap64 (x11_7 + 1)), (x170000_7), (x170001_7), (x170002_7), (x170003_7), (x170004_7), (by first | rfl | (simp; done) | (simp [*]; done)), H', ⟨by have := HJ2.out; have := HK2.out; have := HK3.out; have := HJ10.out; have := HK5.out; have := HK6.out; have := HK7.out; omega⟩, ⟨by (with_reducible repeat (first | refine blk_drewN ?_ _ | refine blk_drew ?_ | refine blk_alloc ?_ _)); exact BK169.out⟩, ⟨by (with_reducible repeat (first | refine blk_drewN ?_ _ | refine blk_drew ?_ | refine blk_alloc ?_ _)); exact BK171.out⟩, ⟨by repeat (first | (with_reducible first | exact HB.out | apply below_alloc | apply pw_below_drewN | apply below_drew1 | refine below_set ?_ GE169.out | refine below_set ?_ GE171.out | refine below_set ?_ GE177.out) | exact HB.out)⟩⟩
                                                  · replace c39 := Bool.eq_false_iff.mpr c39
                                                    subst c39
                                                    have H1 : (spec_ReadPhrase.l4 k7 a0 a1 x6_2 x7_3 x10_6 (wrap64 (x11_7 + 1)) x6_2 x7_3 x172002_5 0 0) = some (r1, r2, r3, r4, r5, r6) := by rw [if_neg (show ¬ (false = true) by decide)] at H; exact H
                                                    clear H
                                                    have H := H1
                                                    clear H1
                                                    have H' := Aside0.mk H
                                                    clear H
                                                    have hnb62 := NB171_169.out
                                                    have hnc62 := NB169_171.out
                                                    have hcz63_0 : wr.cell? ⟨gb171, 0, none⟩ = some (.int .i64 x6_2) := (blk_cell BK171.out 0).trans rfl
                                                    have hcz63_1 : wr.cell? ⟨gb171, 1, none⟩ = some (.int .i64 x7_3) := (blk_cell BK171.out 1).trans rfl
                                                    have hcz63_2 : wr.cell? ⟨gb171, 2, none⟩ = some (.int .i64 x172002_5) := (blk_cell BK171.out 2).trans rfl
                                                    have hcz63_3 : wr.cell? ⟨gb171, 3, none⟩ = some (.int .i64 0) := (blk_cell BK171.out 3).trans rfl
                                                    have hcz63_4 : wr.cell? ⟨gb171, 4, none⟩ = some (.int .i64 0) := (blk_cell BK171.out 4).trans rfl
                                                    have hfz63_0 := blk_frozen BK171.out 0
                                                    have hfz63_1 := blk_frozen BK171.out 1
                                                    have hfz63_2 := blk_frozen BK171.out 2
                                                    have hfz63_3 := blk_frozen BK171.out 3
                                                    have hfz63_4 := blk_frozen BK171.out 4
                                                    go_wp2_with (first | ((with_reducible refine gate_dst (N := 12) rfl ?_); (try (refine gate_guard (by rfl) ?_; dsimp only)); refine box_event ?hg (N := 12) ?hd (cs := #[.int .i64 0, .int .i64 0, .int .i64 0, .int .i64 0, .int .i64 0]) (t := 25) ?hr ?_; (case hd => rfl); (case hg => rfl); (case hr => first | (go_simp; done) | (go_simp; rfl)); intro gb177 hg w64 hbox hb; have n0_ := Aside0.mk (blk_below (g := gb169) (o := .cells #[.int .i64 x170000_7, .int .i64 x170001_7, .int .i64 x170002_7, .int .i64 x170003_7, .int .i64 x170004_7] 25 (0, 0)) (by (with_reducible repeat (first | refine blk_drewN ?_ _ | refine blk_drew ?_ | refine blk_alloc ?_ _)); exact BK169.out) hb); have n1_ := Aside0.mk (blk_below (g := gb171) (o := .cells #[.int .i64 x6_2, .int .i64 x7_3, .int .i64 x172002_5, .int .i64 0, .int .i64 0] 25 (0, 0)) (by (with_reducible repeat (first | refine blk_drewN ?_ _ | refine blk_drew ?_ | refine blk_alloc ?_ _)); exact BK171.out) hb); have n2_ := Aside0.mk (below_step (by repeat (first | (with_reducible first | exact HB.out | apply below_alloc | apply pw_below_drewN | apply below_drew1 | refine below_set ?_ GE169.out | refine below_set ?_ GE171.out) | exact HB.out)) hb); have n3_ := Aside0.mk (hbox); have n4_ := Aside0.mk ((by rw [hg]; exact (below_size (by repeat (first | (with_reducible first | exact HB.out | apply below_alloc | apply pw_below_drewN | apply below_drew1 | refine below_set ?_ GE169.out | refine below_set ?_ GE171.out) | exact HB.out))) : w.heap.size ≤ gb177)); have n5_ := Aside0.mk ((by rw [hg]; exact (below_size (by repeat (first | (with_reducible first | exact HB.out | apply below_alloc | apply pw_below_drewN | apply below_drew1 | refine below_set ?_ GE169.out | refine below_set ?_ GE171.out) | exact HB.out))) : w.heap.size ≤ gb177)); have n6_ := Aside0.mk ((by rw [hg]; exact Nat.ne_of_lt (blk_lt (g := gb169) (o := .cells #[.int .i64 x170000_7, .int .i64 x170001_7, .int .i64 x170002_7, .int .i64 x170003_7, .int .i64 x170004_7] 25 (0, 0)) (by (with_reducible repeat (first | refine blk_drewN ?_ _ | refine blk_drew ?_ | refine blk_alloc ?_ _)); exact BK169.out)) : gb169 ≠ gb177)); have n7_ := Aside0.mk ((by rw [hg]; exact Nat.ne_of_gt (blk_lt (g := gb169) (o := .cells #[.int .i64 x170000_7, .int .i64 x170001_7, .int .i64 x170002_7, .int .i64 x170003_7, .int .i64 x170004_7] 25 (0, 0)) (by (with_reducible repeat (first | refine blk_drewN ?_ _ | refine blk_drew ?_ | refine blk_alloc ?_ _)); exact BK169.out)) : gb177 ≠ gb169)); have n8_ := Aside0.mk ((by rw [hg]; exact Nat.ne_of_lt (blk_lt (g := gb171) (o := .cells #[.int .i64 x6_2, .int .i64 x7_3, .int .i64 x172002_5, .int .i64 0, .int .i64 0] 25 (0, 0)) (by (with_reducible repeat (first | refine blk_drewN ?_ _ | refine blk_drew ?_ | refine blk_alloc ?_ _)); exact BK171.out)) : gb171 ≠ gb177)); have n9_ := Aside0.mk ((by rw [hg]; exact Nat.ne_of_gt (blk_lt (g := gb171) (o := .cells #[.int .i64 x6_2, .int .i64 x7_3, .int .i64 x172002_5, .int .i64 0, .int .i64 0] 25 (0, 0)) (by (with_reducible repeat (first | refine blk_drewN ?_ _ | refine blk_drew ?_ | refine blk_alloc ?_ _)); exact BK171.out)) : gb177 ≠ gb171)); clear BK169; clear BK171; clear HB; have BK169 := n0_; have BK171 := n1_; have HB := n2_; have BK177 := n3_; have GW177 := n4_; have GE177 := n5_; have NB169_177 := n6_; have NB177_169 := n7_; have NB171_177 := n8_; have NB177_171 := n9_; clear n0_ n1_ n2_ n3_ n4_ n5_ n6_ n7_ n8_ n9_; clear hb hbox hg; have hnb65 := NB177_169.out; have hnc65 := NB169_177.out; have hnb66 := NB177_171.out; have hnc66 := NB171_177.out; have hcz67_0 : w64.cell? ⟨gb177, 0, none⟩ = some (.int .i64 0) := (blk_cell BK177.out 0).trans rfl; have hcz67_1 : w64.cell? ⟨gb177, 1, none⟩ = some (.int .i64 0) := (blk_cell BK177.out 1).trans rfl; have hcz67_2 : w64.cell? ⟨gb177, 2, none⟩ = some (.int .i64 0) := (blk_cell BK177.out 2).trans rfl; have hcz67_3 : w64.cell? ⟨gb177, 3, none⟩ = some (.int .i64 0) := (blk_cell BK177.out 3).trans rfl; have hcz67_4 : w64.cell? ⟨gb177, 4, none⟩ = some (.int .i64 0) := (blk_cell BK177.out 4).trans rfl; have hfz67_0 := blk_frozen BK177.out 0; have hfz67_1 := blk_frozen BK177.out 1; have hfz67_2 := blk_frozen BK177.out 2; have hfz67_3 := blk_frozen BK177.out 3; have hfz67_4 := blk_frozen BK177.out 4) | ((with_reducible refine gate_callee (f := 15) rfl ?_); refine goesL_ (some 82) rfl rfl Tryd.func15 (by kernel_rfl) rfl #[.agg #[.int .i64 x6_2, .int .i64 x7_3, .int .i64 x172002_5, .int .i64 x10_6, .int .i64 x11_7]] rfl (by (try simp only [List.map_toArray, List.map_cons, List.map_nil]); first | done | rfl | (simp only [List.length_drop, List.length_take]; rfl)) ?_; (with_reducible refine (spec_l23Ok.calls x6_2 x7_3 x172002_5 x10_6 x11_7 false _ A38.out).mono ?_); rintro e w68 ⟨rfl, hb⟩; refine ⟨_, rfl, ?_⟩; have n0_ := Aside0.mk (blk_below (g := gb169) (o := .cells #[.int .i64 x170000_7, .int .i64 x170001_7, .int .i64 x170002_7, .int .i64 x170003_7, .int .i64 x170004_7] 25 (0, 0)) (by (with_reducible repeat (first | refine blk_drewN ?_ _ | refine blk_drew ?_ | refine blk_alloc ?_ _)); refine blk_far ?_ NB169_177.out _; (with_reducible repeat (first | refine blk_drewN ?_ _ | refine blk_drew ?_ | refine blk_alloc ?_ _)); refine blk_far ?_ NB169_177.out _; (with_reducible repeat (first | refine blk_drewN ?_ _ | refine blk_drew ?_ | refine blk_alloc ?_ _)); refine blk_far ?_ NB169_177.out _; (with_reducible repeat (first | refine blk_drewN ?_ _ | refine blk_drew ?_ | refine blk_alloc ?_ _)); refine blk_far ?_ NB169_177.out _; (with_reducible repeat (first | refine blk_drewN ?_ _ | refine blk_drew ?_ | refine blk_alloc ?_ _)); refine blk_far ?_ NB169_177.out _; (with_reducible repeat (first | refine blk_drewN ?_ _ | refine blk_drew ?_ | refine blk_alloc ?_ _)); exact BK169.out) hb); have n1_ := Aside0.mk (blk_below (g := gb171) (o := .cells #[.int .i64 x6_2, .int .i64 x7_3, .int .i64 x172002_5, .int .i64 0, .int .i64 0] 25 (0, 0)) (by (with_reducible repeat (first | refine blk_drewN ?_ _ | refine blk_drew ?_ | refine blk_alloc ?_ _)); refine blk_far ?_ NB171_177.out _; (with_reducible repeat (first | refine blk_drewN ?_ _ | refine blk_drew ?_ | refine blk_alloc ?_ _)); refine blk_far ?_ NB171_177.out _; (with_reducible repeat (first | refine blk_drewN ?_ _ | refine blk_drew ?_ | refine blk_alloc ?_ _)); refine blk_far ?_ NB171_177.out _; (with_reducible repeat (first | refine blk_drewN ?_ _ | refine blk_drew ?_ | refine blk_alloc ?_ _)); refine blk_far ?_ NB171_177.out _; (with_reducible repeat (first | refine blk_drewN ?_ _ | refine blk_drew ?_ | refine blk_alloc ?_ _)); refine blk_far ?_ NB171_177.out _; (with_reducible repeat (first | refine blk_drewN ?_ _ | refine blk_drew ?_ | refine blk_alloc ?_ _)); exact BK171.out) hb); have n2_ := Aside0.mk (blk_below (g := gb177) (o := .cells #[.int .i64 x6_2, .int .i64 x7_3, .int .i64 x172002_5, .int .i64 x10_6, .int .i64 x11_7] 25 (0, 0)) (by (with_reducible repeat (first | refine blk_drewN ?_ _ | refine blk_drew ?_ | refine blk_alloc ?_ _)); refine blk_put (cs := #[.int .i64 x6_2, .int .i64 x7_3, .int .i64 x172002_5, .int .i64 x10_6, .int .i64 0]) ?_ 4 _ rfl; (with_reducible repeat (first | refine blk_drewN ?_ _ | refine blk_drew ?_ | refine blk_alloc ?_ _)); refine blk_put (cs := #[.int .i64 x6_2, .int .i64 x7_3, .int .i64 x172002_5, .int .i64 0, .int .i64 0]) ?_ 3 _ rfl; (with_reducible repeat (first | refine blk_drewN ?_ _ | refine blk_drew ?_ | refine blk_alloc ?_ _)); refine blk_put (cs := #[.int .i64 x6_2, .int .i64 x7_3, .int .i64 0, .int .i64 0, .int .i64 0]) ?_ 2 _ rfl; (with_reducible repeat (first | refine blk_drewN ?_ _ | refine blk_drew ?_ | refine blk_alloc ?_ _)); refine blk_put (cs := #[.int .i64 x6_2, .int .i64 0, .int .i64 0, .int .i64 0, .int .i64 0]) ?_ 1 _ rfl; (with_reducible repeat (first | refine blk_drewN ?_ _ | refine blk_drew ?_ | refine blk_alloc ?_ _)); refine blk_put (cs := #[.int .i64 0, .int .i64 0, .int .i64 0, .int .i64 0, .int .i64 0]) ?_ 0 _ rfl; (with_reducible repeat (first | refine blk_drewN ?_ _ | refine blk_drew ?_ | refine blk_alloc ?_ _)); exact BK177.out) hb); have n3_ := Aside0.mk (below_step (by repeat (first | (with_reducible first | exact HB.out | apply below_alloc | apply pw_below_drewN | apply below_drew1 | refine below_set ?_ GE169.out | refine below_set ?_ GE171.out | refine below_set ?_ GE177.out) | exact HB.out)) hb); clear BK169; clear BK171; clear BK177; clear HB; have BK169 := n0_; have BK171 := n1_; have BK177 := n2_; have HB := n3_; clear n0_ n1_ n2_ n3_; (try clear hb); (try clear hb2); (try clear hk); (try clear hi)))
                                                    go_roundg k7
                                                    case measure => have := HJ2.out; have := HK2.out; have := HK3.out; have := HJ10.out; have := HK5.out; have := HK6.out; have := HK7.out; omega
                                                    case rel => exact ⟨(wrap64 (x11_7 + 1)), (x170000_7), (x170001_7), (x170002_7), (x170003_7), (x170004_7), (by first | rfl | (simp; done) | (simp [*]; done)), H', ⟨by have := HJ2.out; have := HK2.out; have := HK3.out; have := HJ10.out; have := HK5.out; have := HK6.out; have := HK7.out; omega⟩, ⟨by (with_reducible repeat (first | refine blk_drewN ?_ _ | refine blk_drew ?_ | refine blk_alloc ?_ _)); exact BK169.out⟩, ⟨by (with_reducible repeat (first | refine blk_drewN ?_ _ | refine blk_drew ?_ | refine blk_alloc ?_ _)); exact BK171.out⟩, ⟨by repeat (first | (with_reducible first | exact HB.out | apply below_alloc | apply pw_below_drewN | apply below_drew1 | refine below_set ?_ GE169.out | refine below_set ?_ GE171.out | refine below_set ?_ GE177.out) | exact HB.out)⟩⟩
                                                · rw [if_neg c37] at H
                                                  have c37b0 : decide (x11_7 ≤ 100) = false := decide_eq_false c37
                                                  clear c37
                                                  have H' := Aside0.mk H
                                                  clear H
                                                  go_wp2
                                                  go_roundg k7
                                                  case measure => have := HJ2.out; have := HK2.out; have := HK3.out; have := HJ10.out; have := HK5.out; have := HK6.out; have := HK7.out; omega
                                                  case rel => exact ⟨(wrap64 (x10_6 + 1)), (x170000_7), (x170001_7), (x170002_7), (x170003_7), (x170004_7), (by first | rfl | (simp; done) | (simp [*]; done)), H', ⟨by have := HJ2.out; have := HK2.out; have := HK3.out; have := HJ10.out; have := HK5.out; have := HK6.out; have := HK7.out; omega⟩, ⟨by (with_reducible repeat (first | refine blk_drewN ?_ _ | refine blk_drew ?_ | refine blk_alloc ?_ _)); exact BK169.out⟩, ⟨by (with_reducible repeat (first | refine blk_drewN ?_ _ | refine blk_drew ?_ | refine blk_alloc ?_ _)); exact BK171.out⟩, ⟨by repeat (first | (with_reducible first | exact HB.out | apply below_alloc | apply pw_below_drewN | apply below_drew1 | refine below_set ?_ GE169.out | refine below_set ?_ GE171.out) | exact HB.out)⟩⟩
                                          · rw [if_neg c36] at H
                                            have c36b0 : decide (x10_6 ≤ 3) = false := decide_eq_false c36
                                            clear c36
                                            have H' := Aside0.mk H
                                            clear H
                                            have hnb69 := NB171_169.out
                                            have hnc69 := NB169_171.out
                                            have hcz70_0 : wr.cell? ⟨gb171, 0, none⟩ = some (.int .i64 x6_2) := (blk_cell BK171.out 0).trans rfl
                                            have hcz70_1 : wr.cell? ⟨gb171, 1, none⟩ = some (.int .i64 x7_3) := (blk_cell BK171.out 1).trans rfl
                                            have hcz70_2 : wr.cell? ⟨gb171, 2, none⟩ = some (.int .i64 x172002_5) := (blk_cell BK171.out 2).trans rfl
                                            have hcz70_3 : wr.cell? ⟨gb171, 3, none⟩ = some (.int .i64 0) := (blk_cell BK171.out 3).trans rfl
                                            have hcz70_4 : wr.cell? ⟨gb171, 4, none⟩ = some (.int .i64 0) := (blk_cell BK171.out 4).trans rfl
                                            have hfz70_0 := blk_frozen BK171.out 0
                                            have hfz70_1 := blk_frozen BK171.out 1
                                            have hfz70_2 := blk_frozen BK171.out 2
                                            have hfz70_3 := blk_frozen BK171.out 3
                                            have hfz70_4 := blk_frozen BK171.out 4
                                            go_wp2
                                            go_roundg k6
                                            case measure => have := HJ2.out; have := HK2.out; have := HK3.out; have := HJ10.out; have := HK5.out; have := HK6.out; omega
                                            case rel => exact ⟨(x170000_6), (x170001_6), (x170002_6), (x170003_6), (x170004_6), (wrap64 (x172002_5 + 1)), H', ⟨by have := HJ2.out; have := HK2.out; have := HK3.out; have := HJ10.out; have := HK5.out; have := HK6.out; omega⟩, ⟨by (with_reducible repeat (first | refine blk_drewN ?_ _ | refine blk_drew ?_ | refine blk_alloc ?_ _)); refine blk_far ?_ NB169_171.out _; (with_reducible repeat (first | refine blk_drewN ?_ _ | refine blk_drew ?_ | refine blk_alloc ?_ _)); exact BK169.out⟩, ⟨by (with_reducible repeat (first | refine blk_drewN ?_ _ | refine blk_drew ?_ | refine blk_alloc ?_ _)); refine blk_put (cs := #[.int .i64 x6_2, .int .i64 x7_3, .int .i64 x172002_5, .int .i64 0, .int .i64 0]) ?_ 2 _ rfl; (with_reducible repeat (first | refine blk_drewN ?_ _ | refine blk_drew ?_ | refine blk_alloc ?_ _)); exact BK171.out⟩, ⟨by repeat (first | (with_reducible first | exact HB.out | apply below_alloc | apply pw_below_drewN | apply below_drew1 | refine below_set ?_ GE169.out | refine below_set ?_ GE171.out) | exact HB.out)⟩⟩
                                    · replace c30 := Bool.eq_false_iff.mpr c30
                                      subst c30
                                      have H1 : (spec_ReadPhrase.l2 k5 a0 a1 x6_2 x7_3 x6_2 x7_3 (wrap64 (x172002_5 + 1)) 0 0) = some (r1, r2, r3, r4, r5, r6) := by rw [if_neg (show ¬ (false = true) by decide)] at H; exact H
                                      clear H
                                      have H := H1
                                      clear H1
                                      have H' := Aside0.mk H
                                      clear H
                                      have hnb71 := NB171_169.out
                                      have hnc71 := NB169_171.out
                                      have hcz72_0 : wr.cell? ⟨gb171, 0, none⟩ = some (.int .i64 x6_2) := (blk_cell BK171.out 0).trans rfl
                                      have hcz72_1 : wr.cell? ⟨gb171, 1, none⟩ = some (.int .i64 x7_3) := (blk_cell BK171.out 1).trans rfl
                                      have hcz72_2 : wr.cell? ⟨gb171, 2, none⟩ = some (.int .i64 x172002_5) := (blk_cell BK171.out 2).trans rfl
                                      have hcz72_3 : wr.cell? ⟨gb171, 3, none⟩ = some (.int .i64 0) := (blk_cell BK171.out 3).trans rfl
                                      have hcz72_4 : wr.cell? ⟨gb171, 4, none⟩ = some (.int .i64 0) := (blk_cell BK171.out 4).trans rfl
                                      have hfz72_0 := blk_frozen BK171.out 0
                                      have hfz72_1 := blk_frozen BK171.out 1
                                      have hfz72_2 := blk_frozen BK171.out 2
                                      have hfz72_3 := blk_frozen BK171.out 3
                                      have hfz72_4 := blk_frozen BK171.out 4
                                      try go_wp2
                                      have n0_ := Aside0.mk (blk_drew BK169.out)
                                      have n1_ := Aside0.mk (blk_drew BK171.out)
                                      have n2_ := Aside0.mk (below_drew1 HB.out)
                                      clear BK169
                                      clear BK171
                                      clear HB
                                      have BK169 := n0_
                                      have BK171 := n1_
                                      have HB := n2_
                                      clear n0_ n1_ n2_
                                      refine start_ (n := 9) (S := fun w' => w'.cell? ⟨gb171, 0, none⟩ = some (.int .i64 x6_2) ∧ w'.cell? ⟨gb171, 1, none⟩ = some (.int .i64 x7_3) ∧ w'.cell? ⟨gb171, 2, none⟩ = some (.int .i64 x172002_5) ∧ w'.cell? ⟨gb171, 3, none⟩ = some (.int .i64 0) ∧ w'.cell? ⟨gb171, 4, none⟩ = some (.int .i64 0)) (ds := []) #[false, false, false, false, false, false, false, false, false] (by kernel_rfl) rfl rfl ⟨(blk_cell BK171.out 0).trans rfl, (blk_cell BK171.out 1).trans rfl, (blk_cell BK171.out 2).trans rfl, (blk_cell BK171.out 3).trans rfl, (blk_cell BK171.out 4).trans rfl⟩ (fun hHeld => ?_); refine with_tabW spec_ReadPhrase.tab14 spec_ReadPhrase.bits14 (fun HT_ HW_ => ?_)
                                      generalize wr.drew = w73 at BK169 BK171 HB hHeld ⊢
                                      refine pure_ (i := 1) (N := some 55) (v := ?_) (a' := ?_) #[false, true, false, false, false, false, false, false, false] rfl rfl (any_of HT_.out (by kernel_rfl)) (fun _ _ _ h => h) (Or.inl ⟨by rfl, ?_⟩) ?_ ?_
                                      rotate_left
                                      · intro w'
                                        go_simp
                                        with_reducible rfl
                                      rotate_left
                                      · simp only [Act.put, List.setIfInBounds_toArray, List.set_cons_zero, List.set_cons_succ, i64_w, i32_w]
                                        rfl
                                      refine pure_ (i := 4) (N := some 58) (v := ?_) (a' := ?_) #[false, true, false, false, true, false, false, false, false] rfl rfl (any_of HT_.out (by kernel_rfl)) (fun _ _ _ h => h) (Or.inl ⟨by rfl, ?_⟩) ?_ ?_
                                      rotate_left
                                      · intro w'
                                        go_simp
                                        with_reducible rfl
                                      rotate_left
                                      · simp only [Act.put, List.setIfInBounds_toArray, List.set_cons_zero, List.set_cons_succ, i64_w, i32_w]
                                        rfl
                                      refine take_ (i := 0) (N := some 54) (v := ?_) (a' := ?_) #[true, true, false, false, true, false, false, false, false] rfl rfl (take_ofW HT_.out HW_.out (by kernel_rfl)) (fun _ _ _ h => h) (Or.inl ⟨by rfl, ?_⟩) hHeld ?_ ?_
                                      rotate_left
                                      · rintro w' ⟨s0, s1, s2, s3, s4⟩
                                        go_simp
                                        with_reducible rfl
                                      rotate_left
                                      · simp only [Act.put, List.setIfInBounds_toArray, List.set_cons_zero, List.set_cons_succ, i64_w, i32_w]
                                        rfl
                                      refine take_ (i := 3) (N := some 57) (v := ?_) (a' := ?_) #[true, true, false, true, true, false, false, false, false] rfl rfl (take_ofW HT_.out HW_.out (by kernel_rfl)) (fun _ _ _ h => h) (Or.inl ⟨by rfl, ?_⟩) hHeld ?_ ?_
                                      rotate_left
                                      · rintro w' ⟨s0, s1, s2, s3, s4⟩
                                        go_simp
                                        with_reducible rfl
                                      rotate_left
                                      · simp only [Act.put, List.setIfInBounds_toArray, List.set_cons_zero, List.set_cons_succ, i64_w, i32_w]
                                        rfl
                                      refine one_ (i := 2) (N := some 56) #[true, true, true, true, true, false, false, false, false] rfl rfl (one_of HT_.out (by kernel_rfl)) (by decide) (fun K hK => ?_)
                                      refine goes_ Tryd.func17 (by kernel_rfl) rfl #[.agg #[.int .i64 x6_2, .int .i64 x7_3, .int .i64 x172002_5, .int .i64 0, .int .i64 0], .int .i64 a1] (by rfl) rfl rfl (by (try simp only [List.map_toArray, List.map_cons, List.map_nil]); first | done | rfl | (simp only [List.length_drop, List.length_take]; rfl)) ?_
                                      with_reducible refine (spec_l23Wind.calls k5 x6_2 x7_3 x172002_5 0 0 a1 t174 _ A25.out).mono ?_
                                      rintro e w74 ⟨rfl, hb⟩
                                      refine ⟨_, rfl, ?_⟩
                                      have n0_ := Aside0.mk (blk_below (g := gb169) (o := .cells #[.int .i64 x170000_5, .int .i64 x170001_5, .int .i64 x170002_5, .int .i64 x170003_5, .int .i64 x170004_5] 25 (0, 0)) (by (with_reducible repeat (first | refine blk_drewN ?_ _ | refine blk_drew ?_ | refine blk_alloc ?_ _)); exact BK169.out) hb)
                                      have n1_ := Aside0.mk (blk_below (g := gb171) (o := .cells #[.int .i64 x6_2, .int .i64 x7_3, .int .i64 x172002_5, .int .i64 0, .int .i64 0] 25 (0, 0)) (by (with_reducible repeat (first | refine blk_drewN ?_ _ | refine blk_drew ?_ | refine blk_alloc ?_ _)); exact BK171.out) hb)
                                      have n2_ := Aside0.mk (below_step (by repeat (first | (with_reducible first | exact HB.out | apply below_alloc | apply pw_below_drewN | apply below_drew1 | refine below_set ?_ GE169.out | refine below_set ?_ GE171.out) | exact HB.out)) hb)
                                      clear BK169
                                      clear BK171
                                      clear HB
                                      have BK169 := n0_
                                      have BK171 := n1_
                                      have HB := n2_
                                      clear n0_ n1_ n2_
                                      (try clear hb)
                                      (try clear hb2)
                                      (try clear hk)
                                      (try clear hi)
                                      refine hK.out _ _ ⟨(blk_cell BK171.out 0).trans rfl, (blk_cell BK171.out 1).trans rfl, (blk_cell BK171.out 2).trans rfl, (blk_cell BK171.out 3).trans rfl, (blk_cell BK171.out 4).trans rfl⟩ (fun hHeld => ?_)
                                      clear hK K
                                      refine norm_ (a' := ?_) ?_ ?_
                                      rotate_left
                                      · show Act.put _ (some 56) _ = _
                                        simp only [Act.put, List.setIfInBounds_toArray, List.set_cons_zero, List.set_cons_succ, i64_w, i32_w]
                                        rfl
                                      refine one_ (i := 5) (N := some 59) #[true, true, true, true, true, true, false, false, false] rfl rfl (one_of HT_.out (by kernel_rfl)) (by decide) (fun K hK => ?_)
                                      refine goes_ Tryd.func18 (by kernel_rfl) rfl #[.agg #[.int .i64 x6_2, .int .i64 x7_3, .int .i64 x172002_5, .int .i64 0, .int .i64 0], .int .i64 a1] (by rfl) rfl rfl (by (try simp only [List.map_toArray, List.map_cons, List.map_nil]); first | done | rfl | (simp only [List.length_drop, List.length_take]; rfl)) ?_
                                      with_reducible refine (spec_l23Later.calls k5 x6_2 x7_3 x172002_5 0 0 a1 t175 _ A26.out).mono ?_
                                      rintro e w75 ⟨rfl, hb⟩
                                      refine ⟨_, rfl, ?_⟩
                                      have n0_ := Aside0.mk (blk_below (g := gb169) (o := .cells #[.int .i64 x170000_5, .int .i64 x170001_5, .int .i64 x170002_5, .int .i64 x170003_5, .int .i64 x170004_5] 25 (0, 0)) (by (with_reducible repeat (first | refine blk_drewN ?_ _ | refine blk_drew ?_ | refine blk_alloc ?_ _)); exact BK169.out) hb)
                                      have n1_ := Aside0.mk (blk_below (g := gb171) (o := .cells #[.int .i64 x6_2, .int .i64 x7_3, .int .i64 x172002_5, .int .i64 0, .int .i64 0] 25 (0, 0)) (by (with_reducible repeat (first | refine blk_drewN ?_ _ | refine blk_drew ?_ | refine blk_alloc ?_ _)); exact BK171.out) hb)
                                      have n2_ := Aside0.mk (below_step (by repeat (first | (with_reducible first | exact HB.out | apply below_alloc | apply pw_below_drewN | apply below_drew1 | refine below_set ?_ GE169.out | refine below_set ?_ GE171.out) | exact HB.out)) hb)
                                      clear BK169
                                      clear BK171
                                      clear HB
                                      have BK169 := n0_
                                      have BK171 := n1_
                                      have HB := n2_
                                      clear n0_ n1_ n2_
                                      (try clear hb)
                                      (try clear hb2)
                                      (try clear hk)
                                      (try clear hi)
                                      refine hK.out _ _ ⟨(blk_cell BK171.out 0).trans rfl, (blk_cell BK171.out 1).trans rfl, (blk_cell BK171.out 2).trans rfl, (blk_cell BK171.out 3).trans rfl, (blk_cell BK171.out 4).trans rfl⟩ (fun hHeld => ?_)
                                      clear hK K
                                      refine norm_ (a' := ?_) ?_ ?_
                                      rotate_left
                                      · show Act.put _ (some 59) _ = _
                                        simp only [Act.put, List.setIfInBounds_toArray, List.set_cons_zero, List.set_cons_succ, i64_w, i32_w]
                                        rfl
                                      refine pure_ (i := 6) (N := some 60) (v := ?_) (a' := ?_) #[true, true, true, true, true, true, true, false, false] rfl rfl (any_of HT_.out (by kernel_rfl)) (fun _ _ _ h => h) (Or.inl ⟨by rfl, ?_⟩) ?_ ?_
                                      rotate_left
                                      · intro w'
                                        go_simp
                                        with_reducible rfl
                                      rotate_left
                                      · simp only [Act.put, List.setIfInBounds_toArray, List.set_cons_zero, List.set_cons_succ, i64_w, i32_w]
                                        rfl
                                      refine pure_ (i := 7) (N := some 61) (v := ?_) (a' := ?_) #[true, true, true, true, true, true, true, true, false] rfl rfl (any_of HT_.out (by kernel_rfl)) (fun _ _ _ h => h) (Or.inl ⟨by rfl, ?_⟩) ?_ ?_
                                      rotate_left
                                      · intro w'
                                        go_simp
                                        with_reducible rfl
                                      rotate_left
                                      · simp only [Act.put, List.setIfInBounds_toArray, List.set_cons_zero, List.set_cons_succ, i64_w, i32_w]
                                        rfl
                                      refine pure_ (i := 8) (N := some 9) (v := ?_) (a' := ?_) #[true, true, true, true, true, true, true, true, true] rfl rfl (any_of HT_.out (by kernel_rfl)) (fun _ _ _ h => h) (Or.inl ⟨by rfl, ?_⟩) ?_ ?_
                                      rotate_left
                                      · intro w'
                                        go_simp
                                        with_reducible rfl
                                      rotate_left
                                      · simp only [Act.put, List.setIfInBounds_toArray, List.set_cons_zero, List.set_cons_succ, i64_w, i32_w]
                                        rfl
                                      refine done_ (done_of HT_.out (by kernel_rfl)) ?_
                                      try go_wp2_with (first | ((with_reducible refine gate_callee (f := 24) rfl ?_); refine goesL_ (some 64) rfl rfl Tryd.func24 (by kernel_rfl) rfl #[.string a0, .string ((t174 ++ t175) ++ (⟨#[46, 32]⟩ : ByteArray))] rfl (by (try simp only [List.map_toArray, List.map_cons, List.map_nil]); first | done | rfl | (simp only [List.length_drop, List.length_take]; rfl)) ?_; (with_reducible refine (spec_l23Ahead.calls a0 ((t174 ++ t175) ++ (⟨#[46, 32]⟩ : ByteArray)) false _ A29.out).mono ?_); rintro e w' ⟨rfl, ⟨nd, rfl⟩⟩; refine ⟨_, rfl, ?_⟩; (try (rw [drewN_self w75]; generalize hq_ : World.drewN w75 _ = w75; have n0_ : Aside0 (w75.heap[gb169]? = some (.cells #[.int .i64 x170000_5, .int .i64 x170001_5, .int .i64 x170002_5, .int .i64 x170003_5, .int .i64 x170004_5] 25 (0, 0))) := ⟨by rw [← hq_]; exact (by (with_reducible repeat (first | refine blk_drewN ?_ _ | refine blk_drew ?_ | refine blk_alloc ?_ _)); exact BK169.out)⟩; have n1_ : Aside0 (w75.heap[gb171]? = some (.cells #[.int .i64 x6_2, .int .i64 x7_3, .int .i64 x172002_5, .int .i64 0, .int .i64 0] 25 (0, 0))) := ⟨by rw [← hq_]; exact (by (with_reducible repeat (first | refine blk_drewN ?_ _ | refine blk_drew ?_ | refine blk_alloc ?_ _)); exact BK171.out)⟩; have n2_ : Aside0 (Below w.heap.size w w75) := ⟨by rw [← hq_]; exact (by repeat (first | (with_reducible first | exact HB.out | apply below_alloc | apply pw_below_drewN | apply below_drew1 | refine below_set ?_ GE169.out | refine below_set ?_ GE171.out) | exact HB.out))⟩; clear BK169 BK171 HB hq_; have BK169 := n0_; have BK171 := n1_; have HB := n2_; clear n0_ n1_ n2_)); have hcz76_0 : w75.cell? ⟨gb171, 0, none⟩ = some (.int .i64 x6_2) := (blk_cell BK171.out 0).trans rfl; have hcz76_1 : w75.cell? ⟨gb171, 1, none⟩ = some (.int .i64 x7_3) := (blk_cell BK171.out 1).trans rfl; have hcz76_2 : w75.cell? ⟨gb171, 2, none⟩ = some (.int .i64 x172002_5) := (blk_cell BK171.out 2).trans rfl; have hcz76_3 : w75.cell? ⟨gb171, 3, none⟩ = some (.int .i64 0) := (blk_cell BK171.out 3).trans rfl; have hcz76_4 : w75.cell? ⟨gb171, 4, none⟩ = some (.int .i64 0) := (blk_cell BK171.out 4).trans rfl; have hfz76_0 := blk_frozen BK171.out 0; have hfz76_1 := blk_frozen BK171.out 1; have hfz76_2 := blk_frozen BK171.out 2; have hfz76_3 := blk_frozen BK171.out 3; have hfz76_4 := blk_frozen BK171.out 4))
                                      go_roundg k5
                                      case measure => have := HJ2.out; have := HK2.out; have := HK3.out; have := HJ10.out; have := HK5.out; omega
                                      case rel => exact ⟨(x170000_5), (x170001_5), (x170002_5), (x170003_5), (x170004_5), (wrap64 (x172002_5 + 1)), H', ⟨by have := HJ2.out; have := HK2.out; have := HK3.out; have := HJ10.out; have := HK5.out; omega⟩, ⟨by (with_reducible repeat (first | refine blk_drewN ?_ _ | refine blk_drew ?_ | refine blk_alloc ?_ _)); refine blk_far ?_ NB169_171.out _; (with_reducible repeat (first | refine blk_drewN ?_ _ | refine blk_drew ?_ | refine blk_alloc ?_ _)); exact BK169.out⟩, ⟨by (with_reducible repeat (first | refine blk_drewN ?_ _ | refine blk_drew ?_ | refine blk_alloc ?_ _)); refine blk_put (cs := #[.int .i64 x6_2, .int .i64 x7_3, .int .i64 x172002_5, .int .i64 0, .int .i64 0]) ?_ 2 _ rfl; (with_reducible repeat (first | refine blk_drewN ?_ _ | refine blk_drew ?_ | refine blk_alloc ?_ _)); exact BK171.out⟩, ⟨by repeat (first | (with_reducible first | exact HB.out | apply below_alloc | apply pw_below_drewN | apply below_drew1 | refine below_set ?_ GE169.out | refine below_set ?_ GE171.out) | exact HB.out)⟩⟩
                                  · rw [if_neg c28] at H
                                    exact absurd H (by simp)
                                · rw [if_neg c27] at H
                                  exact absurd H (by simp)
                              · rw [if_neg c24] at H
                                have c24b0 : decide (x172002_5 ≤ 12) = false := decide_eq_false c24
                                clear c24
                                have H' := Aside0.mk H
                                clear H
                                have hnb77 := NB171_169.out
                                have hnc77 := NB169_171.out
                                have hcz78_0 : wr.cell? ⟨gb171, 0, none⟩ = some (.int .i64 x6_2) := (blk_cell BK171.out 0).trans rfl
                                have hcz78_1 : wr.cell? ⟨gb171, 1, none⟩ = some (.int .i64 x7_3) := (blk_cell BK171.out 1).trans rfl
                                have hcz78_2 : wr.cell? ⟨gb171, 2, none⟩ = some (.int .i64 x172002_5) := (blk_cell BK171.out 2).trans rfl
                                have hcz78_3 : wr.cell? ⟨gb171, 3, none⟩ = some (.int .i64 0) := (blk_cell BK171.out 3).trans rfl
                                have hcz78_4 : wr.cell? ⟨gb171, 4, none⟩ = some (.int .i64 0) := (blk_cell BK171.out 4).trans rfl
                                have hfz78_0 := blk_frozen BK171.out 0
                                have hfz78_1 := blk_frozen BK171.out 1
                                have hfz78_2 := blk_frozen BK171.out 2
                                have hfz78_3 := blk_frozen BK171.out 3
                                have hfz78_4 := blk_frozen BK171.out 4
                                go_wp2
                                go_roundg k5
                                case measure => have := HJ2.out; have := HK2.out; have := HK3.out; have := HJ10.out; have := HK5.out; omega
                                case rel => exact ⟨(wrap64 (x7_3 + 1)), (x170000_5), (x170001_5), (x170002_5), (x170003_5), (x170004_5), (by first | rfl | (simp; done) | (simp [*]; done)), H', ⟨by have := HJ2.out; have := HK2.out; have := HK3.out; have := HJ10.out; have := HK5.out; omega⟩, ⟨by (with_reducible repeat (first | refine blk_drewN ?_ _ | refine blk_drew ?_ | refine blk_alloc ?_ _)); exact BK169.out⟩, ⟨by repeat (first | (with_reducible first | exact HB.out | apply below_alloc | apply pw_below_drewN | apply below_drew1 | refine below_set ?_ GE169.out | refine below_set ?_ GE171.out) | exact HB.out)⟩⟩
                  · rw [if_neg c10] at H
                    have c10b0 : decide (x7_3 ≤ 12) = false := decide_eq_false c10
                    clear c10
                    have H' := Aside0.mk H
                    clear H
                    go_wp2
                    go_roundg k3
                    case measure => have := HJ2.out; have := HK2.out; have := HK3.out; omega
                    case rel => exact ⟨(wrap64 (x6_2 + 1)), (x170000_3), (x170001_3), (x170002_3), (x170003_3), (x170004_3), (by first | rfl | (simp; done) | (simp [*]; done)), H', ⟨by have := HJ2.out; have := HK2.out; have := HK3.out; omega⟩, ⟨by (with_reducible repeat (first | refine blk_drewN ?_ _ | refine blk_drew ?_ | refine blk_alloc ?_ _)); exact BK169.out⟩, ⟨by repeat (first | (with_reducible first | exact HB.out | apply below_alloc | apply pw_below_drewN | apply below_drew1 | refine below_set ?_ GE169.out) | exact HB.out)⟩⟩
            · rw [if_neg c9] at H
              have c9b0 : decide (x6_2 ≤ 8) = false := decide_eq_false c9
              clear c9
              simp only [Option.some.injEq, Prod.mk.injEq] at H
              obtain ⟨rfl, rfl, rfl, rfl, rfl, rfl⟩ := H
              have hcz79_0 : wr.cell? ⟨gb169, 0, none⟩ = some (.int .i64 x170000_2) := (blk_cell BK169.out 0).trans rfl
              have hcz79_1 : wr.cell? ⟨gb169, 1, none⟩ = some (.int .i64 x170001_2) := (blk_cell BK169.out 1).trans rfl
              have hcz79_2 : wr.cell? ⟨gb169, 2, none⟩ = some (.int .i64 x170002_2) := (blk_cell BK169.out 2).trans rfl
              have hcz79_3 : wr.cell? ⟨gb169, 3, none⟩ = some (.int .i64 x170003_2) := (blk_cell BK169.out 3).trans rfl
              have hcz79_4 : wr.cell? ⟨gb169, 4, none⟩ = some (.int .i64 x170004_2) := (blk_cell BK169.out 4).trans rfl
              have hfz79_0 := blk_frozen BK169.out 0
              have hfz79_1 := blk_frozen BK169.out 1
              have hfz79_2 := blk_frozen BK169.out 2
              have hfz79_3 := blk_frozen BK169.out 3
              have hfz79_4 := blk_frozen BK169.out 4
              go_wp2
              refine bodyPost_ret (results_ct rfl _ _ gb169 25 #[.int .i64 0, .int .i64 0, .int .i64 0, .int .i64 0, .int .i64 0] (0, 0) _ rfl (by (with_reducible repeat (first | refine blk_drewN ?_ _ | refine blk_drew ?_ | refine blk_alloc ?_ _)); refine blk_put (cs := #[.int .i64 0, .int .i64 0, .int .i64 0, .int .i64 0, .int .i64 x170004_2]) ?_ 4 _ rfl; (with_reducible repeat (first | refine blk_drewN ?_ _ | refine blk_drew ?_ | refine blk_alloc ?_ _)); refine blk_put (cs := #[.int .i64 0, .int .i64 0, .int .i64 0, .int .i64 x170003_2, .int .i64 x170004_2]) ?_ 3 _ rfl; (with_reducible repeat (first | refine blk_drewN ?_ _ | refine blk_drew ?_ | refine blk_alloc ?_ _)); refine blk_put (cs := #[.int .i64 0, .int .i64 0, .int .i64 x170002_2, .int .i64 x170003_2, .int .i64 x170004_2]) ?_ 2 _ rfl; (with_reducible repeat (first | refine blk_drewN ?_ _ | refine blk_drew ?_ | refine blk_alloc ?_ _)); refine blk_put (cs := #[.int .i64 0, .int .i64 x170001_2, .int .i64 x170002_2, .int .i64 x170003_2, .int .i64 x170004_2]) ?_ 1 _ rfl; (with_reducible repeat (first | refine blk_drewN ?_ _ | refine blk_drew ?_ | refine blk_alloc ?_ _)); refine blk_put (cs := #[.int .i64 x170000_2, .int .i64 x170001_2, .int .i64 x170002_2, .int .i64 x170003_2, .int .i64 x170004_2]) ?_ 0 _ rfl; (with_reducible repeat (first | refine blk_drewN ?_ _ | refine blk_drew ?_ | refine blk_alloc ?_ _)); exact BK169.out) Tryd.underlying25 rfl (by kernel_rfl)) rfl ?_
              exact ⟨by first | rfl | (simp [errW_none, errW_some] <;> rfl) | (simp [*, errW_none, errW_some] <;> rfl), by repeat (first | (with_reducible first | exact HB.out | apply below_alloc | apply pw_below_drewN | apply below_drew1 | refine below_set ?_ GE169.out) | exact HB.out)⟩

end Go.Proofs.YtllkijlmjapleaaDoor.QFnExactReadPhrase
