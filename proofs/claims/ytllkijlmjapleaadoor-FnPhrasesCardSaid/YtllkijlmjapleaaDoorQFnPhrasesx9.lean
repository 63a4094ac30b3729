-- Written by a program of this session out of the printer's texts and contracts of its own.
import Derived.Test.YtllkijlmjapleaaDoorQFnPhrasesx0
import Derived.Test.YtllkijlmjapleaaDoorQFnPhrasesx4
import Derived.Test.YtllkijlmjapleaaDoorQFnPhrasesx5
import Derived.Test.YtllkijlmjapleaaDoorQFnPhrasesx6
import Derived.Test.YtllkijlmjapleaaDoorQFnPhrasesx8
namespace Go.Proofs.YtllkijlmjapleaaDoor.QFnPhrases
open Go.RowKit Go.Proofs.YtllkijlmjapleaaDoorW.PrintWords Go.Proofs.YtllkijlmjapleaaDoorW.PrintLast Go.Proofs.YtllkijlmjapleaaDoorW.PrintMore
attribute [local go_sem] max2_int min2_int max_two min_two max_three min_three max_four min_four   -- for this text's walks alone
set_option linter.unusedVariables false
set_option linter.unusedSimpArgs false

/-! ### impl_ReadPhrase: function 10 -/
mutual
def impl_ReadPhrase.l0 : Nat → ByteArray → Int → ByteArray → ByteArray → ByteArray → ByteArray → ByteArray → ByteArray → ByteArray → ByteArray → ByteArray → ByteArray → ByteArray → ByteArray → ByteArray → ByteArray → ByteArray → ByteArray → ByteArray → ByteArray → ByteArray → ByteArray → ByteArray → ByteArray → Option (Int × Int × Int × Int × Int × Bool)
  | 0, _, _, _, _, _, _, _, _, _, _, _, _, _, _, _, _, _, _, _, _, _, _, _, _ => none
  | k + 1, x0, x7, x249000, x249001, x249002, x249003, x249004, x249005, x249006, x249007, x249008, x249009, x249010, x249011, x249012, x249013, x249014, x249015, x249016, x249017, x249018, x249019, x249020, x249021 => if x7 ≤ 8 then (impl_ReadPhrase.l1 k x0 x7 0 x249000 x249001 x249002 x249003 x249004 x249005 x249006 x249007 x249008 x249009 x249010 x249011 x249012 x249013 x249014 x249015 x249016 x249017 x249018 x249019 x249020 x249021) else (some (0, 0, 0, 0, 0, false))
def impl_ReadPhrase.l1 : Nat → ByteArray → Int → Int → ByteArray → ByteArray → ByteArray → ByteArray → ByteArray → ByteArray → ByteArray → ByteArray → ByteArray → ByteArray → ByteArray → ByteArray → ByteArray → ByteArray → ByteArray → ByteArray → ByteArray → ByteArray → ByteArray → ByteArray → ByteArray → ByteArray → Option (Int × Int × Int × Int × Int × Bool)
  | 0, _, _, _, _, _, _, _, _, _, _, _, _, _, _, _, _, _, _, _, _, _, _, _, _, _ => none
  | k + 1, x0, x7, x8, x249000, x249001, x249002, x249003, x249004, x249005, x249006, x249007, x249008, x249009, x249010, x249011, x249012, x249013, x249014, x249015, x249016, x249017, x249018, x249019, x249020, x249021 => if x8 ≤ 12 then (if ((x8 == 0) != (x7 == 0)) = true then (impl_ReadPhrase.l1 k x0 x7 (wrap64 (x8 + 1)) x249000 x249001 x249002 x249003 x249004 x249005 x249006 x249007 x249008 x249009 x249010 x249011 x249012 x249013 x249014 x249015 x249016 x249017 x249018 x249019 x249020 x249021) else (impl_ReadPhrase.l2 k x0 x7 x8 0 x249000 x249001 x249002 x249003 x249004 x249005 x249006 x249007 x249008 x249009 x249010 x249011 x249012 x249013 x249014 x249015 x249016 x249017 x249018 x249019 x249020 x249021)) else (impl_ReadPhrase.l0 k x0 (wrap64 (x7 + 1)) x249000 x249001 x249002 x249003 x249004 x249005 x249006 x249007 x249008 x249009 x249010 x249011 x249012 x249013 x249014 x249015 x249016 x249017 x249018 x249019 x249020 x249021)
def impl_ReadPhrase.l2 : Nat → ByteArray → Int → Int → Int → ByteArray → ByteArray → ByteArray → ByteArray → ByteArray → ByteArray → ByteArray → ByteArray → ByteArray → ByteArray → ByteArray → ByteArray → ByteArray → ByteArray → ByteArray → ByteArray → ByteArray → ByteArray → ByteArray → ByteArray → ByteArray → ByteArray → Option (Int × Int × Int × Int × Int × Bool)
  | 0, _, _, _, _, _, _, _, _, _, _, _, _, _, _, _, _, _, _, _, _, _, _, _, _, _, _ => none
  | k + 1, x0, x7, x8, x9, x249000, x249001, x249002, x249003, x249004, x249005, x249006, x249007, x249008, x249009, x249010, x249011, x249012, x249013, x249014, x249015, x249016, x249017, x249018, x249019, x249020, x249021 => if x9 ≤ 12 then ((impl_tongue_wind.f k x249000 x249001 x249002 x249003 x249004 x249005 x249006 x249007 x249008 x249009 x249010 x249011 x249012 x249013 x249014 x249015 x249016 x249017 x249018 x249019 x249020 x249021 x7 x8 x9).bind fun t249 => (if t249.size + 1 ≤ 9223372036854775807 then ((strings_CutPrefix.f x0 (t249 ++ (⟨#[32]⟩ : ByteArray))).bind fun bt250 => (if bt250.2 = true then (impl_ReadPhrase.l3 k x0 x7 x8 x9 bt250.1 0 x249000 x249001 x249002 x249003 x249004 x249005 x249006 x249007 x249008 x249009 x249010 x249011 x249012 x249013 x249014 x249015 x249016 x249017 x249018 x249019 x249020 x249021) else (impl_ReadPhrase.l2 k x0 x7 x8 (wrap64 (x9 + 1)) x249000 x249001 x249002 x249003 x249004 x249005 x249006 x249007 x249008 x249009 x249010 x249011 x249012 x249013 x249014 x249015 x249016 x249017 x249018 x249019 x249020 x249021))) else (none))) else (impl_ReadPhrase.l1 k x0 x7 (wrap64 (x8 + 1)) x249000 x249001 x249002 x249003 x249004 x249005 x249006 x249007 x249008 x249009 x249010 x249011 x249012 x249013 x249014 x249015 x249016 x249017 x249018 x249019 x249020 x249021)
def impl_ReadPhrase.l3 : Nat → ByteArray → Int → Int → Int → ByteArray → Int → ByteArray → ByteArray → ByteArray → ByteArray → ByteArray → ByteArray → ByteArray → ByteArray → ByteArray → ByteArray → ByteArray → ByteArray → ByteArray → ByteArray → ByteArray → ByteArray → ByteArray → ByteArray → ByteArray → ByteArray → ByteArray → ByteArray → Option (Int × Int × Int × Int × Int × Bool)
  | 0, _, _, _, _, _, _, _, _, _, _, _, _, _, _, _, _, _, _, _, _, _, _, _, _, _, _, _, _ => none
  | k + 1, x0, x7, x8, x9, x10, x12, x249000, x249001, x249002, x249003, x249004, x249005, x249006, x249007, x249008, x249009, x249010, x249011, x249012, x249013, x249014, x249015, x249016, x249017, x249018, x249019, x249020, x249021 => if x12 ≤ 3 then (impl_ReadPhrase.l4 k x0 x7 x8 x9 x10 x12 0 x249000 x249001 x249002 x249003 x249004 x249005 x249006 x249007 x249008 x249009 x249010 x249011 x249012 x249013 x249014 x249015 x249016 x249017 x249018 x249019 x249020 x249021) else (impl_ReadPhrase.l2 k x0 x7 x8 (wrap64 (x9 + 1)) x249000 x249001 x249002 x249003 x249004 x249005 x249006 x249007 x249008 x249009 x249010 x249011 x249012 x249013 x249014 x249015 x249016 x249017 x249018 x249019 x249020 x249021)
def impl_ReadPhrase.l4 : Nat → ByteArray → Int → Int → Int → ByteArray → Int → Int → ByteArray → ByteArray → ByteArray → ByteArray → ByteArray → ByteArray → ByteArray → ByteArray → ByteArray → ByteArray → ByteArray → ByteArray → ByteArray → ByteArray → ByteArray → ByteArray → ByteArray → ByteArray → ByteArray → ByteArray → ByteArray → ByteArray → Option (Int × Int × Int × Int × Int × Bool)
  | 0, _, _, _, _, _, _, _, _, _, _, _, _, _, _, _, _, _, _, _, _, _, _, _, _, _, _, _, _, _ => none
  | k + 1, x0, x7, x8, x9, x10, x12, x13, x249000, x249001, x249002, x249003, x249004, x249005, x249006, x249007, x249008, x249009, x249010, x249011, x249012, x249013, x249014, x249015, x249016, x249017, x249018, x249019, x249020, x249021 => if x13 ≤ 100 then (if ((x13 == 0) == (x12 == 0)) = true then ((impl_tongue_rain.f x249000 x249001 x249002 x249003 x249004 x249005 x249006 x249007 x249008 x249009 x249010 x249011 x249012 x249013 x249014 x249015 x249016 x249017 x249018 x249019 x249020 x249021 x12 x13).bind fun t252 => (if x10.toList = t252.toList then (some (x7, x8, x9, x12, x13, true)) else (impl_ReadPhrase.l4 k x0 x7 x8 x9 x10 x12 (wrap64 (x13 + 1)) x249000 x249001 x249002 x249003 x249004 x249005 x249006 x249007 x249008 x249009 x249010 x249011 x249012 x249013 x249014 x249015 x249016 x249017 x249018 x249019 x249020 x249021))) else (impl_ReadPhrase.l4 k x0 x7 x8 x9 x10 x12 (wrap64 (x13 + 1)) x249000 x249001 x249002 x249003 x249004 x249005 x249006 x249007 x249008 x249009 x249010 x249011 x249012 x249013 x249014 x249015 x249016 x249017 x249018 x249019 x249020 x249021)) else (impl_ReadPhrase.l3 k x0 x7 x8 x9 x10 (wrap64 (x12 + 1)) x249000 x249001 x249002 x249003 x249004 x249005 x249006 x249007 x249008 x249009 x249010 x249011 x249012 x249013 x249014 x249015 x249016 x249017 x249018 x249019 x249020 x249021)
end
def impl_ReadPhrase.f (k : Nat) (a0 : ByteArray) (a1 : Int) : Option (Int × Int × Int × Int × Int × Bool) := (impl_in.f a1 1 3).bind fun t225 => (if t225 = true then ((impl_tongueAt.f a1).bind fun bt226 => (impl_ReadPhrase.l0 k a0 0 bt226.1 bt226.2.1 bt226.2.2.1 bt226.2.2.2.1 bt226.2.2.2.2.1 bt226.2.2.2.2.2.1 bt226.2.2.2.2.2.2.1 bt226.2.2.2.2.2.2.2.1 bt226.2.2.2.2.2.2.2.2.1 bt226.2.2.2.2.2.2.2.2.2.1 bt226.2.2.2.2.2.2.2.2.2.2.1 bt226.2.2.2.2.2.2.2.2.2.2.2.1 bt226.2.2.2.2.2.2.2.2.2.2.2.2.1 bt226.2.2.2.2.2.2.2.2.2.2.2.2.2.1 bt226.2.2.2.2.2.2.2.2.2.2.2.2.2.2.1 bt226.2.2.2.2.2.2.2.2.2.2.2.2.2.2.2.1 bt226.2.2.2.2.2.2.2.2.2.2.2.2.2.2.2.2.1 bt226.2.2.2.2.2.2.2.2.2.2.2.2.2.2.2.2.2.1 bt226.2.2.2.2.2.2.2.2.2.2.2.2.2.2.2.2.2.2.1 bt226.2.2.2.2.2.2.2.2.2.2.2.2.2.2.2.2.2.2.2.1 bt226.2.2.2.2.2.2.2.2.2.2.2.2.2.2.2.2.2.2.2.2.1 bt226.2.2.2.2.2.2.2.2.2.2.2.2.2.2.2.2.2.2.2.2.2)) else (some (0, 0, 0, 0, 0, false)))
theorem impl_ReadPhrase.mono_l : ∀ k, (∀ y0 y1 y2 y3 y4 y5 y6 y7 y8 y9 y10 y11 y12 y13 y14 y15 y16 y17 y18 y19 y20 y21 y22 y23, LeO (impl_ReadPhrase.l0 k y0 y1 y2 y3 y4 y5 y6 y7 y8 y9 y10 y11 y12 y13 y14 y15 y16 y17 y18 y19 y20 y21 y22 y23) (impl_ReadPhrase.l0 (k + 1) y0 y1 y2 y3 y4 y5 y6 y7 y8 y9 y10 y11 y12 y13 y14 y15 y16 y17 y18 y19 y20 y21 y22 y23)) ∧ (∀ y0 y1 y2 y3 y4 y5 y6 y7 y8 y9 y10 y11 y12 y13 y14 y15 y16 y17 y18 y19 y20 y21 y22 y23 y24, LeO (impl_ReadPhrase.l1 k y0 y1 y2 y3 y4 y5 y6 y7 y8 y9 y10 y11 y12 y13 y14 y15 y16 y17 y18 y19 y20 y21 y22 y23 y24) (impl_ReadPhrase.l1 (k + 1) y0 y1 y2 y3 y4 y5 y6 y7 y8 y9 y10 y11 y12 y13 y14 y15 y16 y17 y18 y19 y20 y21 y22 y23 y24)) ∧ (∀ y0 y1 y2 y3 y4 y5 y6 y7 y8 y9 y10 y11 y12 y13 y14 y15 y16 y17 y18 y19 y20 y21 y22 y23 y24 y25, LeO (impl_ReadPhrase.l2 k y0 y1 y2 y3 y4 y5 y6 y7 y8 y9 y10 y11 y12 y13 y14 y15 y16 y17 y18 y19 y20 y21 y22 y23 y24 y25) (impl_ReadPhrase.l2 (k + 1) y0 y1 y2 y3 y4 y5 y6 y7 y8 y9 y10 y11 y12 y13 y14 y15 y16 y17 y18 y19 y20 y21 y22 y23 y24 y25)) ∧ (∀ y0 y1 y2 y3 y4 y5 y6 y7 y8 y9 y10 y11 y12 y13 y14 y15 y16 y17 y18 y19 y20 y21 y22 y23 y24 y25 y26 y27, LeO (impl_ReadPhrase.l3 k y0 y1 y2 y3 y4 y5 y6 y7 y8 y9 y10 y11 y12 y13 y14 y15 y16 y17 y18 y19 y20 y21 y22 y23 y24 y25 y26 y27) (impl_ReadPhrase.l3 (k + 1) y0 y1 y2 y3 y4 y5 y6 y7 y8 y9 y10 y11 y12 y13 y14 y15 y16 y17 y18 y19 y20 y21 y22 y23 y24 y25 y26 y27)) ∧ (∀ y0 y1 y2 y3 y4 y5 y6 y7 y8 y9 y10 y11 y12 y13 y14 y15 y16 y17 y18 y19 y20 y21 y22 y23 y24 y25 y26 y27 y28, LeO (impl_ReadPhrase.l4 k y0 y1 y2 y3 y4 y5 y6 y7 y8 y9 y10 y11 y12 y13 y14 y15 y16 y17 y18 y19 y20 y21 y22 y23 y24 y25 y26 y27 y28) (impl_ReadPhrase.l4 (k + 1) y0 y1 y2 y3 y4 y5 y6 y7 y8 y9 y10 y11 y12 y13 y14 y15 y16 y17 y18 y19 y20 y21 y22 y23 y24 y25 y26 y27 y28))
  | 0 => ⟨fun _ _ _ _ _ _ _ _ _ _ _ _ _ _ _ _ _ _ _ _ _ _ _ _ r h => by simp [impl_ReadPhrase.l0] at h, fun _ _ _ _ _ _ _ _ _ _ _ _ _ _ _ _ _ _ _ _ _ _ _ _ _ r h => by simp [impl_ReadPhrase.l1] at h, fun _ _ _ _ _ _ _ _ _ _ _ _ _ _ _ _ _ _ _ _ _ _ _ _ _ _ r h => by simp [impl_ReadPhrase.l2] at h, fun _ _ _ _ _ _ _ _ _ _ _ _ _ _ _ _ _ _ _ _ _ _ _ _ _ _ _ _ r h => by simp [impl_ReadPhrase.l3] at h, fun _ _ _ _ _ _ _ _ _ _ _ _ _ _ _ _ _ _ _ _ _ _ _ _ _ _ _ _ _ r h => by simp [impl_ReadPhrase.l4] at h⟩
  | k + 1 => by
    obtain ⟨ih0, ih1, ih2, ih3, ih4⟩ := impl_ReadPhrase.mono_l k
    refine ⟨?_, ?_, ?_, ?_, ?_⟩
    · intro y0 y1 y2 y3 y4 y5 y6 y7 y8 y9 y10 y11 y12 y13 y14 y15 y16 y17 y18 y19 y20 y21 y22 y23
      unfold impl_ReadPhrase.l0
      repeat' first
      | (with_reducible exact ih0 _ _ _ _ _ _ _ _ _ _ _ _ _ _ _ _ _ _ _ _ _ _ _ _)
      | (with_reducible exact ih1 _ _ _ _ _ _ _ _ _ _ _ _ _ _ _ _ _ _ _ _ _ _ _ _ _)
      | (with_reducible exact ih2 _ _ _ _ _ _ _ _ _ _ _ _ _ _ _ _ _ _ _ _ _ _ _ _ _ _)
      | (with_reducible exact ih3 _ _ _ _ _ _ _ _ _ _ _ _ _ _ _ _ _ _ _ _ _ _ _ _ _ _ _ _)
      | (with_reducible exact ih4 _ _ _ _ _ _ _ _ _ _ _ _ _ _ _ _ _ _ _ _ _ _ _ _ _ _ _ _ _)
      | (with_reducible exact impl_tongue_wind.mono _ _ _ _ _ _ _ _ _ _ _ _ _ _ _ _ _ _ _ _ _ _ _ _ _ _)
      | (with_reducible exact LeO.refl _)
      | (with_reducible exact LeO.none _)
      | (with_reducible refine LeO.ite ?_ ?_)
      | (with_reducible refine LeO.bind ?_ (fun _ => ?_))
      | exact ih0 _ _ _ _ _ _ _ _ _ _ _ _ _ _ _ _ _ _ _ _ _ _ _ _
      | exact ih1 _ _ _ _ _ _ _ _ _ _ _ _ _ _ _ _ _ _ _ _ _ _ _ _ _
      | exact ih2 _ _ _ _ _ _ _ _ _ _ _ _ _ _ _ _ _ _ _ _ _ _ _ _ _ _
      | exact ih3 _ _ _ _ _ _ _ _ _ _ _ _ _ _ _ _ _ _ _ _ _ _ _ _ _ _ _ _
      | exact ih4 _ _ _ _ _ _ _ _ _ _ _ _ _ _ _ _ _ _ _ _ _ _ _ _ _ _ _ _ _
      | exact impl_tongue_wind.mono _ _ _ _ _ _ _ _ _ _ _ _ _ _ _ _ _ _ _ _ _ _ _ _ _ _
      | exact LeO.none _
      | refine LeO.ite ?_ ?_
      | refine LeO.bind ?_ (fun _ => ?_)
    · intro y0 y1 y2 y3 y4 y5 y6 y7 y8 y9 y10 y11 y12 y13 y14 y15 y16 y17 y18 y19 y20 y21 y22 y23 y24
      unfold impl_ReadPhrase.l1
      repeat' first
      | (with_reducible exact ih0 _ _ _ _ _ _ _ _ _ _ _ _ _ _ _ _ _ _ _ _ _ _ _ _)
      | (with_reducible exact ih1 _ _ _ _ _ _ _ _ _ _ _ _ _ _ _ _ _ _ _ _ _ _ _ _ _)
      | (with_reducible exact ih2 _ _ _ _ _ _ _ _ _ _ _ _ _ _ _ _ _ _ _ _ _ _ _ _ _ _)
      | (with_reducible exact ih3 _ _ _ _ _ _ _ _ _ _ _ _ _ _ _ _ _ _ _ _ _ _ _ _ _ _ _ _)
      | (with_reducible exact ih4 _ _ _ _ _ _ _ _ _ _ _ _ _ _ _ _ _ _ _ _ _ _ _ _ _ _ _ _ _)
      | (with_reducible exact impl_tongue_wind.mono _ _ _ _ _ _ _ _ _ _ _ _ _ _ _ _ _ _ _ _ _ _ _ _ _ _)
      | (with_reducible exact LeO.refl _)
      | (with_reducible exact LeO.none _)
      | (with_reducible refine LeO.ite ?_ ?_)
      | (with_reducible refine LeO.bind ?_ (fun _ => ?_))
      | exact ih0 _ _ _ _ _ _ _ _ _ _ _ _ _ _ _ _ _ _ _ _ _ _ _ _
      | exact ih1 _ _ _ _ _ _ _ _ _ _ _ _ _ _ _ _ _ _ _ _ _ _ _ _ _
      | exact ih2 _ _ _ _ _ _ _ _ _ _ _ _ _ _ _ _ _ _ _ _ _ _ _ _ _ _
      | exact ih3 _ _ _ _ _ _ _ _ _ _ _ _ _ _ _ _ _ _ _ _ _ _ _ _ _ _ _ _
      | exact ih4 _ _ _ _ _ _ _ _ _ _ _ _ _ _ _ _ _ _ _ _ _ _ _ _ _ _ _ _ _
      | exact impl_tongue_wind.mono _ _ _ _ _ _ _ _ _ _ _ _ _ _ _ _ _ _ _ _ _ _ _ _ _ _
      | exact LeO.none _
      | refine LeO.ite ?_ ?_
      | refine LeO.bind ?_ (fun _ => ?_)
    · intro y0 y1 y2 y3 y4 y5 y6 y7 y8 y9 y10 y11 y12 y13 y14 y15 y16 y17 y18 y19 y20 y21 y22 y23 y24 y25
      unfold impl_ReadPhrase.l2
      repeat' first
      | (with_reducible exact ih0 _ _ _ _ _ _ _ _ _ _ _ _ _ _ _ _ _ _ _ _ _ _ _ _)
      | (with_reducible exact ih1 _ _ _ _ _ _ _ _ _ _ _ _ _ _ _ _ _ _ _ _ _ _ _ _ _)
      | (with_reducible exact ih2 _ _ _ _ _ _ _ _ _ _ _ _ _ _ _ _ _ _ _ _ _ _ _ _ _ _)
      | (with_reducible exact ih3 _ _ _ _ _ _ _ _ _ _ _ _ _ _ _ _ _ _ _ _ _ _ _ _ _ _ _ _)
      | (with_reducible exact ih4 _ _ _ _ _ _ _ _ _ _ _ _ _ _ _ _ _ _ _ _ _ _ _ _ _ _ _ _ _)
      | (with_reducible exact impl_tongue_wind.mono _ _ _ _ _ _ _ _ _ _ _ _ _ _ _ _ _ _ _ _ _ _ _ _ _ _)
      | (with_reducible exact LeO.refl _)
      | (with_reducible exact LeO.none _)
      | (with_reducible refine LeO.ite ?_ ?_)
      | (with_reducible refine LeO.bind ?_ (fun _ => ?_))
      | exact ih0 _ _ _ _ _ _ _ _ _ _ _ _ _ _ _ _ _ _ _ _ _ _ _ _
      | exact ih1 _ _ _ _ _ _ _ _ _ _ _ _ _ _ _ _ _ _ _ _ _ _ _ _ _
      | exact ih2 _ _ _ _ _ _ _ _ _ _ _ _ _ _ _ _ _ _ _ _ _ _ _ _ _ _
      | exact ih3 _ _ _ _ _ _ _ _ _ _ _ _ _ _ _ _ _ _ _ _ _ _ _ _ _ _ _ _
      | exact ih4 _ _ _ _ _ _ _ _ _ _ _ _ _ _ _ _ _ _ _ _ _ _ _ _ _ _ _ _ _
      | exact impl_tongue_wind.mono _ _ _ _ _ _ _ _ _ _ _ _ _ _ _ _ _ _ _ _ _ _ _ _ _ _
      | exact LeO.none _
      | refine LeO.ite ?_ ?_
      | refine LeO.bind ?_ (fun _ => ?_)
    · intro y0 y1 y2 y3 y4 y5 y6 y7 y8 y9 y10 y11 y12 y13 y14 y15 y16 y17 y18 y19 y20 y21 y22 y23 y24 y25 y26 y27
      unfold impl_ReadPhrase.l3
      repeat' first
      | (with_reducible exact ih0 _ _ _ _ _ _ _ _ _ _ _ _ _ _ _ _ _ _ _ _ _ _ _ _)
      | (with_reducible exact ih1 _ _ _ _ _ _ _ _ _ _ _ _ _ _ _ _ _ _ _ _ _ _ _ _ _)
      | (with_reducible exact ih2 _ _ _ _ _ _ _ _ _ _ _ _ _ _ _ _ _ _ _ _ _ _ _ _ _ _)
      | (with_reducible exact ih3 _ _ _ _ _ _ _ _ _ _ _ _ _ _ _ _ _ _ _ _ _ _ _ _ _ _ _ _)
      | (with_reducible exact ih4 _ _ _ _ _ _ _ _ _ _ _ _ _ _ _ _ _ _ _ _ _ _ _ _ _ _ _ _ _)
      | (with_reducible exact impl_tongue_wind.mono _ _ _ _ _ _ _ _ _ _ _ _ _ _ _ _ _ _ _ _ _ _ _ _ _ _)
      | (with_reducible exact LeO.refl _)
      | (with_reducible exact LeO.none _)
      | (with_reducible refine LeO.ite ?_ ?_)
      | (with_reducible refine LeO.bind ?_ (fun _ => ?_))
      | exact ih0 _ _ _ _ _ _ _ _ _ _ _ _ _ _ _ _ _ _ _ _ _ _ _ _
      | exact ih1 _ _ _ _ _ _ _ _ _ _ _ _ _ _ _ _ _ _ _ _ _ _ _ _ _
      | exact ih2 _ _ _ _ _ _ _ _ _ _ _ _ _ _ _ _ _ _ _ _ _ _ _ _ _ _
      | exact ih3 _ _ _ _ _ _ _ _ _ _ _ _ _ _ _ _ _ _ _ _ _ _ _ _ _ _ _ _
      | exact ih4 _ _ _ _ _ _ _ _ _ _ _ _ _ _ _ _ _ _ _ _ _ _ _ _ _ _ _ _ _
      | exact impl_tongue_wind.mono _ _ _ _ _ _ _ _ _ _ _ _ _ _ _ _ _ _ _ _ _ _ _ _ _ _
      | exact LeO.none _
      | refine LeO.ite ?_ ?_
      | refine LeO.bind ?_ (fun _ => ?_)
    · intro y0 y1 y2 y3 y4 y5 y6 y7 y8 y9 y10 y11 y12 y13 y14 y15 y16 y17 y18 y19 y20 y21 y22 y23 y24 y25 y26 y27 y28
      unfold impl_ReadPhrase.l4
      repeat' first
      | (with_reducible exact ih0 _ _ _ _ _ _ _ _ _ _ _ _ _ _ _ _ _ _ _ _ _ _ _ _)
      | (with_reducible exact ih1 _ _ _ _ _ _ _ _ _ _ _ _ _ _ _ _ _ _ _ _ _ _ _ _ _)
      | (with_reducible exact ih2 _ _ _ _ _ _ _ _ _ _ _ _ _ _ _ _ _ _ _ _ _ _ _ _ _ _)
      | (with_reducible exact ih3 _ _ _ _ _ _ _ _ _ _ _ _ _ _ _ _ _ _ _ _ _ _ _ _ _ _ _ _)
      | (with_reducible exact ih4 _ _ _ _ _ _ _ _ _ _ _ _ _ _ _ _ _ _ _ _ _ _ _ _ _ _ _ _ _)
      | (with_reducible exact impl_tongue_wind.mono _ _ _ _ _ _ _ _ _ _ _ _ _ _ _ _ _ _ _ _ _ _ _ _ _ _)
      | (with_reducible exact LeO.refl _)
      | (with_reducible exact LeO.none _)
      | (with_reducible refine LeO.ite ?_ ?_)
      | (with_reducible refine LeO.bind ?_ (fun _ => ?_))
      | exact ih0 _ _ _ _ _ _ _ _ _ _ _ _ _ _ _ _ _ _ _ _ _ _ _ _
      | exact ih1 _ _ _ _ _ _ _ _ _ _ _ _ _ _ _ _ _ _ _ _ _ _ _ _ _
      | exact ih2 _ _ _ _ _ _ _ _ _ _ _ _ _ _ _ _ _ _ _ _ _ _ _ _ _ _
      | exact ih3 _ _ _ _ _ _ _ _ _ _ _ _ _ _ _ _ _ _ _ _ _ _ _ _ _ _ _ _
      | exact ih4 _ _ _ _ _ _ _ _ _ _ _ _ _ _ _ _ _ _ _ _ _ _ _ _ _ _ _ _ _
      | exact impl_tongue_wind.mono _ _ _ _ _ _ _ _ _ _ _ _ _ _ _ _ _ _ _ _ _ _ _ _ _ _
      | exact LeO.none _
      | refine LeO.ite ?_ ?_
      | refine LeO.bind ?_ (fun _ => ?_)
theorem impl_ReadPhrase.mono : ∀ a0 a1 k, LeO (impl_ReadPhrase.f k a0 a1) (impl_ReadPhrase.f (k + 1) a0 a1) := by
  intro a0 a1 k
  obtain ⟨ih0, ih1, ih2, ih3, ih4⟩ := impl_ReadPhrase.mono_l k
  unfold impl_ReadPhrase.f
  repeat' first
      | (with_reducible exact ih0 _ _ _ _ _ _ _ _ _ _ _ _ _ _ _ _ _ _ _ _ _ _ _ _)
      | (with_reducible exact ih1 _ _ _ _ _ _ _ _ _ _ _ _ _ _ _ _ _ _ _ _ _ _ _ _ _)
      | (with_reducible exact ih2 _ _ _ _ _ _ _ _ _ _ _ _ _ _ _ _ _ _ _ _ _ _ _ _ _ _)
      | (with_reducible exact ih3 _ _ _ _ _ _ _ _ _ _ _ _ _ _ _ _ _ _ _ _ _ _ _ _ _ _ _ _)
      | (with_reducible exact ih4 _ _ _ _ _ _ _ _ _ _ _ _ _ _ _ _ _ _ _ _ _ _ _ _ _ _ _ _ _)
      | (with_reducible exact impl_tongue_wind.mono _ _ _ _ _ _ _ _ _ _ _ _ _ _ _ _ _ _ _ _ _ _ _ _ _ _)
      | (with_reducible exact LeO.refl _)
      | (with_reducible exact LeO.none _)
      | (with_reducible refine LeO.ite ?_ ?_)
      | (with_reducible refine LeO.bind ?_ (fun _ => ?_))
      | exact ih0 _ _ _ _ _ _ _ _ _ _ _ _ _ _ _ _ _ _ _ _ _ _ _ _
      | exact ih1 _ _ _ _ _ _ _ _ _ _ _ _ _ _ _ _ _ _ _ _ _ _ _ _ _
      | exact ih2 _ _ _ _ _ _ _ _ _ _ _ _ _ _ _ _ _ _ _ _ _ _ _ _ _ _
      | exact ih3 _ _ _ _ _ _ _ _ _ _ _ _ _ _ _ _ _ _ _ _ _ _ _ _ _ _ _ _
      | exact ih4 _ _ _ _ _ _ _ _ _ _ _ _ _ _ _ _ _ _ _ _ _ _ _ _ _ _ _ _ _
      | exact impl_tongue_wind.mono _ _ _ _ _ _ _ _ _ _ _ _ _ _ _ _ _ _ _ _ _ _ _ _ _ _
      | exact LeO.none _
      | refine LeO.ite ?_ ?_
      | refine LeO.bind ?_ (fun _ => ?_)
set_option maxHeartbeats 8000000 in
set_option maxRecDepth 100000 in
theorem impl_ReadPhrase.calls (k : Nat) (a0 : ByteArray) (a1 : Int) (r1 : Int) (r2 : Int) (r3 : Int) (r4 : Int) (r5 : Int) (r6 : Bool) (w : World) (h : impl_ReadPhrase.f k a0 a1 = some (r1, r2, r3, r4, r5, r6)) (hT : Lib.TabIs Tryd.prog w "internal/strconv.uint64pow10" .u64 Lib.pow10Tab) (hG : TongIs w) :
    Calls Tryd.prog 10 #[.string a0, .int .i64 a1] w fun e w' => e = .returned (.tuple #[.agg #[.int .i64 r1, .int .i64 r2, .int .i64 r3, .int .i64 r4, .int .i64 r5], .bool r6]) ∧ Below w.heap.size w w' := by
  have HGb := Aside0.mk hG; clear hG
  have HTb := Aside0.mk hT; clear hT
  have hu25 := Tryd.underlying25
  have hu44 := Tryd.underlying44
  have HB := Aside0.mk (Below.refl w.heap.size w)
  have H : ((impl_in.f a1 1 3).bind fun t225 => (if t225 = true then ((impl_tongueAt.f a1).bind fun bt226 => (impl_ReadPhrase.l0 k a0 0 bt226.1 bt226.2.1 bt226.2.2.1 bt226.2.2.2.1 bt226.2.2.2.2.1 bt226.2.2.2.2.2.1 bt226.2.2.2.2.2.2.1 bt226.2.2.2.2.2.2.2.1 bt226.2.2.2.2.2.2.2.2.1 bt226.2.2.2.2.2.2.2.2.2.1 bt226.2.2.2.2.2.2.2.2.2.2.1 bt226.2.2.2.2.2.2.2.2.2.2.2.1 bt226.2.2.2.2.2.2.2.2.2.2.2.2.1 bt226.2.2.2.2.2.2.2.2.2.2.2.2.2.1 bt226.2.2.2.2.2.2.2.2.2.2.2.2.2.2.1 bt226.2.2.2.2.2.2.2.2.2.2.2.2.2.2.2.1 bt226.2.2.2.2.2.2.2.2.2.2.2.2.2.2.2.2.1 bt226.2.2.2.2.2.2.2.2.2.2.2.2.2.2.2.2.2.1 bt226.2.2.2.2.2.2.2.2.2.2.2.2.2.2.2.2.2.2.1 bt226.2.2.2.2.2.2.2.2.2.2.2.2.2.2.2.2.2.2.2.1 bt226.2.2.2.2.2.2.2.2.2.2.2.2.2.2.2.2.2.2.2.2.1 bt226.2.2.2.2.2.2.2.2.2.2.2.2.2.2.2.2.2.2.2.2.2)) else (some (0, 0, 0, 0, 0, false)))) = some (r1, r2, r3, r4, r5, r6) := h
  clear h
  replace H := Option.bind_eq_some_iff.mp H
  obtain ⟨t225, A30, H⟩ := H
  replace H : (if t225 = true then ((impl_tongueAt.f a1).bind fun bt226 => (impl_ReadPhrase.l0 k a0 0 bt226.1 bt226.2.1 bt226.2.2.1 bt226.2.2.2.1 bt226.2.2.2.2.1 bt226.2.2.2.2.2.1 bt226.2.2.2.2.2.2.1 bt226.2.2.2.2.2.2.2.1 bt226.2.2.2.2.2.2.2.2.1 bt226.2.2.2.2.2.2.2.2.2.1 bt226.2.2.2.2.2.2.2.2.2.2.1 bt226.2.2.2.2.2.2.2.2.2.2.2.1 bt226.2.2.2.2.2.2.2.2.2.2.2.2.1 bt226.2.2.2.2.2.2.2.2.2.2.2.2.2.1 bt226.2.2.2.2.2.2.2.2.2.2.2.2.2.2.1 bt226.2.2.2.2.2.2.2.2.2.2.2.2.2.2.2.1 bt226.2.2.2.2.2.2.2.2.2.2.2.2.2.2.2.2.1 bt226.2.2.2.2.2.2.2.2.2.2.2.2.2.2.2.2.2.1 bt226.2.2.2.2.2.2.2.2.2.2.2.2.2.2.2.2.2.2.1 bt226.2.2.2.2.2.2.2.2.2.2.2.2.2.2.2.2.2.2.2.1 bt226.2.2.2.2.2.2.2.2.2.2.2.2.2.2.2.2.2.2.2.2.1 bt226.2.2.2.2.2.2.2.2.2.2.2.2.2.2.2.2.2.2.2.2.2)) else (some (0, 0, 0, 0, 0, false))) = some (r1, r2, r3, r4, r5, r6) := H
  have A3 := Aside0.mk A30
  clear A30
  by_cases c4 : t225 = true
  · subst c4
    have H1 : ((impl_tongueAt.f a1).bind fun bt226 => (impl_ReadPhrase.l0 k a0 0 bt226.1 bt226.2.1 bt226.2.2.1 bt226.2.2.2.1 bt226.2.2.2.2.1 bt226.2.2.2.2.2.1 bt226.2.2.2.2.2.2.1 bt226.2.2.2.2.2.2.2.1 bt226.2.2.2.2.2.2.2.2.1 bt226.2.2.2.2.2.2.2.2.2.1 bt226.2.2.2.2.2.2.2.2.2.2.1 bt226.2.2.2.2.2.2.2.2.2.2.2.1 bt226.2.2.2.2.2.2.2.2.2.2.2.2.1 bt226.2.2.2.2.2.2.2.2.2.2.2.2.2.1 bt226.2.2.2.2.2.2.2.2.2.2.2.2.2.2.1 bt226.2.2.2.2.2.2.2.2.2.2.2.2.2.2.2.1 bt226.2.2.2.2.2.2.2.2.2.2.2.2.2.2.2.2.1 bt226.2.2.2.2.2.2.2.2.2.2.2.2.2.2.2.2.2.1 bt226.2.2.2.2.2.2.2.2.2.2.2.2.2.2.2.2.2.2.1 bt226.2.2.2.2.2.2.2.2.2.2.2.2.2.2.2.2.2.2.2.1 bt226.2.2.2.2.2.2.2.2.2.2.2.2.2.2.2.2.2.2.2.2.1 bt226.2.2.2.2.2.2.2.2.2.2.2.2.2.2.2.2.2.2.2.2.2)) = some (r1, r2, r3, r4, r5, r6) := by rw [if_pos rfl] at H; exact H
    clear H
    have H := H1
    clear H1
    replace H := Option.bind_eq_some_iff.mp H
    obtain ⟨⟨t226, t227, t228, t229, t230, t231, t232, t233, t234, t235, t236, t237, t238, t239, t240, t241, t242, t243, t244, t245, t246, t247⟩, A50, H⟩ := H
    replace H : (impl_ReadPhrase.l0 k a0 0 t226 t227 t228 t229 t230 t231 t232 t233 t234 t235 t236 t237 t238 t239 t240 t241 t242 t243 t244 t245 t246 t247) = some (r1, r2, r3, r4, r5, r6) := H
    have A5 := Aside0.mk A50
    clear A50
    have H' := Aside0.mk H
    clear H
    go_enter Tryd.func10, Tryd.ntmps10
    obtain ⟨tl_, th_, _⟩ := tongueAt_range A5.out (tong_on HGb.out (by repeat (first | (with_reducible first | exact HB.out | apply below_alloc | apply pw_below_drewN | apply below_drew1 | refine below_set ?_ GE224.out | refine below_set ?_ GE248.out) | exact HB.out)))
    have tl0_ : 0 ≤ a1 := by omega
    go_wp2_with (first | ((with_reducible refine gate_dst (N := 4) rfl ?_); refine box_event ?hg (N := 4) ?hd (cs := #[.int .i64 0, .int .i64 0, .int .i64 0, .int .i64 0, .int .i64 0]) (t := 25) ?hr ?_; (case hd => rfl); (case hg => rfl); (case hr => first | (go_simp; done) | (go_simp; rfl)); intro gb224 hg w6 hbox hb; have n0_ := Aside0.mk (below_step (by repeat (first | (with_reducible first | exact HB.out | apply below_alloc | apply pw_below_drewN | apply below_drew1) | exact HB.out)) hb); have n1_ := Aside0.mk (hbox); have n2_ := Aside0.mk ((by rw [hg]; exact (below_size (by repeat (first | (with_reducible first | exact HB.out | apply below_alloc | apply pw_below_drewN | apply below_drew1) | exact HB.out))) : w.heap.size ≤ gb224)); have n3_ := Aside0.mk ((by rw [hg]; exact (below_size (by repeat (first | (with_reducible first | exact HB.out | apply below_alloc | apply pw_below_drewN | apply below_drew1) | exact HB.out))) : w.heap.size ≤ gb224)); clear HB; have HB := n0_; have BK224 := n1_; have GW224 := n2_; have GE224 := n3_; clear n0_ n1_ n2_ n3_; clear hb hbox hg) | ((with_reducible refine gate_callee (f := 20) rfl ?_); refine goesL_ (some 15) rfl rfl Tryd.func20 (by kernel_rfl) rfl #[.int .i64 a1, .int .i64 1, .int .i64 3] rfl (by (try simp only [List.map_toArray, List.map_cons, List.map_nil]); first | done | rfl | (simp only [List.length_drop, List.length_take]; rfl)) ?_; (with_reducible refine (impl_in.calls a1 1 3 true _ A3.out).mono ?_); rintro e w' ⟨rfl, ⟨nd, rfl⟩⟩; refine ⟨_, rfl, ?_⟩; (try (rw [drewN_self w6]; generalize hq_ : World.drewN w6 _ = w6; have n0_ : Aside0 (w6.heap[gb224]? = some (.cells #[.int .i64 0, .int .i64 0, .int .i64 0, .int .i64 0, .int .i64 0] 25 (0, 0))) := ⟨by rw [← hq_]; exact (by (with_reducible repeat (first | refine blk_drewN ?_ _ | refine blk_drew ?_ | refine blk_alloc ?_ _)); exact BK224.out)⟩; have n1_ : Aside0 (Below w.heap.size w w6) := ⟨by rw [← hq_]; exact (by repeat (first | (with_reducible first | exact HB.out | apply below_alloc | apply pw_below_drewN | apply below_drew1 | refine below_set ?_ GE224.out) | exact HB.out))⟩; clear BK224 HB hq_; have BK224 := n0_; have HB := n1_; clear n0_ n1_))) | ((with_reducible refine gate_dst (N := 20) rfl ?_); refine wpList_load_mid rfl 44 (.tmp 19) rfl 0 (a1.toNat * 22) ?hx [.string t226, .string t227, .string t228, .string t229, .string t230, .string t231, .string t232, .string t233, .string t234, .string t235, .string t236, .string t237, .string t238, .string t239, .string t240, .string t241, .string t242, .string t243, .string t244, .string t245, .string t246, .string t247] _ ?hc Tryd.underlying44 rfl info_tong ?_; (case hx => first | rfl | (go_simp; done) | (go_simp; rfl)); (case hc => exact (tongueAt_range A5.out (tong_on HGb.out (by repeat (first | (with_reducible first | exact HB.out | apply below_alloc | apply pw_below_drewN | apply below_drew1 | refine below_set ?_ GE224.out | refine below_set ?_ GE248.out) | exact HB.out)))).2.2)) | ((with_reducible refine gate_store (t := 44) (p := 6) (v := .tmp 20) rfl ?_); refine tg_store (W' := ((((((((((((((((((((((w8.setCell ⟨gb248, 0, none⟩ (.string t226)).setCell ⟨gb248, 1, none⟩ (.string t227)).setCell ⟨gb248, 2, none⟩ (.string t228)).setCell ⟨gb248, 3, none⟩ (.string t229)).setCell ⟨gb248, 4, none⟩ (.string t230)).setCell ⟨gb248, 5, none⟩ (.string t231)).setCell ⟨gb248, 6, none⟩ (.string t232)).setCell ⟨gb248, 7, none⟩ (.string t233)).setCell ⟨gb248, 8, none⟩ (.string t234)).setCell ⟨gb248, 9, none⟩ (.string t235)).setCell ⟨gb248, 10, none⟩ (.string t236)).setCell ⟨gb248, 11, none⟩ (.string t237)).setCell ⟨gb248, 12, none⟩ (.string t238)).setCell ⟨gb248, 13, none⟩ (.string t239)).setCell ⟨gb248, 14, none⟩ (.string t240)).setCell ⟨gb248, 15, none⟩ (.string t241)).setCell ⟨gb248, 16, none⟩ (.string t242)).setCell ⟨gb248, 17, none⟩ (.string t243)).setCell ⟨gb248, 18, none⟩ (.string t244)).setCell ⟨gb248, 19, none⟩ (.string t245)).setCell ⟨gb248, 20, none⟩ (.string t246)).setCell ⟨gb248, 21, none⟩ (.string t247))) rfl rfl 44 (.tmp 6) (.tmp 20) rfl gb248 #[.string t226, .string t227, .string t228, .string t229, .string t230, .string t231, .string t232, .string t233, .string t234, .string t235, .string t236, .string t237, .string t238, .string t239, .string t240, .string t241, .string t242, .string t243, .string t244, .string t245, .string t246, .string t247] ?hx ?hy 22 (there_blk BK248.out) rfl info_tong rfl rfl ?_; (case hx => first | rfl | (go_simp; done) | (go_simp; rfl)); (case hy => first | rfl | (go_simp; done) | (go_simp; rfl))) | ((with_reducible refine gate_dst (N := 6) rfl ?_); refine box_event ?hg (N := 6) ?hd (cs := #[.string (⟨#[]⟩ : ByteArray), .string (⟨#[]⟩ : ByteArray), .string (⟨#[]⟩ : ByteArray), .string (⟨#[]⟩ : ByteArray), .string (⟨#[]⟩ : ByteArray), .string (⟨#[]⟩ : ByteArray), .string (⟨#[]⟩ : ByteArray), .string (⟨#[]⟩ : ByteArray), .string (⟨#[]⟩ : ByteArray), .string (⟨#[]⟩ : ByteArray), .string (⟨#[]⟩ : ByteArray), .string (⟨#[]⟩ : ByteArray), .string (⟨#[]⟩ : ByteArray), .string (⟨#[]⟩ : ByteArray), .string (⟨#[]⟩ : ByteArray), .string (⟨#[]⟩ : ByteArray), .string (⟨#[]⟩ : ByteArray), .string (⟨#[]⟩ : ByteArray), .string (⟨#[]⟩ : ByteArray), .string (⟨#[]⟩ : ByteArray), .string (⟨#[]⟩ : ByteArray), .string (⟨#[]⟩ : ByteArray)]) (t := 44) ?hr ?_; (case hd => rfl); (case hg => rfl); (case hr => first | (go_simp; done) | (go_simp; rfl)); intro gb248 hg w8 hbox hb; have n0_ := Aside0.mk (blk_below (g := gb224) (o := .cells #[.int .i64 0, .int .i64 0, .int .i64 0, .int .i64 0, .int .i64 0] 25 (0, 0)) (by (with_reducible repeat (first | refine blk_drewN ?_ _ | refine blk_drew ?_ | refine blk_alloc ?_ _)); exact BK224.out) hb); have n1_ := Aside0.mk (below_step (by repeat (first | (with_reducible first | exact HB.out | apply below_alloc | apply pw_below_drewN | apply below_drew1 | refine below_set ?_ GE224.out) | exact HB.out)) hb); have n2_ := Aside0.mk (hbox); have n3_ := Aside0.mk ((by rw [hg]; exact (below_size (by repeat (first | (with_reducible first | exact HB.out | apply below_alloc | apply pw_below_drewN | apply below_drew1 | refine below_set ?_ GE224.out) | exact HB.out))) : w.heap.size ≤ gb248)); have n4_ := Aside0.mk ((by rw [hg]; exact (below_size (by repeat (first | (with_reducible first | exact HB.out | apply below_alloc | apply pw_below_drewN | apply below_drew1 | refine below_set ?_ GE224.out) | exact HB.out))) : w.heap.size ≤ gb248)); have n5_ := Aside0.mk ((by rw [hg]; exact Nat.ne_of_lt (blk_lt (g := gb224) (o := .cells #[.int .i64 0, .int .i64 0, .int .i64 0, .int .i64 0, .int .i64 0] 25 (0, 0)) (by (with_reducible repeat (first | refine blk_drewN ?_ _ | refine blk_drew ?_ | refine blk_alloc ?_ _)); exact BK224.out)) : gb224 ≠ gb248)); have n6_ := Aside0.mk ((by rw [hg]; exact Nat.ne_of_gt (blk_lt (g := gb224) (o := .cells #[.int .i64 0, .int .i64 0, .int .i64 0, .int .i64 0, .int .i64 0] 25 (0, 0)) (by (with_reducible repeat (first | refine blk_drewN ?_ _ | refine blk_drew ?_ | refine blk_alloc ?_ _)); exact BK224.out)) : gb248 ≠ gb224)); clear BK224; clear HB; have BK224 := n0_; have HB := n1_; have BK248 := n2_; have GW248 := n3_; have GE248 := n4_; have NB224_248 := n5_; have NB248_224 := n6_; clear n0_ n1_ n2_ n3_ n4_ n5_ n6_; clear hb hbox hg; have hnb9 := NB248_224.out; have hnc9 := NB224_248.out; have hcz10_0 : w8.cell? ⟨gb248, 0, none⟩ = some (.string (⟨#[]⟩ : ByteArray)) := (blk_cell BK248.out 0).trans rfl; have hcz10_1 : w8.cell? ⟨gb248, 1, none⟩ = some (.string (⟨#[]⟩ : ByteArray)) := (blk_cell BK248.out 1).trans rfl; have hcz10_2 : w8.cell? ⟨gb248, 2, none⟩ = some (.string (⟨#[]⟩ : ByteArray)) := (blk_cell BK248.out 2).trans rfl; have hcz10_3 : w8.cell? ⟨gb248, 3, none⟩ = some (.string (⟨#[]⟩ : ByteArray)) := (blk_cell BK248.out 3).trans rfl; have hcz10_4 : w8.cell? ⟨gb248, 4, none⟩ = some (.string (⟨#[]⟩ : ByteArray)) := (blk_cell BK248.out 4).trans rfl; have hcz10_5 : w8.cell? ⟨gb248, 5, none⟩ = some (.string (⟨#[]⟩ : ByteArray)) := (blk_cell BK248.out 5).trans rfl; have hcz10_6 : w8.cell? ⟨gb248, 6, none⟩ = some (.string (⟨#[]⟩ : ByteArray)) := (blk_cell BK248.out 6).trans rfl; have hcz10_7 : w8.cell? ⟨gb248, 7, none⟩ = some (.string (⟨#[]⟩ : ByteArray)) := (blk_cell BK248.out 7).trans rfl; have hcz10_8 : w8.cell? ⟨gb248, 8, none⟩ = some (.string (⟨#[]⟩ : ByteArray)) := (blk_cell BK248.out 8).trans rfl; have hcz10_9 : w8.cell? ⟨gb248, 9, none⟩ = some (.string (⟨#[]⟩ : ByteArray)) := (blk_cell BK248.out 9).trans rfl; have hcz10_10 : w8.cell? ⟨gb248, 10, none⟩ = some (.string (⟨#[]⟩ : ByteArray)) := (blk_cell BK248.out 10).trans rfl; have hcz10_11 : w8.cell? ⟨gb248, 11, none⟩ = some (.string (⟨#[]⟩ : ByteArray)) := (blk_cell BK248.out 11).trans rfl; have hcz10_12 : w8.cell? ⟨gb248, 12, none⟩ = some (.string (⟨#[]⟩ : ByteArray)) := (blk_cell BK248.out 12).trans rfl; have hcz10_13 : w8.cell? ⟨gb248, 13, none⟩ = some (.string (⟨#[]⟩ : ByteArray)) := (blk_cell BK248.out 13).trans rfl; have hcz10_14 : w8.cell? ⟨gb248, 14, none⟩ = some (.string (⟨#[]⟩ : ByteArray)) := (blk_cell BK248.out 14).trans rfl; have hcz10_15 : w8.cell? ⟨gb248, 15, none⟩ = some (.string (⟨#[]⟩ : ByteArray)) := (blk_cell BK248.out 15).trans rfl; have hcz10_16 : w8.cell? ⟨gb248, 16, none⟩ = some (.string (⟨#[]⟩ : ByteArray)) := (blk_cell BK248.out 16).trans rfl; have hcz10_17 : w8.cell? ⟨gb248, 17, none⟩ = some (.string (⟨#[]⟩ : ByteArray)) := (blk_cell BK248.out 17).trans rfl; have hcz10_18 : w8.cell? ⟨gb248, 18, none⟩ = some (.string (⟨#[]⟩ : ByteArray)) := (blk_cell BK248.out 18).trans rfl; have hcz10_19 : w8.cell? ⟨gb248, 19, none⟩ = some (.string (⟨#[]⟩ : ByteArray)) := (blk_cell BK248.out 19).trans rfl; have hcz10_20 : w8.cell? ⟨gb248, 20, none⟩ = some (.string (⟨#[]⟩ : ByteArray)) := (blk_cell BK248.out 20).trans rfl; have hcz10_21 : w8.cell? ⟨gb248, 21, none⟩ = some (.string (⟨#[]⟩ : ByteArray)) := (blk_cell BK248.out 21).trans rfl; have hfz10_0 := blk_frozen BK248.out 0; have hfz10_1 := blk_frozen BK248.out 1; have hfz10_2 := blk_frozen BK248.out 2; have hfz10_3 := blk_frozen BK248.out 3; have hfz10_4 := blk_frozen BK248.out 4; have hfz10_5 := blk_frozen BK248.out 5; have hfz10_6 := blk_frozen BK248.out 6; have hfz10_7 := blk_frozen BK248.out 7; have hfz10_8 := blk_frozen BK248.out 8; have hfz10_9 := blk_frozen BK248.out 9; have hfz10_10 := blk_frozen BK248.out 10; have hfz10_11 := blk_frozen BK248.out 11; have hfz10_12 := blk_frozen BK248.out 12; have hfz10_13 := blk_frozen BK248.out 13; have hfz10_14 := blk_frozen BK248.out 14; have hfz10_15 := blk_frozen BK248.out 15; have hfz10_16 := blk_frozen BK248.out 16; have hfz10_17 := blk_frozen BK248.out 17; have hfz10_18 := blk_frozen BK248.out 18; have hfz10_19 := blk_frozen BK248.out 19; have hfz10_20 := blk_frozen BK248.out 20; have hfz10_21 := blk_frozen BK248.out 21))
    go_loopg [7] k (fun kq v7 w' => ∃ (x7_1 : Int) (x225000_1 : Int) (x225001_1 : Int) (x225002_1 : Int) (x225003_1 : Int) (x225004_1 : Int), v7 = .int .i64 x7_1 ∧ Aside0 (impl_ReadPhrase.l0 kq a0 x7_1 t226 t227 t228 t229 t230 t231 t232 t233 t234 t235 t236 t237 t238 t239 t240 t241 t242 t243 t244 t245 t246 t247 = some (r1, r2, r3, r4, r5, r6)) ∧ Aside0 (kq ≤ k) ∧ Aside0 (w'.heap[gb224]? = some (.cells #[.int .i64 x225000_1, .int .i64 x225001_1, .int .i64 x225002_1, .int .i64 x225003_1, .int .i64 x225004_1] 25 (0, 0))) ∧ Aside0 (w'.heap[gb248]? = some (.cells #[.string t226, .string t227, .string t228, .string t229, .string t230, .string t231, .string t232, .string t233, .string t234, .string t235, .string t236, .string t237, .string t238, .string t239, .string t240, .string t241, .string t242, .string t243, .string t244, .string t245, .string t246, .string t247] 44 (0, 0))) ∧ Aside0 (Below w.heap.size w w'))
    case atStart => exact ⟨(0), (0), (0), (0), (0), (0), (by first | rfl | (simp; done) | (simp [*]; done)), H', ⟨Nat.le_refl _⟩, ⟨by (with_reducible repeat (first | refine blk_drewN ?_ _ | refine blk_drew ?_ | refine blk_alloc ?_ _)); refine blk_far ?_ NB224_248.out _; (with_reducible repeat (first | refine blk_drewN ?_ _ | refine blk_drew ?_ | refine blk_alloc ?_ _)); refine blk_far ?_ NB224_248.out _; (with_reducible repeat (first | refine blk_drewN ?_ _ | refine blk_drew ?_ | refine blk_alloc ?_ _)); refine blk_far ?_ NB224_248.out _; (with_reducible repeat (first | refine blk_drewN ?_ _ | refine blk_drew ?_ | refine blk_alloc ?_ _)); refine blk_far ?_ NB224_248.out _; (with_reducible repeat (first | refine blk_drewN ?_ _ | refine blk_drew ?_ | refine blk_alloc ?_ _)); refine blk_far ?_ NB224_248.out _; (with_reducible repeat (first | refine blk_drewN ?_ _ | refine blk_drew ?_ | refine blk_alloc ?_ _)); refine blk_far ?_ NB224_248.out _; (with_reducible repeat (first | refine blk_drewN ?_ _ | refine blk_drew ?_ | refine blk_alloc ?_ _)); refine blk_far ?_ NB224_248.out _; (with_reducible repeat (first | refine blk_drewN ?_ _ | refine blk_drew ?_ | refine blk_alloc ?_ _)); refine blk_far ?_ NB224_248.out _; (with_reducible repeat (first | refine blk_drewN ?_ _ | refine blk_drew ?_ | refine blk_alloc ?_ _)); refine blk_far ?_ NB224_248.out _; (with_reducible repeat (first | refine blk_drewN ?_ _ | refine blk_drew ?_ | refine blk_alloc ?_ _)); refine blk_far ?_ NB224_248.out _; (with_reducible repeat (first | refine blk_drewN ?_ _ | refine blk_drew ?_ | refine blk_alloc ?_ _)); refine blk_far ?_ NB224_248.out _; (with_reducible repeat (first | refine blk_drewN ?_ _ | refine blk_drew ?_ | refine blk_alloc ?_ _)); refine blk_far ?_ NB224_248.out _; (with_reducible repeat (first | refine blk_drewN ?_ _ | refine blk_drew ?_ | refine blk_alloc ?_ _)); refine blk_far ?_ NB224_248.out _; (with_reducible repeat (first | refine blk_drewN ?_ _ | refine blk_drew ?_ | refine blk_alloc ?_ _)); refine blk_far ?_ NB224_248.out _; (with_reducible repeat (first | refine blk_drewN ?_ _ | refine blk_drew ?_ | refine blk_alloc ?_ _)); refine blk_far ?_ NB224_248.out _; (with_reducible repeat (first | refine blk_drewN ?_ _ | refine blk_drew ?_ | refine blk_alloc ?_ _)); refine blk_far ?_ NB224_248.out _; (with_reducible repeat (first | refine blk_drewN ?_ _ | refine blk_drew ?_ | refine blk_alloc ?_ _)); refine blk_far ?_ NB224_248.out _; (with_reducible repeat (first | refine blk_drewN ?_ _ | refine blk_drew ?_ | refine blk_alloc ?_ _)); refine blk_far ?_ NB224_248.out _; (with_reducible repeat (first | refine blk_drewN ?_ _ | refine blk_drew ?_ | refine blk_alloc ?_ _)); refine blk_far ?_ NB224_248.out _; (with_reducible repeat (first | refine blk_drewN ?_ _ | refine blk_drew ?_ | refine blk_alloc ?_ _)); refine blk_far ?_ NB224_248.out _; (with_reducible repeat (first | refine blk_drewN ?_ _ | refine blk_drew ?_ | refine blk_alloc ?_ _)); refine blk_far ?_ NB224_248.out _; (with_reducible repeat (first | refine blk_drewN ?_ _ | refine blk_drew ?_ | refine blk_alloc ?_ _)); refine blk_far ?_ NB224_248.out _; (with_reducible repeat (first | refine blk_drewN ?_ _ | refine blk_drew ?_ | refine blk_alloc ?_ _)); exact BK224.out⟩, ⟨by (with_reducible repeat (first | refine blk_drewN ?_ _ | refine blk_drew ?_ | refine blk_alloc ?_ _)); refine blk_put (cs := #[.string t226, .string t227, .string t228, .string t229, .string t230, .string t231, .string t232, .string t233, .string t234, .string t235, .string t236, .string t237, .string t238, .string t239, .string t240, .string t241, .string t242, .string t243, .string t244, .string t245, .string t246, .string (⟨#[]⟩ : ByteArray)]) ?_ 21 _ rfl; (with_reducible repeat (first | refine blk_drewN ?_ _ | refine blk_drew ?_ | refine blk_alloc ?_ _)); refine blk_put (cs := #[.string t226, .string t227, .string t228, .string t229, .string t230, .string t231, .string t232, .string t233, .string t234, .string t235, .string t236, .string t237, .string t238, .string t239, .string t240, .string t241, .string t242, .string t243, .string t244, .string t245, .string (⟨#[]⟩ : ByteArray), .string (⟨#[]⟩ : ByteArray)]) ?_ 20 _ rfl; (with_reducible repeat (first | refine blk_drewN ?_ _ | refine blk_drew ?_ | refine blk_alloc ?_ _)); refine blk_put (cs := #[.string t226, .string t227, .string t228, .string t229, .string t230, .string t231, .string t232, .string t233, .string t234, .string t235, .string t236, .string t237, .string t238, .string t239, .string t240, .string t241, .string t242, .string t243, .string t244, .string (⟨#[]⟩ : ByteArray), .string (⟨#[]⟩ : ByteArray), .string (⟨#[]⟩ : ByteArray)]) ?_ 19 _ rfl; (with_reducible repeat (first | refine blk_drewN ?_ _ | refine blk_drew ?_ | refine blk_alloc ?_ _)); refine blk_put (cs := #[.string t226, .string t227, .string t228, .string t229, .string t230, .string t231, .string t232, .string t233, .string t234, .string t235, .string t236, .string t237, .string t238, .string t239, .string t240, .string t241, .string t242, .string t243, .string (⟨#[]⟩ : ByteArray), .string (⟨#[]⟩ : ByteArray), .string (⟨#[]⟩ : ByteArray), .string (⟨#[]⟩ : ByteArray)]) ?_ 18 _ rfl; (with_reducible repeat (first | refine blk_drewN ?_ _ | refine blk_drew ?_ | refine blk_alloc ?_ _)); refine blk_put (cs := #[.string t226, .string t227, .string t228, .string t229, .string t230, .string t231, .string t232, .string t233, .string t234, .string t235, .string t236, .string t237, .string t238, .string t239, .string t240, .string t241, .string t242, .string (⟨#[]⟩ : ByteArray), .string (⟨#[]⟩ : ByteArray), .string (⟨#[]⟩ : ByteArray), .string (⟨#[]⟩ : ByteArray), .string (⟨#[]⟩ : ByteArray)]) ?_ 17 _ rfl; (with_reducible repeat (first | refine blk_drewN ?_ _ | refine blk_drew ?_ | refine blk_alloc ?_ _)); refine blk_put (cs := #[.string t226, .string t227, .string t228, .string t229, .string t230, .string t231, .string t232, .string t233, .string t234, .string t235, .string t236, .string t237, .string t238, .string t239, .string t240, .string t241, .string (⟨#[]⟩ : ByteArray), .string (⟨#[]⟩ : ByteArray), .string (⟨#[]⟩ : ByteArray), .string (⟨#[]⟩ : ByteArray), .string (⟨#[]⟩ : ByteArray), .string (⟨#[]⟩ : ByteArray)]) ?_ 16 _ rfl; (with_reducible repeat (first | refine blk_drewN ?_ _ | refine blk_drew ?_ | refine blk_alloc ?_ _)); refine blk_put (cs := #[.string t226, .string t227, .string t228, .string t229, .string t230, .string t231, .string t232, .string t233, .string t234, .string t235, .string t236, .string t237, .string t238, .string t239, .string t240, .string (⟨#[]⟩ : ByteArray), .string (⟨#[]⟩ : ByteArray), .string (⟨#[]⟩ : ByteArray), .string (⟨#[]⟩ : ByteArray), .string (⟨#[]⟩ : ByteArray), .string (⟨#[]⟩ : ByteArray), .string (⟨#[]⟩ : ByteArray)]) ?_ 15 _ rfl; (with_reducible repeat (first | refine blk_drewN ?_ _ | refine blk_drew ?_ | refine blk_alloc ?_ _)); refine blk_put (cs := #[.string t226, .string t227, .string t228, .string t229, .string t230, .string t231, .string t232, .string t233, .string t234, .string t235, .string t236, .string t237, .string t238, .string t239, .string (⟨#[]⟩ : ByteArray), .string (⟨#[]⟩ : ByteArray), .string (⟨#[]⟩ : ByteArray), .string (⟨#[]⟩ : ByteArray), .string (⟨#[]⟩ : ByteArray), .string (⟨#[]⟩ : ByteArray), .string (⟨#[]⟩ : ByteArray), .string (⟨#[]⟩ : ByteArray)]) ?_ 14 _ rfl; (with_reducible repeat (first | refine blk_drewN ?_ _ | refine blk_drew ?_ | refine blk_alloc ?_ _)); refine blk_put (cs := #[.string t226, .string t227, .string t228, .string t229, .string t230, .string t231, .string t232, .string t233, .string t234, .string t235, .string t236, .string t237, .string t238, .string (⟨#[]⟩ : ByteArray), .string (⟨#[]⟩ : ByteArray), .string (⟨#[]⟩ : ByteArray), .string (⟨#[]⟩ : ByteArray), .string (⟨#[]⟩ : ByteArray), .string (⟨#[]⟩ : ByteArray), .string (⟨#[]⟩ : ByteArray), .string (⟨#[]⟩ : ByteArray), .string (⟨#[]⟩ : ByteArray)]) ?_ 13 _ rfl; (with_reducible repeat (first | refine blk_drewN ?_ _ | refine blk_drew ?_ | refine blk_alloc ?_ _)); refine blk_put (cs := #[.string t226, .string t227, .string t228, .string t229, .string t230, .string t231, .string t232, .string t233, .string t234, .string t235, .string t236, .string t237, .string (⟨#[]⟩ : ByteArray), .string (⟨#[]⟩ : ByteArray), .string (⟨#[]⟩ : ByteArray), .string (⟨#[]⟩ : ByteArray), .string (⟨#[]⟩ : ByteArray), .string (⟨#[]⟩ : ByteArray), .string (⟨#[]⟩ : ByteArray), .string (⟨#[]⟩ : ByteArray), .string (⟨#[]⟩ : ByteArray), .string (⟨#[]⟩ : ByteArray)]) ?_ 12 _ rfl; (with_reducible repeat (first | refine blk_drewN ?_ _ | refine blk_drew ?_ | refine blk_alloc ?_ _)); refine blk_put (cs := #[.string t226, .string t227, .string t228, .string t229, .string t230, .string t231, .string t232, .string t233, .string t234, .string t235, .string t236, .string (⟨#[]⟩ : ByteArray), .string (⟨#[]⟩ : ByteArray), .string (⟨#[]⟩ : ByteArray), .string (⟨#[]⟩ : ByteArray), .string (⟨#[]⟩ : ByteArray), .string (⟨#[]⟩ : ByteArray), .string (⟨#[]⟩ : ByteArray), .string (⟨#[]⟩ : ByteArray), .string (⟨#[]⟩ : ByteArray), .string (⟨#[]⟩ : ByteArray), .string (⟨#[]⟩ : ByteArray)]) ?_ 11 _ rfl; (with_reducible repeat (first | refine blk_drewN ?_ _ | refine blk_drew ?_ | refine blk_alloc ?_ _)); refine blk_put (cs := #[.string t226, .string t227, .string t228, .string t229, .string t230, .string t231, .string t232, .string t233, .string t234, .string t235, .string (⟨#[]⟩ : ByteArray), .string (⟨#[]⟩ : ByteArray), .string (⟨#[]⟩ : ByteArray), .string (⟨#[]⟩ : ByteArray), .string (⟨#[]⟩ : ByteArray), .string (⟨#[]⟩ : ByteArray), .string (⟨#[]⟩ : ByteArray), .string (⟨#[]⟩ : ByteArray), .string (⟨#[]⟩ : ByteArray), .string (⟨#[]⟩ : ByteArray), .string (⟨#[]⟩ : ByteArray), .string (⟨#[]⟩ : ByteArray)]) ?_ 10 _ rfl; (with_reducible repeat (first | refine blk_drewN ?_ _ | refine blk_drew ?_ | refine blk_alloc ?_ _)); refine blk_put (cs := #[.string t226, .string t227, .string t228, .string t229, .string t230, .string t231, .string t232, .string t233, .string t234, .string (⟨#[]⟩ : ByteArray), .string (⟨#[]⟩ : ByteArray), .string (⟨#[]⟩ : ByteArray), .string (⟨#[]⟩ : ByteArray), .string (⟨#[]⟩ : ByteArray), .string (⟨#[]⟩ : ByteArray), .string (⟨#[]⟩ : ByteArray), .string (⟨#[]⟩ : ByteArray), .string (⟨#[]⟩ : ByteArray), .string (⟨#[]⟩ : ByteArray), .string (⟨#[]⟩ : ByteArray), .string (⟨#[]⟩ : ByteArray), .string (⟨#[]⟩ : ByteArray)]) ?_ 9 _ rfl; (with_reducible repeat (first | refine blk_drewN ?_ _ | refine blk_drew ?_ | refine blk_alloc ?_ _)); refine blk_put (cs := #[.string t226, .string t227, .string t228, .string t229, .string t230, .string t231, .string t232, .string t233, .string (⟨#[]⟩ : ByteArray), .string (⟨#[]⟩ : ByteArray), .string (⟨#[]⟩ : ByteArray), .string (⟨#[]⟩ : ByteArray), .string (⟨#[]⟩ : ByteArray), .string (⟨#[]⟩ : ByteArray), .string (⟨#[]⟩ : ByteArray), .string (⟨#[]⟩ : ByteArray), .string (⟨#[]⟩ : ByteArray), .string (⟨#[]⟩ : ByteArray), .string (⟨#[]⟩ : ByteArray), .string (⟨#[]⟩ : ByteArray), .string (⟨#[]⟩ : ByteArray), .string (⟨#[]⟩ : ByteArray)]) ?_ 8 _ rfl; (with_reducible repeat (first | refine blk_drewN ?_ _ | refine blk_drew ?_ | refine blk_alloc ?_ _)); refine blk_put (cs := #[.string t226, .string t227, .string t228, .string t229, .string t230, .string t231, .string t232, .string (⟨#[]⟩ : ByteArray), .string (⟨#[]⟩ : ByteArray), .string (⟨#[]⟩ : ByteArray), .string (⟨#[]⟩ : ByteArray), .string (⟨#[]⟩ : ByteArray), .string (⟨#[]⟩ : ByteArray), .string (⟨#[]⟩ : ByteArray), .string (⟨#[]⟩ : ByteArray), .string (⟨#[]⟩ : ByteArray), .string (⟨#[]⟩ : ByteArray), .string (⟨#[]⟩ : ByteArray), .string (⟨#[]⟩ : ByteArray), .string (⟨#[]⟩ : ByteArray), .string (⟨#[]⟩ : ByteArray), .string (⟨#[]⟩ : ByteArray)]) ?_ 7 _ rfl; (with_reducible repeat (first | refine blk_drewN ?_ _ | refine blk_drew ?_ | refine blk_alloc ?_ _)); refine blk_put (cs := #[.string t226, .string t227, .string t228, .string t229, .string t230, .string t231, .string (⟨#[]⟩ : ByteArray), .string (⟨#[]⟩ : ByteArray), .string (⟨#[]⟩ : ByteArray), .string (⟨#[]⟩ : ByteArray), .string (⟨#[]⟩ : ByteArray), .string (⟨#[]⟩ : ByteArray), .string (⟨#[]⟩ : ByteArray), .string (⟨#[]⟩ : ByteArray), .string (⟨#[]⟩ : ByteArray), .string (⟨#[]⟩ : ByteArray), .string (⟨#[]⟩ : ByteArray), .string (⟨#[]⟩ : ByteArray), .string (⟨#[]⟩ : ByteArray), .string (⟨#[]⟩ : ByteArray), .string (⟨#[]⟩ : ByteArray), .string (⟨#[]⟩ : ByteArray)]) ?_ 6 _ rfl; (with_reducible repeat (first | refine blk_drewN ?_ _ | refine blk_drew ?_ | refine blk_alloc ?_ _)); refine blk_put (cs := #[.string t226, .string t227, .string t228, .string t229, .string t230, .string (⟨#[]⟩ : ByteArray), .string (⟨#[]⟩ : ByteArray), .string (⟨#[]⟩ : ByteArray), .string (⟨#[]⟩ : ByteArray), .string (⟨#[]⟩ : ByteArray), .string (⟨#[]⟩ : ByteArray), .string (⟨#[]⟩ : ByteArray), .string (⟨#[]⟩ : ByteArray), .string (⟨#[]⟩ : ByteArray), .string (⟨#[]⟩ : ByteArray), .string (⟨#[]⟩ : ByteArray), .string (⟨#[]⟩ : ByteArray), .string (⟨#[]⟩ : ByteArray), .string (⟨#[]⟩ : ByteArray), .string (⟨#[]⟩ : ByteArray), .string (⟨#[]⟩ : ByteArray), .string (⟨#[]⟩ : ByteArray)]) ?_ 5 _ rfl; (with_reducible repeat (first | refine blk_drewN ?_ _ | refine blk_drew ?_ | refine blk_alloc ?_ _)); refine blk_put (cs := #[.string t226, .string t227, .string t228, .string t229, .string (⟨#[]⟩ : ByteArray), .string (⟨#[]⟩ : ByteArray), .string (⟨#[]⟩ : ByteArray), .string (⟨#[]⟩ : ByteArray), .string (⟨#[]⟩ : ByteArray), .string (⟨#[]⟩ : ByteArray), .string (⟨#[]⟩ : ByteArray), .string (⟨#[]⟩ : ByteArray), .string (⟨#[]⟩ : ByteArray), .string (⟨#[]⟩ : ByteArray), .string (⟨#[]⟩ : ByteArray), .string (⟨#[]⟩ : ByteArray), .string (⟨#[]⟩ : ByteArray), .string (⟨#[]⟩ : ByteArray), .string (⟨#[]⟩ : ByteArray), .string (⟨#[]⟩ : ByteArray), .string (⟨#[]⟩ : ByteArray), .string (⟨#[]⟩ : ByteArray)]) ?_ 4 _ rfl; (with_reducible repeat (first | refine blk_drewN ?_ _ | refine blk_drew ?_ | refine blk_alloc ?_ _)); refine blk_put (cs := #[.string t226, .string t227, .string t228, .string (⟨#[]⟩ : ByteArray), .string (⟨#[]⟩ : ByteArray), .string (⟨#[]⟩ : ByteArray), .string (⟨#[]⟩ : ByteArray), .string (⟨#[]⟩ : ByteArray), .string (⟨#[]⟩ : ByteArray), .string (⟨#[]⟩ : ByteArray), .string (⟨#[]⟩ : ByteArray), .string (⟨#[]⟩ : ByteArray), .string (⟨#[]⟩ : ByteArray), .string (⟨#[]⟩ : ByteArray), .string (⟨#[]⟩ : ByteArray), .string (⟨#[]⟩ : ByteArray), .string (⟨#[]⟩ : ByteArray), .string (⟨#[]⟩ : ByteArray), .string (⟨#[]⟩ : ByteArray), .string (⟨#[]⟩ : ByteArray), .string (⟨#[]⟩ : ByteArray), .string (⟨#[]⟩ : ByteArray)]) ?_ 3 _ rfl; (with_reducible repeat (first | refine blk_drewN ?_ _ | refine blk_drew ?_ | refine blk_alloc ?_ _)); refine blk_put (cs := #[.string t226, .string t227, .string (⟨#[]⟩ : ByteArray), .string (⟨#[]⟩ : ByteArray), .string (⟨#[]⟩ : ByteArray), .string (⟨#[]⟩ : ByteArray), .string (⟨#[]⟩ : ByteArray), .string (⟨#[]⟩ : ByteArray), .string (⟨#[]⟩ : ByteArray), .string (⟨#[]⟩ : ByteArray), .string (⟨#[]⟩ : ByteArray), .string (⟨#[]⟩ : ByteArray), .string (⟨#[]⟩ : ByteArray), .string (⟨#[]⟩ : ByteArray), .string (⟨#[]⟩ : ByteArray), .string (⟨#[]⟩ : ByteArray), .string (⟨#[]⟩ : ByteArray), .string (⟨#[]⟩ : ByteArray), .string (⟨#[]⟩ : ByteArray), .string (⟨#[]⟩ : ByteArray), .string (⟨#[]⟩ : ByteArray), .string (⟨#[]⟩ : ByteArray)]) ?_ 2 _ rfl; (with_reducible repeat (first | refine blk_drewN ?_ _ | refine blk_drew ?_ | refine blk_alloc ?_ _)); refine blk_put (cs := #[.string t226, .string (⟨#[]⟩ : ByteArray), .string (⟨#[]⟩ : ByteArray), .string (⟨#[]⟩ : ByteArray), .string (⟨#[]⟩ : ByteArray), .string (⟨#[]⟩ : ByteArray), .string (⟨#[]⟩ : ByteArray), .string (⟨#[]⟩ : ByteArray), .string (⟨#[]⟩ : ByteArray), .string (⟨#[]⟩ : ByteArray), .string (⟨#[]⟩ : ByteArray), .string (⟨#[]⟩ : ByteArray), .string (⟨#[]⟩ : ByteArray), .string (⟨#[]⟩ : ByteArray), .string (⟨#[]⟩ : ByteArray), .string (⟨#[]⟩ : ByteArray), .string (⟨#[]⟩ : ByteArray), .string (⟨#[]⟩ : ByteArray), .string (⟨#[]⟩ : ByteArray), .string (⟨#[]⟩ : ByteArray), .string (⟨#[]⟩ : ByteArray), .string (⟨#[]⟩ : ByteArray)]) ?_ 1 _ rfl; (with_reducible repeat (first | refine blk_drewN ?_ _ | refine blk_drew ?_ | refine blk_alloc ?_ _)); refine blk_put (cs := #[.string (⟨#[]⟩ : ByteArray), .string (⟨#[]⟩ : ByteArray), .string (⟨#[]⟩ : ByteArray), .string (⟨#[]⟩ : ByteArray), .string (⟨#[]⟩ : ByteArray), .string (⟨#[]⟩ : ByteArray), .string (⟨#[]⟩ : ByteArray), .string (⟨#[]⟩ : ByteArray), .string (⟨#[]⟩ : ByteArray), .string (⟨#[]⟩ : ByteArray), .string (⟨#[]⟩ : ByteArray), .string (⟨#[]⟩ : ByteArray), .string (⟨#[]⟩ : ByteArray), .string (⟨#[]⟩ : ByteArray), .string (⟨#[]⟩ : ByteArray), .string (⟨#[]⟩ : ByteArray), .string (⟨#[]⟩ : ByteArray), .string (⟨#[]⟩ : ByteArray), .string (⟨#[]⟩ : ByteArray), .string (⟨#[]⟩ : ByteArray), .string (⟨#[]⟩ : ByteArray), .string (⟨#[]⟩ : ByteArray)]) ?_ 0 _ rfl; (with_reducible repeat (first | refine blk_drewN ?_ _ | refine blk_drew ?_ | refine blk_alloc ?_ _)); exact BK248.out⟩, ⟨by repeat (first | (with_reducible first | exact HB.out | apply below_alloc | apply pw_below_drewN | apply below_drew1 | refine below_set ?_ GE224.out | refine below_set ?_ GE248.out) | exact HB.out)⟩⟩
    case round =>
      clear H'
      try clear c1
      try clear c2
      try clear p2
      try clear c4
      try clear c9
      try clear c10
      try clear hcz10_0
      try clear hcz10_1
      try clear hcz10_10
      try clear hcz10_11
      try clear hcz10_12
      try clear hcz10_13
      try clear hcz10_14
      try clear hcz10_15
      try clear hcz10_16
      try clear hcz10_17
      try clear hcz10_18
      try clear hcz10_19
      try clear hcz10_2
      try clear hcz10_20
      try clear hcz10_21
      try clear hcz10_3
      try clear hcz10_4
      try clear hcz10_5
      try clear hcz10_6
      try clear hcz10_7
      try clear hcz10_8
      try clear hcz10_9
      try clear hfz10_0
      try clear hfz10_1
      try clear hfz10_10
      try clear hfz10_11
      try clear hfz10_12
      try clear hfz10_13
      try clear hfz10_14
      try clear hfz10_15
      try clear hfz10_16
      try clear hfz10_17
      try clear hfz10_18
      try clear hfz10_19
      try clear hfz10_2
      try clear hfz10_20
      try clear hfz10_21
      try clear hfz10_3
      try clear hfz10_4
      try clear hfz10_5
      try clear hfz10_6
      try clear hfz10_7
      try clear hfz10_8
      try clear hfz10_9
      obtain ⟨x7_1, x225000_1, x225001_1, x225002_1, x225003_1, x225004_1, rfl, HA, HK1, BK224, BK248, HB⟩ := hrel
      cases gk with
      | zero => exact absurd HA.out (by simp [impl_ReadPhrase.l0])
      | succ k1 =>
        have H := HA.out
        clear HA
        simp only [impl_ReadPhrase.l0] at H
        by_cases c11 : x7_1 ≤ 8
        · rw [if_pos c11] at H
          have c11b0 : decide (x7_1 ≤ 8) = true := decide_eq_true c11
          clear c11
          have H' := Aside0.mk H
          clear H
          go_wp2
          go_loopg [8] k1 (fun kq v8 w' => ∃ (x8_2 : Int) (x225000_2 : Int) (x225001_2 : Int) (x225002_2 : Int) (x225003_2 : Int) (x225004_2 : Int), v8 = .int .i64 x8_2 ∧ Aside0 (impl_ReadPhrase.l1 kq a0 x7_1 x8_2 t226 t227 t228 t229 t230 t231 t232 t233 t234 t235 t236 t237 t238 t239 t240 t241 t242 t243 t244 t245 t246 t247 = some (r1, r2, r3, r4, r5, r6)) ∧ Aside0 (kq ≤ k1) ∧ Aside0 (w'.heap[gb224]? = some (.cells #[.int .i64 x225000_2, .int .i64 x225001_2, .int .i64 x225002_2, .int .i64 x225003_2, .int .i64 x225004_2] 25 (0, 0))) ∧ Aside0 (w'.heap[gb248]? = some (.cells #[.string t226, .string t227, .string t228, .string t229, .string t230, .string t231, .string t232, .string t233, .string t234, .string t235, .string t236, .string t237, .string t238, .string t239, .string t240, .string t241, .string t242, .string t243, .string t244, .string t245, .string t246, .string t247] 44 (0, 0))) ∧ Aside0 (Below w.heap.size w w'))
          case atStart => exact ⟨(0), (x225000_1), (x225001_1), (x225002_1), (x225003_1), (x225004_1), (by first | rfl | (simp; done) | (simp [*]; done)), H', ⟨Nat.le_refl _⟩, ⟨by (with_reducible repeat (first | refine blk_drewN ?_ _ | refine blk_drew ?_ | refine blk_alloc ?_ _)); exact BK224.out⟩, ⟨by (with_reducible repeat (first | refine blk_drewN ?_ _ | refine blk_drew ?_ | refine blk_alloc ?_ _)); exact BK248.out⟩, ⟨by repeat (first | (with_reducible first | exact HB.out | apply below_alloc | apply pw_below_drewN | apply below_drew1 | refine below_set ?_ GE224.out | refine below_set ?_ GE248.out) | exact HB.out)⟩⟩
          case round =>
            clear H'
            try clear c1
            try clear c2
            try clear p2
            try clear c4
            try clear c9
            try clear c10
            try clear c11
            try clear c11b0
            try clear hcz10_0
            try clear hcz10_1
            try clear hcz10_10
            try clear hcz10_11
            try clear hcz10_12
            try clear hcz10_13
            try clear hcz10_14
            try clear hcz10_15
            try clear hcz10_16
            try clear hcz10_17
            try clear hcz10_18
            try clear hcz10_19
            try clear hcz10_2
            try clear hcz10_20
            try clear hcz10_21
            try clear hcz10_3
            try clear hcz10_4
            try clear hcz10_5
            try clear hcz10_6
            try clear hcz10_7
            try clear hcz10_8
            try clear hcz10_9
            try clear hfz10_0
            try clear hfz10_1
            try clear hfz10_10
            try clear hfz10_11
            try clear hfz10_12
            try clear hfz10_13
            try clear hfz10_14
            try clear hfz10_15
            try clear hfz10_16
            try clear hfz10_17
            try clear hfz10_18
            try clear hfz10_19
            try clear hfz10_2
            try clear hfz10_20
            try clear hfz10_21
            try clear hfz10_3
            try clear hfz10_4
            try clear hfz10_5
            try clear hfz10_6
            try clear hfz10_7
            try clear hfz10_8
            try clear hfz10_9
            try clear p2
            obtain ⟨x8_2, x225000_2, x225001_2, x225002_2, x225003_2, x225004_2, rfl, HA, HK2, BK224, BK248, HB⟩ := hrel
            cases gk with
            | zero => exact absurd HA.out (by simp [impl_ReadPhrase.l1])
            | succ k2 =>
              have H := HA.out
              clear HA
              simp only [impl_ReadPhrase.l1] at H
              by_cases c12 : x8_2 ≤ 12
              · rw [if_pos c12] at H
                have c12b0 : decide (x8_2 ≤ 12) = true := decide_eq_true c12
                clear c12
                by_cases c13 : ((x8_2 == 0) != (x7_1 == 0)) = true
                · rw [if_pos c13] at H
                  have c13b0 : ((x8_2 == 0) != (x7_1 == 0)) = true := c13
                  (try (have c13b1 : decide ((x8_2 == 0) = (x7_1 == 0)) = false := by simpa using c13))
                  (try (have c13b2 : ((x8_2 == 0) == (x7_1 == 0)) = false := by simpa using c13))
                  (try (have c13b3 : ¬ ((x8_2 == 0) = (x7_1 == 0)) := by simpa using c13))
                  clear c13
                  have H' := Aside0.mk H
                  clear H
                  go_wp2
                  go_roundg k2
                  case measure => have := HK1.out; have := HK2.out; omega
                  case rel => exact ⟨(wrap64 (x8_2 + 1)), (x225000_2), (x225001_2), (x225002_2), (x225003_2), (x225004_2), (by first | rfl | (simp; done) | (simp [*]; done)), H', ⟨by have := HK1.out; have := HK2.out; omega⟩, ⟨by (with_reducible repeat (first | refine blk_drewN ?_ _ | refine blk_drew ?_ | refine blk_alloc ?_ _)); exact BK224.out⟩, ⟨by (with_reducible repeat (first | refine blk_drewN ?_ _ | refine blk_drew ?_ | refine blk_alloc ?_ _)); exact BK248.out⟩, ⟨by repeat (first | (with_reducible first | exact HB.out | apply below_alloc | apply pw_below_drewN | apply below_drew1 | refine below_set ?_ GE224.out | refine below_set ?_ GE248.out) | exact HB.out)⟩⟩
                · rw [if_neg c13] at H
                  have c13b0 : ((x8_2 == 0) != (x7_1 == 0)) = false := by simpa using c13
                  (try (have c13b1 : decide ((x8_2 == 0) = (x7_1 == 0)) = true := by simpa using c13))
                  (try (have c13b2 : ((x8_2 == 0) == (x7_1 == 0)) = true := by simpa using c13))
                  clear c13
                  have H' := Aside0.mk H
                  clear H
                  go_wp2
                  go_loopg [9] k2 (fun kq v9 w' => ∃ (x9_3 : Int) (x225000_3 : Int) (x225001_3 : Int) (x225002_3 : Int) (x225003_3 : Int) (x225004_3 : Int), v9 = .int .i64 x9_3 ∧ Aside0 (impl_ReadPhrase.l2 kq a0 x7_1 x8_2 x9_3 t226 t227 t228 t229 t230 t231 t232 t233 t234 t235 t236 t237 t238 t239 t240 t241 t242 t243 t244 t245 t246 t247 = some (r1, r2, r3, r4, r5, r6)) ∧ Aside0 (kq ≤ k2) ∧ Aside0 (w'.heap[gb224]? = some (.cells #[.int .i64 x225000_3, .int .i64 x225001_3, .int .i64 x225002_3, .int .i64 x225003_3, .int .i64 x225004_3] 25 (0, 0))) ∧ Aside0 (w'.heap[gb248]? = some (.cells #[.string t226, .string t227, .string t228, .string t229, .string t230, .string t231, .string t232, .string t233, .string t234, .string t235, .string t236, .string t237, .string t238, .string t239, .string t240, .string t241, .string t242, .string t243, .string t244, .string t245, .string t246, .string t247] 44 (0, 0))) ∧ Aside0 (Below w.heap.size w w'))
                  case atStart => exact ⟨(0), (x225000_2), (x225001_2), (x225002_2), (x225003_2), (x225004_2), (by first | rfl | (simp; done) | (simp [*]; done)), H', ⟨Nat.le_refl _⟩, ⟨by (with_reducible repeat (first | refine blk_drewN ?_ _ | refine blk_drew ?_ | refine blk_alloc ?_ _)); exact BK224.out⟩, ⟨by (with_reducible repeat (first | refine blk_drewN ?_ _ | refine blk_drew ?_ | refine blk_alloc ?_ _)); exact BK248.out⟩, ⟨by repeat (first | (with_reducible first | exact HB.out | apply below_alloc | apply pw_below_drewN | apply below_drew1 | refine below_set ?_ GE224.out | refine below_set ?_ GE248.out) | exact HB.out)⟩⟩
                  case round =>
                    clear H'
                    try clear c1
                    try clear c2
                    try clear p2
                    try clear c4
                    try clear p6
                    try clear c9
                    try clear c10
                    try clear c11
                    try clear c11b0
                    try clear c12
                    try clear c12b0
                    try clear c13
                    try clear c13b0
                    try clear c13b1
                    try clear c13b2
                    try clear hcz10_0
                    try clear hcz10_1
                    try clear hcz10_10
                    try clear hcz10_11
                    try clear hcz10_12
                    try clear hcz10_13
                    try clear hcz10_14
                    try clear hcz10_15
                    try clear hcz10_16
                    try clear hcz10_17
                    try clear hcz10_18
                    try clear hcz10_19
                    try clear hcz10_2
                    try clear hcz10_20
                    try clear hcz10_21
                    try clear hcz10_3
                    try clear hcz10_4
                    try clear hcz10_5
                    try clear hcz10_6
                    try clear hcz10_7
                    try clear hcz10_8
                    try clear hcz10_9
                    try clear hfz10_0
                    try clear hfz10_1
                    try clear hfz10_10
                    try clear hfz10_11
                    try clear hfz10_12
                    try clear hfz10_13
                    try clear hfz10_14
                    try clear hfz10_15
                    try clear hfz10_16
                    try clear hfz10_17
                    try clear hfz10_18
                    try clear hfz10_19
                    try clear hfz10_2
                    try clear hfz10_20
                    try clear hfz10_21
                    try clear hfz10_3
                    try clear hfz10_4
                    try clear hfz10_5
                    try clear hfz10_6
                    try clear hfz10_7
                    try clear hfz10_8
                    try clear hfz10_9
                    try clear p2
                    obtain ⟨x9_3, x225000_3, x225001_3, x225002_3, x225003_3, x225004_3, rfl, HA, HK3, BK224, BK248, HB⟩ := hrel
                    cases gk with
                    | zero => exact absurd HA.out (by simp [impl_ReadPhrase.l2])
                    | succ k3 =>
                      have H := HA.out
                      clear HA
                      simp only [impl_ReadPhrase.l2] at H
                      by_cases c14 : x9_3 ≤ 12
                      · rw [if_pos c14] at H
                        have c14b0 : decide (x9_3 ≤ 12) = true := decide_eq_true c14
                        clear c14
                        replace H := Option.bind_eq_some_iff.mp H
                        obtain ⟨t249, A150, H⟩ := H
                        replace H : (if t249.size + 1 ≤ 9223372036854775807 then ((strings_CutPrefix.f a0 (t249 ++ (⟨#[32]⟩ : ByteArray))).bind fun bt250 => (if bt250.2 = true then (impl_ReadPhrase.l3 k3 a0 x7_1 x8_2 x9_3 bt250.1 0 t226 t227 t228 t229 t230 t231 t232 t233 t234 t235 t236 t237 t238 t239 t240 t241 t242 t243 t244 t245 t246 t247) else (impl_ReadPhrase.l2 k3 a0 x7_1 x8_2 (wrap64 (x9_3 + 1)) t226 t227 t228 t229 t230 t231 t232 t233 t234 t235 t236 t237 t238 t239 t240 t241 t242 t243 t244 t245 t246 t247))) else (none)) = some (r1, r2, r3, r4, r5, r6) := H
                        have A15 := Aside0.mk A150
                        clear A150
                        by_cases c16 : t249.size + 1 ≤ 9223372036854775807
                        · rw [if_pos c16] at H
                          have c16b0 := eq_true c16
                          have c16b1 : decide (t249.size + 1 ≤ 9223372036854775807) = true := decide_eq_true c16
                          try have c16b2 : (9223372036854775807 < t249.size + 1) = False := eq_false (Nat.not_lt.2 c16)
                          replace H := Option.bind_eq_some_iff.mp H
                          obtain ⟨⟨t250, t251⟩, A170, H⟩ := H
                          replace H : (if t251 = true then (impl_ReadPhrase.l3 k3 a0 x7_1 x8_2 x9_3 t250 0 t226 t227 t228 t229 t230 t231 t232 t233 t234 t235 t236 t237 t238 t239 t240 t241 t242 t243 t244 t245 t246 t247) else (impl_ReadPhrase.l2 k3 a0 x7_1 x8_2 (wrap64 (x9_3 + 1)) t226 t227 t228 t229 t230 t231 t232 t233 t234 t235 t236 t237 t238 t239 t240 t241 t242 t243 t244 t245 t246 t247)) = some (r1, r2, r3, r4, r5, r6) := H
                          have A17 := Aside0.mk A170
                          clear A170
                          by_cases c18 : t251 = true
                          · subst c18
                            have H1 : (impl_ReadPhrase.l3 k3 a0 x7_1 x8_2 x9_3 t250 0 t226 t227 t228 t229 t230 t231 t232 t233 t234 t235 t236 t237 t238 t239 t240 t241 t242 t243 t244 t245 t246 t247) = some (r1, r2, r3, r4, r5, r6) := by rw [if_pos rfl] at H; exact H
                            clear H
                            have H := H1
                            clear H1
                            have H' := Aside0.mk H
                            clear H
                            have hnb19 := NB248_224.out
                            have hnc19 := NB224_248.out
                            have hcz20_0 : wr.cell? ⟨gb248, 0, none⟩ = some (.string t226) := (blk_cell BK248.out 0).trans rfl
                            have hcz20_1 : wr.cell? ⟨gb248, 1, none⟩ = some (.string t227) := (blk_cell BK248.out 1).trans rfl
                            have hcz20_2 : wr.cell? ⟨gb248, 2, none⟩ = some (.string t228) := (blk_cell BK248.out 2).trans rfl
                            have hcz20_3 : wr.cell? ⟨gb248, 3, none⟩ = some (.string t229) := (blk_cell BK248.out 3).trans rfl
                            have hcz20_4 : wr.cell? ⟨gb248, 4, none⟩ = some (.string t230) := (blk_cell BK248.out 4).trans rfl
                            have hcz20_5 : wr.cell? ⟨gb248, 5, none⟩ = some (.string t231) := (blk_cell BK248.out 5).trans rfl
                            have hcz20_6 : wr.cell? ⟨gb248, 6, none⟩ = some (.string t232) := (blk_cell BK248.out 6).trans rfl
                            have hcz20_7 : wr.cell? ⟨gb248, 7, none⟩ = some (.string t233) := (blk_cell BK248.out 7).trans rfl
                            have hcz20_8 : wr.cell? ⟨gb248, 8, none⟩ = some (.string t234) := (blk_cell BK248.out 8).trans rfl
                            have hcz20_9 : wr.cell? ⟨gb248, 9, none⟩ = some (.string t235) := (blk_cell BK248.out 9).trans rfl
                            have hcz20_10 : wr.cell? ⟨gb248, 10, none⟩ = some (.string t236) := (blk_cell BK248.out 10).trans rfl
                            have hcz20_11 : wr.cell? ⟨gb248, 11, none⟩ = some (.string t237) := (blk_cell BK248.out 11).trans rfl
                            have hcz20_12 : wr.cell? ⟨gb248, 12, none⟩ = some (.string t238) := (blk_cell BK248.out 12).trans rfl
                            have hcz20_13 : wr.cell? ⟨gb248, 13, none⟩ = some (.string t239) := (blk_cell BK248.out 13).trans rfl
                            have hcz20_14 : wr.cell? ⟨gb248, 14, none⟩ = some (.string t240) := (blk_cell BK248.out 14).trans rfl
                            have hcz20_15 : wr.cell? ⟨gb248, 15, none⟩ = some (.string t241) := (blk_cell BK248.out 15).trans rfl
                            have hcz20_16 : wr.cell? ⟨gb248, 16, none⟩ = some (.string t242) := (blk_cell BK248.out 16).trans rfl
                            have hcz20_17 : wr.cell? ⟨gb248, 17, none⟩ = some (.string t243) := (blk_cell BK248.out 17).trans rfl
                            have hcz20_18 : wr.cell? ⟨gb248, 18, none⟩ = some (.string t244) := (blk_cell BK248.out 18).trans rfl
                            have hcz20_19 : wr.cell? ⟨gb248, 19, none⟩ = some (.string t245) := (blk_cell BK248.out 19).trans rfl
                            have hcz20_20 : wr.cell? ⟨gb248, 20, none⟩ = some (.string t246) := (blk_cell BK248.out 20).trans rfl
                            have hcz20_21 : wr.cell? ⟨gb248, 21, none⟩ = some (.string t247) := (blk_cell BK248.out 21).trans rfl
                            have hfz20_0 := blk_frozen BK248.out 0
                            have hfz20_1 := blk_frozen BK248.out 1
                            have hfz20_2 := blk_frozen BK248.out 2
                            have hfz20_3 := blk_frozen BK248.out 3
                            have hfz20_4 := blk_frozen BK248.out 4
                            have hfz20_5 := blk_frozen BK248.out 5
                            have hfz20_6 := blk_frozen BK248.out 6
                            have hfz20_7 := blk_frozen BK248.out 7
                            have hfz20_8 := blk_frozen BK248.out 8
                            have hfz20_9 := blk_frozen BK248.out 9
                            have hfz20_10 := blk_frozen BK248.out 10
                            have hfz20_11 := blk_frozen BK248.out 11
                            have hfz20_12 := blk_frozen BK248.out 12
                            have hfz20_13 := blk_frozen BK248.out 13
                            have hfz20_14 := blk_frozen BK248.out 14
                            have hfz20_15 := blk_frozen BK248.out 15
                            have hfz20_16 := blk_frozen BK248.out 16
                            have hfz20_17 := blk_frozen BK248.out 17
                            have hfz20_18 := blk_frozen BK248.out 18
                            have hfz20_19 := blk_frozen BK248.out 19
                            have hfz20_20 := blk_frozen BK248.out 20
                            have hfz20_21 := blk_frozen BK248.out 21
                            go_wp2_with (first | ((with_reducible refine gate_dst (N := 40) rfl ?_); refine wpList_load_mid rfl 44 (.tmp 6) rfl gb248 0 ?hx [.string t226, .string t227, .string t228, .string t229, .string t230, .string t231, .string t232, .string t233, .string t234, .string t235, .string t236, .string t237, .string t238, .string t239, .string t240, .string t241, .string t242, .string t243, .string t244, .string t245, .string t246, .string t247] _ (range_blk (t := 44) (cs := #[.string t226, .string t227, .string t228, .string t229, .string t230, .string t231, .string t232, .string t233, .string t234, .string t235, .string t236, .string t237, .string t238, .string t239, .string t240, .string t241, .string t242, .string t243, .string t244, .string t245, .string t246, .string t247]) (by (with_reducible repeat (first | refine blk_drewN ?_ _ | refine blk_drew ?_ | refine blk_alloc ?_ _)); exact BK248.out)) Tryd.underlying44 rfl info_tong ?_; (case hx => first | rfl | (go_simp; done) | (go_simp; rfl))) | ((with_reducible refine gate_dst (N := 66) rfl ?_); refine wpList_load_mid rfl 44 (.tmp 6) rfl gb248 0 ?hx [.string t226, .string t227, .string t228, .string t229, .string t230, .string t231, .string t232, .string t233, .string t234, .string t235, .string t236, .string t237, .string t238, .string t239, .string t240, .string t241, .string t242, .string t243, .string t244, .string t245, .string t246, .string t247] _ (range_blk (t := 44) (cs := #[.string t226, .string t227, .string t228, .string t229, .string t230, .string t231, .string t232, .string t233, .string t234, .string t235, .string t236, .string t237, .string t238, .string t239, .string t240, .string t241, .string t242, .string t243, .string t244, .string t245, .string t246, .string t247]) (by (with_reducible repeat (first | refine blk_drewN ?_ _ | refine blk_drew ?_ | refine blk_alloc ?_ _)); exact BK248.out)) Tryd.underlying44 rfl info_tong ?_; (case hx => first | rfl | (go_simp; done) | (go_simp; rfl))) | ((with_reducible refine gate_callee (f := 22) rfl ?_); refine goesL_ (some 44) rfl rfl Tryd.func22 (by kernel_rfl) rfl #[.agg #[.string t226, .string t227, .string t228, .string t229, .string t230, .string t231, .string t232, .string t233, .string t234, .string t235, .string t236, .string t237, .string t238, .string t239, .string t240, .string t241, .string t242, .string t243, .string t244, .string t245, .string t246, .string t247], .int .i64 x7_1, .int .i64 x8_2, .int .i64 x9_3] rfl (by (try simp only [List.map_toArray, List.map_cons, List.map_nil]); first | done | rfl | (simp only [List.length_drop, List.length_take]; rfl)) ?_; (with_reducible refine (impl_tongue_wind.calls k3 t226 t227 t228 t229 t230 t231 t232 t233 t234 t235 t236 t237 t238 t239 t240 t241 t242 t243 t244 t245 t246 t247 x7_1 x8_2 x9_3 t249 _ A15.out (tab_on HTb.out (by repeat (first | (with_reducible first | exact HB.out | apply below_alloc | apply pw_below_drewN | apply below_drew1 | refine below_set ?_ GE224.out | refine below_set ?_ GE248.out) | exact HB.out)))).mono ?_); rintro e w21 ⟨rfl, hb⟩; refine ⟨_, rfl, ?_⟩; have n0_ := Aside0.mk (blk_below (g := gb224) (o := .cells #[.int .i64 x225000_3, .int .i64 x225001_3, .int .i64 x225002_3, .int .i64 x225003_3, .int .i64 x225004_3] 25 (0, 0)) (by (with_reducible repeat (first | refine blk_drewN ?_ _ | refine blk_drew ?_ | refine blk_alloc ?_ _)); exact BK224.out) hb); have n1_ := Aside0.mk (blk_below (g := gb248) (o := .cells #[.string t226, .string t227, .string t228, .string t229, .string t230, .string t231, .string t232, .string t233, .string t234, .string t235, .string t236, .string t237, .string t238, .string t239, .string t240, .string t241, .string t242, .string t243, .string t244, .string t245, .string t246, .string t247] 44 (0, 0)) (by (with_reducible repeat (first | refine blk_drewN ?_ _ | refine blk_drew ?_ | refine blk_alloc ?_ _)); exact BK248.out) hb); have n2_ := Aside0.mk (below_step (by repeat (first | (with_reducible first | exact HB.out | apply below_alloc | apply pw_below_drewN | apply below_drew1 | refine below_set ?_ GE224.out | refine below_set ?_ GE248.out) | exact HB.out)) hb); clear BK224; clear BK248; clear HB; have BK224 := n0_; have BK248 := n1_; have HB := n2_; clear n0_ n1_ n2_; (try clear hb); (try clear hb2); (try clear hk); (try clear hi)) | ((with_reducible refine gate_callee (f := 25) rfl ?_); refine goesL_ (some 46) rfl rfl Tryd.func25 (by kernel_rfl) rfl #[.string a0, .string (t249 ++ (⟨#[32]⟩ : ByteArray))] rfl (by (try simp only [List.map_toArray, List.map_cons, List.map_nil]); first | done | rfl | (simp only [List.length_drop, List.length_take]; rfl)) ?_; (with_reducible refine (strings_CutPrefix.calls a0 (t249 ++ (⟨#[32]⟩ : ByteArray)) t250 true _ A17.out).mono ?_); rintro e w' ⟨rfl, ⟨nd, rfl⟩⟩; refine ⟨_, rfl, ?_⟩))
                            go_loopg [12] k3 (fun kq v12 w' => ∃ (x12_4 : Int) (x225000_4 : Int) (x225001_4 : Int) (x225002_4 : Int) (x225003_4 : Int) (x225004_4 : Int), v12 = .int .i64 x12_4 ∧ Aside0 (impl_ReadPhrase.l3 kq a0 x7_1 x8_2 x9_3 t250 x12_4 t226 t227 t228 t229 t230 t231 t232 t233 t234 t235 t236 t237 t238 t239 t240 t241 t242 t243 t244 t245 t246 t247 = some (r1, r2, r3, r4, r5, r6)) ∧ Aside0 (kq ≤ k3) ∧ Aside0 (w'.heap[gb224]? = some (.cells #[.int .i64 x225000_4, .int .i64 x225001_4, .int .i64 x225002_4, .int .i64 x225003_4, .int .i64 x225004_4] 25 (0, 0))) ∧ Aside0 (w'.heap[gb248]? = some (.cells #[.string t226, .string t227, .string t228, .string t229, .string t230, .string t231, .string t232, .string t233, .string t234, .string t235, .string t236, .string t237, .string t238, .string t239, .string t240, .string t241, .string t242, .string t243, .string t244, .string t245, .string t246, .string t247] 44 (0, 0))) ∧ Aside0 (Below w.heap.size w w'))
                            case atStart => exact ⟨(0), (x225000_3), (x225001_3), (x225002_3), (x225003_3), (x225004_3), (by first | rfl | (simp; done) | (simp [*]; done)), H', ⟨Nat.le_refl _⟩, ⟨by (with_reducible repeat (first | refine blk_drewN ?_ _ | refine blk_drew ?_ | refine blk_alloc ?_ _)); exact BK224.out⟩, ⟨by (with_reducible repeat (first | refine blk_drewN ?_ _ | refine blk_drew ?_ | refine blk_alloc ?_ _)); exact BK248.out⟩, ⟨by repeat (first | (with_reducible first | exact HB.out | apply below_alloc | apply pw_below_drewN | apply below_drew1 | refine below_set ?_ GE224.out | refine below_set ?_ GE248.out) | exact HB.out)⟩⟩
                            case round =>
                              clear H'
                              try clear c1
                              try clear c2
                              try clear p2
                              try clear c4
                              try clear p6
                              try clear c9
                              try clear c10
                              try clear c11
                              try clear c11b0
                              try clear c12
                              try clear c12b0
                              try clear c13
                              try clear c13b0
                              try clear c13b1
                              try clear c13b2
                              try clear c14
                              try clear c14b0
                              try clear c16
                              try clear c16b0
                              try clear c16b1
                              try clear c16b2
                              try clear c18
                              try clear c19
                              try clear c20
                              try clear hcz10_0
                              try clear hcz10_1
                              try clear hcz10_10
                              try clear hcz10_11
                              try clear hcz10_12
                              try clear hcz10_13
                              try clear hcz10_14
                              try clear hcz10_15
                              try clear hcz10_16
                              try clear hcz10_17
                              try clear hcz10_18
                              try clear hcz10_19
                              try clear hcz10_2
                              try clear hcz10_20
                              try clear hcz10_21
                              try clear hcz10_3
                              try clear hcz10_4
                              try clear hcz10_5
                              try clear hcz10_6
                              try clear hcz10_7
                              try clear hcz10_8
                              try clear hcz10_9
                              try clear hcz20_0
                              try clear hcz20_1
                              try clear hcz20_10
                              try clear hcz20_11
                              try clear hcz20_12
                              try clear hcz20_13
                              try clear hcz20_14
                              try clear hcz20_15
                              try clear hcz20_16
                              try clear hcz20_17
                              try clear hcz20_18
                              try clear hcz20_19
                              try clear hcz20_2
                              try clear hcz20_20
                              try clear hcz20_21
                              try clear hcz20_3
                              try clear hcz20_4
                              try clear hcz20_5
                              try clear hcz20_6
                              try clear hcz20_7
                              try clear hcz20_8
                              try clear hcz20_9
                              try clear hfz10_0
                              try clear hfz10_1
                              try clear hfz10_10
                              try clear hfz10_11
                              try clear hfz10_12
                              try clear hfz10_13
                              try clear hfz10_14
                              try clear hfz10_15
                              try clear hfz10_16
                              try clear hfz10_17
                              try clear hfz10_18
                              try clear hfz10_19
                              try clear hfz10_2
                              try clear hfz10_20
                              try clear hfz10_21
                              try clear hfz10_3
                              try clear hfz10_4
                              try clear hfz10_5
                              try clear hfz10_6
                              try clear hfz10_7
                              try clear hfz10_8
                              try clear hfz10_9
                              try clear hfz20_0
                              try clear hfz20_1
                              try clear hfz20_10
                              try clear hfz20_11
                              try clear hfz20_12
                              try clear hfz20_13
                              try clear hfz20_14
                              try clear hfz20_15
                              try clear hfz20_16
                              try clear hfz20_17
                              try clear hfz20_18
                              try clear hfz20_19
                              try clear hfz20_2
                              try clear hfz20_20
                              try clear hfz20_21
                              try clear hfz20_3
                              try clear hfz20_4
                              try clear hfz20_5
                              try clear hfz20_6
                              try clear hfz20_7
                              try clear hfz20_8
                              try clear hfz20_9
                              try clear p2
                              try clear p6
                              obtain ⟨x12_4, x225000_4, x225001_4, x225002_4, x225003_4, x225004_4, rfl, HA, HK4, BK224, BK248, HB⟩ := hrel
                              cases gk with
                              | zero => exact absurd HA.out (by simp [impl_ReadPhrase.l3])
                              | succ k4 =>
                                have H := HA.out
                                clear HA
                                simp only [impl_ReadPhrase.l3] at H
                                by_cases c22 : x12_4 ≤ 3
                                · rw [if_pos c22] at H
                                  have c22b0 : decide (x12_4 ≤ 3) = true := decide_eq_true c22
                                  clear c22
                                  have H' := Aside0.mk H
                                  clear H
                                  go_wp2
                                  go_loopg [13] k4 (fun kq v13 w' => ∃ (x13_5 : Int) (x225000_5 : Int) (x225001_5 : Int) (x225002_5 : Int) (x225003_5 : Int) (x225004_5 : Int), v13 = .int .i64 x13_5 ∧ Aside0 (impl_ReadPhrase.l4 kq a0 x7_1 x8_2 x9_3 t250 x12_4 x13_5 t226 t227 t228 t229 t230 t231 t232 t233 t234 t235 t236 t237 t238 t239 t240 t241 t242 t243 t244 t245 t246 t247 = some (r1, r2, r3, r4, r5, r6)) ∧ Aside0 (kq ≤ k4) ∧ Aside0 (w'.heap[gb224]? = some (.cells #[.int .i64 x225000_5, .int .i64 x225001_5, .int .i64 x225002_5, .int .i64 x225003_5, .int .i64 x225004_5] 25 (0, 0))) ∧ Aside0 (w'.heap[gb248]? = some (.cells #[.string t226, .string t227, .string t228, .string t229, .string t230, .string t231, .string t232, .string t233, .string t234, .string t235, .string t236, .string t237, .string t238, .string t239, .string t240, .string t241, .string t242, .string t243, .string t244, .string t245, .string t246, .string t247] 44 (0, 0))) ∧ Aside0 (Below w.heap.size w w'))
                                  case atStart => exact ⟨(0), (x225000_4), (x225001_4), (x225002_4), (x225003_4), (x225004_4), (by first | rfl | (simp; done) | (simp [*]; done)), H', ⟨Nat.le_refl _⟩, ⟨by (with_reducible repeat (first | refine blk_drewN ?_ _ | refine blk_drew ?_ | refine blk_alloc ?_ _)); exact BK224.out⟩, ⟨by (with_reducible repeat (first | refine blk_drewN ?_ _ | refine blk_drew ?_ | refine blk_alloc ?_ _)); exact BK248.out⟩, ⟨by repeat (first | (with_reducible first | exact HB.out | apply below_alloc | apply pw_below_drewN | apply below_drew1 | refine below_set ?_ GE224.out | refine below_set ?_ GE248.out) | exact HB.out)⟩⟩
                                  case round =>
                                    clear H'
                                    try clear c1
                                    try clear c2
                                    try clear p2
                                    try clear c4
                                    try clear p6
                                    try clear c9
                                    try clear c10
                                    try clear c11
                                    try clear c11b0
                                    try clear c12
                                    try clear c12b0
                                    try clear c13
                                    try clear c13b0
                                    try clear c13b1
                                    try clear c13b2
                                    try clear c14
                                    try clear c14b0
                                    try clear c16
                                    try clear c16b0
                                    try clear c16b1
                                    try clear c16b2
                                    try clear c18
                                    try clear c19
                                    try clear c20
                                    try clear c22
                                    try clear c22b0
                                    try clear hcz10_0
                                    try clear hcz10_1
                                    try clear hcz10_10
                                    try clear hcz10_11
                                    try clear hcz10_12
                                    try clear hcz10_13
                                    try clear hcz10_14
                                    try clear hcz10_15
                                    try clear hcz10_16
                                    try clear hcz10_17
                                    try clear hcz10_18
                                    try clear hcz10_19
                                    try clear hcz10_2
                                    try clear hcz10_20
                                    try clear hcz10_21
                                    try clear hcz10_3
                                    try clear hcz10_4
                                    try clear hcz10_5
                                    try clear hcz10_6
                                    try clear hcz10_7
                                    try clear hcz10_8
                                    try clear hcz10_9
                                    try clear hcz20_0
                                    try clear hcz20_1
                                    try clear hcz20_10
                                    try clear hcz20_11
                                    try clear hcz20_12
                                    try clear hcz20_13
                                    try clear hcz20_14
                                    try clear hcz20_15
                                    try clear hcz20_16
                                    try clear hcz20_17
                                    try clear hcz20_18
                                    try clear hcz20_19
                                    try clear hcz20_2
                                    try clear hcz20_20
                                    try clear hcz20_21
                                    try clear hcz20_3
                                    try clear hcz20_4
                                    try clear hcz20_5
                                    try clear hcz20_6
                                    try clear hcz20_7
                                    try clear hcz20_8
                                    try clear hcz20_9
                                    try clear hfz10_0
                                    try clear hfz10_1
                                    try clear hfz10_10
                                    try clear hfz10_11
                                    try clear hfz10_12
                                    try clear hfz10_13
                                    try clear hfz10_14
                                    try clear hfz10_15
                                    try clear hfz10_16
                                    try clear hfz10_17
                                    try clear hfz10_18
                                    try clear hfz10_19
                                    try clear hfz10_2
                                    try clear hfz10_20
                                    try clear hfz10_21
                                    try clear hfz10_3
                                    try clear hfz10_4
                                    try clear hfz10_5
                                    try clear hfz10_6
                                    try clear hfz10_7
                                    try clear hfz10_8
                                    try clear hfz10_9
                                    try clear hfz20_0
                                    try clear hfz20_1
                                    try clear hfz20_10
                                    try clear hfz20_11
                                    try clear hfz20_12
                                    try clear hfz20_13
                                    try clear hfz20_14
                                    try clear hfz20_15
                                    try clear hfz20_16
                                    try clear hfz20_17
                                    try clear hfz20_18
                                    try clear hfz20_19
                                    try clear hfz20_2
                                    try clear hfz20_20
                                    try clear hfz20_21
                                    try clear hfz20_3
                                    try clear hfz20_4
                                    try clear hfz20_5
                                    try clear hfz20_6
                                    try clear hfz20_7
                                    try clear hfz20_8
                                    try clear hfz20_9
                                    try clear p2
                                    try clear p6
                                    obtain ⟨x13_5, x225000_5, x225001_5, x225002_5, x225003_5, x225004_5, rfl, HA, HK5, BK224, BK248, HB⟩ := hrel
                                    cases gk with
                                    | zero => exact absurd HA.out (by simp [impl_ReadPhrase.l4])
                                    | succ k5 =>
                                      have H := HA.out
                                      clear HA
                                      simp only [impl_ReadPhrase.l4] at H
                                      by_cases c23 : x13_5 ≤ 100
                                      · rw [if_pos c23] at H
                                        have c23b0 : decide (x13_5 ≤ 100) = true := decide_eq_true c23
                                        clear c23
                                        by_cases c24 : ((x13_5 == 0) == (x12_4 == 0)) = true
                                        · rw [if_pos c24] at H
                                          have c24b0 : ((x13_5 == 0) == (x12_4 == 0)) = true := c24
                                          (try (have c24b1 : decide ((x13_5 == 0) = (x12_4 == 0)) = true := by simpa using c24))
                                          (try (have c24b2 : ((x13_5 == 0) == (x12_4 == 0)) = true := by simpa using c24))
                                          clear c24
                                          replace H := Option.bind_eq_some_iff.mp H
                                          obtain ⟨t252, A250, H⟩ := H
                                          replace H : (if t250.toList = t252.toList then (some (x7_1, x8_2, x9_3, x12_4, x13_5, true)) else (impl_ReadPhrase.l4 k5 a0 x7_1 x8_2 x9_3 t250 x12_4 (wrap64 (x13_5 + 1)) t226 t227 t228 t229 t230 t231 t232 t233 t234 t235 t236 t237 t238 t239 t240 t241 t242 t243 t244 t245 t246 t247)) = some (r1, r2, r3, r4, r5, r6) := H
                                          have A25 := Aside0.mk A250
                                          clear A250
                                          by_cases c26 : t250.toList = t252.toList
                                          · rw [if_pos c26] at H
                                            have c26b0 : (t250.toList == t252.toList) = true := beq_iff_eq.mpr c26
                                            have c26b1 : (t250.toList != t252.toList) = false := bne_eq_false_iff_eq.mpr c26
                                            clear c26
                                            simp only [Option.some.injEq, Prod.mk.injEq] at H
                                            obtain ⟨rfl, rfl, rfl, rfl, rfl, rfl⟩ := H
                                            have hnb27 := NB248_224.out
                                            have hnc27 := NB224_248.out
                                            have hcz28_0 : wr.cell? ⟨gb248, 0, none⟩ = some (.string t226) := (blk_cell BK248.out 0).trans rfl
                                            have hcz28_1 : wr.cell? ⟨gb248, 1, none⟩ = some (.string t227) := (blk_cell BK248.out 1).trans rfl
                                            have hcz28_2 : wr.cell? ⟨gb248, 2, none⟩ = some (.string t228) := (blk_cell BK248.out 2).trans rfl
                                            have hcz28_3 : wr.cell? ⟨gb248, 3, none⟩ = some (.string t229) := (blk_cell BK248.out 3).trans rfl
                                            have hcz28_4 : wr.cell? ⟨gb248, 4, none⟩ = some (.string t230) := (blk_cell BK248.out 4).trans rfl
                                            have hcz28_5 : wr.cell? ⟨gb248, 5, none⟩ = some (.string t231) := (blk_cell BK248.out 5).trans rfl
                                            have hcz28_6 : wr.cell? ⟨gb248, 6, none⟩ = some (.string t232) := (blk_cell BK248.out 6).trans rfl
                                            have hcz28_7 : wr.cell? ⟨gb248, 7, none⟩ = some (.string t233) := (blk_cell BK248.out 7).trans rfl
                                            have hcz28_8 : wr.cell? ⟨gb248, 8, none⟩ = some (.string t234) := (blk_cell BK248.out 8).trans rfl
                                            have hcz28_9 : wr.cell? ⟨gb248, 9, none⟩ = some (.string t235) := (blk_cell BK248.out 9).trans rfl
                                            have hcz28_10 : wr.cell? ⟨gb248, 10, none⟩ = some (.string t236) := (blk_cell BK248.out 10).trans rfl
                                            have hcz28_11 : wr.cell? ⟨gb248, 11, none⟩ = some (.string t237) := (blk_cell BK248.out 11).trans rfl
                                            have hcz28_12 : wr.cell? ⟨gb248, 12, none⟩ = some (.string t238) := (blk_cell BK248.out 12).trans rfl
                                            have hcz28_13 : wr.cell? ⟨gb248, 13, none⟩ = some (.string t239) := (blk_cell BK248.out 13).trans rfl
                                            have hcz28_14 : wr.cell? ⟨gb248, 14, none⟩ = some (.string t240) := (blk_cell BK248.out 14).trans rfl
                                            have hcz28_15 : wr.cell? ⟨gb248, 15, none⟩ = some (.string t241) := (blk_cell BK248.out 15).trans rfl
                                            have hcz28_16 : wr.cell? ⟨gb248, 16, none⟩ = some (.string t242) := (blk_cell BK248.out 16).trans rfl
                                            have hcz28_17 : wr.cell? ⟨gb248, 17, none⟩ = some (.string t243) := (blk_cell BK248.out 17).trans rfl
                                            have hcz28_18 : wr.cell? ⟨gb248, 18, none⟩ = some (.string t244) := (blk_cell BK248.out 18).trans rfl
                                            have hcz28_19 : wr.cell? ⟨gb248, 19, none⟩ = some (.string t245) := (blk_cell BK248.out 19).trans rfl
                                            have hcz28_20 : wr.cell? ⟨gb248, 20, none⟩ = some (.string t246) := (blk_cell BK248.out 20).trans rfl
                                            have hcz28_21 : wr.cell? ⟨gb248, 21, none⟩ = some (.string t247) := (blk_cell BK248.out 21).trans rfl
                                            have hfz28_0 := blk_frozen BK248.out 0
                                            have hfz28_1 := blk_frozen BK248.out 1
                                            have hfz28_2 := blk_frozen BK248.out 2
                                            have hfz28_3 := blk_frozen BK248.out 3
                                            have hfz28_4 := blk_frozen BK248.out 4
                                            have hfz28_5 := blk_frozen BK248.out 5
                                            have hfz28_6 := blk_frozen BK248.out 6
                                            have hfz28_7 := blk_frozen BK248.out 7
                                            have hfz28_8 := blk_frozen BK248.out 8
                                            have hfz28_9 := blk_frozen BK248.out 9
                                            have hfz28_10 := blk_frozen BK248.out 10
                                            have hfz28_11 := blk_frozen BK248.out 11
                                            have hfz28_12 := blk_frozen BK248.out 12
                                            have hfz28_13 := blk_frozen BK248.out 13
                                            have hfz28_14 := blk_frozen BK248.out 14
                                            have hfz28_15 := blk_frozen BK248.out 15
                                            have hfz28_16 := blk_frozen BK248.out 16
                                            have hfz28_17 := blk_frozen BK248.out 17
                                            have hfz28_18 := blk_frozen BK248.out 18
                                            have hfz28_19 := blk_frozen BK248.out 19
                                            have hfz28_20 := blk_frozen BK248.out 20
                                            have hfz28_21 := blk_frozen BK248.out 21
                                            go_wp2_with (first | ((with_reducible refine gate_dst (N := 40) rfl ?_); refine tg_load_g ?hw 44 (.tmp 6) rfl gb248 0 ?hx [.string t226, .string t227, .string t228, .string t229, .string t230, .string t231, .string t232, .string t233, .string t234, .string t235, .string t236, .string t237, .string t238, .string t239, .string t240, .string t241, .string t242, .string t243, .string t244, .string t245, .string t246, .string t247] _ (range_blk (t := 44) (cs := #[.string t226, .string t227, .string t228, .string t229, .string t230, .string t231, .string t232, .string t233, .string t234, .string t235, .string t236, .string t237, .string t238, .string t239, .string t240, .string t241, .string t242, .string t243, .string t244, .string t245, .string t246, .string t247]) (by (with_reducible repeat (first | refine blk_drewN ?_ _ | refine blk_drew ?_ | refine blk_alloc ?_ _)); exact BK248.out)) Tryd.underlying44 rfl info_tong ?_; (case hw => first | rfl | (go_simp; done) | (go_simp; rfl)); (case hx => first | rfl | (go_simp; done) | (go_simp; rfl))) | ((with_reducible refine gate_dst (N := 66) rfl ?_); refine tg_load_g ?hw 44 (.tmp 6) rfl gb248 0 ?hx [.string t226, .string t227, .string t228, .string t229, .string t230, .string t231, .string t232, .string t233, .string t234, .string t235, .string t236, .string t237, .string t238, .string t239, .string t240, .string t241, .string t242, .string t243, .string t244, .string t245, .string t246, .string t247] _ (range_blk (t := 44) (cs := #[.string t226, .string t227, .string t228, .string t229, .string t230, .string t231, .string t232, .string t233, .string t234, .string t235, .string t236, .string t237, .string t238, .string t239, .string t240, .string t241, .string t242, .string t243, .string t244, .string t245, .string t246, .string t247]) (by (with_reducible repeat (first | refine blk_drewN ?_ _ | refine blk_drew ?_ | refine blk_alloc ?_ _)); exact BK248.out)) Tryd.underlying44 rfl info_tong ?_; (case hw => first | rfl | (go_simp; done) | (go_simp; rfl)); (case hx => first | rfl | (go_simp; done) | (go_simp; rfl))) | (go_at_call 23; (with_reducible refine (impl_tongue_rain.calls t226 t227 t228 t229 t230 t231 t232 t233 t234 t235 t236 t237 t238 t239 t240 t241 t242 t243 t244 t245 t246 t247 x12_4 x13_5 t252 _ A25.out (tab_on HTb.out (by repeat (first | (with_reducible first | exact HB.out | apply below_alloc | apply pw_below_drewN | apply below_drew1 | refine below_set ?_ GE224.out | refine below_set ?_ GE248.out) | exact HB.out)))).mono ?_); rintro e w29 ⟨rfl, hb⟩; have n0_ := Aside0.mk (blk_below (g := gb224) (o := .cells #[.int .i64 x225000_5, .int .i64 x225001_5, .int .i64 x225002_5, .int .i64 x225003_5, .int .i64 x225004_5] 25 (0, 0)) (by (with_reducible repeat (first | refine blk_drewN ?_ _ | refine blk_drew ?_ | refine blk_alloc ?_ _)); exact BK224.out) hb); have n1_ := Aside0.mk (blk_below (g := gb248) (o := .cells #[.string t226, .string t227, .string t228, .string t229, .string t230, .string t231, .string t232, .string t233, .string t234, .string t235, .string t236, .string t237, .string t238, .string t239, .string t240, .string t241, .string t242, .string t243, .string t244, .string t245, .string t246, .string t247] 44 (0, 0)) (by (with_reducible repeat (first | refine blk_drewN ?_ _ | refine blk_drew ?_ | refine blk_alloc ?_ _)); exact BK248.out) hb); have n2_ := Aside0.mk (below_step (by repeat (first | (with_reducible first | exact HB.out | apply below_alloc | apply pw_below_drewN | apply below_drew1 | refine below_set ?_ GE224.out | refine below_set ?_ GE248.out) | exact HB.out)) hb); clear BK224; clear BK248; clear HB; have BK224 := n0_; have BK248 := n1_; have HB := n2_; clear n0_ n1_ n2_; (try clear hb); (try clear hb2); (try clear hk); (try clear hi); have hcz30_0 : w29.cell? ⟨gb224, 0, none⟩ = some (.int .i64 x225000_5) := (blk_cell BK224.out 0).trans rfl; have hcz30_1 : w29.cell? ⟨gb224, 1, none⟩ = some (.int .i64 x225001_5) := (blk_cell BK224.out 1).trans rfl; have hcz30_2 : w29.cell? ⟨gb224, 2, none⟩ = some (.int .i64 x225002_5) := (blk_cell BK224.out 2).trans rfl; have hcz30_3 : w29.cell? ⟨gb224, 3, none⟩ = some (.int .i64 x225003_5) := (blk_cell BK224.out 3).trans rfl; have hcz30_4 : w29.cell? ⟨gb224, 4, none⟩ = some (.int .i64 x225004_5) := (blk_cell BK224.out 4).trans rfl; have hfz30_0 := blk_frozen BK224.out 0; have hfz30_1 := blk_frozen BK224.out 1; have hfz30_2 := blk_frozen BK224.out 2; have hfz30_3 := blk_frozen BK224.out 3; have hfz30_4 := blk_frozen BK224.out 4))
                                            refine bodyPost_ret (results_ct rfl _ _ gb224 25 #[.int .i64 x7_1, .int .i64 x8_2, .int .i64 x9_3, .int .i64 x12_4, .int .i64 x13_5] (0, 0) _ rfl (by (with_reducible repeat (first | refine blk_drewN ?_ _ | refine blk_drew ?_ | refine blk_alloc ?_ _)); refine blk_put (cs := #[.int .i64 x7_1, .int .i64 x8_2, .int .i64 x9_3, .int .i64 x12_4, .int .i64 x225004_5]) ?_ 4 _ rfl; (with_reducible repeat (first | refine blk_drewN ?_ _ | refine blk_drew ?_ | refine blk_alloc ?_ _)); refine blk_put (cs := #[.int .i64 x7_1, .int .i64 x8_2, .int .i64 x9_3, .int .i64 x225003_5, .int .i64 x225004_5]) ?_ 3 _ rfl; (with_reducible repeat (first | refine blk_drewN ?_ _ | refine blk_drew ?_ | refine blk_alloc ?_ _)); refine blk_put (cs := #[.int .i64 x7_1, .int .i64 x8_2, .int .i64 x225002_5, .int .i64 x225003_5, .int .i64 x225004_5]) ?_ 2 _ rfl; (with_reducible repeat (first | refine blk_drewN ?_ _ | refine blk_drew ?_ | refine blk_alloc ?_ _)); refine blk_put (cs := #[.int .i64 x7_1, .int .i64 x225001_5, .int .i64 x225002_5, .int .i64 x225003_5, .int .i64 x225004_5]) ?_ 1 _ rfl; (with_reducible repeat (first | refine blk_drewN ?_ _ | refine blk_drew ?_ | refine blk_alloc ?_ _)); refine blk_put (cs := #[.int .i64 x225000_5, .int .i64 x225001_5, .int .i64 x225002_5, .int .i64 x225003_5, .int .i64 x225004_5]) ?_ 0 _ rfl; (with_reducible repeat (first | refine blk_drewN ?_ _ | refine blk_drew ?_ | refine blk_alloc ?_ _)); exact BK224.out) Tryd.underlying25 rfl (by kernel_rfl)) rfl ?_
                                            exact ⟨by first | rfl | (simp [errW_none, errW_some] <;> rfl) | (simp [*, errW_none, errW_some] <;> rfl), by repeat (first | (with_reducible first | exact HB.out | apply below_alloc | apply pw_below_drewN | apply below_drew1 | refine below_set ?_ GE224.out | refine below_set ?_ GE248.out) | exact HB.out)⟩
                                          · rw [if_neg c26] at H
                                            have c26b0 : (t250.toList == t252.toList) = false := beq_eq_false_iff_ne.mpr c26
                                            have c26b1 : (t250.toList != t252.toList) = true := bne_iff_ne.mpr c26
                                            have H' := Aside0.mk H
                                            clear H
                                            have hnb31 := NB248_224.out
                                            have hnc31 := NB224_248.out
                                            have hcz32_0 : wr.cell? ⟨gb248, 0, none⟩ = some (.string t226) := (blk_cell BK248.out 0).trans rfl
                                            have hcz32_1 : wr.cell? ⟨gb248, 1, none⟩ = some (.string t227) := (blk_cell BK248.out 1).trans rfl
                                            have hcz32_2 : wr.cell? ⟨gb248, 2, none⟩ = some (.string t228) := (blk_cell BK248.out 2).trans rfl
                                            have hcz32_3 : wr.cell? ⟨gb248, 3, none⟩ = some (.string t229) := (blk_cell BK248.out 3).trans rfl
                                            have hcz32_4 : wr.cell? ⟨gb248, 4, none⟩ = some (.string t230) := (blk_cell BK248.out 4).trans rfl
                                            have hcz32_5 : wr.cell? ⟨gb248, 5, none⟩ = some (.string t231) := (blk_cell BK248.out 5).trans rfl
                                            have hcz32_6 : wr.cell? ⟨gb248, 6, none⟩ = some (.string t232) := (blk_cell BK248.out 6).trans rfl
                                            have hcz32_7 : wr.cell? ⟨gb248, 7, none⟩ = some (.string t233) := (blk_cell BK248.out 7).trans rfl
                                            have hcz32_8 : wr.cell? ⟨gb248, 8, none⟩ = some (.string t234) := (blk_cell BK248.out 8).trans rfl
                                            have hcz32_9 : wr.cell? ⟨gb248, 9, none⟩ = some (.string t235) := (blk_cell BK248.out 9).trans rfl
                                            have hcz32_10 : wr.cell? ⟨gb248, 10, none⟩ = some (.string t236) := (blk_cell BK248.out 10).trans rfl
                                            have hcz32_11 : wr.cell? ⟨gb248, 11, none⟩ = some (.string t237) := (blk_cell BK248.out 11).trans rfl
                                            have hcz32_12 : wr.cell? ⟨gb248, 12, none⟩ = some (.string t238) := (blk_cell BK248.out 12).trans rfl
                                            have hcz32_13 : wr.cell? ⟨gb248, 13, none⟩ = some (.string t239) := (blk_cell BK248.out 13).trans rfl
                                            have hcz32_14 : wr.cell? ⟨gb248, 14, none⟩ = some (.string t240) := (blk_cell BK248.out 14).trans rfl
                                            have hcz32_15 : wr.cell? ⟨gb248, 15, none⟩ = some (.string t241) := (blk_cell BK248.out 15).trans rfl
                                            have hcz32_16 : wr.cell? ⟨gb248, 16, none⟩ = some (.string t242) := (blk_cell BK248.out 16).trans rfl
                                            have hcz32_17 : wr.cell? ⟨gb248, 17, none⟩ = some (.string t243) := (blk_cell BK248.out 17).trans rfl
                                            have hcz32_18 : wr.cell? ⟨gb248, 18, none⟩ = some (.string t244) := (blk_cell BK248.out 18).trans rfl
                                            have hcz32_19 : wr.cell? ⟨gb248, 19, none⟩ = some (.string t245) := (blk_cell BK248.out 19).trans rfl
                                            have hcz32_20 : wr.cell? ⟨gb248, 20, none⟩ = some (.string t246) := (blk_cell BK248.out 20).trans rfl
                                            have hcz32_21 : wr.cell? ⟨gb248, 21, none⟩ = some (.string t247) := (blk_cell BK248.out 21).trans rfl
                                            have hfz32_0 := blk_frozen BK248.out 0
                                            have hfz32_1 := blk_frozen BK248.out 1
                                            have hfz32_2 := blk_frozen BK248.out 2
                                            have hfz32_3 := blk_frozen BK248.out 3
                                            have hfz32_4 := blk_frozen BK248.out 4
                                            have hfz32_5 := blk_frozen BK248.out 5
                                            have hfz32_6 := blk_frozen BK248.out 6
                                            have hfz32_7 := blk_frozen BK248.out 7
                                            have hfz32_8 := blk_frozen BK248.out 8
                                            have hfz32_9 := blk_frozen BK248.out 9
                                            have hfz32_10 := blk_frozen BK248.out 10
                                            have hfz32_11 := blk_frozen BK248.out 11
                                            have hfz32_12 := blk_frozen BK248.out 12
                                            have hfz32_13 := blk_frozen BK248.out 13
                                            have hfz32_14 := blk_frozen BK248.out 14
                                            have hfz32_15 := blk_frozen BK248.out 15
                                            have hfz32_16 := blk_frozen BK248.out 16
                                            have hfz32_17 := blk_frozen BK248.out 17
                                            have hfz32_18 := blk_frozen BK248.out 18
                                            have hfz32_19 := blk_frozen BK248.out 19
                                            have hfz32_20 := blk_frozen BK248.out 20
                                            have hfz32_21 := blk_frozen BK248.out 21
                                            go_wp2_with (first | ((with_reducible refine gate_dst (N := 40) rfl ?_); refine tg_load_g ?hw 44 (.tmp 6) rfl gb248 0 ?hx [.string t226, .string t227, .string t228, .string t229, .string t230, .string t231, .string t232, .string t233, .string t234, .string t235, .string t236, .string t237, .string t238, .string t239, .string t240, .string t241, .string t242, .string t243, .string t244, .string t245, .string t246, .string t247] _ (range_blk (t := 44) (cs := #[.string t226, .string t227, .string t228, .string t229, .string t230, .string t231, .string t232, .string t233, .string t234, .string t235, .string t236, .string t237, .string t238, .string t239, .string t240, .string t241, .string t242, .string t243, .string t244, .string t245, .string t246, .string t247]) (by (with_reducible repeat (first | refine blk_drewN ?_ _ | refine blk_drew ?_ | refine blk_alloc ?_ _)); exact BK248.out)) Tryd.underlying44 rfl info_tong ?_; (case hw => first | rfl | (go_simp; done) | (go_simp; rfl)); (case hx => first | rfl | (go_simp; done) | (go_simp; rfl))) | ((with_reducible refine gate_dst (N := 66) rfl ?_); refine tg_load_g ?hw 44 (.tmp 6) rfl gb248 0 ?hx [.string t226, .string t227, .string t228, .string t229, .string t230, .string t231, .string t232, .string t233, .string t234, .string t235, .string t236, .string t237, .string t238, .string t239, .string t240, .string t241, .string t242, .string t243, .string t244, .string t245, .string t246, .string t247] _ (range_blk (t := 44) (cs := #[.string t226, .string t227, .string t228, .string t229, .string t230, .string t231, .string t232, .string t233, .string t234, .string t235, .string t236, .string t237, .string t238, .string t239, .string t240, .string t241, .string t242, .string t243, .string t244, .string t245, .string t246, .string t247]) (by (with_reducible repeat (first | refine blk_drewN ?_ _ | refine blk_drew ?_ | refine blk_alloc ?_ _)); exact BK248.out)) Tryd.underlying44 rfl info_tong ?_; (case hw => first | rfl | (go_simp; done) | (go_simp; rfl)); (case hx => first | rfl | (go_simp; done) | (go_simp; rfl))) | (go_at_call 23; (with_reducible refine (impl_tongue_rain.calls t226 t227 t228 t229 t230 t231 t232 t233 t234 t235 t236 t237 t238 t239 t240 t241 t242 t243 t244 t245 t246 t247 x12_4 x13_5 t252 _ A25.out (tab_on HTb.out (by repeat (first | (with_reducible first | exact HB.out | apply below_alloc | apply pw_below_drewN | apply below_drew1 | refine below_set ?_ GE224.out | refine below_set ?_ GE248.out) | exact HB.out)))).mono ?_); rintro e w33 ⟨rfl, hb⟩; have n0_ := Aside0.mk (blk_below (g := gb224) (o := .cells #[.int .i64 x225000_5, .int .i64 x225001_5, .int .i64 x225002_5, .int .i64 x225003_5, .int .i64 x225004_5] 25 (0, 0)) (by (with_reducible repeat (first | refine blk_drewN ?_ _ | refine blk_drew ?_ | refine blk_alloc ?_ _)); exact BK224.out) hb); have n1_ := Aside0.mk (blk_below (g := gb248) (o := .cells #[.string t226, .string t227, .string t228, .string t229, .string t230, .string t231, .string t232, .string t233, .string t234, .string t235, .string t236, .string t237, .string t238, .string t239, .string t240, .string t241, .string t242, .string t243, .string t244, .string t245, .string t246, .string t247] 44 (0, 0)) (by (with_reducible repeat (first | refine blk_drewN ?_ _ | refine blk_drew ?_ | refine blk_alloc ?_ _)); exact BK248.out) hb); have n2_ := Aside0.mk (below_step (by repeat (first | (with_reducible first | exact HB.out | apply below_alloc | apply pw_below_drewN | apply below_drew1 | refine below_set ?_ GE224.out | refine below_set ?_ GE248.out) | exact HB.out)) hb); clear BK224; clear BK248; clear HB; have BK224 := n0_; have BK248 := n1_; have HB := n2_; clear n0_ n1_ n2_; (try clear hb); (try clear hb2); (try clear hk); (try clear hi)))
                                            go_roundg k5
                                            case measure => have := HK1.out; have := HK2.out; have := HK3.out; have := HK4.out; have := HK5.out; omega
                                            case rel => exact ⟨(wrap64 (x13_5 + 1)), (x225000_5), (x225001_5), (x225002_5), (x225003_5), (x225004_5), (by first | rfl | (simp; done) | (simp [*]; done)), H', ⟨by have := HK1.out; have := HK2.out; have := HK3.out; have := HK4.out; have := HK5.out; omega⟩, ⟨by (with_reducible repeat (first | refine blk_drewN ?_ _ | refine blk_drew ?_ | refine blk_alloc ?_ _)); exact BK224.out⟩, ⟨by (with_reducible repeat (first | refine blk_drewN ?_ _ | refine blk_drew ?_ | refine blk_alloc ?_ _)); exact BK248.out⟩, ⟨by repeat (first | (with_reducible first | exact HB.out | apply below_alloc | apply pw_below_drewN | apply below_drew1 | refine below_set ?_ GE224.out | refine below_set ?_ GE248.out) | exact HB.out)⟩⟩
                                        · rw [if_neg c24] at H
                                          have c24b0 : ((x13_5 == 0) == (x12_4 == 0)) = false := by simpa using c24
                                          (try (have c24b1 : decide ((x13_5 == 0) = (x12_4 == 0)) = false := by simpa using c24))
                                          (try (have c24b2 : ((x13_5 == 0) == (x12_4 == 0)) = false := by simpa using c24))
                                          (try (have c24b3 : ¬ ((x13_5 == 0) = (x12_4 == 0)) := by simpa using c24))
                                          clear c24
                                          have H' := Aside0.mk H
                                          clear H
                                          go_wp2
                                          go_roundg k5
                                          case measure => have := HK1.out; have := HK2.out; have := HK3.out; have := HK4.out; have := HK5.out; omega
                                          case rel => exact ⟨(wrap64 (x13_5 + 1)), (x225000_5), (x225001_5), (x225002_5), (x225003_5), (x225004_5), (by first | rfl | (simp; done) | (simp [*]; done)), H', ⟨by have := HK1.out; have := HK2.out; have := HK3.out; have := HK4.out; have := HK5.out; omega⟩, ⟨by (with_reducible repeat (first | refine blk_drewN ?_ _ | refine blk_drew ?_ | refine blk_alloc ?_ _)); exact BK224.out⟩, ⟨by (with_reducible repeat (first | refine blk_drewN ?_ _ | refine blk_drew ?_ | refine blk_alloc ?_ _)); exact BK248.out⟩, ⟨by repeat (first | (with_reducible first | exact HB.out | apply below_alloc | apply pw_below_drewN | apply below_drew1 | refine below_set ?_ GE224.out | refine below_set ?_ GE248.out) | exact HB.out)⟩⟩
                                      · rw [if_neg c23] at H
                                        have c23b0 : decide (x13_5 ≤ 100) = false := decide_eq_false c23
                                        clear c23
                                        have H' := Aside0.mk H
                                        clear H
                                        go_wp2
                                        go_roundg k5
                                        case measure => have := HK1.out; have := HK2.out; have := HK3.out; have := HK4.out; have := HK5.out; omega
                                        case rel => exact ⟨(wrap64 (x12_4 + 1)), (x225000_5), (x225001_5), (x225002_5), (x225003_5), (x225004_5), (by first | rfl | (simp; done) | (simp [*]; done)), H', ⟨by have := HK1.out; have := HK2.out; have := HK3.out; have := HK4.out; have := HK5.out; omega⟩, ⟨by (with_reducible repeat (first | refine blk_drewN ?_ _ | refine blk_drew ?_ | refine blk_alloc ?_ _)); exact BK224.out⟩, ⟨by (with_reducible repeat (first | refine blk_drewN ?_ _ | refine blk_drew ?_ | refine blk_alloc ?_ _)); exact BK248.out⟩, ⟨by repeat (first | (with_reducible first | exact HB.out | apply below_alloc | apply pw_below_drewN | apply below_drew1 | refine below_set ?_ GE224.out | refine below_set ?_ GE248.out) | exact HB.out)⟩⟩
                                · rw [if_neg c22] at H
                                  have c22b0 : decide (x12_4 ≤ 3) = false := decide_eq_false c22
                                  clear c22
                                  have H' := Aside0.mk H
                                  clear H
                                  go_wp2
                                  go_roundg k4
                                  case measure => have := HK1.out; have := HK2.out; have := HK3.out; have := HK4.out; omega
                                  case rel => exact ⟨(wrap64 (x9_3 + 1)), (x225000_4), (x225001_4), (x225002_4), (x225003_4), (x225004_4), (by first | rfl | (simp; done) | (simp [*]; done)), H', ⟨by have := HK1.out; have := HK2.out; have := HK3.out; have := HK4.out; omega⟩, ⟨by (with_reducible repeat (first | refine blk_drewN ?_ _ | refine blk_drew ?_ | refine blk_alloc ?_ _)); exact BK224.out⟩, ⟨by (with_reducible repeat (first | refine blk_drewN ?_ _ | refine blk_drew ?_ | refine blk_alloc ?_ _)); exact BK248.out⟩, ⟨by repeat (first | (with_reducible first | exact HB.out | apply below_alloc | apply pw_below_drewN | apply below_drew1 | refine below_set ?_ GE224.out | refine below_set ?_ GE248.out) | exact HB.out)⟩⟩
                          · replace c18 := Bool.eq_false_iff.mpr c18
                            subst c18
                            have H1 : (impl_ReadPhrase.l2 k3 a0 x7_1 x8_2 (wrap64 (x9_3 + 1)) t226 t227 t228 t229 t230 t231 t232 t233 t234 t235 t236 t237 t238 t239 t240 t241 t242 t243 t244 t245 t246 t247) = some (r1, r2, r3, r4, r5, r6) := by rw [if_neg (show ¬ (false = true) by decide)] at H; exact H
                            clear H
                            have H := H1
                            clear H1
                            have H' := Aside0.mk H
                            clear H
                            have hnb34 := NB248_224.out
                            have hnc34 := NB224_248.out
                            have hcz35_0 : wr.cell? ⟨gb248, 0, none⟩ = some (.string t226) := (blk_cell BK248.out 0).trans rfl
                            have hcz35_1 : wr.cell? ⟨gb248, 1, none⟩ = some (.string t227) := (blk_cell BK248.out 1).trans rfl
                            have hcz35_2 : wr.cell? ⟨gb248, 2, none⟩ = some (.string t228) := (blk_cell BK248.out 2).trans rfl
                            have hcz35_3 : wr.cell? ⟨gb248, 3, none⟩ = some (.string t229) := (blk_cell BK248.out 3).trans rfl
                            have hcz35_4 : wr.cell? ⟨gb248, 4, none⟩ = some (.string t230) := (blk_cell BK248.out 4).trans rfl
                            have hcz35_5 : wr.cell? ⟨gb248, 5, none⟩ = some (.string t231) := (blk_cell BK248.out 5).trans rfl
                            have hcz35_6 : wr.cell? ⟨gb248, 6, none⟩ = some (.string t232) := (blk_cell BK248.out 6).trans rfl
                            have hcz35_7 : wr.cell? ⟨gb248, 7, none⟩ = some (.string t233) := (blk_cell BK248.out 7).trans rfl
                            have hcz35_8 : wr.cell? ⟨gb248, 8, none⟩ = some (.string t234) := (blk_cell BK248.out 8).trans rfl
                            have hcz35_9 : wr.cell? ⟨gb248, 9, none⟩ = some (.string t235) := (blk_cell BK248.out 9).trans rfl
                            have hcz35_10 : wr.cell? ⟨gb248, 10, none⟩ = some (.string t236) := (blk_cell BK248.out 10).trans rfl
                            have hcz35_11 : wr.cell? ⟨gb248, 11, none⟩ = some (.string t237) := (blk_cell BK248.out 11).trans rfl
                            have hcz35_12 : wr.cell? ⟨gb248, 12, none⟩ = some (.string t238) := (blk_cell BK248.out 12).trans rfl
                            have hcz35_13 : wr.cell? ⟨gb248, 13, none⟩ = some (.string t239) := (blk_cell BK248.out 13).trans rfl
                            have hcz35_14 : wr.cell? ⟨gb248, 14, none⟩ = some (.string t240) := (blk_cell BK248.out 14).trans rfl
                            have hcz35_15 : wr.cell? ⟨gb248, 15, none⟩ = some (.string t241) := (blk_cell BK248.out 15).trans rfl
                            have hcz35_16 : wr.cell? ⟨gb248, 16, none⟩ = some (.string t242) := (blk_cell BK248.out 16).trans rfl
                            have hcz35_17 : wr.cell? ⟨gb248, 17, none⟩ = some (.string t243) := (blk_cell BK248.out 17).trans rfl
                            have hcz35_18 : wr.cell? ⟨gb248, 18, none⟩ = some (.string t244) := (blk_cell BK248.out 18).trans rfl
                            have hcz35_19 : wr.cell? ⟨gb248, 19, none⟩ = some (.string t245) := (blk_cell BK248.out 19).trans rfl
                            have hcz35_20 : wr.cell? ⟨gb248, 20, none⟩ = some (.string t246) := (blk_cell BK248.out 20).trans rfl
                            have hcz35_21 : wr.cell? ⟨gb248, 21, none⟩ = some (.string t247) := (blk_cell BK248.out 21).trans rfl
                            have hfz35_0 := blk_frozen BK248.out 0
                            have hfz35_1 := blk_frozen BK248.out 1
                            have hfz35_2 := blk_frozen BK248.out 2
                            have hfz35_3 := blk_frozen BK248.out 3
                            have hfz35_4 := blk_frozen BK248.out 4
                            have hfz35_5 := blk_frozen BK248.out 5
                            have hfz35_6 := blk_frozen BK248.out 6
                            have hfz35_7 := blk_frozen BK248.out 7
                            have hfz35_8 := blk_frozen BK248.out 8
                            have hfz35_9 := blk_frozen BK248.out 9
                            have hfz35_10 := blk_frozen BK248.out 10
                            have hfz35_11 := blk_frozen BK248.out 11
                            have hfz35_12 := blk_frozen BK248.out 12
                            have hfz35_13 := blk_frozen BK248.out 13
                            have hfz35_14 := blk_frozen BK248.out 14
                            have hfz35_15 := blk_frozen BK248.out 15
                            have hfz35_16 := blk_frozen BK248.out 16
                            have hfz35_17 := blk_frozen BK248.out 17
                            have hfz35_18 := blk_frozen BK248.out 18
                            have hfz35_19 := blk_frozen BK248.out 19
                            have hfz35_20 := blk_frozen BK248.out 20
                            have hfz35_21 := blk_frozen BK248.out 21
                            go_wp2_with (first | ((with_reducible refine gate_dst (N := 40) rfl ?_); refine wpList_load_mid rfl 44 (.tmp 6) rfl gb248 0 ?hx [.string t226, .string t227, .string t228, .string t229, .string t230, .string t231, .string t232, .string t233, .string t234, .string t235, .string t236, .string t237, .string t238, .string t239, .string t240, .string t241, .string t242, .string t243, .string t244, .string t245, .string t246, .string t247] _ (range_blk (t := 44) (cs := #[.string t226, .string t227, .string t228, .string t229, .string t230, .string t231, .string t232, .string t233, .string t234, .string t235, .string t236, .string t237, .string t238, .string t239, .string t240, .string t241, .string t242, .string t243, .string t244, .string t245, .string t246, .string t247]) (by (with_reducible repeat (first | refine blk_drewN ?_ _ | refine blk_drew ?_ | refine blk_alloc ?_ _)); exact BK248.out)) Tryd.underlying44 rfl info_tong ?_; (case hx => first | rfl | (go_simp; done) | (go_simp; rfl))) | ((with_reducible refine gate_dst (N := 66) rfl ?_); refine wpList_load_mid rfl 44 (.tmp 6) rfl gb248 0 ?hx [.string t226, .string t227, .string t228, .string t229, .string t230, .string t231, .string t232, .string t233, .string t234, .string t235, .string t236, .string t237, .string t238, .string t239, .string t240, .string t241, .string t242, .string t243, .string t244, .string t245, .string t246, .string t247] _ (range_blk (t := 44) (cs := #[.string t226, .string t227, .string t228, .string t229, .string t230, .string t231, .string t232, .string t233, .string t234, .string t235, .string t236, .string t237, .string t238, .string t239, .string t240, .string t241, .string t242, .string t243, .string t244, .string t245, .string t246, .string t247]) (by (with_reducible repeat (first | refine blk_drewN ?_ _ | refine blk_drew ?_ | refine blk_alloc ?_ _)); exact BK248.out)) Tryd.underlying44 rfl info_tong ?_; (case hx => first | rfl | (go_simp; done) | (go_simp; rfl))) | ((with_reducible refine gate_callee (f := 22) rfl ?_); refine goesL_ (some 44) rfl rfl Tryd.func22 (by kernel_rfl) rfl #[.agg #[.string t226, .string t227, .string t228, .string t229, .string t230, .string t231, .string t232, .string t233, .string t234, .string t235, .string t236, .string t237, .string t238, .string t239, .string t240, .string t241, .string t242, .string t243, .string t244, .string t245, .string t246, .string t247], .int .i64 x7_1, .int .i64 x8_2, .int .i64 x9_3] rfl (by (try simp only [List.map_toArray, List.map_cons, List.map_nil]); first | done | rfl | (simp only [List.length_drop, List.length_take]; rfl)) ?_; (with_reducible refine (impl_tongue_wind.calls k3 t226 t227 t228 t229 t230 t231 t232 t233 t234 t235 t236 t237 t238 t239 t240 t241 t242 t243 t244 t245 t246 t247 x7_1 x8_2 x9_3 t249 _ A15.out (tab_on HTb.out (by repeat (first | (with_reducible first | exact HB.out | apply below_alloc | apply pw_below_drewN | apply below_drew1 | refine below_set ?_ GE224.out | refine below_set ?_ GE248.out) | exact HB.out)))).mono ?_); rintro e w36 ⟨rfl, hb⟩; refine ⟨_, rfl, ?_⟩; have n0_ := Aside0.mk (blk_below (g := gb224) (o := .cells #[.int .i64 x225000_3, .int .i64 x225001_3, .int .i64 x225002_3, .int .i64 x225003_3, .int .i64 x225004_3] 25 (0, 0)) (by (with_reducible repeat (first | refine blk_drewN ?_ _ | refine blk_drew ?_ | refine blk_alloc ?_ _)); exact BK224.out) hb); have n1_ := Aside0.mk (blk_below (g := gb248) (o := .cells #[.string t226, .string t227, .string t228, .string t229, .string t230, .string t231, .string t232, .string t233, .string t234, .string t235, .string t236, .string t237, .string t238, .string t239, .string t240, .string t241, .string t242, .string t243, .string t244, .string t245, .string t246, .string t247] 44 (0, 0)) (by (with_reducible repeat (first | refine blk_drewN ?_ _ | refine blk_drew ?_ | refine blk_alloc ?_ _)); exact BK248.out) hb); have n2_ := Aside0.mk (below_step (by repeat (first | (with_reducible first | exact HB.out | apply below_alloc | apply pw_below_drewN | apply below_drew1 | refine below_set ?_ GE224.out | refine below_set ?_ GE248.out) | exact HB.out)) hb); clear BK224; clear BK248; clear HB; have BK224 := n0_; have BK248 := n1_; have HB := n2_; clear n0_ n1_ n2_; (try clear hb); (try clear hb2); (try clear hk); (try clear hi)) | ((with_reducible refine gate_callee (f := 25) rfl ?_); refine goesL_ (some 46) rfl rfl Tryd.func25 (by kernel_rfl) rfl #[.string a0, .string (t249 ++ (⟨#[32]⟩ : ByteArray))] rfl (by (try simp only [List.map_toArray, List.map_cons, List.map_nil]); first | done | rfl | (simp only [List.length_drop, List.length_take]; rfl)) ?_; (with_reducible refine (strings_CutPrefix.calls a0 (t249 ++ (⟨#[32]⟩ : ByteArray)) t250 false _ A17.out).mono ?_); rintro e w' ⟨rfl, ⟨nd, rfl⟩⟩; refine ⟨_, rfl, ?_⟩))
                            go_roundg k3
                            case measure => have := HK1.out; have := HK2.out; have := HK3.out; omega
                            case rel => exact ⟨(wrap64 (x9_3 + 1)), (x225000_3), (x225001_3), (x225002_3), (x225003_3), (x225004_3), (by first | rfl | (simp; done) | (simp [*]; done)), H', ⟨by have := HK1.out; have := HK2.out; have := HK3.out; omega⟩, ⟨by (with_reducible repeat (first | refine blk_drewN ?_ _ | refine blk_drew ?_ | refine blk_alloc ?_ _)); exact BK224.out⟩, ⟨by (with_reducible repeat (first | refine blk_drewN ?_ _ | refine blk_drew ?_ | refine blk_alloc ?_ _)); exact BK248.out⟩, ⟨by repeat (first | (with_reducible first | exact HB.out | apply below_alloc | apply pw_below_drewN | apply below_drew1 | refine below_set ?_ GE224.out | refine below_set ?_ GE248.out) | exact HB.out)⟩⟩
                        · rw [if_neg c16] at H
                          exact absurd H (by simp)
                      · rw [if_neg c14] at H
                        have c14b0 : decide (x9_3 ≤ 12) = false := decide_eq_false c14
                        clear c14
                        have H' := Aside0.mk H
                        clear H
                        go_wp2
                        go_roundg k3
                        case measure => have := HK1.out; have := HK2.out; have := HK3.out; omega
                        case rel => exact ⟨(wrap64 (x8_2 + 1)), (x225000_3), (x225001_3), (x225002_3), (x225003_3), (x225004_3), (by first | rfl | (simp; done) | (simp [*]; done)), H', ⟨by have := HK1.out; have := HK2.out; have := HK3.out; omega⟩, ⟨by (with_reducible repeat (first | refine blk_drewN ?_ _ | refine blk_drew ?_ | refine blk_alloc ?_ _)); exact BK224.out⟩, ⟨by (with_reducible repeat (first | refine blk_drewN ?_ _ | refine blk_drew ?_ | refine blk_alloc ?_ _)); exact BK248.out⟩, ⟨by repeat (first | (with_reducible first | exact HB.out | apply below_alloc | apply pw_below_drewN | apply below_drew1 | refine below_set ?_ GE224.out | refine below_set ?_ GE248.out) | exact HB.out)⟩⟩
              · rw [if_neg c12] at H
                have c12b0 : decide (x8_2 ≤ 12) = false := decide_eq_false c12
                clear c12
                have H' := Aside0.mk H
                clear H
                go_wp2
                go_roundg k2
                case measure => have := HK1.out; have := HK2.out; omega
                case rel => exact ⟨(wrap64 (x7_1 + 1)), (x225000_2), (x225001_2), (x225002_2), (x225003_2), (x225004_2), (by first | rfl | (simp; done) | (simp [*]; done)), H', ⟨by have := HK1.out; have := HK2.out; omega⟩, ⟨by (with_reducible repeat (first | refine blk_drewN ?_ _ | refine blk_drew ?_ | refine blk_alloc ?_ _)); exact BK224.out⟩, ⟨by (with_reducible repeat (first | refine blk_drewN ?_ _ | refine blk_drew ?_ | refine blk_alloc ?_ _)); exact BK248.out⟩, ⟨by repeat (first | (with_reducible first | exact HB.out | apply below_alloc | apply pw_below_drewN | apply below_drew1 | refine below_set ?_ GE224.out | refine below_set ?_ GE248.out) | exact HB.out)⟩⟩
        · rw [if_neg c11] at H
          have c11b0 : decide (x7_1 ≤ 8) = false := decide_eq_false c11
          clear c11
          simp only [Option.some.injEq, Prod.mk.injEq] at H
          obtain ⟨rfl, rfl, rfl, rfl, rfl, rfl⟩ := H
          have hnb37 := NB224_248.out
          have hnc37 := NB248_224.out
          have hcz38_0 : wr.cell? ⟨gb224, 0, none⟩ = some (.int .i64 x225000_1) := (blk_cell BK224.out 0).trans rfl
          have hcz38_1 : wr.cell? ⟨gb224, 1, none⟩ = some (.int .i64 x225001_1) := (blk_cell BK224.out 1).trans rfl
          have hcz38_2 : wr.cell? ⟨gb224, 2, none⟩ = some (.int .i64 x225002_1) := (blk_cell BK224.out 2).trans rfl
          have hcz38_3 : wr.cell? ⟨gb224, 3, none⟩ = some (.int .i64 x225003_1) := (blk_cell BK224.out 3).trans rfl
          have hcz38_4 : wr.cell? ⟨gb224, 4, none⟩ = some (.int .i64 x225004_1) := (blk_cell BK224.out 4).trans rfl
          have hfz38_0 := blk_frozen BK224.out 0
          have hfz38_1 := blk_frozen BK224.out 1
          have hfz38_2 := blk_frozen BK224.out 2
          have hfz38_3 := blk_frozen BK224.out 3
          have hfz38_4 := blk_frozen BK224.out 4
          go_wp2
          refine bodyPost_ret (results_ct rfl _ _ gb224 25 #[.int .i64 0, .int .i64 0, .int .i64 0, .int .i64 0, .int .i64 0] (0, 0) _ rfl (by (with_reducible repeat (first | refine blk_drewN ?_ _ | refine blk_drew ?_ | refine blk_alloc ?_ _)); refine blk_put (cs := #[.int .i64 0, .int .i64 0, .int .i64 0, .int .i64 0, .int .i64 x225004_1]) ?_ 4 _ rfl; (with_reducible repeat (first | refine blk_drewN ?_ _ | refine blk_drew ?_ | refine blk_alloc ?_ _)); refine blk_put (cs := #[.int .i64 0, .int .i64 0, .int .i64 0, .int .i64 x225003_1, .int .i64 x225004_1]) ?_ 3 _ rfl; (with_reducible repeat (first | refine blk_drewN ?_ _ | refine blk_drew ?_ | refine blk_alloc ?_ _)); refine blk_put (cs := #[.int .i64 0, .int .i64 0, .int .i64 x225002_1, .int .i64 x225003_1, .int .i64 x225004_1]) ?_ 2 _ rfl; (with_reducible repeat (first | refine blk_drewN ?_ _ | refine blk_drew ?_ | refine blk_alloc ?_ _)); refine blk_put (cs := #[.int .i64 0, .int .i64 x225001_1, .int .i64 x225002_1, .int .i64 x225003_1, .int .i64 x225004_1]) ?_ 1 _ rfl; (with_reducible repeat (first | refine blk_drewN ?_ _ | refine blk_drew ?_ | refine blk_alloc ?_ _)); refine blk_put (cs := #[.int .i64 x225000_1, .int .i64 x225001_1, .int .i64 x225002_1, .int .i64 x225003_1, .int .i64 x225004_1]) ?_ 0 _ rfl; (with_reducible repeat (first | refine blk_drewN ?_ _ | refine blk_drew ?_ | refine blk_alloc ?_ _)); exact BK224.out) Tryd.underlying25 rfl (by kernel_rfl)) rfl ?_
          exact ⟨by first | rfl | (simp [errW_none, errW_some] <;> rfl) | (simp [*, errW_none, errW_some] <;> rfl), by repeat (first | (with_reducible first | exact HB.out | apply below_alloc | apply pw_below_drewN | apply below_drew1 | refine below_set ?_ GE224.out | refine below_set ?_ GE248.out) | exact HB.out)⟩
  · replace c4 := Bool.eq_false_iff.mpr c4
    subst c4
    have H1 : (some (0, 0, 0, 0, 0, false)) = some (r1, r2, r3, r4, r5, r6) := by rw [if_neg (show ¬ (false = true) by decide)] at H; exact H
    clear H
    have H := H1
    clear H1
    simp only [Option.some.injEq, Prod.mk.injEq] at H
    obtain ⟨rfl, rfl, rfl, rfl, rfl, rfl⟩ := H
    go_enter Tryd.func10, Tryd.ntmps10
    go_wp2_with (first | ((with_reducible refine gate_dst (N := 4) rfl ?_); refine box_event ?hg (N := 4) ?hd (cs := #[.int .i64 0, .int .i64 0, .int .i64 0, .int .i64 0, .int .i64 0]) (t := 25) ?hr ?_; (case hd => rfl); (case hg => rfl); (case hr => first | (go_simp; done) | (go_simp; rfl)); intro gb224 hg w39 hbox hb; have n0_ := Aside0.mk (below_step (by repeat (first | (with_reducible first | exact HB.out | apply below_alloc | apply pw_below_drewN | apply below_drew1) | exact HB.out)) hb); have n1_ := Aside0.mk (hbox); have n2_ := Aside0.mk ((by rw [hg]; exact (below_size (by repeat (first | (with_reducible first | exact HB.out | apply below_alloc | apply pw_below_drewN | apply below_drew1) | exact HB.out))) : w.heap.size ≤ gb224)); have n3_ := Aside0.mk ((by rw [hg]; exact (below_size (by repeat (first | (with_reducible first | exact HB.out | apply below_alloc | apply pw_below_drewN | apply below_drew1) | exact HB.out))) : w.heap.size ≤ gb224)); clear HB; have HB := n0_; have BK224 := n1_; have GW224 := n2_; have GE224 := n3_; clear n0_ n1_ n2_ n3_; clear hb hbox hg) | ((with_reducible refine gate_callee (f := 20) rfl ?_); refine goesL_ (some 15) rfl rfl Tryd.func20 (by kernel_rfl) rfl #[.int .i64 a1, .int .i64 1, .int .i64 3] rfl (by (try simp only [List.map_toArray, List.map_cons, List.map_nil]); first | done | rfl | (simp only [List.length_drop, List.length_take]; rfl)) ?_; (with_reducible refine (impl_in.calls a1 1 3 false _ A3.out).mono ?_); rintro e w' ⟨rfl, ⟨nd, rfl⟩⟩; refine ⟨_, rfl, ?_⟩; (try (rw [drewN_self w39]; generalize hq_ : World.drewN w39 _ = w39; have n0_ : Aside0 (w39.heap[gb224]? = some (.cells #[.int .i64 0, .int .i64 0, .int .i64 0, .int .i64 0, .int .i64 0] 25 (0, 0))) := ⟨by rw [← hq_]; exact (by (with_reducible repeat (first | refine blk_drewN ?_ _ | refine blk_drew ?_ | refine blk_alloc ?_ _)); exact BK224.out)⟩; have n1_ : Aside0 (Below w.heap.size w w39) := ⟨by rw [← hq_]; exact (by repeat (first | (with_reducible first | exact HB.out | apply below_alloc | apply pw_below_drewN | apply below_drew1 | refine below_set ?_ GE224.out) | exact HB.out))⟩; clear BK224 HB hq_; have BK224 := n0_; have HB := n1_; clear n0_ n1_)); have hcz40_0 : w39.cell? ⟨gb224, 0, none⟩ = some (.int .i64 0) := (blk_cell BK224.out 0).trans rfl; have hcz40_1 : w39.cell? ⟨gb224, 1, none⟩ = some (.int .i64 0) := (blk_cell BK224.out 1).trans rfl; have hcz40_2 : w39.cell? ⟨gb224, 2, none⟩ = some (.int .i64 0) := (blk_cell BK224.out 2).trans rfl; have hcz40_3 : w39.cell? ⟨gb224, 3, none⟩ = some (.int .i64 0) := (blk_cell BK224.out 3).trans rfl; have hcz40_4 : w39.cell? ⟨gb224, 4, none⟩ = some (.int .i64 0) := (blk_cell BK224.out 4).trans rfl; have hfz40_0 := blk_frozen BK224.out 0; have hfz40_1 := blk_frozen BK224.out 1; have hfz40_2 := blk_frozen BK224.out 2; have hfz40_3 := blk_frozen BK224.out 3; have hfz40_4 := blk_frozen BK224.out 4))
    refine bodyPost_ret (results_ct rfl _ _ gb224 25 #[.int .i64 0, .int .i64 0, .int .i64 0, .int .i64 0, .int .i64 0] (0, 0) _ rfl (by (with_reducible repeat (first | refine blk_drewN ?_ _ | refine blk_drew ?_ | refine blk_alloc ?_ _)); refine blk_put (cs := #[.int .i64 0, .int .i64 0, .int .i64 0, .int .i64 0, .int .i64 0]) ?_ 4 _ rfl; (with_reducible repeat (first | refine blk_drewN ?_ _ | refine blk_drew ?_ | refine blk_alloc ?_ _)); refine blk_put (cs := #[.int .i64 0, .int .i64 0, .int .i64 0, .int .i64 0, .int .i64 0]) ?_ 3 _ rfl; (with_reducible repeat (first | refine blk_drewN ?_ _ | refine blk_drew ?_ | refine blk_alloc ?_ _)); refine blk_put (cs := #[.int .i64 0, .int .i64 0, .int .i64 0, .int .i64 0, .int .i64 0]) ?_ 2 _ rfl; (with_reducible repeat (first | refine blk_drewN ?_ _ | refine blk_drew ?_ | refine blk_alloc ?_ _)); refine blk_put (cs := #[.int .i64 0, .int .i64 0, .int .i64 0, .int .i64 0, .int .i64 0]) ?_ 1 _ rfl; (with_reducible repeat (first | refine blk_drewN ?_ _ | refine blk_drew ?_ | refine blk_alloc ?_ _)); refine blk_put (cs := #[.int .i64 0, .int .i64 0, .int .i64 0, .int .i64 0, .int .i64 0]) ?_ 0 _ rfl; (with_reducible repeat (first | refine blk_drewN ?_ _ | refine blk_drew ?_ | refine blk_alloc ?_ _)); exact BK224.out) Tryd.underlying25 rfl (by kernel_rfl)) rfl ?_
    exact ⟨by first | rfl | (simp [errW_none, errW_some] <;> rfl) | (simp [*, errW_none, errW_some] <;> rfl), by repeat (first | (with_reducible first | exact HB.out | apply below_alloc | apply pw_below_drewN | apply below_drew1 | refine below_set ?_ GE224.out) | exact HB.out)⟩

end Go.Proofs.YtllkijlmjapleaaDoor.QFnPhrases
