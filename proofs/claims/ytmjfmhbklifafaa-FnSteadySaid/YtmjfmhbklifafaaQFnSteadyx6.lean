-- Written by a program of this session out of the printer's texts and contracts of its own.
import Derived.Test.YtmjfmhbklifafaaSq
import Derived.Test.YtmjfmhbklifafaaQFnSteadyx0
import Derived.Test.YtmjfmhbklifafaaQFnSteadyx1
import Derived.Test.YtmjfmhbklifafaaQFnSteadyx2
import Derived.Test.YtmjfmhbklifafaaQFnSteadyx4
import Derived.Test.YtmjfmhbklifafaaQFnSteadyx5
namespace Go.Proofs.Ytmjfmhbklifafaa.QFnSteady
open Go.RowKit Go.Proofs.YtmjfmhbklifafaaW.PrintWords Go.Proofs.YtmjfmhbklifafaaW.PrintLast Go.Proofs.YtmjfmhbklifafaaW.PrintMore Go.Proofs.Ytmjfmhbklifafaa.Sq
attribute [local go_sem] max2_int min2_int max_two min_two max_three min_three max_four min_four   -- for this text's walks alone
set_option linter.unusedVariables false
set_option linter.unusedSimpArgs false

/-! ### laws_FnSteady: function 4 -/
mutual
def laws_FnSteady.l0 : Nat → List Int → List Int → Int → List Int → Int → Option (Bool)
 | 0, _, _, _, _, _ => none
 | k + 1, x3, x4, x6, x9, x11 => if x11 < (x9.length : Int) then (if 0 ≤ x11 then (if (rd x9 x11) < 0 then (laws_FnSteady.j1 k x3 x4 x6 x9 x11 true) else (laws_FnSteady.j1 k x3 x4 x6 x9 x11 (decide ((rd x9 x11) > (x4.length : Int))))) else (none)) else (some true)
def laws_FnSteady.j1 : Nat → List Int → List Int → Int → List Int → Int → Bool → Option (Bool)
 | 0, _, _, _, _, _, _ => none
 | k + 1, x3, x4, x6, x9, x11, x71 => if x71 = true then (some false) else (if x11 > 0 then (if 0 ≤ (wrap64 (x11 - 1)) then (if (wrap64 (x11 - 1)) < (x9.length : Int) then (laws_FnSteady.j2 k x3 x4 x6 x9 x11 (rd x9 (wrap64 (x11 - 1)))) else (none)) else (none)) else (laws_FnSteady.j2 k x3 x4 x6 x9 x11 0))
def laws_FnSteady.j2 : Nat → List Int → List Int → Int → List Int → Int → Int → Option (Bool)
 | 0, _, _, _, _, _, _ => none
 | k + 1, x3, x4, x6, x9, x11, x12 => if 0 ≤ x11 then (if x11 < (x9.length : Int) then (if (rd x9 x11) ≤ x12 then (laws_FnSteady.l0 k x3 x4 x6 x9 (wrap64 (x11 + 1))) else (if x11 < (x3.length : Int) then (if 0 ≤ (wrap64 ((rd x9 x11) - 1)) then (if (wrap64 ((rd x9 x11) - 1)) < (x4.length : Int) then (if (rd x3 x11) < (rd x4 (wrap64 ((rd x9 x11) - 1))) then (some false) else (laws_FnSteady.l1 k x3 x4 x6 x9 x11 x11)) else (none)) else (none)) else (none))) else (none)) else (none)
def laws_FnSteady.l1 : Nat → List Int → List Int → Int → List Int → Int → Int → Option (Bool)
 | 0, _, _, _, _, _, _ => none
 | k + 1, x3, x4, x6, x9, x11, x13 => if x13 < (x9.length : Int) then (laws_FnSteady.j4 k x3 x4 x6 x9 x11 x13 (decide ((wrap64 (x13 - x11)) < x6))) else (laws_FnSteady.j4 k x3 x4 x6 x9 x11 x13 false)
def laws_FnSteady.j4 : Nat → List Int → List Int → Int → List Int → Int → Int → Bool → Option (Bool)
 | 0, _, _, _, _, _, _, _ => none
 | k + 1, x3, x4, x6, x9, x11, x13, x109 => if x109 = true then (if 0 ≤ x13 then (if x13 < (x9.length : Int) then (if 0 ≤ x11 then (if x11 < (x9.length : Int) then (if (rd x9 x13) < (rd x9 x11) then (some false) else (laws_FnSteady.l1 k x3 x4 x6 x9 x11 (wrap64 (x13 + 1)))) else (none)) else (none)) else (none)) else (none)) else (laws_FnSteady.l0 k x3 x4 x6 x9 (wrap64 (x11 + 1)))
end
def laws_FnSteady.f (k : Nat) (l0 : List Int) : Option (Bool) := (laws_big.f l0).bind fun t290 => (if t290 = true then (some true) else ((spec_DrawLevels.f k l0).bind fun bt291 => ((spec_Levels.f k bt291.1 bt291.2.1 bt291.2.2.1 bt291.2.2.2).bind fun bt301 => ((impl_Levels.f k bt291.1 bt291.2.1 bt291.2.2.1 bt291.2.2.2).bind fun bt305 => (if (bt305.2 != bt301.2) = true then (some false) else (if bt301.2 = true then (if (bt305.1.length : Int) = (bt291.1.length : Int) then (laws_FnSteady.l0 k bt291.1 bt291.2.1 bt291.2.2.2 bt305.1 0) else (some false)) else (some ((bt305.1.length : Int) == 0))))))))
theorem laws_FnSteady.mono_l : ∀ k, (∀ y0 y1 y2 y3 y4, LeO (laws_FnSteady.l0 k y0 y1 y2 y3 y4) (laws_FnSteady.l0 (k + 1) y0 y1 y2 y3 y4)) ∧ (∀ y0 y1 y2 y3 y4 y5, LeO (laws_FnSteady.j1 k y0 y1 y2 y3 y4 y5) (laws_FnSteady.j1 (k + 1) y0 y1 y2 y3 y4 y5)) ∧ (∀ y0 y1 y2 y3 y4 y5, LeO (laws_FnSteady.j2 k y0 y1 y2 y3 y4 y5) (laws_FnSteady.j2 (k + 1) y0 y1 y2 y3 y4 y5)) ∧ (∀ y0 y1 y2 y3 y4 y5, LeO (laws_FnSteady.l1 k y0 y1 y2 y3 y4 y5) (laws_FnSteady.l1 (k + 1) y0 y1 y2 y3 y4 y5)) ∧ (∀ y0 y1 y2 y3 y4 y5 y6, LeO (laws_FnSteady.j4 k y0 y1 y2 y3 y4 y5 y6) (laws_FnSteady.j4 (k + 1) y0 y1 y2 y3 y4 y5 y6))
 | 0 => ⟨fun _ _ _ _ _ r h => by simp [laws_FnSteady.l0] at h, fun _ _ _ _ _ _ r h => by simp [laws_FnSteady.j1] at h, fun _ _ _ _ _ _ r h => by simp [laws_FnSteady.j2] at h, fun _ _ _ _ _ _ r h => by simp [laws_FnSteady.l1] at h, fun _ _ _ _ _ _ _ r h => by simp [laws_FnSteady.j4] at h⟩
 | k + 1 => by
  obtain ⟨ih0, ih1, ih2, ih3, ih4⟩ := laws_FnSteady.mono_l k
  refine ⟨?_, ?_, ?_, ?_, ?_⟩
  intro y0 y1 y2 y3 y4; unfold laws_FnSteady.l0; rotate_left
  intro y0 y1 y2 y3 y4 y5; unfold laws_FnSteady.j1; rotate_left
  intro y0 y1 y2 y3 y4 y5; unfold laws_FnSteady.j2; rotate_left
  intro y0 y1 y2 y3 y4 y5; unfold laws_FnSteady.l1; rotate_left
  intro y0 y1 y2 y3 y4 y5 y6; unfold laws_FnSteady.j4; rotate_left
  all_goals repeat' first
  | (with_reducible exact ih0 _ _ _ _ _)
  | (with_reducible exact ih1 _ _ _ _ _ _)
  | (with_reducible exact ih2 _ _ _ _ _ _)
  | (with_reducible exact ih3 _ _ _ _ _ _)
  | (with_reducible exact ih4 _ _ _ _ _ _ _)
  | (with_reducible exact impl_Levels.mono _ _ _ _ _)
  | (with_reducible exact spec_DrawLevels.mono _ _)
  | (with_reducible exact spec_Levels.mono _ _ _ _ _)
  | (with_reducible exact LeO.refl _)
  | (with_reducible exact LeO.none _)
  | (with_reducible refine LeO.ite ?_ ?_)
  | (with_reducible refine LeO.bind ?_ (fun _ => ?_))
  | exact ih0 _ _ _ _ _
  | exact ih1 _ _ _ _ _ _
  | exact ih2 _ _ _ _ _ _
  | exact ih3 _ _ _ _ _ _
  | exact ih4 _ _ _ _ _ _ _
  | exact impl_Levels.mono _ _ _ _ _
  | exact spec_DrawLevels.mono _ _
  | exact spec_Levels.mono _ _ _ _ _
  | exact LeO.none _
  | refine LeO.ite ?_ ?_
  | refine LeO.bind ?_ (fun _ => ?_)
theorem laws_FnSteady.mono : ∀ a0 k, LeO (laws_FnSteady.f k a0) (laws_FnSteady.f (k + 1) a0) := by
 intro a0 k
 obtain ⟨ih0, ih1, ih2, ih3, ih4⟩ := laws_FnSteady.mono_l k
 unfold laws_FnSteady.f
 repeat' first
   | (with_reducible exact ih0 _ _ _ _ _)
   | (with_reducible exact ih1 _ _ _ _ _ _)
   | (with_reducible exact ih2 _ _ _ _ _ _)
   | (with_reducible exact ih3 _ _ _ _ _ _)
   | (with_reducible exact ih4 _ _ _ _ _ _ _)
   | (with_reducible exact impl_Levels.mono _ _ _ _ _)
   | (with_reducible exact spec_DrawLevels.mono _ _)
   | (with_reducible exact spec_Levels.mono _ _ _ _ _)
   | (with_reducible exact LeO.refl _)
   | (with_reducible exact LeO.none _)
   | (with_reducible refine LeO.ite ?_ ?_)
   | (with_reducible refine LeO.bind ?_ (fun _ => ?_))
   | exact ih0 _ _ _ _ _
   | exact ih1 _ _ _ _ _ _
   | exact ih2 _ _ _ _ _ _
   | exact ih3 _ _ _ _ _ _
   | exact ih4 _ _ _ _ _ _ _
   | exact impl_Levels.mono _ _ _ _ _
   | exact spec_DrawLevels.mono _ _
   | exact spec_Levels.mono _ _ _ _ _
   | exact LeO.none _
   | refine LeO.ite ?_ ?_
   | refine LeO.bind ?_ (fun _ => ?_)
set_option maxHeartbeats 8000000 in
set_option maxRecDepth 100000 in
theorem laws_FnSteady.calls (k : Nat) (A0 : Option Addr) (c0 : Nat) (l0 : List Int) (r : Bool) (w : World) (hr0 : Kd.C (Kd.int .u8) w A0 l0.length l0) (hc0 : l0.length ≤ c0) (h : laws_FnSteady.f k l0 = some r) :
  Calls Try.prog 4 #[.slice A0 l0.length c0] w fun e w' => e = .returned (.bool r) ∧ Below w.heap.size w w' := by
 have HR0 := Aside0.mk hr0; have HC0 := Aside0.mk hc0; clear hr0 hc0
 have HB := Aside0.mk (Below.refl w.heap.size w)
 have H : ((laws_big.f l0).bind fun t290 => (if t290 = true then (some true) else ((spec_DrawLevels.f k l0).bind fun bt291 => ((spec_Levels.f k bt291.1 bt291.2.1 bt291.2.2.1 bt291.2.2.2).bind fun bt301 => ((impl_Levels.f k bt291.1 bt291.2.1 bt291.2.2.1 bt291.2.2.2).bind fun bt305 => (if (bt305.2 != bt301.2) = true then (some false) else (if bt301.2 = true then (if (bt305.1.length : Int) = (bt291.1.length : Int) then (laws_FnSteady.l0 k bt291.1 bt291.2.1 bt291.2.2.2 bt305.1 0) else (some false)) else (some ((bt305.1.length : Int) == 0))))))))) = some r := h
 clear h; replace H := Option.bind_eq_some_iff.mp H
 obtain ⟨t290, A20, H⟩ := H
 replace H : (if t290 = true then (some true) else ((spec_DrawLevels.f k l0).bind fun bt291 => ((spec_Levels.f k bt291.1 bt291.2.1 bt291.2.2.1 bt291.2.2.2).bind fun bt301 => ((impl_Levels.f k bt291.1 bt291.2.1 bt291.2.2.1 bt291.2.2.2).bind fun bt305 => (if (bt305.2 != bt301.2) = true then (some false) else (if bt301.2 = true then (if (bt305.1.length : Int) = (bt291.1.length : Int) then (laws_FnSteady.l0 k bt291.1 bt291.2.1 bt291.2.2.2 bt305.1 0) else (some false)) else (some ((bt305.1.length : Int) == 0)))))))) = some r := H
 have A2 := Aside0.mk A20; clear A20
 by_cases c3 : t290 = true
 ·subst c3
  have H1 : (some true) = some r := by rw [if_pos rfl] at H; exact H
  clear H; have H := H1; clear H1
  obtain rfl := Option.some.inj H
  go_enter Try.func4, Try.ntmps4
  go_wp2_with (first | (go_at_call 8; (with_reducible refine (laws_big.calls _ _ l0 true _ ?side1 ?side2 A2.out).mono ?_); (case side1 => repeat (first | exact HR0.out | (with_reducible refine Kd.C_alloc ?_ _) | (with_reducible refine Kd.C_drewN ?_ _) | (with_reducible refine Kd.C_drew ?_))); (case side2 => exact HC0.out); rintro e w' ⟨rfl, ⟨nd, rfl⟩⟩; (try first | exact ⟨rfl, _, World.drewN_drewN _ _ _⟩ | exact ⟨rfl, _, Eq.trans (World.drewN_drewN _ _ _) (congrArg (World.drewN _) (Nat.add_assoc _ _ _))⟩)))
  repeat (go_quiet (first | (go_at_call 8; (with_reducible refine (laws_big.calls _ _ l0 true _ ?side1 ?side2 A2.out).mono ?_); (case side1 => repeat (first | exact HR0.out | (with_reducible refine Kd.C_alloc ?_ _) | (with_reducible refine Kd.C_drewN ?_ _) | (with_reducible refine Kd.C_drew ?_))); (case side2 => exact HC0.out); rintro e w' ⟨rfl, ⟨nd, rfl⟩⟩; (try first | exact ⟨rfl, _, World.drewN_drewN _ _ _⟩ | exact ⟨rfl, _, Eq.trans (World.drewN_drewN _ _ _) (congrArg (World.drewN _) (Nat.add_assoc _ _ _))⟩))); try go_wp2_with (first | (go_at_call 8; (with_reducible refine (laws_big.calls _ _ l0 true _ ?side1 ?side2 A2.out).mono ?_); (case side1 => repeat (first | exact HR0.out | (with_reducible refine Kd.C_alloc ?_ _) | (with_reducible refine Kd.C_drewN ?_ _) | (with_reducible refine Kd.C_drew ?_))); (case side2 => exact HC0.out); rintro e w' ⟨rfl, ⟨nd, rfl⟩⟩; (try first | exact ⟨rfl, _, World.drewN_drewN _ _ _⟩ | exact ⟨rfl, _, Eq.trans (World.drewN_drewN _ _ _) (congrArg (World.drewN _) (Nat.add_assoc _ _ _))⟩))))
  go_ret
  exact ⟨by first | rfl | (simp [errW_none, errW_some] <;> rfl) | (simp [*, errW_none, errW_some] <;> rfl), by repeat (first | (with_reducible first | exact HB.out | apply below_alloc | apply pw_below_drewN | apply below_drew1) | exact HB.out)⟩
 ·replace c3 := Bool.eq_false_iff.mpr c3
  subst c3
  have H1 : ((spec_DrawLevels.f k l0).bind fun bt291 => ((spec_Levels.f k bt291.1 bt291.2.1 bt291.2.2.1 bt291.2.2.2).bind fun bt301 => ((impl_Levels.f k bt291.1 bt291.2.1 bt291.2.2.1 bt291.2.2.2).bind fun bt305 => (if (bt305.2 != bt301.2) = true then (some false) else (if bt301.2 = true then (if (bt305.1.length : Int) = (bt291.1.length : Int) then (laws_FnSteady.l0 k bt291.1 bt291.2.1 bt291.2.2.2 bt305.1 0) else (some false)) else (some ((bt305.1.length : Int) == 0))))))) = some r := by rw [if_neg (show ¬ (false = true) by decide)] at H; exact H
  clear H; have H := H1; clear H1; replace H := Option.bind_eq_some_iff.mp H
  obtain ⟨⟨t291, t292, t293, t294⟩, A40, H⟩ := H
  replace H : ((spec_Levels.f k t291 t292 t293 t294).bind fun bt301 => ((impl_Levels.f k t291 t292 t293 t294).bind fun bt305 => (if (bt305.2 != bt301.2) = true then (some false) else (if bt301.2 = true then (if (bt305.1.length : Int) = (t291.length : Int) then (laws_FnSteady.l0 k t291 t292 t294 bt305.1 0) else (some false)) else (some ((bt305.1.length : Int) == 0)))))) = some r := H
  have A4 := Aside0.mk A40; clear A40; replace H := Option.bind_eq_some_iff.mp H
  obtain ⟨⟨t301, t302⟩, A50, H⟩ := H
  replace H : ((impl_Levels.f k t291 t292 t293 t294).bind fun bt305 => (if (bt305.2 != t302) = true then (some false) else (if t302 = true then (if (bt305.1.length : Int) = (t291.length : Int) then (laws_FnSteady.l0 k t291 t292 t294 bt305.1 0) else (some false)) else (some ((bt305.1.length : Int) == 0))))) = some r := H
  have A5 := Aside0.mk A50; clear A50; replace H := Option.bind_eq_some_iff.mp H
  obtain ⟨⟨t305, t306⟩, A60, H⟩ := H
  replace H : (if (t306 != t302) = true then (some false) else (if t302 = true then (if (t305.length : Int) = (t291.length : Int) then (laws_FnSteady.l0 k t291 t292 t294 t305 0) else (some false)) else (some ((t305.length : Int) == 0)))) = some r := H
  have A6 := Aside0.mk A60; clear A60
  by_cases c7 : (t306 != t302) = true
  ·rw [if_pos c7] at H
   have c7b0 : (t306 != t302) = true := c7
   (try (have c7b1 : decide (t306 = t302) = false := by simpa using c7))
   (try (have c7b2 : (t306 == t302) = false := by simpa using c7))
   (try (have c7b3 : ¬ (t306 = t302) := by simpa using c7))
   clear c7
   obtain rfl := Option.some.inj H
   go_enter Try.func4, Try.ntmps4
   go_wp2_with (first | (go_at_call 8; (with_reducible refine (laws_big.calls _ _ l0 false _ ?side1 ?side2 A2.out).mono ?_); (case side1 => repeat (first | exact HR0.out | (with_reducible refine Kd.C_alloc ?_ _) | (with_reducible refine Kd.C_drewN ?_ _) | (with_reducible refine Kd.C_drew ?_))); (case side2 => exact HC0.out); rintro e w' ⟨rfl, ⟨nd, rfl⟩⟩; (try first | exact ⟨rfl, _, World.drewN_drewN _ _ _⟩ | exact ⟨rfl, _, Eq.trans (World.drewN_drewN _ _ _) (congrArg (World.drewN _) (Nat.add_assoc _ _ _))⟩)) | (go_at_call 16; (with_reducible refine (spec_DrawLevels.calls k _ _ l0 t291 t292 t293 t294 _ ?side1 ?side2 A4.out).mono ?_); (case side1 => repeat (first | exact HR0.out | (with_reducible refine Kd.C_alloc ?_ _) | (with_reducible refine Kd.C_drewN ?_ _) | (with_reducible refine Kd.C_drew ?_))); (case side2 => exact HC0.out); rintro e w8 ⟨v295, v297, v299, rfl, ho0, ho1, ho2, hb⟩; have HO296 := rL_ ho0 HB; have HO298 := rL_ ho1 HB; have HO300 := rL_ ho2 HB; replace HB := bS_ HB hb; (try clear hb); (try clear hb2); (try clear hk); (try clear hi); (try clear ho0); (try clear ho1); (try clear ho2); obtain ⟨Ao9, co9, eo9⟩ := Kd.R_slice HO296.out; subst eo9; obtain ⟨Ao10, co10, eo10⟩ := Kd.R_slice HO298.out; subst eo10; obtain ⟨Ao11, co11, eo11⟩ := Kd.R_slice HO300.out; subst eo11) | (go_at_call 17; (with_reducible refine (spec_Levels.calls k _ _ t291 _ _ t292 _ _ t293 t294 t301 t302 _ ?side1 ?side2 ?side3 ?side4 ?side5 ?side6 A5.out).mono ?_); (case side1 => exact rD_ HO296); (case side2 => exact (Kd.R_reads' HO296.out).2.1); (case side3 => exact rD_ HO298); (case side4 => exact (Kd.R_reads' HO298.out).2.1); (case side5 => exact rD_ HO300); (case side6 => exact (Kd.R_reads' HO300.out).2.1); rintro e w12 ⟨v303, rfl, ho0, hb⟩; have HO304 := rL_ (rN_ (rN_ (rN_ ho0 HO296) HO298) HO300) HB; replace HO296 := rE_ HO296 ho0 hb; replace HO298 := rE_ HO298 ho0 hb; replace HO300 := rE_ HO300 ho0 hb; replace HB := bS_ HB hb; (try clear hb); (try clear hb2); (try clear hk); (try clear hi); (try clear ho0)) | (go_at_call 18; (with_reducible refine (impl_Levels.calls k _ _ t291 _ _ t292 _ _ t293 t294 t305 t306 _ ?side1 ?side2 ?side3 ?side4 ?side5 ?side6 A6.out).mono ?_); (case side1 => exact rD_ HO296); (case side2 => exact (Kd.R_reads' HO296.out).2.1); (case side3 => exact rD_ HO298); (case side4 => exact (Kd.R_reads' HO298.out).2.1); (case side5 => exact rD_ HO300); (case side6 => exact (Kd.R_reads' HO300.out).2.1); rintro e w13 ⟨v307, rfl, ho0, hb⟩; have HO308 := rL_ (rN_ (rN_ (rN_ (rN_ ho0 HO296) HO298) HO300) HO304) HB; replace HO296 := rE_ HO296 ho0 hb; replace HO298 := rE_ HO298 ho0 hb; replace HO300 := rE_ HO300 ho0 hb; replace HO304 := rE_ HO304 ho0 hb; replace HB := bS_ HB hb; (try clear hb); (try clear hb2); (try clear hk); (try clear hi); (try clear ho0)))
   repeat (go_quiet (first | (go_at_call 8; (with_reducible refine (laws_big.calls _ _ l0 false _ ?side1 ?side2 A2.out).mono ?_); (case side1 => repeat (first | exact HR0.out | (with_reducible refine Kd.C_alloc ?_ _) | (with_reducible refine Kd.C_drewN ?_ _) | (with_reducible refine Kd.C_drew ?_))); (case side2 => exact HC0.out); rintro e w' ⟨rfl, ⟨nd, rfl⟩⟩; (try first | exact ⟨rfl, _, World.drewN_drewN _ _ _⟩ | exact ⟨rfl, _, Eq.trans (World.drewN_drewN _ _ _) (congrArg (World.drewN _) (Nat.add_assoc _ _ _))⟩)) ); try go_wp2_with (first | (go_at_call 8; (with_reducible refine (laws_big.calls _ _ l0 false _ ?side1 ?side2 A2.out).mono ?_); (case side1 => repeat (first | exact HR0.out | (with_reducible refine Kd.C_alloc ?_ _) | (with_reducible refine Kd.C_drewN ?_ _) | (with_reducible refine Kd.C_drew ?_))); (case side2 => exact HC0.out); rintro e w' ⟨rfl, ⟨nd, rfl⟩⟩; (try first | exact ⟨rfl, _, World.drewN_drewN _ _ _⟩ | exact ⟨rfl, _, Eq.trans (World.drewN_drewN _ _ _) (congrArg (World.drewN _) (Nat.add_assoc _ _ _))⟩)) | (go_at_call 16; (with_reducible refine (spec_DrawLevels.calls k _ _ l0 t291 t292 t293 t294 _ ?side1 ?side2 A4.out).mono ?_); (case side1 => repeat (first | exact HR0.out | (with_reducible refine Kd.C_alloc ?_ _) | (with_reducible refine Kd.C_drewN ?_ _) | (with_reducible refine Kd.C_drew ?_))); (case side2 => exact HC0.out); rintro e w8 ⟨v295, v297, v299, rfl, ho0, ho1, ho2, hb⟩; have HO296 := rL_ ho0 HB; have HO298 := rL_ ho1 HB; have HO300 := rL_ ho2 HB; replace HB := bS_ HB hb; (try clear hb); (try clear hb2); (try clear hk); (try clear hi); (try clear ho0); (try clear ho1); (try clear ho2); obtain ⟨Ao9, co9, eo9⟩ := Kd.R_slice HO296.out; subst eo9; obtain ⟨Ao10, co10, eo10⟩ := Kd.R_slice HO298.out; subst eo10; obtain ⟨Ao11, co11, eo11⟩ := Kd.R_slice HO300.out; subst eo11) | (go_at_call 17; (with_reducible refine (spec_Levels.calls k _ _ t291 _ _ t292 _ _ t293 t294 t301 t302 _ ?side1 ?side2 ?side3 ?side4 ?side5 ?side6 A5.out).mono ?_); (case side1 => exact rD_ HO296); (case side2 => exact (Kd.R_reads' HO296.out).2.1); (case side3 => exact rD_ HO298); (case side4 => exact (Kd.R_reads' HO298.out).2.1); (case side5 => exact rD_ HO300); (case side6 => exact (Kd.R_reads' HO300.out).2.1); rintro e w12 ⟨v303, rfl, ho0, hb⟩; have HO304 := rL_ (rN_ (rN_ (rN_ ho0 HO296) HO298) HO300) HB; replace HO296 := rE_ HO296 ho0 hb; replace HO298 := rE_ HO298 ho0 hb; replace HO300 := rE_ HO300 ho0 hb; replace HB := bS_ HB hb; (try clear hb); (try clear hb2); (try clear hk); (try clear hi); (try clear ho0)) | (go_at_call 18; (with_reducible refine (impl_Levels.calls k _ _ t291 _ _ t292 _ _ t293 t294 t305 t306 _ ?side1 ?side2 ?side3 ?side4 ?side5 ?side6 A6.out).mono ?_); (case side1 => exact rD_ HO296); (case side2 => exact (Kd.R_reads' HO296.out).2.1); (case side3 => exact rD_ HO298); (case side4 => exact (Kd.R_reads' HO298.out).2.1); (case side5 => exact rD_ HO300); (case side6 => exact (Kd.R_reads' HO300.out).2.1); rintro e w13 ⟨v307, rfl, ho0, hb⟩; have HO308 := rL_ (rN_ (rN_ (rN_ (rN_ ho0 HO296) HO298) HO300) HO304) HB; replace HO296 := rE_ HO296 ho0 hb; replace HO298 := rE_ HO298 ho0 hb; replace HO300 := rE_ HO300 ho0 hb; replace HO304 := rE_ HO304 ho0 hb; replace HB := bS_ HB hb; (try clear hb); (try clear hb2); (try clear hk); (try clear hi); (try clear ho0))))
   go_ret
   exact ⟨by first | rfl | (simp [errW_none, errW_some] <;> rfl) | (simp [*, errW_none, errW_some] <;> rfl), by repeat (first | (with_reducible first | exact HB.out | apply below_alloc | apply pw_below_drewN | apply below_drew1) | exact HB.out)⟩
  ·rw [if_neg c7] at H
   have c7b0 : (t306 != t302) = false := by simpa using c7
   (try (have c7b1 : decide (t306 = t302) = true := by simpa using c7))
   (try (have c7b2 : (t306 == t302) = true := by simpa using c7))
   clear c7
   by_cases c14 : t302 = true
   ·subst c14
    have H1 : (if (t305.length : Int) = (t291.length : Int) then (laws_FnSteady.l0 k t291 t292 t294 t305 0) else (some false)) = some r := by rw [if_pos rfl] at H; exact H
    clear H; have H := H1; clear H1
    by_cases c15 : (t305.length : Int) = (t291.length : Int)
    ·rw [if_pos c15] at H
     have c15b0 : ((t305.length : Int) == (t291.length : Int)) = true := beq_iff_eq.mpr c15
     have c15b1 : ((t305.length : Int) != (t291.length : Int)) = false := bne_eq_false_iff_eq.mpr c15
     have c15b2 : (t305.length == t291.length) = true := by first | simpa using c15 | (simp at c15 ⊢; omega)
     clear c15; have H' := Aside0.mk H; clear H
     go_enter Try.func4, Try.ntmps4
     go_wp2_with (first | (go_at_call 8; (with_reducible refine (laws_big.calls _ _ l0 false _ ?side1 ?side2 A2.out).mono ?_); (case side1 => repeat (first | exact HR0.out | (with_reducible refine Kd.C_alloc ?_ _) | (with_reducible refine Kd.C_drewN ?_ _) | (with_reducible refine Kd.C_drew ?_))); (case side2 => exact HC0.out); rintro e w' ⟨rfl, ⟨nd, rfl⟩⟩; (try first | exact ⟨rfl, _, World.drewN_drewN _ _ _⟩ | exact ⟨rfl, _, Eq.trans (World.drewN_drewN _ _ _) (congrArg (World.drewN _) (Nat.add_assoc _ _ _))⟩)) | (go_at_call 16; (with_reducible refine (spec_DrawLevels.calls k _ _ l0 t291 t292 t293 t294 _ ?side1 ?side2 A4.out).mono ?_); (case side1 => repeat (first | exact HR0.out | (with_reducible refine Kd.C_alloc ?_ _) | (with_reducible refine Kd.C_drewN ?_ _) | (with_reducible refine Kd.C_drew ?_))); (case side2 => exact HC0.out); rintro e w16 ⟨v295, v297, v299, rfl, ho0, ho1, ho2, hb⟩; have HO296 := rL_ ho0 HB; have HO298 := rL_ ho1 HB; have HO300 := rL_ ho2 HB; replace HB := bS_ HB hb; (try clear hb); (try clear hb2); (try clear hk); (try clear hi); (try clear ho0); (try clear ho1); (try clear ho2); obtain ⟨Ao17, co17, eo17⟩ := Kd.R_slice HO296.out; subst eo17; obtain ⟨Ao18, co18, eo18⟩ := Kd.R_slice HO298.out; subst eo18; obtain ⟨Ao19, co19, eo19⟩ := Kd.R_slice HO300.out; subst eo19) | (go_at_call 17; (with_reducible refine (spec_Levels.calls k _ _ t291 _ _ t292 _ _ t293 t294 t301 true _ ?side1 ?side2 ?side3 ?side4 ?side5 ?side6 A5.out).mono ?_); (case side1 => exact rD_ HO296); (case side2 => exact (Kd.R_reads' HO296.out).2.1); (case side3 => exact rD_ HO298); (case side4 => exact (Kd.R_reads' HO298.out).2.1); (case side5 => exact rD_ HO300); (case side6 => exact (Kd.R_reads' HO300.out).2.1); rintro e w20 ⟨v303, rfl, ho0, hb⟩; have HO304 := rL_ (rN_ (rN_ (rN_ ho0 HO296) HO298) HO300) HB; replace HO296 := rE_ HO296 ho0 hb; replace HO298 := rE_ HO298 ho0 hb; replace HO300 := rE_ HO300 ho0 hb; replace HB := bS_ HB hb; (try clear hb); (try clear hb2); (try clear hk); (try clear hi); (try clear ho0)) | (go_at_call 18; (with_reducible refine (impl_Levels.calls k _ _ t291 _ _ t292 _ _ t293 t294 t305 t306 _ ?side1 ?side2 ?side3 ?side4 ?side5 ?side6 A6.out).mono ?_); (case side1 => exact rD_ HO296); (case side2 => exact (Kd.R_reads' HO296.out).2.1); (case side3 => exact rD_ HO298); (case side4 => exact (Kd.R_reads' HO298.out).2.1); (case side5 => exact rD_ HO300); (case side6 => exact (Kd.R_reads' HO300.out).2.1); rintro e w21 ⟨v307, rfl, ho0, hb⟩; have HO308 := rL_ (rN_ (rN_ (rN_ (rN_ ho0 HO296) HO298) HO300) HO304) HB; replace HO296 := rE_ HO296 ho0 hb; replace HO298 := rE_ HO298 ho0 hb; replace HO300 := rE_ HO300 ho0 hb; replace HO304 := rE_ HO304 ho0 hb; replace HB := bS_ HB hb; (try clear hb); (try clear hb2); (try clear hk); (try clear hi); (try clear ho0); obtain ⟨Ao22, co22, eo22⟩ := Kd.R_slice HO308.out; subst eo22))
     repeat (go_quiet (first | (go_at_call 8; (with_reducible refine (laws_big.calls _ _ l0 false _ ?side1 ?side2 A2.out).mono ?_); (case side1 => repeat (first | exact HR0.out | (with_reducible refine Kd.C_alloc ?_ _) | (with_reducible refine Kd.C_drewN ?_ _) | (with_reducible refine Kd.C_drew ?_))); (case side2 => exact HC0.out); rintro e w' ⟨rfl, ⟨nd, rfl⟩⟩; (try first | exact ⟨rfl, _, World.drewN_drewN _ _ _⟩ | exact ⟨rfl, _, Eq.trans (World.drewN_drewN _ _ _) (congrArg (World.drewN _) (Nat.add_assoc _ _ _))⟩)) ); try go_wp2_with (first | (go_at_call 8; (with_reducible refine (laws_big.calls _ _ l0 false _ ?side1 ?side2 A2.out).mono ?_); (case side1 => repeat (first | exact HR0.out | (with_reducible refine Kd.C_alloc ?_ _) | (with_reducible refine Kd.C_drewN ?_ _) | (with_reducible refine Kd.C_drew ?_))); (case side2 => exact HC0.out); rintro e w' ⟨rfl, ⟨nd, rfl⟩⟩; (try first | exact ⟨rfl, _, World.drewN_drewN _ _ _⟩ | exact ⟨rfl, _, Eq.trans (World.drewN_drewN _ _ _) (congrArg (World.drewN _) (Nat.add_assoc _ _ _))⟩)) | (go_at_call 16; (with_reducible refine (spec_DrawLevels.calls k _ _ l0 t291 t292 t293 t294 _ ?side1 ?side2 A4.out).mono ?_); (case side1 => repeat (first | exact HR0.out | (with_reducible refine Kd.C_alloc ?_ _) | (with_reducible refine Kd.C_drewN ?_ _) | (with_reducible refine Kd.C_drew ?_))); (case side2 => exact HC0.out); rintro e w16 ⟨v295, v297, v299, rfl, ho0, ho1, ho2, hb⟩; have HO296 := rL_ ho0 HB; have HO298 := rL_ ho1 HB; have HO300 := rL_ ho2 HB; replace HB := bS_ HB hb; (try clear hb); (try clear hb2); (try clear hk); (try clear hi); (try clear ho0); (try clear ho1); (try clear ho2); obtain ⟨Ao17, co17, eo17⟩ := Kd.R_slice HO296.out; subst eo17; obtain ⟨Ao18, co18, eo18⟩ := Kd.R_slice HO298.out; subst eo18; obtain ⟨Ao19, co19, eo19⟩ := Kd.R_slice HO300.out; subst eo19) | (go_at_call 17; (with_reducible refine (spec_Levels.calls k _ _ t291 _ _ t292 _ _ t293 t294 t301 true _ ?side1 ?side2 ?side3 ?side4 ?side5 ?side6 A5.out).mono ?_); (case side1 => exact rD_ HO296); (case side2 => exact (Kd.R_reads' HO296.out).2.1); (case side3 => exact rD_ HO298); (case side4 => exact (Kd.R_reads' HO298.out).2.1); (case side5 => exact rD_ HO300); (case side6 => exact (Kd.R_reads' HO300.out).2.1); rintro e w20 ⟨v303, rfl, ho0, hb⟩; have HO304 := rL_ (rN_ (rN_ (rN_ ho0 HO296) HO298) HO300) HB; replace HO296 := rE_ HO296 ho0 hb; replace HO298 := rE_ HO298 ho0 hb; replace HO300 := rE_ HO300 ho0 hb; replace HB := bS_ HB hb; (try clear hb); (try clear hb2); (try clear hk); (try clear hi); (try clear ho0)) | (go_at_call 18; (with_reducible refine (impl_Levels.calls k _ _ t291 _ _ t292 _ _ t293 t294 t305 t306 _ ?side1 ?side2 ?side3 ?side4 ?side5 ?side6 A6.out).mono ?_); (case side1 => exact rD_ HO296); (case side2 => exact (Kd.R_reads' HO296.out).2.1); (case side3 => exact rD_ HO298); (case side4 => exact (Kd.R_reads' HO298.out).2.1); (case side5 => exact rD_ HO300); (case side6 => exact (Kd.R_reads' HO300.out).2.1); rintro e w21 ⟨v307, rfl, ho0, hb⟩; have HO308 := rL_ (rN_ (rN_ (rN_ (rN_ ho0 HO296) HO298) HO300) HO304) HB; replace HO296 := rE_ HO296 ho0 hb; replace HO298 := rE_ HO298 ho0 hb; replace HO300 := rE_ HO300 ho0 hb; replace HO304 := rE_ HO304 ho0 hb; replace HB := bS_ HB hb; (try clear hb); (try clear hb2); (try clear hk); (try clear hi); (try clear ho0); obtain ⟨Ao22, co22, eo22⟩ := Kd.R_slice HO308.out; subst eo22)))
     go_loopg [11] k (fun kq v11 w' => ∃ (x11_1 : Int), v11 = .int .i64 x11_1 ∧ Aside0 (laws_FnSteady.l0 kq t291 t292 t294 t305 x11_1 = some r) ∧ Aside0 (kq ≤ k) ∧ Aside0 (Kd.R (Kd.int .i64) 2 w' w.heap.size (fun k_ => some k_ ≠ ((.slice Ao18 t292.length co18) : Value).ownBlock ∧ some k_ ≠ ((.slice Ao22 t305.length co22) : Value).ownBlock) (.slice Ao17 t291.length co17) t291) ∧ Aside0 (Kd.R (Kd.int .i64) 2 w' w.heap.size (fun k_ => some k_ ≠ ((.slice Ao17 t291.length co17) : Value).ownBlock ∧ some k_ ≠ ((.slice Ao22 t305.length co22) : Value).ownBlock) (.slice Ao18 t292.length co18) t292) ∧ Aside0 (Kd.R (Kd.int .i64) 2 w' w.heap.size (fun k_ => some k_ ≠ ((.slice Ao17 t291.length co17) : Value).ownBlock ∧ some k_ ≠ ((.slice Ao18 t292.length co18) : Value).ownBlock) (.slice Ao22 t305.length co22) t305) ∧ Aside0 (Below w.heap.size w w'))
     case atStart => exact ⟨(0), (by first | rfl | (simp; done) | (simp [*]; done)), H', ⟨Nat.le_refl _⟩, ⟨by (with_reducible repeat (first | apply Kd.R_alloc | apply Kd.R_drewN | apply Kd.R_drew)); exact Kd.R_mono HO296.out (fun _ hk => ⟨hk.1.1.1, hk.2⟩)⟩, ⟨by (with_reducible repeat (first | apply Kd.R_alloc | apply Kd.R_drewN | apply Kd.R_drew)); exact Kd.R_mono HO298.out (fun _ hk => ⟨hk.1.1.1, hk.2⟩)⟩, ⟨by (with_reducible repeat (first | apply Kd.R_alloc | apply Kd.R_drewN | apply Kd.R_drew)); exact Kd.R_mono HO308.out (fun _ hk => ⟨hk.1.1.1.2, hk.1.1.2⟩)⟩, ⟨by repeat (first | (with_reducible first | exact HB.out | apply below_alloc | apply pw_below_drewN | apply below_drew1) | exact HB.out)⟩⟩
     case round =>
      clear H'; (try clear c1); (try clear p2); (try clear c3); (try clear c4); (try clear c7); (try clear c7b0); (try clear c7b1); (try clear c7b2); (try clear c14); (try clear c15); (try clear c15b0); (try clear c15b1); (try clear c15b2)
      obtain ⟨x11_1, rfl, HA, HK1, HO_3, HO_4, HO_9, HB⟩ := hrel
      cases gk with
      | zero => exact absurd HA.out (by simp [laws_FnSteady.l0])
      | succ k1 =>
       have H := HA.out; clear HA
       simp only [laws_FnSteady.l0] at H
       by_cases c23 : x11_1 < (t305.length : Int)
       ·rw [if_pos c23] at H
        have c23b0 : decide (x11_1 < (t305.length : Int)) = true := decide_eq_true c23
        clear c23; have HC24 := Aside0.mk H; clear H
        go_upto_region 15 with (fail)
        repeat (go_quiet (fail); go_upto_region 15 with (fail))
        go_cut [71] (fun v71 wc => ∃ (kq : Nat) (x71_23 : Bool), v71 = .bool x71_23 ∧ Aside0 (laws_FnSteady.j1 kq t291 t292 t294 t305 x11_1 x71_23 = some r) ∧ Aside0 (kq ≤ k1) ∧ Aside0 (Kd.R (Kd.int .i64) 2 wc w.heap.size (fun k_ => some k_ ≠ ((.slice Ao18 t292.length co18) : Value).ownBlock ∧ some k_ ≠ ((.slice Ao22 t305.length co22) : Value).ownBlock) (.slice Ao17 t291.length co17) t291) ∧ Aside0 (Kd.R (Kd.int .i64) 2 wc w.heap.size (fun k_ => some k_ ≠ ((.slice Ao17 t291.length co17) : Value).ownBlock ∧ some k_ ≠ ((.slice Ao22 t305.length co22) : Value).ownBlock) (.slice Ao18 t292.length co18) t292) ∧ Aside0 (Kd.R (Kd.int .i64) 2 wc w.heap.size (fun k_ => some k_ ≠ ((.slice Ao17 t291.length co17) : Value).ownBlock ∧ some k_ ≠ ((.slice Ao18 t292.length co18) : Value).ownBlock) (.slice Ao22 t305.length co22) t305) ∧ Aside0 (Below w.heap.size w wc))
        case first =>
         have H := HC24.out; clear HC24
         by_cases c25 : 0 ≤ x11_1
         ·rw [if_pos c25] at H
          have c25b0 : decide (0 ≤ x11_1) = true := decide_eq_true c25
          clear c25
          (first | rw [c25b0] | (simp only [i64_w, i32_w]; rw [c25b0]) | skip)
          by_cases c26 : (rd t305 x11_1) < 0
          ·rw [if_pos c26] at H
           have c26b0 : decide ((rd t305 x11_1) < 0) = true := decide_eq_true c26
           clear c26; have H' := Aside0.mk H; clear H
           have p309 : 0 ≤ (x11_1 : Int) := of_decide_eq_true (by first | (with_reducible assumption) | assumption)
           have q309 : x11_1 < (t305.length : Int) := of_decide_eq_true (by first | (with_reducible assumption) | assumption)
           obtain ⟨ad309, e309, hx309_0⟩ := Kd.at_int (Kd.R_reads' HO_9.out).2.2 x11_1 p309 q309
           cases e309
           replace p309 := eq_true p309; replace q309 := eq_true q309
           go_wp2
           repeat (go_quiet (fail); try go_wp2)
           go_meet
           case rel => exact ⟨_, (true), (by first | rfl | (simp; done) | (simp [*]; done)), H', ⟨by have := HK1.out; first | omega | exact Nat.le_refl _⟩, ⟨by (with_reducible repeat (first | apply Kd.R_alloc | apply Kd.R_drewN | apply Kd.R_drew)); exact HO_3.out⟩, ⟨by (with_reducible repeat (first | apply Kd.R_alloc | apply Kd.R_drewN | apply Kd.R_drew)); exact HO_4.out⟩, ⟨by (with_reducible repeat (first | apply Kd.R_alloc | apply Kd.R_drewN | apply Kd.R_drew)); exact HO_9.out⟩, ⟨by repeat (first | (with_reducible first | exact HB.out | apply below_alloc | apply pw_below_drewN | apply below_drew1) | exact HB.out)⟩⟩
          ·rw [if_neg c26] at H
           have c26b0 : decide ((rd t305 x11_1) < 0) = false := decide_eq_false c26
           clear c26; have H' := Aside0.mk H; clear H
           have p309 : 0 ≤ (x11_1 : Int) := of_decide_eq_true (by first | (with_reducible assumption) | assumption)
           have q309 : x11_1 < (t305.length : Int) := of_decide_eq_true (by first | (with_reducible assumption) | assumption)
           obtain ⟨ad309, e309, hx309_0⟩ := Kd.at_int (Kd.R_reads' HO_9.out).2.2 x11_1 p309 q309
           cases e309
           replace p309 := eq_true p309; replace q309 := eq_true q309
           have p310 : 0 ≤ (x11_1 : Int) := of_decide_eq_true (by first | (with_reducible assumption) | assumption)
           have q310 : x11_1 < (t305.length : Int) := of_decide_eq_true (by first | (with_reducible assumption) | assumption)
           obtain ⟨ad310, e310, hx310_0⟩ := Kd.at_int (Kd.R_reads' HO_9.out).2.2 x11_1 p310 q310
           obtain rfl : ad309 = ad310 := (by injection e310)
           replace p310 := eq_true p310; replace q310 := eq_true q310
           go_wp2
           repeat (go_quiet (fail); try go_wp2)
           go_meet
           case rel => exact ⟨_, (decide ((rd t305 x11_1) > (t292.length : Int))), (by first | rfl | (simp; done) | (simp [*]; done)), H', ⟨by have := HK1.out; first | omega | exact Nat.le_refl _⟩, ⟨by (with_reducible repeat (first | apply Kd.R_alloc | apply Kd.R_drewN | apply Kd.R_drew)); exact HO_3.out⟩, ⟨by (with_reducible repeat (first | apply Kd.R_alloc | apply Kd.R_drewN | apply Kd.R_drew)); exact HO_4.out⟩, ⟨by (with_reducible repeat (first | apply Kd.R_alloc | apply Kd.R_drewN | apply Kd.R_drew)); exact HO_9.out⟩, ⟨by repeat (first | (with_reducible first | exact HB.out | apply below_alloc | apply pw_below_drewN | apply below_drew1) | exact HB.out)⟩⟩
         ·rw [if_neg c25] at H
          exact absurd H (by simp)
        case rest =>
         clear HC24; (try clear c1); (try clear c2); (try clear p2); (try clear c3); (try clear p3); (try clear q3); (try clear hx3); (try clear c4); (try clear c7); (try clear c7b0); (try clear c7b1); (try clear c7b2); (try clear c14); (try clear c15); (try clear c15b0); (try clear c15b1); (try clear c15b2); (try clear c23); (try clear c23b0); (try clear c25); (try clear c25b0); (try clear c26); (try clear c26b0); (try clear hx309_0); (try clear hx310_0); (try clear p2); (try clear p309); (try clear p310); (try clear q309); (try clear q310)
         obtain ⟨kq, x71_23, rfl, HA, HJ23, HO_3, HO_4, HO_9, HB⟩ := hcut
         cases kq with
         | zero => exact absurd HA.out (by simp [laws_FnSteady.j1])
         | succ kj23 =>
          have H := HA.out; clear HA
          simp only [laws_FnSteady.j1] at H
          by_cases c27 : x71_23 = true
          ·subst c27
           have H1 : (some false) = some r := by rw [if_pos rfl] at H; exact H
           clear H; have H := H1; clear H1
           obtain rfl := Option.some.inj H
           go_wp2
           repeat (go_quiet (fail); try go_wp2)
           go_ret
           exact ⟨by first | rfl | (simp [errW_none, errW_some] <;> rfl) | (simp [*, errW_none, errW_some] <;> rfl), by repeat (first | (with_reducible first | exact HB.out | apply below_alloc | apply pw_below_drewN | apply below_drew1) | exact HB.out)⟩
          ·replace c27 := Bool.eq_false_iff.mpr c27
           subst c27
           have H1 : (if x11_1 > 0 then (if 0 ≤ (wrap64 (x11_1 - 1)) then (if (wrap64 (x11_1 - 1)) < (t305.length : Int) then (laws_FnSteady.j2 kj23 t291 t292 t294 t305 x11_1 (rd t305 (wrap64 (x11_1 - 1)))) else (none)) else (none)) else (laws_FnSteady.j2 kj23 t291 t292 t294 t305 x11_1 0)) = some r := by rw [if_neg (show ¬ (false = true) by decide)] at H; exact H
           clear H; have H := H1; clear H1; have HC28 := Aside0.mk H; clear H
           go_upto_if 73 with (fail)
           repeat (go_quiet (fail); go_upto_if 73 with (fail))
           go_cut [12] (fun v12 wc => ∃ (kq : Nat) (x12_27 : Int), v12 = .int .i64 x12_27 ∧ Aside0 (laws_FnSteady.j2 kq t291 t292 t294 t305 x11_1 x12_27 = some r) ∧ Aside0 (kq ≤ kj23) ∧ Aside0 (Kd.R (Kd.int .i64) 2 wc w.heap.size (fun k_ => some k_ ≠ ((.slice Ao18 t292.length co18) : Value).ownBlock ∧ some k_ ≠ ((.slice Ao22 t305.length co22) : Value).ownBlock) (.slice Ao17 t291.length co17) t291) ∧ Aside0 (Kd.R (Kd.int .i64) 2 wc w.heap.size (fun k_ => some k_ ≠ ((.slice Ao17 t291.length co17) : Value).ownBlock ∧ some k_ ≠ ((.slice Ao22 t305.length co22) : Value).ownBlock) (.slice Ao18 t292.length co18) t292) ∧ Aside0 (Kd.R (Kd.int .i64) 2 wc w.heap.size (fun k_ => some k_ ≠ ((.slice Ao17 t291.length co17) : Value).ownBlock ∧ some k_ ≠ ((.slice Ao18 t292.length co18) : Value).ownBlock) (.slice Ao22 t305.length co22) t305) ∧ Aside0 (Below w.heap.size w wc))
           case first =>
            have H := HC28.out; clear HC28
            by_cases c29 : x11_1 > 0
            ·rw [if_pos c29] at H
             have c29b0 : decide (0 < x11_1) = true := decide_eq_true c29
             clear c29
             (first | rw [c29b0] | (simp only [i64_w, i32_w]; rw [c29b0]) | skip)
             obtain ⟨ji30, hji30⟩ : ∃ j_ : Int, (wrap64 (x11_1 - 1)) = j_ := ⟨_, rfl⟩
             replace H : (if 0 ≤ (ji30) then (if (ji30) < (t305.length : Int) then (laws_FnSteady.j2 kj23 t291 t292 t294 t305 x11_1 (rd t305 (ji30))) else (none)) else (none)) = some r := by first | (rw [hji30] at H; exact H) | (simp only [hji30] at H ⊢; exact H)
             have hji30w : (IntKind.i64.wrap (x11_1 - 1)) = ji30 := (i64_w _).trans hji30
             by_cases c31 : 0 ≤ (ji30)
             ·rw [if_pos c31] at H
              have c31b0 : decide (0 ≤ (ji30)) = true := decide_eq_true c31
              clear c31
              by_cases c32 : (ji30) < (t305.length : Int)
              ·rw [if_pos c32] at H
               have c32b0 : decide ((ji30) < (t305.length : Int)) = true := decide_eq_true c32
               clear c32; have H' := Aside0.mk H; clear H
               have p311 : 0 ≤ ((ji30) : Int) := of_decide_eq_true (by first | (with_reducible assumption) | assumption)
               have q311 : (ji30) < (t305.length : Int) := of_decide_eq_true (by first | (with_reducible assumption) | assumption)
               obtain ⟨ad311, e311, hx311_0⟩ := Kd.at_int (Kd.R_reads' HO_9.out).2.2 (ji30) p311 q311
               cases e311
               replace p311 := eq_true p311; replace q311 := eq_true q311
               go_wp2
               repeat (go_quiet (fail); try go_wp2)
               go_meet
               case rel => exact ⟨_, (rd t305 (ji30)), (by first | rfl | (simp; done) | (simp only [← hji30] <;> (first | rfl | simp)) | (simp [*]; done)), H', ⟨by have := HK1.out; have := HJ23.out; first | omega | exact Nat.le_refl _⟩, ⟨by (with_reducible repeat (first | apply Kd.R_alloc | apply Kd.R_drewN | apply Kd.R_drew)); exact HO_3.out⟩, ⟨by (with_reducible repeat (first | apply Kd.R_alloc | apply Kd.R_drewN | apply Kd.R_drew)); exact HO_4.out⟩, ⟨by (with_reducible repeat (first | apply Kd.R_alloc | apply Kd.R_drewN | apply Kd.R_drew)); exact HO_9.out⟩, ⟨by repeat (first | (with_reducible first | exact HB.out | apply below_alloc | apply pw_below_drewN | apply below_drew1) | exact HB.out)⟩⟩
              ·rw [if_neg c32] at H
               exact absurd H (by simp)
             ·rw [if_neg c31] at H
              exact absurd H (by simp)
            ·rw [if_neg c29] at H
             have c29b0 : decide (0 < x11_1) = false := decide_eq_false c29
             clear c29
             (first | rw [c29b0] | (simp only [i64_w, i32_w]; rw [c29b0]) | skip)
             have H' := Aside0.mk H; clear H
             go_wp2
             repeat (go_quiet (fail); try go_wp2)
             go_meet
             case rel => exact ⟨_, (0), (by first | rfl | (simp; done) | (simp [*]; done)), H', ⟨by have := HK1.out; have := HJ23.out; first | omega | exact Nat.le_refl _⟩, ⟨by (with_reducible repeat (first | apply Kd.R_alloc | apply Kd.R_drewN | apply Kd.R_drew)); exact HO_3.out⟩, ⟨by (with_reducible repeat (first | apply Kd.R_alloc | apply Kd.R_drewN | apply Kd.R_drew)); exact HO_4.out⟩, ⟨by (with_reducible repeat (first | apply Kd.R_alloc | apply Kd.R_drewN | apply Kd.R_drew)); exact HO_9.out⟩, ⟨by repeat (first | (with_reducible first | exact HB.out | apply below_alloc | apply pw_below_drewN | apply below_drew1) | exact HB.out)⟩⟩
           case rest =>
            clear HC28; (try clear c1); (try clear c2); (try clear p2); (try clear c3); (try clear p3); (try clear q3); (try clear hx3); (try clear c4); (try clear p6); (try clear c7); (try clear c7b0); (try clear c7b1); (try clear c7b2); (try clear c14); (try clear c15); (try clear c15b0); (try clear c15b1); (try clear c15b2); (try clear c23); (try clear c23b0); (try clear c25); (try clear c25b0); (try clear c26); (try clear c26b0); (try clear c27); (try clear c29); (try clear c29b0); (try clear p30); (try clear q30); (try clear hx30); (try clear c31); (try clear c31b0); (try clear p31); (try clear q31); (try clear hx31); (try clear c32); (try clear c32b0); (try clear hx309_0); (try clear hx310_0); (try clear hx311_0); (try clear p2); (try clear p3); (try clear p309); (try clear p310); (try clear p311); (try clear q3); (try clear q309); (try clear q310); (try clear q311)
            obtain ⟨kq, x12_27, rfl, HA, HJ27, HO_3, HO_4, HO_9, HB⟩ := hcut
            cases kq with
            | zero => exact absurd HA.out (by simp [laws_FnSteady.j2])
            | succ kj27 =>
             have H := HA.out; clear HA
             simp only [laws_FnSteady.j2] at H
             by_cases c33 : 0 ≤ x11_1
             ·rw [if_pos c33] at H
              have c33b0 : decide (0 ≤ x11_1) = true := decide_eq_true c33
              clear c33
              by_cases c34 : x11_1 < (t305.length : Int)
              ·rw [if_pos c34] at H
               have c34b0 : decide (x11_1 < (t305.length : Int)) = true := decide_eq_true c34
               clear c34
               by_cases c35 : (rd t305 x11_1) ≤ x12_27
               ·rw [if_pos c35] at H
                have c35b0 : decide ((rd t305 x11_1) ≤ x12_27) = true := decide_eq_true c35
                clear c35; have H' := Aside0.mk H; clear H
                have p312 : 0 ≤ (x11_1 : Int) := of_decide_eq_true (by first | (with_reducible assumption) | assumption)
                have q312 : x11_1 < (t305.length : Int) := of_decide_eq_true (by first | (with_reducible assumption) | assumption)
                obtain ⟨ad312, e312, hx312_0⟩ := Kd.at_int (Kd.R_reads' HO_9.out).2.2 x11_1 p312 q312
                cases e312
                replace p312 := eq_true p312; replace q312 := eq_true q312
                go_wp2
                repeat (go_quiet (fail); try go_wp2)
                go_roundg kj27
                case measure => have := HK1.out; have := HJ23.out; have := HJ27.out; omega
                case rel => exact ⟨(wrap64 (x11_1 + 1)), (by first | rfl | (simp; done) | (simp [*]; done)), H', ⟨by have := HK1.out; have := HJ23.out; have := HJ27.out; omega⟩, ⟨by (with_reducible repeat (first | apply Kd.R_alloc | apply Kd.R_drewN | apply Kd.R_drew)); exact HO_3.out⟩, ⟨by (with_reducible repeat (first | apply Kd.R_alloc | apply Kd.R_drewN | apply Kd.R_drew)); exact HO_4.out⟩, ⟨by (with_reducible repeat (first | apply Kd.R_alloc | apply Kd.R_drewN | apply Kd.R_drew)); exact HO_9.out⟩, ⟨by repeat (first | (with_reducible first | exact HB.out | apply below_alloc | apply pw_below_drewN | apply below_drew1) | exact HB.out)⟩⟩
               ·rw [if_neg c35] at H
                have c35b0 : decide ((rd t305 x11_1) ≤ x12_27) = false := decide_eq_false c35
                clear c35
                by_cases c36 : x11_1 < (t291.length : Int)
                ·rw [if_pos c36] at H
                 have c36b0 : decide (x11_1 < (t291.length : Int)) = true := decide_eq_true c36
                 clear c36
                 obtain ⟨ji37, hji37⟩ : ∃ j_ : Int, (wrap64 ((rd t305 x11_1) - 1)) = j_ := ⟨_, rfl⟩
                 replace H : (if 0 ≤ (ji37) then (if (ji37) < (t292.length : Int) then (if (rd t291 x11_1) < (rd t292 (ji37)) then (some false) else (laws_FnSteady.l1 kj27 t291 t292 t294 t305 x11_1 x11_1)) else (none)) else (none)) = some r := by first | (rw [hji37] at H; exact H) | (simp only [hji37] at H ⊢; exact H)
                 have hji37w : (IntKind.i64.wrap ((rd t305 x11_1) - 1)) = ji37 := (i64_w _).trans hji37
                 by_cases c38 : 0 ≤ (ji37)
                 ·rw [if_pos c38] at H
                  have c38b0 : decide (0 ≤ (ji37)) = true := decide_eq_true c38
                  clear c38
                  by_cases c39 : (ji37) < (t292.length : Int)
                  ·rw [if_pos c39] at H
                   have c39b0 : decide ((ji37) < (t292.length : Int)) = true := decide_eq_true c39
                   clear c39
                   by_cases c40 : (rd t291 x11_1) < (rd t292 (ji37))
                   ·rw [if_pos c40] at H
                    have c40b0 : decide ((rd t291 x11_1) < (rd t292 (ji37))) = true := decide_eq_true c40
                    clear c40
                    obtain rfl := Option.some.inj H
                    have p312 : 0 ≤ (x11_1 : Int) := of_decide_eq_true (by first | (with_reducible assumption) | assumption)
                    have q312 : x11_1 < (t305.length : Int) := of_decide_eq_true (by first | (with_reducible assumption) | assumption)
                    obtain ⟨ad312, e312, hx312_0⟩ := Kd.at_int (Kd.R_reads' HO_9.out).2.2 x11_1 p312 q312
                    cases e312
                    replace p312 := eq_true p312; replace q312 := eq_true q312
                    have p313 : 0 ≤ (x11_1 : Int) := of_decide_eq_true (by first | (with_reducible assumption) | assumption)
                    have q313 : x11_1 < (t291.length : Int) := of_decide_eq_true (by first | (with_reducible assumption) | assumption)
                    obtain ⟨ad313, e313, hx313_0⟩ := Kd.at_int (Kd.R_reads' HO_3.out).2.2 x11_1 p313 q313
                    cases e313
                    replace p313 := eq_true p313; replace q313 := eq_true q313
                    have p314 : 0 ≤ (x11_1 : Int) := of_decide_eq_true (by first | (with_reducible assumption) | assumption)
                    have q314 : x11_1 < (t305.length : Int) := of_decide_eq_true (by first | (with_reducible assumption) | assumption)
                    obtain ⟨ad314, e314, hx314_0⟩ := Kd.at_int (Kd.R_reads' HO_9.out).2.2 x11_1 p314 q314
                    obtain rfl : ad312 = ad314 := (by injection e314)
                    replace p314 := eq_true p314; replace q314 := eq_true q314
                    have p315 : 0 ≤ ((ji37) : Int) := of_decide_eq_true (by first | (with_reducible assumption) | assumption)
                    have q315 : (ji37) < (t292.length : Int) := of_decide_eq_true (by first | (with_reducible assumption) | assumption)
                    obtain ⟨ad315, e315, hx315_0⟩ := Kd.at_int (Kd.R_reads' HO_4.out).2.2 (ji37) p315 q315
                    cases e315
                    replace p315 := eq_true p315; replace q315 := eq_true q315
                    go_wp2
                    repeat (go_quiet (fail); try go_wp2)
                    go_ret
                    exact ⟨by first | rfl | (simp [errW_none, errW_some] <;> rfl) | (simp only [← hji37]; first | rfl | (simp [errW_none, errW_some] <;> rfl)) | (simp [*, errW_none, errW_some] <;> rfl), by repeat (first | (with_reducible first | exact HB.out | apply below_alloc | apply pw_below_drewN | apply below_drew1) | exact HB.out)⟩
                   ·rw [if_neg c40] at H
                    have c40b0 : decide ((rd t291 x11_1) < (rd t292 (ji37))) = false := decide_eq_false c40
                    clear c40; have H' := Aside0.mk H; clear H
                    have p312 : 0 ≤ (x11_1 : Int) := of_decide_eq_true (by first | (with_reducible assumption) | assumption)
                    have q312 : x11_1 < (t305.length : Int) := of_decide_eq_true (by first | (with_reducible assumption) | assumption)
                    obtain ⟨ad312, e312, hx312_0⟩ := Kd.at_int (Kd.R_reads' HO_9.out).2.2 x11_1 p312 q312
                    cases e312
                    replace p312 := eq_true p312; replace q312 := eq_true q312
                    have p313 : 0 ≤ (x11_1 : Int) := of_decide_eq_true (by first | (with_reducible assumption) | assumption)
                    have q313 : x11_1 < (t291.length : Int) := of_decide_eq_true (by first | (with_reducible assumption) | assumption)
                    obtain ⟨ad313, e313, hx313_0⟩ := Kd.at_int (Kd.R_reads' HO_3.out).2.2 x11_1 p313 q313
                    cases e313
                    replace p313 := eq_true p313; replace q313 := eq_true q313
                    have p314 : 0 ≤ (x11_1 : Int) := of_decide_eq_true (by first | (with_reducible assumption) | assumption)
                    have q314 : x11_1 < (t305.length : Int) := of_decide_eq_true (by first | (with_reducible assumption) | assumption)
                    obtain ⟨ad314, e314, hx314_0⟩ := Kd.at_int (Kd.R_reads' HO_9.out).2.2 x11_1 p314 q314
                    obtain rfl : ad312 = ad314 := (by injection e314)
                    replace p314 := eq_true p314; replace q314 := eq_true q314
                    have p315 : 0 ≤ ((ji37) : Int) := of_decide_eq_true (by first | (with_reducible assumption) | assumption)
                    have q315 : (ji37) < (t292.length : Int) := of_decide_eq_true (by first | (with_reducible assumption) | assumption)
                    obtain ⟨ad315, e315, hx315_0⟩ := Kd.at_int (Kd.R_reads' HO_4.out).2.2 (ji37) p315 q315
                    cases e315
                    replace p315 := eq_true p315; replace q315 := eq_true q315
                    go_wp2
                    repeat (go_quiet (fail); try go_wp2)
                    go_loopg [13] kj27 (fun kq v13 w' => ∃ (x13_4 : Int), v13 = .int .i64 x13_4 ∧ Aside0 (laws_FnSteady.l1 kq t291 t292 t294 t305 x11_1 x13_4 = some r) ∧ Aside0 (kq ≤ kj27) ∧ Aside0 (Kd.R (Kd.int .i64) 2 w' w.heap.size (fun k_ => some k_ ≠ ((.slice (some ad315) t292.length co18) : Value).ownBlock ∧ some k_ ≠ ((.slice (some ad312) t305.length co22) : Value).ownBlock) (.slice (some ad313) t291.length co17) t291) ∧ Aside0 (Kd.R (Kd.int .i64) 2 w' w.heap.size (fun k_ => some k_ ≠ ((.slice (some ad313) t291.length co17) : Value).ownBlock ∧ some k_ ≠ ((.slice (some ad312) t305.length co22) : Value).ownBlock) (.slice (some ad315) t292.length co18) t292) ∧ Aside0 (Kd.R (Kd.int .i64) 2 w' w.heap.size (fun k_ => some k_ ≠ ((.slice (some ad313) t291.length co17) : Value).ownBlock ∧ some k_ ≠ ((.slice (some ad315) t292.length co18) : Value).ownBlock) (.slice (some ad312) t305.length co22) t305) ∧ Aside0 (Below w.heap.size w w'))
                    case atStart => exact ⟨(x11_1), (by first | rfl | (simp; done) | (simp [*]; done)), H', ⟨Nat.le_refl _⟩, ⟨by (with_reducible repeat (first | apply Kd.R_alloc | apply Kd.R_drewN | apply Kd.R_drew)); exact HO_3.out⟩, ⟨by (with_reducible repeat (first | apply Kd.R_alloc | apply Kd.R_drewN | apply Kd.R_drew)); exact HO_4.out⟩, ⟨by (with_reducible repeat (first | apply Kd.R_alloc | apply Kd.R_drewN | apply Kd.R_drew)); exact HO_9.out⟩, ⟨by repeat (first | (with_reducible first | exact HB.out | apply below_alloc | apply pw_below_drewN | apply below_drew1) | exact HB.out)⟩⟩
                    case round =>
                     clear H'; (try clear c1); (try clear c2); (try clear p2); (try clear c3); (try clear p3); (try clear q3); (try clear hx3); (try clear c4); (try clear p6); (try clear c7); (try clear c7b0); (try clear c7b1); (try clear c7b2); (try clear c14); (try clear c15); (try clear c15b0); (try clear c15b1); (try clear c15b2); (try clear c23); (try clear c23b0); (try clear c25); (try clear c25b0); (try clear c26); (try clear c26b0); (try clear c27); (try clear c29); (try clear c29b0); (try clear p30); (try clear q30); (try clear hx30); (try clear c31); (try clear c31b0); (try clear p31); (try clear q31); (try clear hx31); (try clear c32); (try clear c32b0); (try clear c33); (try clear c33b0); (try clear c34); (try clear c34b0); (try clear c35); (try clear c35b0); (try clear c36); (try clear c36b0); (try clear c38); (try clear c38b0); (try clear c39); (try clear c39b0); (try clear c40); (try clear c40b0); (try clear hx309_0); (try clear hx310_0); (try clear hx311_0); (try clear hx312_0); (try clear hx313_0); (try clear hx314_0); (try clear hx315_0); (try clear p2); (try clear p3); (try clear p30); (try clear p309); (try clear p31); (try clear p310); (try clear p311); (try clear p312); (try clear p313); (try clear p314); (try clear p315); (try clear p6); (try clear q3); (try clear q30); (try clear q309); (try clear q31); (try clear q310); (try clear q311); (try clear q312); (try clear q313); (try clear q314); (try clear q315)
                     obtain ⟨x13_4, rfl, HA, HK4, HO_3, HO_4, HO_9, HB⟩ := hrel
                     cases gk with
                     | zero => exact absurd HA.out (by simp [laws_FnSteady.l1])
                     | succ k4 =>
                      have H := HA.out; clear HA
                      simp only [laws_FnSteady.l1] at H
                      have HC41 := Aside0.mk H; clear H
                      go_upto_region 24 with (fail)
                      repeat (go_quiet (fail); go_upto_region 24 with (fail))
                      go_cut [109] (fun v109 wc => ∃ (kq : Nat) (x109_40 : Bool), v109 = .bool x109_40 ∧ Aside0 (laws_FnSteady.j4 kq t291 t292 t294 t305 x11_1 x13_4 x109_40 = some r) ∧ Aside0 (kq ≤ k4) ∧ Aside0 (Kd.R (Kd.int .i64) 2 wc w.heap.size (fun k_ => some k_ ≠ ((.slice (some ad315) t292.length co18) : Value).ownBlock ∧ some k_ ≠ ((.slice (some ad312) t305.length co22) : Value).ownBlock) (.slice (some ad313) t291.length co17) t291) ∧ Aside0 (Kd.R (Kd.int .i64) 2 wc w.heap.size (fun k_ => some k_ ≠ ((.slice (some ad313) t291.length co17) : Value).ownBlock ∧ some k_ ≠ ((.slice (some ad312) t305.length co22) : Value).ownBlock) (.slice (some ad315) t292.length co18) t292) ∧ Aside0 (Kd.R (Kd.int .i64) 2 wc w.heap.size (fun k_ => some k_ ≠ ((.slice (some ad313) t291.length co17) : Value).ownBlock ∧ some k_ ≠ ((.slice (some ad315) t292.length co18) : Value).ownBlock) (.slice (some ad312) t305.length co22) t305) ∧ Aside0 (Below w.heap.size w wc))
                      case first =>
                       have H := HC41.out; clear HC41
                       by_cases c42 : x13_4 < (t305.length : Int)
                       ·rw [if_pos c42] at H
                        have c42b0 : decide (x13_4 < (t305.length : Int)) = true := decide_eq_true c42
                        clear c42
                        (first | rw [c42b0] | (simp only [i64_w, i32_w]; rw [c42b0]) | skip)
                        have H' := Aside0.mk H; clear H
                        go_wp2
                        repeat (go_quiet (fail); try go_wp2)
                        go_meet
                        case rel => exact ⟨_, (decide ((wrap64 (x13_4 - x11_1)) < t294)), (by first | rfl | (simp; done) | (simp [*]; done)), H', ⟨by have := HK1.out; have := HJ23.out; have := HJ27.out; have := HK4.out; first | omega | exact Nat.le_refl _⟩, ⟨by (with_reducible repeat (first | apply Kd.R_alloc | apply Kd.R_drewN | apply Kd.R_drew)); exact HO_3.out⟩, ⟨by (with_reducible repeat (first | apply Kd.R_alloc | apply Kd.R_drewN | apply Kd.R_drew)); exact HO_4.out⟩, ⟨by (with_reducible repeat (first | apply Kd.R_alloc | apply Kd.R_drewN | apply Kd.R_drew)); exact HO_9.out⟩, ⟨by repeat (first | (with_reducible first | exact HB.out | apply below_alloc | apply pw_below_drewN | apply below_drew1) | exact HB.out)⟩⟩
                       ·rw [if_neg c42] at H
                        have c42b0 : decide (x13_4 < (t305.length : Int)) = false := decide_eq_false c42
                        clear c42
                        (first | rw [c42b0] | (simp only [i64_w, i32_w]; rw [c42b0]) | skip)
                        have H' := Aside0.mk H; clear H
                        go_wp2
                        repeat (go_quiet (fail); try go_wp2)
                        go_meet
                        case rel => exact ⟨_, (false), (by first | rfl | (simp; done) | (simp [*]; done)), H', ⟨by have := HK1.out; have := HJ23.out; have := HJ27.out; have := HK4.out; first | omega | exact Nat.le_refl _⟩, ⟨by (with_reducible repeat (first | apply Kd.R_alloc | apply Kd.R_drewN | apply Kd.R_drew)); exact HO_3.out⟩, ⟨by (with_reducible repeat (first | apply Kd.R_alloc | apply Kd.R_drewN | apply Kd.R_drew)); exact HO_4.out⟩, ⟨by (with_reducible repeat (first | apply Kd.R_alloc | apply Kd.R_drewN | apply Kd.R_drew)); exact HO_9.out⟩, ⟨by repeat (first | (with_reducible first | exact HB.out | apply below_alloc | apply pw_below_drewN | apply below_drew1) | exact HB.out)⟩⟩
                      case rest =>
                       clear HC41; (try clear c1); (try clear c2); (try clear p2); (try clear c3); (try clear p3); (try clear q3); (try clear hx3); (try clear c4); (try clear p6); (try clear c7); (try clear c7b0); (try clear c7b1); (try clear c7b2); (try clear c14); (try clear c15); (try clear c15b0); (try clear c15b1); (try clear c15b2); (try clear c23); (try clear c23b0); (try clear c25); (try clear c25b0); (try clear c26); (try clear c26b0); (try clear c27); (try clear c29); (try clear c29b0); (try clear p30); (try clear q30); (try clear hx30); (try clear c31); (try clear c31b0); (try clear p31); (try clear q31); (try clear hx31); (try clear c32); (try clear c32b0); (try clear c33); (try clear c33b0); (try clear c34); (try clear c34b0); (try clear c35); (try clear c35b0); (try clear c36); (try clear c36b0); (try clear c38); (try clear c38b0); (try clear c39); (try clear c39b0); (try clear c40); (try clear c40b0); (try clear c42); (try clear c42b0); (try clear hx309_0); (try clear hx310_0); (try clear hx311_0); (try clear hx312_0); (try clear hx313_0); (try clear hx314_0); (try clear hx315_0); (try clear p2); (try clear p3); (try clear p30); (try clear p309); (try clear p31); (try clear p310); (try clear p311); (try clear p312); (try clear p313); (try clear p314); (try clear p315); (try clear p6); (try clear q3); (try clear q30); (try clear q309); (try clear q31); (try clear q310); (try clear q311); (try clear q312); (try clear q313); (try clear q314); (try clear q315)
                       obtain ⟨kq, x109_40, rfl, HA, HJ40, HO_3, HO_4, HO_9, HB⟩ := hcut
                       cases kq with
                       | zero => exact absurd HA.out (by simp [laws_FnSteady.j4])
                       | succ kj40 =>
                        have H := HA.out; clear HA
                        simp only [laws_FnSteady.j4] at H
                        by_cases c43 : x109_40 = true
                        ·subst c43
                         have H1 : (if 0 ≤ x13_4 then (if x13_4 < (t305.length : Int) then (if 0 ≤ x11_1 then (if x11_1 < (t305.length : Int) then (if (rd t305 x13_4) < (rd t305 x11_1) then (some false) else (laws_FnSteady.l1 kj40 t291 t292 t294 t305 x11_1 (wrap64 (x13_4 + 1)))) else (none)) else (none)) else (none)) else (none)) = some r := by rw [if_pos rfl] at H; exact H
                         clear H; have H := H1; clear H1
                         by_cases c44 : 0 ≤ x13_4
                         ·rw [if_pos c44] at H
                          have c44b0 : decide (0 ≤ x13_4) = true := decide_eq_true c44
                          clear c44
                          by_cases c45 : x13_4 < (t305.length : Int)
                          ·rw [if_pos c45] at H
                           have c45b0 : decide (x13_4 < (t305.length : Int)) = true := decide_eq_true c45
                           clear c45
                           by_cases c46 : 0 ≤ x11_1
                           ·rw [if_pos c46] at H
                            have c46b0 : decide (0 ≤ x11_1) = true := decide_eq_true c46
                            clear c46
                            by_cases c47 : x11_1 < (t305.length : Int)
                            ·rw [if_pos c47] at H
                             have c47b0 : decide (x11_1 < (t305.length : Int)) = true := decide_eq_true c47
                             clear c47
                             by_cases c48 : (rd t305 x13_4) < (rd t305 x11_1)
                             ·rw [if_pos c48] at H
                              have c48b0 : decide ((rd t305 x13_4) < (rd t305 x11_1)) = true := decide_eq_true c48
                              clear c48
                              obtain rfl := Option.some.inj H
                              have p316 : 0 ≤ (x13_4 : Int) := of_decide_eq_true (by first | (with_reducible assumption) | assumption)
                              have q316 : x13_4 < (t305.length : Int) := of_decide_eq_true (by first | (with_reducible assumption) | assumption)
                              obtain ⟨ad316, e316, hx316_0⟩ := Kd.at_int (Kd.R_reads' HO_9.out).2.2 x13_4 p316 q316
                              obtain rfl : ad312 = ad316 := (by injection e316)
                              replace p316 := eq_true p316; replace q316 := eq_true q316
                              have p317 : 0 ≤ (x11_1 : Int) := of_decide_eq_true (by first | (with_reducible assumption) | assumption)
                              have q317 : x11_1 < (t305.length : Int) := of_decide_eq_true (by first | (with_reducible assumption) | assumption)
                              obtain ⟨ad317, e317, hx317_0⟩ := Kd.at_int (Kd.R_reads' HO_9.out).2.2 x11_1 p317 q317
                              obtain rfl : ad312 = ad317 := (by injection e317)
                              replace p317 := eq_true p317; replace q317 := eq_true q317
                              go_wp2
                              repeat (go_quiet (fail); try go_wp2)
                              go_ret
                              exact ⟨by first | rfl | (simp [errW_none, errW_some] <;> rfl) | (simp only [← hji37]; first | rfl | (simp [errW_none, errW_some] <;> rfl)) | (simp [*, errW_none, errW_some] <;> rfl), by repeat (first | (with_reducible first | exact HB.out | apply below_alloc | apply pw_below_drewN | apply below_drew1) | exact HB.out)⟩
                             ·rw [if_neg c48] at H
                              have c48b0 : decide ((rd t305 x13_4) < (rd t305 x11_1)) = false := decide_eq_false c48
                              clear c48; have H' := Aside0.mk H; clear H
                              have p316 : 0 ≤ (x13_4 : Int) := of_decide_eq_true (by first | (with_reducible assumption) | assumption)
                              have q316 : x13_4 < (t305.length : Int) := of_decide_eq_true (by first | (with_reducible assumption) | assumption)
                              obtain ⟨ad316, e316, hx316_0⟩ := Kd.at_int (Kd.R_reads' HO_9.out).2.2 x13_4 p316 q316
                              obtain rfl : ad312 = ad316 := (by injection e316)
                              replace p316 := eq_true p316; replace q316 := eq_true q316
                              have p317 : 0 ≤ (x11_1 : Int) := of_decide_eq_true (by first | (with_reducible assumption) | assumption)
                              have q317 : x11_1 < (t305.length : Int) := of_decide_eq_true (by first | (with_reducible assumption) | assumption)
                              obtain ⟨ad317, e317, hx317_0⟩ := Kd.at_int (Kd.R_reads' HO_9.out).2.2 x11_1 p317 q317
                              obtain rfl : ad312 = ad317 := (by injection e317)
                              replace p317 := eq_true p317; replace q317 := eq_true q317
                              go_wp2
                              repeat (go_quiet (fail); try go_wp2)
                              go_roundg kj40
                              case measure => have := HK1.out; have := HJ23.out; have := HJ27.out; have := HK4.out; have := HJ40.out; omega
                              case rel => exact ⟨(wrap64 (x13_4 + 1)), (by first | rfl | (simp; done) | (simp [*]; done)), H', ⟨by have := HK1.out; have := HJ23.out; have := HJ27.out; have := HK4.out; have := HJ40.out; omega⟩, ⟨by (with_reducible repeat (first | apply Kd.R_alloc | apply Kd.R_drewN | apply Kd.R_drew)); exact HO_3.out⟩, ⟨by (with_reducible repeat (first | apply Kd.R_alloc | apply Kd.R_drewN | apply Kd.R_drew)); exact HO_4.out⟩, ⟨by (with_reducible repeat (first | apply Kd.R_alloc | apply Kd.R_drewN | apply Kd.R_drew)); exact HO_9.out⟩, ⟨by repeat (first | (with_reducible first | exact HB.out | apply below_alloc | apply pw_below_drewN | apply below_drew1) | exact HB.out)⟩⟩
                            ·rw [if_neg c47] at H
                             exact absurd H (by simp)
                           ·rw [if_neg c46] at H
                            exact absurd H (by simp)
                          ·rw [if_neg c45] at H
                           exact absurd H (by simp)
                         ·rw [if_neg c44] at H
                          exact absurd H (by simp)
                        ·replace c43 := Bool.eq_false_iff.mpr c43
                         subst c43
                         have H1 : (laws_FnSteady.l0 kj40 t291 t292 t294 t305 (wrap64 (x11_1 + 1))) = some r := by rw [if_neg (show ¬ (false = true) by decide)] at H; exact H
                         clear H; have H := H1; clear H1; have H' := Aside0.mk H; clear H
                         go_wp2
                         repeat (go_quiet (fail); try go_wp2)
                         go_roundg kj40
                         case measure => have := HK1.out; have := HJ23.out; have := HJ27.out; have := HK4.out; have := HJ40.out; omega
                         case rel => exact ⟨(wrap64 (x11_1 + 1)), (by first | rfl | (simp; done) | (simp [*]; done)), H', ⟨by have := HK1.out; have := HJ23.out; have := HJ27.out; have := HK4.out; have := HJ40.out; omega⟩, ⟨by (with_reducible repeat (first | apply Kd.R_alloc | apply Kd.R_drewN | apply Kd.R_drew)); exact HO_3.out⟩, ⟨by (with_reducible repeat (first | apply Kd.R_alloc | apply Kd.R_drewN | apply Kd.R_drew)); exact HO_4.out⟩, ⟨by (with_reducible repeat (first | apply Kd.R_alloc | apply Kd.R_drewN | apply Kd.R_drew)); exact HO_9.out⟩, ⟨by repeat (first | (with_reducible first | exact HB.out | apply below_alloc | apply pw_below_drewN | apply below_drew1) | exact HB.out)⟩⟩
                  ·rw [if_neg c39] at H
                   exact absurd H (by simp)
                 ·rw [if_neg c38] at H
                  exact absurd H (by simp)
                ·rw [if_neg c36] at H
                 exact absurd H (by simp)
              ·rw [if_neg c34] at H
               exact absurd H (by simp)
             ·rw [if_neg c33] at H
              exact absurd H (by simp)
       ·rw [if_neg c23] at H
        have c23b0 : decide (x11_1 < (t305.length : Int)) = false := decide_eq_false c23
        clear c23
        obtain rfl := Option.some.inj H
        go_wp2
        repeat (go_quiet (fail); try go_wp2)
        go_ret
        exact ⟨by first | rfl | (simp [errW_none, errW_some] <;> rfl) | (simp [*, errW_none, errW_some] <;> rfl), by repeat (first | (with_reducible first | exact HB.out | apply below_alloc | apply pw_below_drewN | apply below_drew1) | exact HB.out)⟩
    ·rw [if_neg c15] at H
     have c15b0 : ((t305.length : Int) == (t291.length : Int)) = false := beq_eq_false_iff_ne.mpr c15
     have c15b1 : ((t305.length : Int) != (t291.length : Int)) = true := bne_iff_ne.mpr c15
     have c15b2 : (t305.length == t291.length) = false := by first | simpa using c15 | (simp at c15 ⊢; omega)
     obtain rfl := Option.some.inj H
     go_enter Try.func4, Try.ntmps4
     go_wp2_with (first | (go_at_call 8; (with_reducible refine (laws_big.calls _ _ l0 false _ ?side1 ?side2 A2.out).mono ?_); (case side1 => repeat (first | exact HR0.out | (with_reducible refine Kd.C_alloc ?_ _) | (with_reducible refine Kd.C_drewN ?_ _) | (with_reducible refine Kd.C_drew ?_))); (case side2 => exact HC0.out); rintro e w' ⟨rfl, ⟨nd, rfl⟩⟩; (try first | exact ⟨rfl, _, World.drewN_drewN _ _ _⟩ | exact ⟨rfl, _, Eq.trans (World.drewN_drewN _ _ _) (congrArg (World.drewN _) (Nat.add_assoc _ _ _))⟩)) | (go_at_call 16; (with_reducible refine (spec_DrawLevels.calls k _ _ l0 t291 t292 t293 t294 _ ?side1 ?side2 A4.out).mono ?_); (case side1 => repeat (first | exact HR0.out | (with_reducible refine Kd.C_alloc ?_ _) | (with_reducible refine Kd.C_drewN ?_ _) | (with_reducible refine Kd.C_drew ?_))); (case side2 => exact HC0.out); rintro e w49 ⟨v295, v297, v299, rfl, ho0, ho1, ho2, hb⟩; have HO296 := rL_ ho0 HB; have HO298 := rL_ ho1 HB; have HO300 := rL_ ho2 HB; replace HB := bS_ HB hb; (try clear hb); (try clear hb2); (try clear hk); (try clear hi); (try clear ho0); (try clear ho1); (try clear ho2); obtain ⟨Ao50, co50, eo50⟩ := Kd.R_slice HO296.out; subst eo50; obtain ⟨Ao51, co51, eo51⟩ := Kd.R_slice HO298.out; subst eo51; obtain ⟨Ao52, co52, eo52⟩ := Kd.R_slice HO300.out; subst eo52) | (go_at_call 17; (with_reducible refine (spec_Levels.calls k _ _ t291 _ _ t292 _ _ t293 t294 t301 true _ ?side1 ?side2 ?side3 ?side4 ?side5 ?side6 A5.out).mono ?_); (case side1 => exact rD_ HO296); (case side2 => exact (Kd.R_reads' HO296.out).2.1); (case side3 => exact rD_ HO298); (case side4 => exact (Kd.R_reads' HO298.out).2.1); (case side5 => exact rD_ HO300); (case side6 => exact (Kd.R_reads' HO300.out).2.1); rintro e w53 ⟨v303, rfl, ho0, hb⟩; have HO304 := rL_ (rN_ (rN_ (rN_ ho0 HO296) HO298) HO300) HB; replace HO296 := rE_ HO296 ho0 hb; replace HO298 := rE_ HO298 ho0 hb; replace HO300 := rE_ HO300 ho0 hb; replace HB := bS_ HB hb; (try clear hb); (try clear hb2); (try clear hk); (try clear hi); (try clear ho0)) | (go_at_call 18; (with_reducible refine (impl_Levels.calls k _ _ t291 _ _ t292 _ _ t293 t294 t305 t306 _ ?side1 ?side2 ?side3 ?side4 ?side5 ?side6 A6.out).mono ?_); (case side1 => exact rD_ HO296); (case side2 => exact (Kd.R_reads' HO296.out).2.1); (case side3 => exact rD_ HO298); (case side4 => exact (Kd.R_reads' HO298.out).2.1); (case side5 => exact rD_ HO300); (case side6 => exact (Kd.R_reads' HO300.out).2.1); rintro e w54 ⟨v307, rfl, ho0, hb⟩; have HO308 := rL_ (rN_ (rN_ (rN_ (rN_ ho0 HO296) HO298) HO300) HO304) HB; replace HO296 := rE_ HO296 ho0 hb; replace HO298 := rE_ HO298 ho0 hb; replace HO300 := rE_ HO300 ho0 hb; replace HO304 := rE_ HO304 ho0 hb; replace HB := bS_ HB hb; (try clear hb); (try clear hb2); (try clear hk); (try clear hi); (try clear ho0); obtain ⟨Ao55, co55, eo55⟩ := Kd.R_slice HO308.out; subst eo55))
     repeat (go_quiet (first | (go_at_call 8; (with_reducible refine (laws_big.calls _ _ l0 false _ ?side1 ?side2 A2.out).mono ?_); (case side1 => repeat (first | exact HR0.out | (with_reducible refine Kd.C_alloc ?_ _) | (with_reducible refine Kd.C_drewN ?_ _) | (with_reducible refine Kd.C_drew ?_))); (case side2 => exact HC0.out); rintro e w' ⟨rfl, ⟨nd, rfl⟩⟩; (try first | exact ⟨rfl, _, World.drewN_drewN _ _ _⟩ | exact ⟨rfl, _, Eq.trans (World.drewN_drewN _ _ _) (congrArg (World.drewN _) (Nat.add_assoc _ _ _))⟩)) ); try go_wp2_with (first | (go_at_call 8; (with_reducible refine (laws_big.calls _ _ l0 false _ ?side1 ?side2 A2.out).mono ?_); (case side1 => repeat (first | exact HR0.out | (with_reducible refine Kd.C_alloc ?_ _) | (with_reducible refine Kd.C_drewN ?_ _) | (with_reducible refine Kd.C_drew ?_))); (case side2 => exact HC0.out); rintro e w' ⟨rfl, ⟨nd, rfl⟩⟩; (try first | exact ⟨rfl, _, World.drewN_drewN _ _ _⟩ | exact ⟨rfl, _, Eq.trans (World.drewN_drewN _ _ _) (congrArg (World.drewN _) (Nat.add_assoc _ _ _))⟩)) | (go_at_call 16; (with_reducible refine (spec_DrawLevels.calls k _ _ l0 t291 t292 t293 t294 _ ?side1 ?side2 A4.out).mono ?_); (case side1 => repeat (first | exact HR0.out | (with_reducible refine Kd.C_alloc ?_ _) | (with_reducible refine Kd.C_drewN ?_ _) | (with_reducible refine Kd.C_drew ?_))); (case side2 => exact HC0.out); rintro e w49 ⟨v295, v297, v299, rfl, ho0, ho1, ho2, hb⟩; have HO296 := rL_ ho0 HB; have HO298 := rL_ ho1 HB; have HO300 := rL_ ho2 HB; replace HB := bS_ HB hb; (try clear hb); (try clear hb2); (try clear hk); (try clear hi); (try clear ho0); (try clear ho1); (try clear ho2); obtain ⟨Ao50, co50, eo50⟩ := Kd.R_slice HO296.out; subst eo50; obtain ⟨Ao51, co51, eo51⟩ := Kd.R_slice HO298.out; subst eo51; obtain ⟨Ao52, co52, eo52⟩ := Kd.R_slice HO300.out; subst eo52) | (go_at_call 17; (with_reducible refine (spec_Levels.calls k _ _ t291 _ _ t292 _ _ t293 t294 t301 true _ ?side1 ?side2 ?side3 ?side4 ?side5 ?side6 A5.out).mono ?_); (case side1 => exact rD_ HO296); (case side2 => exact (Kd.R_reads' HO296.out).2.1); (case side3 => exact rD_ HO298); (case side4 => exact (Kd.R_reads' HO298.out).2.1); (case side5 => exact rD_ HO300); (case side6 => exact (Kd.R_reads' HO300.out).2.1); rintro e w53 ⟨v303, rfl, ho0, hb⟩; have HO304 := rL_ (rN_ (rN_ (rN_ ho0 HO296) HO298) HO300) HB; replace HO296 := rE_ HO296 ho0 hb; replace HO298 := rE_ HO298 ho0 hb; replace HO300 := rE_ HO300 ho0 hb; replace HB := bS_ HB hb; (try clear hb); (try clear hb2); (try clear hk); (try clear hi); (try clear ho0)) | (go_at_call 18; (with_reducible refine (impl_Levels.calls k _ _ t291 _ _ t292 _ _ t293 t294 t305 t306 _ ?side1 ?side2 ?side3 ?side4 ?side5 ?side6 A6.out).mono ?_); (case side1 => exact rD_ HO296); (case side2 => exact (Kd.R_reads' HO296.out).2.1); (case side3 => exact rD_ HO298); (case side4 => exact (Kd.R_reads' HO298.out).2.1); (case side5 => exact rD_ HO300); (case side6 => exact (Kd.R_reads' HO300.out).2.1); rintro e w54 ⟨v307, rfl, ho0, hb⟩; have HO308 := rL_ (rN_ (rN_ (rN_ (rN_ ho0 HO296) HO298) HO300) HO304) HB; replace HO296 := rE_ HO296 ho0 hb; replace HO298 := rE_ HO298 ho0 hb; replace HO300 := rE_ HO300 ho0 hb; replace HO304 := rE_ HO304 ho0 hb; replace HB := bS_ HB hb; (try clear hb); (try clear hb2); (try clear hk); (try clear hi); (try clear ho0); obtain ⟨Ao55, co55, eo55⟩ := Kd.R_slice HO308.out; subst eo55)))
     go_ret
     exact ⟨by first | rfl | (simp [errW_none, errW_some] <;> rfl) | (simp [*, errW_none, errW_some] <;> rfl), by repeat (first | (with_reducible first | exact HB.out | apply below_alloc | apply pw_below_drewN | apply below_drew1) | exact HB.out)⟩
   ·replace c14 := Bool.eq_false_iff.mpr c14
    subst c14
    have H1 : (some ((t305.length : Int) == 0)) = some r := by rw [if_neg (show ¬ (false = true) by decide)] at H; exact H
    clear H; have H := H1; clear H1
    obtain rfl := Option.some.inj H
    go_enter Try.func4, Try.ntmps4
    go_wp2_with (first | (go_at_call 8; (with_reducible refine (laws_big.calls _ _ l0 false _ ?side1 ?side2 A2.out).mono ?_); (case side1 => repeat (first | exact HR0.out | (with_reducible refine Kd.C_alloc ?_ _) | (with_reducible refine Kd.C_drewN ?_ _) | (with_reducible refine Kd.C_drew ?_))); (case side2 => exact HC0.out); rintro e w' ⟨rfl, ⟨nd, rfl⟩⟩; (try first | exact ⟨rfl, _, World.drewN_drewN _ _ _⟩ | exact ⟨rfl, _, Eq.trans (World.drewN_drewN _ _ _) (congrArg (World.drewN _) (Nat.add_assoc _ _ _))⟩)) | (go_at_call 16; (with_reducible refine (spec_DrawLevels.calls k _ _ l0 t291 t292 t293 t294 _ ?side1 ?side2 A4.out).mono ?_); (case side1 => repeat (first | exact HR0.out | (with_reducible refine Kd.C_alloc ?_ _) | (with_reducible refine Kd.C_drewN ?_ _) | (with_reducible refine Kd.C_drew ?_))); (case side2 => exact HC0.out); rintro e w56 ⟨v295, v297, v299, rfl, ho0, ho1, ho2, hb⟩; have HO296 := rL_ ho0 HB; have HO298 := rL_ ho1 HB; have HO300 := rL_ ho2 HB; replace HB := bS_ HB hb; (try clear hb); (try clear hb2); (try clear hk); (try clear hi); (try clear ho0); (try clear ho1); (try clear ho2); obtain ⟨Ao57, co57, eo57⟩ := Kd.R_slice HO296.out; subst eo57; obtain ⟨Ao58, co58, eo58⟩ := Kd.R_slice HO298.out; subst eo58; obtain ⟨Ao59, co59, eo59⟩ := Kd.R_slice HO300.out; subst eo59) | (go_at_call 17; (with_reducible refine (spec_Levels.calls k _ _ t291 _ _ t292 _ _ t293 t294 t301 false _ ?side1 ?side2 ?side3 ?side4 ?side5 ?side6 A5.out).mono ?_); (case side1 => exact rD_ HO296); (case side2 => exact (Kd.R_reads' HO296.out).2.1); (case side3 => exact rD_ HO298); (case side4 => exact (Kd.R_reads' HO298.out).2.1); (case side5 => exact rD_ HO300); (case side6 => exact (Kd.R_reads' HO300.out).2.1); rintro e w60 ⟨v303, rfl, ho0, hb⟩; have HO304 := rL_ (rN_ (rN_ (rN_ ho0 HO296) HO298) HO300) HB; replace HO296 := rE_ HO296 ho0 hb; replace HO298 := rE_ HO298 ho0 hb; replace HO300 := rE_ HO300 ho0 hb; replace HB := bS_ HB hb; (try clear hb); (try clear hb2); (try clear hk); (try clear hi); (try clear ho0)) | (go_at_call 18; (with_reducible refine (impl_Levels.calls k _ _ t291 _ _ t292 _ _ t293 t294 t305 t306 _ ?side1 ?side2 ?side3 ?side4 ?side5 ?side6 A6.out).mono ?_); (case side1 => exact rD_ HO296); (case side2 => exact (Kd.R_reads' HO296.out).2.1); (case side3 => exact rD_ HO298); (case side4 => exact (Kd.R_reads' HO298.out).2.1); (case side5 => exact rD_ HO300); (case side6 => exact (Kd.R_reads' HO300.out).2.1); rintro e w61 ⟨v307, rfl, ho0, hb⟩; have HO308 := rL_ (rN_ (rN_ (rN_ (rN_ ho0 HO296) HO298) HO300) HO304) HB; replace HO296 := rE_ HO296 ho0 hb; replace HO298 := rE_ HO298 ho0 hb; replace HO300 := rE_ HO300 ho0 hb; replace HO304 := rE_ HO304 ho0 hb; replace HB := bS_ HB hb; (try clear hb); (try clear hb2); (try clear hk); (try clear hi); (try clear ho0); obtain ⟨Ao62, co62, eo62⟩ := Kd.R_slice HO308.out; subst eo62))
    repeat (go_quiet (first | (go_at_call 8; (with_reducible refine (laws_big.calls _ _ l0 false _ ?side1 ?side2 A2.out).mono ?_); (case side1 => repeat (first | exact HR0.out | (with_reducible refine Kd.C_alloc ?_ _) | (with_reducible refine Kd.C_drewN ?_ _) | (with_reducible refine Kd.C_drew ?_))); (case side2 => exact HC0.out); rintro e w' ⟨rfl, ⟨nd, rfl⟩⟩; (try first | exact ⟨rfl, _, World.drewN_drewN _ _ _⟩ | exact ⟨rfl, _, Eq.trans (World.drewN_drewN _ _ _) (congrArg (World.drewN _) (Nat.add_assoc _ _ _))⟩)) ); try go_wp2_with (first | (go_at_call 8; (with_reducible refine (laws_big.calls _ _ l0 false _ ?side1 ?side2 A2.out).mono ?_); (case side1 => repeat (first | exact HR0.out | (with_reducible refine Kd.C_alloc ?_ _) | (with_reducible refine Kd.C_drewN ?_ _) | (with_reducible refine Kd.C_drew ?_))); (case side2 => exact HC0.out); rintro e w' ⟨rfl, ⟨nd, rfl⟩⟩; (try first | exact ⟨rfl, _, World.drewN_drewN _ _ _⟩ | exact ⟨rfl, _, Eq.trans (World.drewN_drewN _ _ _) (congrArg (World.drewN _) (Nat.add_assoc _ _ _))⟩)) | (go_at_call 16; (with_reducible refine (spec_DrawLevels.calls k _ _ l0 t291 t292 t293 t294 _ ?side1 ?side2 A4.out).mono ?_); (case side1 => repeat (first | exact HR0.out | (with_reducible refine Kd.C_alloc ?_ _) | (with_reducible refine Kd.C_drewN ?_ _) | (with_reducible refine Kd.C_drew ?_))); (case side2 => exact HC0.out); rintro e w56 ⟨v295, v297, v299, rfl, ho0, ho1, ho2, hb⟩; have HO296 := rL_ ho0 HB; have HO298 := rL_ ho1 HB; have HO300 := rL_ ho2 HB; replace HB := bS_ HB hb; (try clear hb); (try clear hb2); (try clear hk); (try clear hi); (try clear ho0); (try clear ho1); (try clear ho2); obtain ⟨Ao57, co57, eo57⟩ := Kd.R_slice HO296.out; subst eo57; obtain ⟨Ao58, co58, eo58⟩ := Kd.R_slice HO298.out; subst eo58; obtain ⟨Ao59, co59, eo59⟩ := Kd.R_slice HO300.out; subst eo59) | (go_at_call 17; (with_reducible refine (spec_Levels.calls k _ _ t291 _ _ t292 _ _ t293 t294 t301 false _ ?side1 ?side2 ?side3 ?side4 ?side5 ?side6 A5.out).mono ?_); (case side1 => exact rD_ HO296); (case side2 => exact (Kd.R_reads' HO296.out).2.1); (case side3 => exact rD_ HO298); (case side4 => exact (Kd.R_reads' HO298.out).2.1); (case side5 => exact rD_ HO300); (case side6 => exact (Kd.R_reads' HO300.out).2.1); rintro e w60 ⟨v303, rfl, ho0, hb⟩; have HO304 := rL_ (rN_ (rN_ (rN_ ho0 HO296) HO298) HO300) HB; replace HO296 := rE_ HO296 ho0 hb; replace HO298 := rE_ HO298 ho0 hb; replace HO300 := rE_ HO300 ho0 hb; replace HB := bS_ HB hb; (try clear hb); (try clear hb2); (try clear hk); (try clear hi); (try clear ho0)) | (go_at_call 18; (with_reducible refine (impl_Levels.calls k _ _ t291 _ _ t292 _ _ t293 t294 t305 t306 _ ?side1 ?side2 ?side3 ?side4 ?side5 ?side6 A6.out).mono ?_); (case side1 => exact rD_ HO296); (case side2 => exact (Kd.R_reads' HO296.out).2.1); (case side3 => exact rD_ HO298); (case side4 => exact (Kd.R_reads' HO298.out).2.1); (case side5 => exact rD_ HO300); (case side6 => exact (Kd.R_reads' HO300.out).2.1); rintro e w61 ⟨v307, rfl, ho0, hb⟩; have HO308 := rL_ (rN_ (rN_ (rN_ (rN_ ho0 HO296) HO298) HO300) HO304) HB; replace HO296 := rE_ HO296 ho0 hb; replace HO298 := rE_ HO298 ho0 hb; replace HO300 := rE_ HO300 ho0 hb; replace HO304 := rE_ HO304 ho0 hb; replace HB := bS_ HB hb; (try clear hb); (try clear hb2); (try clear hk); (try clear hi); (try clear ho0); obtain ⟨Ao62, co62, eo62⟩ := Kd.R_slice HO308.out; subst eo62)))
    go_ret
    exact ⟨by first | rfl | (simp [errW_none, errW_some] <;> rfl) | (simp [*, errW_none, errW_some] <;> rfl), by repeat (first | (with_reducible first | exact HB.out | apply below_alloc | apply pw_below_drewN | apply below_drew1) | exact HB.out)⟩

/-- THE ONE PURE STATEMENT of laws_FnSteady: yours. -/
def laws_FnSteady.Pure : Prop := ∀ (l0 : List Int), l0.length ≤ maxLen → l0.length * 1 ≤ 140737488351232 → (∀ x ∈ l0, (Lit.int .u8 x).wf = true) → ∃ k, laws_FnSteady.f k l0 = some true
theorem laws_FnSteady.walk (P : laws_FnSteady.Pure) (a0 : Option Addr) (len0 cap0 : Nat) (z0 : List Int) (w : World) (w0 : (a0 = none ∧ len0 = 0 ∧ cap0 = 0 ∧ z0 = []) ∨ ∃ x, a0 = some x ∧ len0 ≤ cap0 ∧ cap0 ≤ maxLen ∧ z0.length = cap0 ∧ (∀ i, i < z0.length → w.cell? (x.add i) = some (.int .u8 (z0.getD i 0))) ∧ ∀ n ∈ z0, (Lit.int .u8 n).wf = true) (y0 : len0 * 1 ≤ 140737488351232) :
  Calls Try.prog 4 #[.slice a0 len0 cap0] w fun e w' => e = .returned (.bool true) ∧ Below w.heap.size w w' := by
 obtain ⟨l0, rfl, hr0, hm0, hw0, hc0⟩ := ReadsInt.ofRowC w0
 obtain ⟨k, h⟩ := P l0 hm0 y0 hw0
 refine (laws_FnSteady.calls k _ _ l0 true w (Kd.C_of_reads (d := (0 : Int)) (h1 := fun _ => rfl) hr0) hc0 h).mono ?_
 rintro e w' ⟨rfl, hd⟩
 exact ⟨rfl, hd⟩

end Go.Proofs.Ytmjfmhbklifafaa.QFnSteady
