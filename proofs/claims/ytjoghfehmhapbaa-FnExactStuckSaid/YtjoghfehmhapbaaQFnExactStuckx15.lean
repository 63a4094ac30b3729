-- Written by a program of this session out of the printer's texts and contracts of its own.
import Derived.Test.YtjoghfehmhapbaaSq
import Derived.Test.YtjoghfehmhapbaaQFnExactStuckx0
import Derived.Test.YtjoghfehmhapbaaQFnExactStuckx8
import Derived.Test.YtjoghfehmhapbaaQFnExactStuckx9
import Derived.Test.YtjoghfehmhapbaaQFnExactStuckx10
import Derived.Test.YtjoghfehmhapbaaQFnExactStuckx11
import Derived.Test.YtjoghfehmhapbaaQFnExactStuckx13
import Derived.Test.YtjoghfehmhapbaaQFnExactStuckx14
import Derived.Test.YtjoghfehmhapbaaMarksFnExactStuck
import Derived.Test.YtjoghfehmhapbaaBetLib
namespace Go.Proofs.Ytjoghfehmhapbaa.QFnExactStuck
open Go.RowKit Go.Proofs.YtjoghfehmhapbaaW.PrintWords Go.Proofs.YtjoghfehmhapbaaW.PrintLast Go.Proofs.YtjoghfehmhapbaaW.PrintMore Go.Proofs.Ytjoghfehmhapbaa.Sq
open Go.Proofs.Ytjoghfehmhapbaa.Bet Go.Proofs.Ytjoghfehmhapbaa.Sq
attribute [local go_sem] max2_int min2_int max_two min_two max_three min_three max_four min_four   -- for this text's walks alone
set_option linter.unusedVariables false
set_option linter.unusedSimpArgs false
theorem sABelo_15 {b : Nat} {w W : World} (h : Below b w W := by repeat (first | (with_reducible first | exact Aside0.out (by assumption) | apply below_alloc | apply pw_below_drewN | apply below_drew1 | refine below_set ?_ (Aside0.out (by assumption))) | exact Aside0.out (by assumption))) : Below b w W := h

/-! ### laws_FnExactStuck: function 7 -/
def laws_FnExactStuck.j0 : Nat → List Int → List Int → Bool → List (S110) → List Int → Int → List (S115) → Option (Bool)
 | 0, _, _, _, _, _, _, _ => none
 | k + 1, x4, x6, x42, x312000, x312001, x312002, x312003 => if x42 = true then (some false) else ((laws_markInt64S.f k x6 1).bind fun bt354 => ((laws_heldInt64S.f k bt354.2 1).bind fun t356 => (if t356 < 0 then (some false) else (if t356 = bt354.1 then ((laws_toRun.f k x312000 x312001 x312002 x312003).bind fun bt357 => ((impl_Stuck.f k bt357.1 bt357.2.1 bt357.2.2.1 bt357.2.2.2).bind fun t367 => ((laws_eqInt64S.f k t367 x4).bind fun t370 => (if t370 = true then ((laws_heldInt64S.f k bt354.2 1).bind fun t371 => (if t371 < 0 then (some false) else (if t371 = bt354.1 then (some true) else (some false)))) else (some false))))) else (some false)))))
def laws_FnExactStuck.f (k : Nat) (l0_0 : List (S110)) (l0_1 : List Int) (a0_2 : Int) (l0_3 : List (S115)) : Option (Bool) := (laws_szRun.f k l0_0 l0_1 a0_2 l0_3 1048576).bind fun t312 => (if t312 < 0 then (some true) else ((laws_toRun.f k l0_0 l0_1 a0_2 l0_3).bind fun bt313 => ((spec_Stuck.f k bt313.1 bt313.2.1 bt313.2.2.1 bt313.2.2.2).bind fun t323 => ((laws_toRun.f k l0_0 l0_1 a0_2 l0_3).bind fun bt326 => ((impl_Stuck.f k bt326.1 bt326.2.1 bt326.2.2.1 bt326.2.2.2).bind fun t337 => ((laws_eqInt64S.f k t337 t323).bind fun t340 => (if t340 = true then ((laws_toRun.f k l0_0 l0_1 a0_2 l0_3).bind fun bt341 => ((laws_eqRun.f k bt326.1 bt326.2.1 bt326.2.2.1 bt326.2.2.2 bt341.1 bt341.2.1 bt341.2.2.1 bt341.2.2.2).bind fun t351 => (if t351 = true then ((laws_markRun.f k bt326.1 bt326.2.1 bt326.2.2.1 bt326.2.2.2 1).bind fun b352 => (if b352.1 < 0 then (laws_FnExactStuck.j0 k t323 t337 true l0_0 l0_1 a0_2 l0_3) else ((laws_eqInt64S.f k t337 t323).bind fun t353 => (laws_FnExactStuck.j0 k t323 t337 (!t353) l0_0 l0_1 a0_2 l0_3)))) else (some false)))) else (some false))))))))
theorem laws_FnExactStuck.mono_l : ∀ k, (∀ y0 y1 y2 y3 y4 y5 y6, LeO (laws_FnExactStuck.j0 k y0 y1 y2 y3 y4 y5 y6) (laws_FnExactStuck.j0 (k + 1) y0 y1 y2 y3 y4 y5 y6))
 | 0 => fun _ _ _ _ _ _ _ r h => by simp [laws_FnExactStuck.j0] at h
 | k + 1 => by
  have ih0 := laws_FnExactStuck.mono_l k
  ·intro y0 y1 y2 y3 y4 y5 y6
   unfold laws_FnExactStuck.j0
   repeat' first
   | (with_reducible exact ih0 _ _ _ _ _ _ _)
   | (with_reducible exact impl_Stuck.mono _ _ _ _ _)
   | (with_reducible exact laws_eqInt64S.mono _ _ _)
   | (with_reducible exact laws_eqRun.mono _ _ _ _ _ _ _ _ _)
   | (with_reducible exact laws_heldInt64S.mono _ _ _)
   | (with_reducible exact laws_markInt64S.mono _ _ _)
   | (with_reducible exact laws_markRun.mono _ _ _ _ _ _)
   | (with_reducible exact laws_szRun.mono _ _ _ _ _ _)
   | (with_reducible exact laws_toRun.mono _ _ _ _ _)
   | (with_reducible exact spec_Stuck.mono _ _ _ _ _)
   | (with_reducible exact LeO.refl _)
   | (with_reducible exact LeO.none _)
   | (with_reducible refine LeO.ite ?_ ?_)
   | (with_reducible refine LeO.bind ?_ (fun _ => ?_))
   | exact ih0 _ _ _ _ _ _ _
   | exact impl_Stuck.mono _ _ _ _ _
   | exact laws_eqInt64S.mono _ _ _
   | exact laws_eqRun.mono _ _ _ _ _ _ _ _ _
   | exact laws_heldInt64S.mono _ _ _
   | exact laws_markInt64S.mono _ _ _
   | exact laws_markRun.mono _ _ _ _ _ _
   | exact laws_szRun.mono _ _ _ _ _ _
   | exact laws_toRun.mono _ _ _ _ _
   | exact spec_Stuck.mono _ _ _ _ _
   | exact LeO.none _
   | refine LeO.ite ?_ ?_
   | refine LeO.bind ?_ (fun _ => ?_)
theorem laws_FnExactStuck.mono : ∀ a0 a1 a2 a3 k, LeO (laws_FnExactStuck.f k a0 a1 a2 a3) (laws_FnExactStuck.f (k + 1) a0 a1 a2 a3) := by
 intro a0 a1 a2 a3 k
 have ih0 := laws_FnExactStuck.mono_l k
 unfold laws_FnExactStuck.f
 repeat' first
   | (with_reducible exact ih0 _ _ _ _ _ _ _)
   | (with_reducible exact impl_Stuck.mono _ _ _ _ _)
   | (with_reducible exact laws_eqInt64S.mono _ _ _)
   | (with_reducible exact laws_eqRun.mono _ _ _ _ _ _ _ _ _)
   | (with_reducible exact laws_heldInt64S.mono _ _ _)
   | (with_reducible exact laws_markInt64S.mono _ _ _)
   | (with_reducible exact laws_markRun.mono _ _ _ _ _ _)
   | (with_reducible exact laws_szRun.mono _ _ _ _ _ _)
   | (with_reducible exact laws_toRun.mono _ _ _ _ _)
   | (with_reducible exact spec_Stuck.mono _ _ _ _ _)
   | (with_reducible exact LeO.refl _)
   | (with_reducible exact LeO.none _)
   | (with_reducible refine LeO.ite ?_ ?_)
   | (with_reducible refine LeO.bind ?_ (fun _ => ?_))
   | exact ih0 _ _ _ _ _ _ _
   | exact impl_Stuck.mono _ _ _ _ _
   | exact laws_eqInt64S.mono _ _ _
   | exact laws_eqRun.mono _ _ _ _ _ _ _ _ _
   | exact laws_heldInt64S.mono _ _ _
   | exact laws_markInt64S.mono _ _ _
   | exact laws_markRun.mono _ _ _ _ _ _
   | exact laws_szRun.mono _ _ _ _ _ _
   | exact laws_toRun.mono _ _ _ _ _
   | exact spec_Stuck.mono _ _ _ _ _
   | exact LeO.none _
   | refine LeO.ite ?_ ?_
   | refine LeO.bind ?_ (fun _ => ?_)
set_option maxHeartbeats 8000000 in
set_option maxRecDepth 100000 in
theorem laws_FnExactStuck.calls (k : Nat) (A0_0 : Option Addr) (c0_0 : Nat) (l0_0 : List (S110)) (A0_1 : Option Addr) (c0_1 : Nat) (l0_1 : List Int) (a0_2 : Int) (A0_3 : Option Addr) (c0_3 : Nat) (l0_3 : List (S115)) (w : World) (hr0_0 : Kd.C k110 w A0_0 l0_0.length l0_0) (hc0_0 : l0_0.length ≤ c0_0) (hr0_1 : Kd.C (Kd.int .i64) w A0_1 l0_1.length l0_1) (hc0_1 : l0_1.length ≤ c0_1) (hr0_3 : Kd.C k115 w A0_3 l0_3.length l0_3) (hc0_3 : l0_3.length ≤ c0_3) (h : laws_FnExactStuck.f k l0_0 l0_1 a0_2 l0_3 = some true) :
  Calls Try.prog 7 #[.agg #[.slice A0_0 l0_0.length c0_0, .slice A0_1 l0_1.length c0_1, .int .i64 a0_2, .slice A0_3 l0_3.length c0_3]] w fun e w' => e = .returned (.bool true) ∧ Below w.heap.size w w' := by
 have hu64 := Try.underlying64; have hu31 := Try.underlying31; have HR0_0 := Aside0.mk hr0_0; have HC0_0 := Aside0.mk hc0_0; clear hr0_0 hc0_0; have HR0_1 := Aside0.mk hr0_1; have HC0_1 := Aside0.mk hc0_1; clear hr0_1 hc0_1; have HR0_3 := Aside0.mk hr0_3; have HC0_3 := Aside0.mk hc0_3; clear hr0_3 hc0_3
 have HB := Aside0.mk (Below.refl w.heap.size w)
 have H : ((laws_szRun.f k l0_0 l0_1 a0_2 l0_3 1048576).bind fun t312 => (if t312 < 0 then (some true) else ((laws_toRun.f k l0_0 l0_1 a0_2 l0_3).bind fun bt313 => ((spec_Stuck.f k bt313.1 bt313.2.1 bt313.2.2.1 bt313.2.2.2).bind fun t323 => ((laws_toRun.f k l0_0 l0_1 a0_2 l0_3).bind fun bt326 => ((impl_Stuck.f k bt326.1 bt326.2.1 bt326.2.2.1 bt326.2.2.2).bind fun t337 => ((laws_eqInt64S.f k t337 t323).bind fun t340 => (if t340 = true then ((laws_toRun.f k l0_0 l0_1 a0_2 l0_3).bind fun bt341 => ((laws_eqRun.f k bt326.1 bt326.2.1 bt326.2.2.1 bt326.2.2.2 bt341.1 bt341.2.1 bt341.2.2.1 bt341.2.2.2).bind fun t351 => (if t351 = true then ((laws_markRun.f k bt326.1 bt326.2.1 bt326.2.2.1 bt326.2.2.2 1).bind fun b352 => (if b352.1 < 0 then (laws_FnExactStuck.j0 k t323 t337 true l0_0 l0_1 a0_2 l0_3) else ((laws_eqInt64S.f k t337 t323).bind fun t353 => (laws_FnExactStuck.j0 k t323 t337 (!t353) l0_0 l0_1 a0_2 l0_3)))) else (some false)))) else (some false))))))))) = some true := h
 clear h; replace H := Option.bind_eq_some_iff.mp H
 obtain ⟨t312, A20, H⟩ := H
 replace H : (if t312 < 0 then (some true) else ((laws_toRun.f k l0_0 l0_1 a0_2 l0_3).bind fun bt313 => ((spec_Stuck.f k bt313.1 bt313.2.1 bt313.2.2.1 bt313.2.2.2).bind fun t323 => ((laws_toRun.f k l0_0 l0_1 a0_2 l0_3).bind fun bt326 => ((impl_Stuck.f k bt326.1 bt326.2.1 bt326.2.2.1 bt326.2.2.2).bind fun t337 => ((laws_eqInt64S.f k t337 t323).bind fun t340 => (if t340 = true then ((laws_toRun.f k l0_0 l0_1 a0_2 l0_3).bind fun bt341 => ((laws_eqRun.f k bt326.1 bt326.2.1 bt326.2.2.1 bt326.2.2.2 bt341.1 bt341.2.1 bt341.2.2.1 bt341.2.2.2).bind fun t351 => (if t351 = true then ((laws_markRun.f k bt326.1 bt326.2.1 bt326.2.2.1 bt326.2.2.2 1).bind fun b352 => (if b352.1 < 0 then (laws_FnExactStuck.j0 k t323 t337 true l0_0 l0_1 a0_2 l0_3) else ((laws_eqInt64S.f k t337 t323).bind fun t353 => (laws_FnExactStuck.j0 k t323 t337 (!t353) l0_0 l0_1 a0_2 l0_3)))) else (some false)))) else (some false)))))))) = some true := H
 have A2 := Aside0.mk A20; clear A20
 by_cases c3 : t312 < 0
 ·rw [if_pos c3] at H
  have c3b0 := decide_eq_true c3
  clear c3 H
  go_enter Try.func7, Try.ntmps7
  go_wp2_with (first | ((with_reducible refine gate_dst (N := 1) rfl ?_); refine box_event ?hg (N := 1) ?hd (cs := #[.slice A0_0 l0_0.length c0_0, .slice A0_1 l0_1.length c0_1, .int .i64 a0_2, .slice A0_3 l0_3.length c0_3]) (t := 64) ?hr ?_; (case hd => rfl); (case hg => rfl); (case hr => first | (go_simp; done) | (go_simp; rfl)); intro gb311 hg w4 hbox hb; have BK311 := Aside0.mk (hbox); have GW311 := gE_ HB hg; have GE311 := gE_ HB hg; replace HB := bS_ HB hb; clear hb hbox hg; obtain ⟨hcz5_0, hcz5_1, hcz5_2, hcz5_3, hfz5_0, hfz5_1, hfz5_2, hfz5_3⟩ := cf4_ BK311) | ((with_reducible refine gate_callee (f := 34) rfl ?_); refine gL_ (some 13) Try.func34 #[.agg #[.slice A0_0 l0_0.length c0_0, .slice A0_1 l0_1.length c0_1, .int .i64 a0_2, .slice A0_3 l0_3.length c0_3], .int .i64 1048576] ?_; (with_reducible refine (laws_szRun.calls k _ _ l0_0 _ _ l0_1 a0_2 _ _ l0_3 1048576 t312 _ ?side1 ?side2 ?side3 ?side4 ?side5 ?side6 A2.out).mono ?_); (case side1 => exact cB_ HR0_0 HB); (case side2 => exact HC0_0.out); (case side3 => exact cB_ HR0_1 HB); (case side4 => exact HC0_1.out); (case side5 => exact cB_ HR0_3 HB); (case side6 => exact HC0_3.out); rintro e w6 ⟨rfl, hb⟩; refine ⟨_, rfl, ?_⟩; replace BK311 := bB_ BK311 hb; replace HB := bS_ HB hb; (try clear hb)))
  go_ret
  exact ⟨by first | rfl | (simp [errW_none, errW_some] <;> rfl) | (simp [*, errW_none, errW_some] <;> rfl), sABelo_15⟩
 ·rw [if_neg c3] at H
  have c3b0 := decide_eq_false c3
  clear c3; replace H := Option.bind_eq_some_iff.mp H
  obtain ⟨⟨t313, t316, t319, t320⟩, A70, H⟩ := H
  replace H : ((spec_Stuck.f k t313 t316 t319 t320).bind fun t323 => ((laws_toRun.f k l0_0 l0_1 a0_2 l0_3).bind fun bt326 => ((impl_Stuck.f k bt326.1 bt326.2.1 bt326.2.2.1 bt326.2.2.2).bind fun t337 => ((laws_eqInt64S.f k t337 t323).bind fun t340 => (if t340 = true then ((laws_toRun.f k l0_0 l0_1 a0_2 l0_3).bind fun bt341 => ((laws_eqRun.f k bt326.1 bt326.2.1 bt326.2.2.1 bt326.2.2.2 bt341.1 bt341.2.1 bt341.2.2.1 bt341.2.2.2).bind fun t351 => (if t351 = true then ((laws_markRun.f k bt326.1 bt326.2.1 bt326.2.2.1 bt326.2.2.2 1).bind fun b352 => (if b352.1 < 0 then (laws_FnExactStuck.j0 k t323 t337 true l0_0 l0_1 a0_2 l0_3) else ((laws_eqInt64S.f k t337 t323).bind fun t353 => (laws_FnExactStuck.j0 k t323 t337 (!t353) l0_0 l0_1 a0_2 l0_3)))) else (some false)))) else (some false)))))) = some true := H
  have A7 := Aside0.mk A70; clear A70; replace H := Option.bind_eq_some_iff.mp H
  obtain ⟨t323, A80, H⟩ := H
  replace H : ((laws_toRun.f k l0_0 l0_1 a0_2 l0_3).bind fun bt326 => ((impl_Stuck.f k bt326.1 bt326.2.1 bt326.2.2.1 bt326.2.2.2).bind fun t337 => ((laws_eqInt64S.f k t337 t323).bind fun t340 => (if t340 = true then ((laws_toRun.f k l0_0 l0_1 a0_2 l0_3).bind fun bt341 => ((laws_eqRun.f k bt326.1 bt326.2.1 bt326.2.2.1 bt326.2.2.2 bt341.1 bt341.2.1 bt341.2.2.1 bt341.2.2.2).bind fun t351 => (if t351 = true then ((laws_markRun.f k bt326.1 bt326.2.1 bt326.2.2.1 bt326.2.2.2 1).bind fun b352 => (if b352.1 < 0 then (laws_FnExactStuck.j0 k t323 t337 true l0_0 l0_1 a0_2 l0_3) else ((laws_eqInt64S.f k t337 t323).bind fun t353 => (laws_FnExactStuck.j0 k t323 t337 (!t353) l0_0 l0_1 a0_2 l0_3)))) else (some false)))) else (some false))))) = some true := H
  have A8 := Aside0.mk A80; clear A80; replace H := Option.bind_eq_some_iff.mp H
  obtain ⟨⟨t326, t329, t332, t333⟩, A90, H⟩ := H
  replace H : ((impl_Stuck.f k t326 t329 t332 t333).bind fun t337 => ((laws_eqInt64S.f k t337 t323).bind fun t340 => (if t340 = true then ((laws_toRun.f k l0_0 l0_1 a0_2 l0_3).bind fun bt341 => ((laws_eqRun.f k t326 t329 t332 t333 bt341.1 bt341.2.1 bt341.2.2.1 bt341.2.2.2).bind fun t351 => (if t351 = true then ((laws_markRun.f k t326 t329 t332 t333 1).bind fun b352 => (if b352.1 < 0 then (laws_FnExactStuck.j0 k t323 t337 true l0_0 l0_1 a0_2 l0_3) else ((laws_eqInt64S.f k t337 t323).bind fun t353 => (laws_FnExactStuck.j0 k t323 t337 (!t353) l0_0 l0_1 a0_2 l0_3)))) else (some false)))) else (some false)))) = some true := H
  have A9 := Aside0.mk A90; clear A90; replace H := Option.bind_eq_some_iff.mp H
  obtain ⟨t337, A100, H⟩ := H
  replace H : ((laws_eqInt64S.f k t337 t323).bind fun t340 => (if t340 = true then ((laws_toRun.f k l0_0 l0_1 a0_2 l0_3).bind fun bt341 => ((laws_eqRun.f k t326 t329 t332 t333 bt341.1 bt341.2.1 bt341.2.2.1 bt341.2.2.2).bind fun t351 => (if t351 = true then ((laws_markRun.f k t326 t329 t332 t333 1).bind fun b352 => (if b352.1 < 0 then (laws_FnExactStuck.j0 k t323 t337 true l0_0 l0_1 a0_2 l0_3) else ((laws_eqInt64S.f k t337 t323).bind fun t353 => (laws_FnExactStuck.j0 k t323 t337 (!t353) l0_0 l0_1 a0_2 l0_3)))) else (some false)))) else (some false))) = some true := H
  have A10 := Aside0.mk A100; clear A100; replace H := Option.bind_eq_some_iff.mp H
  obtain ⟨t340, A110, H⟩ := H
  replace H : (if t340 = true then ((laws_toRun.f k l0_0 l0_1 a0_2 l0_3).bind fun bt341 => ((laws_eqRun.f k t326 t329 t332 t333 bt341.1 bt341.2.1 bt341.2.2.1 bt341.2.2.2).bind fun t351 => (if t351 = true then ((laws_markRun.f k t326 t329 t332 t333 1).bind fun b352 => (if b352.1 < 0 then (laws_FnExactStuck.j0 k t323 t337 true l0_0 l0_1 a0_2 l0_3) else ((laws_eqInt64S.f k t337 t323).bind fun t353 => (laws_FnExactStuck.j0 k t323 t337 (!t353) l0_0 l0_1 a0_2 l0_3)))) else (some false)))) else (some false)) = some true := H
  have A11 := Aside0.mk A110; clear A110
  by_cases c12 : t340 = true
  ·subst c12
   replace H := ifT_ H; replace H := Option.bind_eq_some_iff.mp H
   obtain ⟨⟨t341, t344, t347, t348⟩, A130, H⟩ := H
   replace H : ((laws_eqRun.f k t326 t329 t332 t333 t341 t344 t347 t348).bind fun t351 => (if t351 = true then ((laws_markRun.f k t326 t329 t332 t333 1).bind fun b352 => (if b352.1 < 0 then (laws_FnExactStuck.j0 k t323 t337 true l0_0 l0_1 a0_2 l0_3) else ((laws_eqInt64S.f k t337 t323).bind fun t353 => (laws_FnExactStuck.j0 k t323 t337 (!t353) l0_0 l0_1 a0_2 l0_3)))) else (some false))) = some true := H
   have A13 := Aside0.mk A130; clear A130; replace H := Option.bind_eq_some_iff.mp H
   obtain ⟨t351, A140, H⟩ := H
   replace H : (if t351 = true then ((laws_markRun.f k t326 t329 t332 t333 1).bind fun b352 => (if b352.1 < 0 then (laws_FnExactStuck.j0 k t323 t337 true l0_0 l0_1 a0_2 l0_3) else ((laws_eqInt64S.f k t337 t323).bind fun t353 => (laws_FnExactStuck.j0 k t323 t337 (!t353) l0_0 l0_1 a0_2 l0_3)))) else (some false)) = some true := H
   have A14 := Aside0.mk A140; clear A140
   by_cases c15 : t351 = true
   ·subst c15
    replace H := ifT_ H; replace H := Option.bind_eq_some_iff.mp H
    obtain ⟨⟨t352, m326, m329, m333⟩, A160, H⟩ := H
    replace H : (if t352 < 0 then (laws_FnExactStuck.j0 k t323 t337 true l0_0 l0_1 a0_2 l0_3) else ((laws_eqInt64S.f k t337 t323).bind fun t353 => (laws_FnExactStuck.j0 k t323 t337 (!t353) l0_0 l0_1 a0_2 l0_3))) = some true := H
    have A16 := Aside0.mk A160; clear A160; have HC17 := Aside0.mk H; clear H
    go_enter Try.func7, Try.ntmps7
    try go_wp2_with (first | ((with_reducible refine gate_dst (N := 1) rfl ?_); refine box_event ?hg (N := 1) ?hd (cs := #[.slice A0_0 l0_0.length c0_0, .slice A0_1 l0_1.length c0_1, .int .i64 a0_2, .slice A0_3 l0_3.length c0_3]) (t := 64) ?hr ?_; (case hd => rfl); (case hg => rfl); (case hr => first | (go_simp; done) | (go_simp; rfl)); intro gb311 hg w18 hbox hb; have BK311 := Aside0.mk (hbox); have GW311 := gE_ HB hg; have GE311 := gE_ HB hg; replace HB := bS_ HB hb; clear hb hbox hg; obtain ⟨hcz19_0, hcz19_1, hcz19_2, hcz19_3, hfz19_0, hfz19_1, hfz19_2, hfz19_3⟩ := cf4_ BK311) | ((with_reducible refine gate_callee (f := 34) rfl ?_); refine gL_ (some 13) Try.func34 #[.agg #[.slice A0_0 l0_0.length c0_0, .slice A0_1 l0_1.length c0_1, .int .i64 a0_2, .slice A0_3 l0_3.length c0_3], .int .i64 1048576] ?_; (with_reducible refine (laws_szRun.calls k _ _ l0_0 _ _ l0_1 a0_2 _ _ l0_3 1048576 t312 _ ?side1 ?side2 ?side3 ?side4 ?side5 ?side6 A2.out).mono ?_); (case side1 => exact cB_ HR0_0 HB); (case side2 => exact HC0_0.out); (case side3 => exact cB_ HR0_1 HB); (case side4 => exact HC0_1.out); (case side5 => exact cB_ HR0_3 HB); (case side6 => exact HC0_3.out); rintro e w20 ⟨rfl, hb⟩; refine ⟨_, rfl, ?_⟩; replace BK311 := bB_ BK311 hb; replace HB := bS_ HB hb; (try clear hb); obtain ⟨hcz21_0, hcz21_1, hcz21_2, hcz21_3, hfz21_0, hfz21_1, hfz21_2, hfz21_3⟩ := cf4_ BK311) | ((with_reducible refine gate_callee (f := 36) rfl ?_); refine gL_ (some 17) Try.func36 #[.agg #[.slice A0_0 l0_0.length c0_0, .slice A0_1 l0_1.length c0_1, .int .i64 a0_2, .slice A0_3 l0_3.length c0_3]] ?_; (with_reducible refine (laws_toRun.calls k _ _ l0_0 _ _ l0_1 a0_2 _ _ l0_3 t313 t316 t319 t320 _ ?side1 ?side2 ?side3 ?side4 ?side5 ?side6 A7.out).mono ?_); (case side1 => exact cB_ HR0_0 HB); (case side2 => exact HC0_0.out); (case side3 => exact cB_ HR0_1 HB); (case side4 => exact HC0_1.out); (case side5 => exact cB_ HR0_3 HB); (case side6 => exact HC0_3.out); rintro e w22 ⟨v314, v317, v321, rfl, ho0, ho1, ho2, hb⟩; refine ⟨_, rfl, ?_⟩; obtain ⟨loAo23, hiAo23, hl_, hh_, ho0⟩ := S_inV (Q := fun n_ => gb311 < n_) ho0 (bLt_ BK311); have HLAo23 := Aside0.mk (show gb311 < loAo23 from hl_); have HHAo23 := Aside0.mk (Nat.le_of_eq hh_); clear hl_ hh_; have HO315 := sL_ ho0 HB; have HO318 := rL_ ho1 HB; have HO322 := rL_ ho2 HB; replace BK311 := bB_ BK311 hb; replace HB := bS_ HB hb; (try clear hb); (try clear ho0); (try clear ho1); (try clear ho2); obtain ⟨Ao23, co23, eo23⟩ := Kd.S_slice HO315.out; subst eo23; obtain ⟨Ao24, co24, eo24⟩ := Kd.R_slice HO318.out; subst eo24; obtain ⟨Ao25, co25, eo25⟩ := Kd.R_slice HO322.out; subst eo25) | ((with_reducible refine gate_callee (f := 35) rfl ?_); refine gL_ (some 18) Try.func35 #[.agg #[.slice Ao23 t313.length co23, .slice Ao24 t316.length co24, .int .i64 t319, .slice Ao25 t320.length co25]] ?_; (with_reducible refine (spec_Stuck.calls k _ _ t313 _ _ t316 t319 _ _ t320 t323 _ ?side1 ?side2 ?side3 ?side4 ?side5 ?side6 A8.out).mono ?_); (case side1 => exact sDb_ HO315); (case side2 => exact (S_readsB HO315.out).2.1); (case side3 => exact rD_ HO318); (case side4 => exact (Kd.R_reads' HO318.out).2.1); (case side5 => exact rD_ HO322); (case side6 => exact (Kd.R_reads' HO322.out).2.1); rintro e w26 ⟨v324, rfl, ho0, hb⟩; refine ⟨_, rfl, ?_⟩; have hy_ : hiAo23 ≤ w26.heap.size := (by first | exact Nat.le_trans HHAo23.out hb.size | (have q_ := hb.size; have q2_ := HHAo23.out; simp at q_ q2_; omega)); clear HHAo23; have HHAo23 := Aside0.mk hy_; clear hy_; replace HO315 := Aside0.mk (Kd.S_elder' (sT_ HO315) (Kd.R_base ho0) hb); replace HO322 := rB_ HO322 hb; have HO325 := rL_ (rN_ ho0 HO318) HB; replace HO318 := rE_ HO318 ho0 hb; replace BK311 := bB_ BK311 hb; replace HB := bS_ HB hb; (try clear hb); (try clear ho0); obtain ⟨hcz27_0, hcz27_1, hcz27_2, hcz27_3, hfz27_0, hfz27_1, hfz27_2, hfz27_3⟩ := cf4_ BK311) | ((with_reducible refine gate_callee (f := 36) rfl ?_); refine gL_ (some 20) Try.func36 #[.agg #[.slice A0_0 l0_0.length c0_0, .slice A0_1 l0_1.length c0_1, .int .i64 a0_2, .slice A0_3 l0_3.length c0_3]] ?_; (with_reducible refine (laws_toRun.calls k _ _ l0_0 _ _ l0_1 a0_2 _ _ l0_3 t326 t329 t332 t333 _ ?side1 ?side2 ?side3 ?side4 ?side5 ?side6 A9.out).mono ?_); (case side1 => exact cB_ HR0_0 HB); (case side2 => exact HC0_0.out); (case side3 => exact cB_ HR0_1 HB); (case side4 => exact HC0_1.out); (case side5 => exact cB_ HR0_3 HB); (case side6 => exact HC0_3.out); rintro e w28 ⟨v327, v330, v334, rfl, ho0, ho1, ho2, hb⟩; refine ⟨_, rfl, ?_⟩; obtain ⟨loAo30, hiAo30, hl_, hh_, ho0⟩ := S_inV (Q := fun n_ => gb311 < n_ ∧ hiAo23 ≤ n_) ho0 ⟨(bLt_ BK311), (by first | exact HHAo23.out | (have q2_ := HHAo23.out; simp at q2_ ⊢; omega))⟩; have HLAo30 := Aside0.mk (show gb311 < loAo30 ∧ hiAo23 ≤ loAo30 from hl_); have HHAo30 := Aside0.mk (Nat.le_of_eq hh_); clear hl_ hh_; have hy_ : hiAo23 ≤ w28.heap.size := (by first | exact Nat.le_trans HHAo23.out hb.size | (have q_ := hb.size; have q2_ := HHAo23.out; simp at q_ q2_; omega)); clear HHAo23; have HHAo23 := Aside0.mk hy_; clear hy_; have HO328 := sL_ (Kd.S_new' (Kd.S_new' (Kd.S_new' ho0 (sLt_ HO315)) (rLt_ HO318)) (rLt_ HO325)) HB; replace HO315 := Aside0.mk (Kd.S_mono (Kd.S_told (Kd.S_told (Kd.S_old (sT_ HO315) hb) (Kd.S_base ho0)) (Kd.R_base ho1)) (fun _ h_ => h_.1)); have HO331 := rL_ (rN_ (rN_ ho1 HO318) HO325) HB; replace HO318 := rE_ HO318 ho1 hb; replace HO325 := rE_ HO325 ho1 hb; have HO335 := rL_ (rN_ ho2 HO322) HB; replace HO322 := rE_ HO322 ho2 hb; replace BK311 := bB_ BK311 hb; replace HB := bS_ HB hb; (try clear hb); (try clear ho0); (try clear ho1); (try clear ho2)) | ((with_reducible refine gate_dst (N := 5) rfl ?_); refine box_event ?hg (N := 5) ?hd (cs := #[.slice none 0 0, .slice none 0 0, .int .i64 0, .slice none 0 0]) (t := 31) ?hr ?_; (case hd => rfl); (case hg => rfl); (case hr => first | (go_simp; done) | (go_simp; rfl)); intro gb336 hg w29 hbox hb; have HIAo23 := Aside0.mk (Nat.le_trans HHAo23.out (by rw [hg]; exact Nat.le_refl _) : hiAo23 ≤ gb336); have HIAo30 := Aside0.mk (Nat.le_trans HHAo30.out (by rw [hg]; exact Nat.le_refl _) : hiAo30 ≤ gb336); replace HO315 := sB_ HO315 hb; replace HO318 := rB_ HO318 hb; replace HO322 := rB_ HO322 hb; replace HO325 := rB_ HO325 hb; replace HO328 := sB_ HO328 hb; replace HO331 := rB_ HO331 hb; replace HO335 := rB_ HO335 hb; have BK336 := Aside0.mk (hbox); have GW336 := gE_ HB hg; have GE336 := gE_ HB hg; replace HB := bS_ HB hb; have NB311_336 := nL_ BK311 hg; have NB336_311 := nG_ BK311 hg; replace BK311 := bB_ BK311 hb; clear hb hbox hg; obtain ⟨Ao30, co30, eo30⟩ := Kd.S_slice HO328.out; subst eo30; have hnb31 := NB336_311.out; have hnc31 := NB311_336.out; obtain ⟨hcz32_0, hcz32_1, hcz32_2, hcz32_3, hfz32_0, hfz32_1, hfz32_2, hfz32_3⟩ := cf4_ BK336; obtain ⟨Ao33, co33, eo33⟩ := Kd.R_slice HO331.out; subst eo33; obtain ⟨Ao34, co34, eo34⟩ := Kd.R_slice HO335.out; subst eo34) | ((with_reducible refine gate_callee (f := 19) rfl ?_); refine gL_ (some 22) Try.func19 #[.agg #[.slice Ao30 t326.length co30, .slice Ao33 t329.length co33, .int .i64 t332, .slice Ao34 t333.length co34]] ?_; (with_reducible refine (impl_Stuck.calls k _ _ t326 _ _ t329 t332 _ _ t333 t337 _ ?side1 ?side2 ?side3 ?side4 ?side5 ?side6 A10.out).mono ?_); (case side1 => exact sDFb_ HO328 BK336); (case side2 => exact (S_readsB HO328.out).2.1); (case side3 => exact rDF_ HO331 BK336); (case side4 => exact (Kd.R_reads' HO331.out).2.1); (case side5 => exact rDF_ HO335 BK336); (case side6 => exact (Kd.R_reads' HO335.out).2.1); rintro e w35 ⟨v338, rfl, ho0, hb⟩; refine ⟨_, rfl, ?_⟩; replace HO315 := Aside0.mk (Kd.S_elder' (sFb_ HO315 BK336) (Kd.R_base ho0) hb); replace HO322 := rBF_ HO322 BK336 hb; replace HO328 := Aside0.mk (Kd.S_elder' (sFb_ HO328 BK336) (Kd.R_base ho0) hb); replace HO335 := rBF_ HO335 BK336 hb; have HO339 := rLF_ (rN_ (rN_ (rN_ ho0 HO318) HO325) HO331) HB; replace HO318 := rEF_ HO318 BK336 ho0 hb; replace HO325 := rEF_ HO325 BK336 ho0 hb; replace HO331 := rEF_ HO331 BK336 ho0 hb; replace BK311 := bBF_ BK311 NB311_336 hb; replace BK336 := Aside0.mk (blk_below (g := gb336) (o := .cells #[.slice Ao30 t326.length co30, .slice Ao33 t329.length co33, .int .i64 t332, .slice Ao34 t333.length co34] 31 (0, 0)) (bP_ BK336) hb); replace HB := bSF_ HB GE336 hb; (try clear hb); (try clear ho0); obtain ⟨Ao36, co36, eo36⟩ := Kd.R_slice HO339.out; subst eo36; obtain ⟨Ao37, co37, eo37⟩ := Kd.R_slice HO325.out; subst eo37) | ((with_reducible refine gate_callee (f := 37) rfl ?_); refine gL_ (some 25) Try.func37 #[.slice Ao36 t337.length co36, .slice Ao37 t323.length co37] ?_; (with_reducible refine (laws_eqInt64S.calls k _ _ t337 _ _ t323 true _ ?side1 ?side2 ?side3 ?side4 A11.out).mono ?_); (case side1 => exact rD_ HO339); (case side2 => exact (Kd.R_reads' HO339.out).2.1); (case side3 => exact rD_ HO325); (case side4 => exact (Kd.R_reads' HO325.out).2.1); rintro e w' ⟨rfl, ⟨nd, rfl⟩⟩; refine ⟨_, rfl, ?_⟩))
    (try (rw [drewN_self w35]; generalize hq_ : World.drewN w35 _ = w35; have n0_ : Aside0 (Kd.S (bet k39 loAo23 hiAo23) 39 w35 w.heap.size (fun k_ => some k_ ≠ (.slice Ao24 t316.length co24 : Value).ownBlock ∧ some k_ ≠ (.slice Ao37 t323.length co37 : Value).ownBlock ∧ some k_ ≠ (.slice Ao30 t326.length co30 : Value).ownBlock ∧ some k_ ≠ (.slice Ao33 t329.length co33 : Value).ownBlock ∧ some k_ ≠ (.slice Ao36 t337.length co36 : Value).ownBlock) (.slice Ao23 t313.length co23) t313) := ⟨by rw [← hq_]; exact (by (with_reducible repeat (first | apply Kd.S_alloc | apply Kd.S_drewN | apply Kd.S_drew)); exact Kd.S_mono HO315.out (fun _ hk => ⟨hk.1.1.1.1, ⟨hk.1.1.1.2, ⟨hk.1.1.2, ⟨hk.1.2, hk.2⟩⟩⟩⟩))⟩; have n1_ : Aside0 (Kd.R (Kd.int .i64) 2 w35 w.heap.size (fun k_ => some k_ ≠ (.slice Ao37 t323.length co37 : Value).ownBlock ∧ some k_ ≠ (.slice Ao33 t329.length co33 : Value).ownBlock ∧ some k_ ≠ (.slice Ao36 t337.length co36 : Value).ownBlock) (.slice Ao24 t316.length co24) t316) := ⟨by rw [← hq_]; exact (rM_ HO318)⟩; have n2_ : Aside0 (Kd.R k43 43 w35 w.heap.size (fun k_ => some k_ ≠ (.slice Ao34 t333.length co34 : Value).ownBlock) (.slice Ao25 t320.length co25) t320) := ⟨by rw [← hq_]; exact (rM_ HO322)⟩; have n3_ : Aside0 (Kd.R (Kd.int .i64) 2 w35 w.heap.size (fun k_ => some k_ ≠ (.slice Ao24 t316.length co24 : Value).ownBlock ∧ some k_ ≠ (.slice Ao33 t329.length co33 : Value).ownBlock ∧ some k_ ≠ (.slice Ao36 t337.length co36 : Value).ownBlock) (.slice Ao37 t323.length co37) t323) := ⟨by rw [← hq_]; exact (rM_ HO325)⟩; have n4_ : Aside0 (Kd.S (bet k39 loAo30 hiAo30) 39 w35 w.heap.size (fun k_ => some k_ ≠ (.slice Ao23 t313.length co23 : Value).ownBlock ∧ some k_ ≠ (.slice Ao24 t316.length co24 : Value).ownBlock ∧ some k_ ≠ (.slice Ao37 t323.length co37 : Value).ownBlock ∧ some k_ ≠ (.slice Ao33 t329.length co33 : Value).ownBlock ∧ some k_ ≠ (.slice Ao36 t337.length co36 : Value).ownBlock) (.slice Ao30 t326.length co30) t326) := ⟨by rw [← hq_]; exact (by (with_reducible repeat (first | apply Kd.S_alloc | apply Kd.S_drewN | apply Kd.S_drew)); exact Kd.S_mono HO328.out (fun _ hk => ⟨hk.1.1.1.2, ⟨hk.1.1.2, ⟨hk.1.2, ⟨hk.1.1.1.1, hk.2⟩⟩⟩⟩))⟩; have n5_ : Aside0 (Kd.R (Kd.int .i64) 2 w35 w.heap.size (fun k_ => some k_ ≠ (.slice Ao24 t316.length co24 : Value).ownBlock ∧ some k_ ≠ (.slice Ao37 t323.length co37 : Value).ownBlock ∧ some k_ ≠ (.slice Ao36 t337.length co36 : Value).ownBlock) (.slice Ao33 t329.length co33) t329) := ⟨by rw [← hq_]; exact (rM_ HO331)⟩; have n6_ : Aside0 (Kd.R k43 43 w35 w.heap.size (fun k_ => some k_ ≠ (.slice Ao25 t320.length co25 : Value).ownBlock) (.slice Ao34 t333.length co34) t333) := ⟨by rw [← hq_]; exact (rM_ HO335)⟩; have n7_ : Aside0 (Kd.R (Kd.int .i64) 2 w35 w.heap.size (fun k_ => some k_ ≠ (.slice Ao24 t316.length co24 : Value).ownBlock ∧ some k_ ≠ (.slice Ao37 t323.length co37 : Value).ownBlock ∧ some k_ ≠ (.slice Ao33 t329.length co33 : Value).ownBlock) (.slice Ao36 t337.length co36) t337) := ⟨by rw [← hq_]; exact (rM_ HO339)⟩; have n8_ : Aside0 (w35.heap[gb311]? = some (.cells #[.slice A0_0 l0_0.length c0_0, .slice A0_1 l0_1.length c0_1, .int .i64 a0_2, .slice A0_3 l0_3.length c0_3] 64 (0, 0))) := ⟨by rw [← hq_]; exact (bT_ BK311)⟩; have n9_ : Aside0 (w35.heap[gb336]? = some (.cells #[.slice Ao30 t326.length co30, .slice Ao33 t329.length co33, .int .i64 t332, .slice Ao34 t333.length co34] 31 (0, 0))) := ⟨by rw [← hq_]; exact (bT_ BK336)⟩; have n10_ : Aside0 (Below w.heap.size w w35) := ⟨by rw [← hq_]; exact sABelo_15⟩; clear HO315 HO318 HO322 HO325 HO328 HO331 HO335 HO339 BK311 BK336 HB hq_; have HO315 := n0_; have HO318 := n1_; have HO322 := n2_; have HO325 := n3_; have HO328 := n4_; have HO331 := n5_; have HO335 := n6_; have HO339 := n7_; have BK311 := n8_; have BK336 := n9_; have HB := n10_; clear n0_ n1_ n2_ n3_ n4_ n5_ n6_ n7_ n8_ n9_ n10_))
    replace HO315 := Aside0.mk (Kd.S_drew HO315.out)
    replace HO318 := Aside0.mk (Kd.R_drew HO318.out)
    replace HO322 := Aside0.mk (Kd.R_drew HO322.out)
    replace HO325 := Aside0.mk (Kd.R_drew HO325.out)
    replace HO328 := Aside0.mk (Kd.S_drew HO328.out)
    replace HO331 := Aside0.mk (Kd.R_drew HO331.out)
    replace HO335 := Aside0.mk (Kd.R_drew HO335.out)
    replace HO339 := Aside0.mk (Kd.R_drew HO339.out)
    replace BK311 := Aside0.mk (blk_drew BK311.out)
    replace BK336 := Aside0.mk (blk_drew BK336.out)
    replace HB := Aside0.mk (below_drew1 HB.out)
    refine start_ (n := 5) (S := fun w' => w'.cell? ⟨gb336, 0, none⟩ = some (.slice Ao30 t326.length co30) ∧ w'.cell? ⟨gb336, 1, none⟩ = some (.slice Ao33 t329.length co33) ∧ w'.cell? ⟨gb336, 2, none⟩ = some (.int .i64 t332) ∧ w'.cell? ⟨gb336, 3, none⟩ = some (.slice Ao34 t333.length co34) ∧ w'.cell? ⟨gb311, 0, none⟩ = some (.slice A0_0 l0_0.length c0_0) ∧ w'.cell? ⟨gb311, 1, none⟩ = some (.slice A0_1 l0_1.length c0_1) ∧ w'.cell? ⟨gb311, 2, none⟩ = some (.int .i64 a0_2) ∧ w'.cell? ⟨gb311, 3, none⟩ = some (.slice A0_3 l0_3.length c0_3)) (ds := []) #[false, false, false, false, false] (by kernel_rfl) rfl rfl ⟨(blk_cell BK336.out 0).trans rfl, (blk_cell BK336.out 1).trans rfl, (blk_cell BK336.out 2).trans rfl, (blk_cell BK336.out 3).trans rfl, (blk_cell BK311.out 0).trans rfl, (blk_cell BK311.out 1).trans rfl, (blk_cell BK311.out 2).trans rfl, (blk_cell BK311.out 3).trans rfl⟩ (fun hHeld => ?_)
    generalize w35.drew = w38 at HO315 HO318 HO322 HO325 HO328 HO331 HO335 HO339 BK311 BK336 HB hHeld ⊢
    refine tB_ 0 (some 27) #[true, false, false, false, false] hHeld ?_ (hy := by rintro w' ⟨s0, s1, s2, s3, s4, s5, s6, s7⟩; go_simp; with_reducible rfl)
    refine tB_ 1 (some 28) #[true, true, false, false, false] hHeld ?_ (hy := by rintro w' ⟨s0, s1, s2, s3, s4, s5, s6, s7⟩; go_simp; with_reducible rfl)
    refine one_ (i := 2) (N := some 29) #[true, true, true, false, false] rfl rfl (by kernel_rfl) (by decide) (fun K hK => ?_)
    refine goes_ Try.func36 (by kernel_rfl) rfl #[.agg #[.slice A0_0 l0_0.length c0_0, .slice A0_1 l0_1.length c0_1, .int .i64 a0_2, .slice A0_3 l0_3.length c0_3]] (by rfl) rfl rfl (by (try simp only [List.map_toArray, List.map_cons, List.map_nil]); first | done | rfl | (simp only [List.length_drop, List.length_take]; rfl)) ?_
    with_reducible refine (laws_toRun.calls k _ _ l0_0 _ _ l0_1 a0_2 _ _ l0_3 t341 t344 t347 t348 _ ?side1 ?side2 ?side3 ?side4 ?side5 ?side6 A13.out).mono ?_
    (case side1 => exact cB_ HR0_0 HB)
    (case side2 => exact HC0_0.out)
    (case side3 => exact cB_ HR0_1 HB)
    (case side4 => exact HC0_1.out)
    (case side5 => exact cB_ HR0_3 HB)
    (case side6 => exact HC0_3.out)
    rintro e w39 ⟨v342, v345, v349, rfl, ho0, ho1, ho2, hb⟩
    refine ⟨_, rfl, ?_⟩
    obtain ⟨loAo40, hiAo40, hl_, hh_, ho0⟩ := S_inV (Q := fun n_ => gb311 < n_ ∧ gb336 < n_) ho0 ⟨(bLt_ BK311), (bLt_ BK336)⟩
    have HLAo40 := Aside0.mk (show gb311 < loAo40 ∧ gb336 < loAo40 from hl_); have HHAo40 := Aside0.mk hh_; clear hl_ hh_
    have HO343 := sL_ (Kd.S_new' (Kd.S_new' (Kd.S_new' (Kd.S_new' (Kd.S_new' (Kd.S_new' ho0 (sLt_ HO315)) (rLt_ HO318)) (rLt_ HO325)) (sLt_ HO328)) (rLt_ HO331)) (rLt_ HO339)) HB
    replace HO315 := Aside0.mk (Kd.S_mono (Kd.S_told (Kd.S_told (Kd.S_old (sT_ HO315) hb) (Kd.S_base ho0)) (Kd.R_base ho1)) (fun _ h_ => h_.1))
    replace HO328 := Aside0.mk (Kd.S_mono (Kd.S_told (Kd.S_told (Kd.S_old (sT_ HO328) hb) (Kd.S_base ho0)) (Kd.R_base ho1)) (fun _ h_ => h_.1))
    have HO346 := rL_ (rN_ (rN_ (rN_ (rN_ ho1 HO318) HO325) HO331) HO339) HB
    replace HO318 := rE_ HO318 ho1 hb; replace HO325 := rE_ HO325 ho1 hb; replace HO331 := rE_ HO331 ho1 hb; replace HO339 := rE_ HO339 ho1 hb
    have HO350 := rL_ (rN_ (rN_ ho2 HO322) HO335) HB
    replace HO322 := rE_ HO322 ho2 hb; replace HO335 := rE_ HO335 ho2 hb; replace BK311 := bB_ BK311 hb; replace BK336 := bB_ BK336 hb; replace HB := bS_ HB hb; (try clear hb); (try clear hk); (try clear ho0); (try clear ho1); (try clear ho2)
    obtain ⟨Ao40, co40, eo40⟩ := Kd.S_slice HO343.out
    (first | subst eo40 | (injection eo40 with f1_ f2_ f3_; have f4_ := f1_.symm; have f5_ := f3_.symm; clear f1_ f2_ f3_; subst f4_; subst f5_))
    obtain ⟨Ao41, co41, eo41⟩ := Kd.R_slice HO346.out
    (first | subst eo41 | (injection eo41 with f1_ f2_ f3_; have f4_ := f1_.symm; have f5_ := f3_.symm; clear f1_ f2_ f3_; subst f4_; subst f5_))
    obtain ⟨Ao42, co42, eo42⟩ := Kd.R_slice HO350.out
    (first | subst eo42 | (injection eo42 with f1_ f2_ f3_; have f4_ := f1_.symm; have f5_ := f3_.symm; clear f1_ f2_ f3_; subst f4_; subst f5_))
    refine hK.out _ _ ⟨(blk_cell BK336.out 0).trans rfl, (blk_cell BK336.out 1).trans rfl, (blk_cell BK336.out 2).trans rfl, (blk_cell BK336.out 3).trans rfl, (blk_cell BK311.out 0).trans rfl, (blk_cell BK311.out 1).trans rfl, (blk_cell BK311.out 2).trans rfl, (blk_cell BK311.out 3).trans rfl⟩ (fun hHeld => ?_)
    clear hK K
    refine nS_ (some 29) ?_
    refine one_ (i := 3) (N := some 30) #[true, true, true, true, false] rfl rfl (by kernel_rfl) (by decide) (fun K hK => ?_)
    refine goes_ Try.func29 (by kernel_rfl) rfl #[.agg #[.slice Ao30 t326.length co30, .slice Ao33 t329.length co33, .int .i64 t332, .slice Ao34 t333.length co34], .agg #[.slice Ao40 t341.length co40, .slice Ao41 t344.length co41, .int .i64 t347, .slice Ao42 t348.length co42]] (by rfl) rfl rfl (by (try simp only [List.map_toArray, List.map_cons, List.map_nil]); first | done | rfl | (simp only [List.length_drop, List.length_take]; rfl)) ?_
    with_reducible refine (laws_eqRun.calls k _ _ t326 _ _ t329 t332 _ _ t333 _ _ t341 _ _ t344 t347 _ _ t348 true _ ?side1 ?side2 ?side3 ?side4 ?side5 ?side6 ?side7 ?side8 ?side9 ?side10 ?side11 ?side12 A14.out).mono ?_
    (case side1 => exact sDb_ HO328)
    (case side2 => exact (S_readsB HO328.out).2.1)
    (case side3 => exact rD_ HO331)
    (case side4 => exact (Kd.R_reads' HO331.out).2.1)
    (case side5 => exact rD_ HO335)
    (case side6 => exact (Kd.R_reads' HO335.out).2.1)
    (case side7 => exact sDb_ HO343)
    (case side8 => exact (S_readsB HO343.out).2.1)
    (case side9 => exact rD_ HO346)
    (case side10 => exact (Kd.R_reads' HO346.out).2.1)
    (case side11 => exact rD_ HO350)
    (case side12 => exact (Kd.R_reads' HO350.out).2.1)
    rintro e w43 ⟨rfl, hb⟩
    refine ⟨_, rfl, ?_⟩
    replace HO315 := sB_ HO315 hb; replace HO318 := rB_ HO318 hb; replace HO322 := rB_ HO322 hb; replace HO325 := rB_ HO325 hb; replace HO328 := sB_ HO328 hb; replace HO331 := rB_ HO331 hb; replace HO335 := rB_ HO335 hb; replace HO339 := rB_ HO339 hb; replace HO343 := sB_ HO343 hb; replace HO346 := rB_ HO346 hb; replace HO350 := rB_ HO350 hb; replace BK311 := bB_ BK311 hb; replace BK336 := bB_ BK336 hb; replace HB := bS_ HB hb; (try clear hb); (try clear hk)
    refine hK.out _ _ ⟨(blk_cell BK336.out 0).trans rfl, (blk_cell BK336.out 1).trans rfl, (blk_cell BK336.out 2).trans rfl, (blk_cell BK336.out 3).trans rfl, (blk_cell BK311.out 0).trans rfl, (blk_cell BK311.out 1).trans rfl, (blk_cell BK311.out 2).trans rfl, (blk_cell BK311.out 3).trans rfl⟩ (fun hHeld => ?_)
    clear hK K
    refine nS_ (some 30) ?_
    refine pB_ 4 (some 31) #[true, true, true, true, true] ?_
    refine done_ (by kernel_rfl) ?_
    obtain ⟨hcz44_0, hcz44_1, hcz44_2, hcz44_3, hfz44_0, hfz44_1, hfz44_2, hfz44_3⟩ := cf4_ BK336
    go_upto_region 14 with (first | ((with_reducible refine gate_callee (f := 32) rfl ?_); refine gL_ (some 34) Try.func32 #[.agg #[.slice Ao30 t326.length co30, .slice Ao33 t329.length co33, .int .i64 t332, .slice Ao34 t333.length co34], .int .i64 1] ?_; have hS_ := S_hand HO328.out; have hR_ := R_typedk HO331.out rfl; have hp_ := hp_of HO328.out HO331.out (fun k_ hok hok1 e_ => by first | (simp only [e_, ne_eq, not_true_eq_false, and_false, false_and] at hok; done) | (simp only [e_, ne_eq, not_true_eq_false, and_false, false_and] at hok1; done)); have hJ_ := R_typedk HO335.out rfl; have hp0_ := hp_ty HO328.out HO335.out (fun q_ hq_ => (by decide : ∀ q_, q_ ∈ 39 :: k39.E → q_ ≠ 43) q_ hq_); have hp1_ := hp_rr HO331.out HO335.out (by decide); (with_reducible refine (laws_markRun.calls k _ _ _ _ _ _ _ _ _ _ 1 t352 _ _ _  w _ HB.out hS_ hR_ hJ_ hp_ hp0_ hp1_ A16.out).mono ?_); rintro e w45 ⟨rfl, hs0_, hs1_, hs3_, hb, hk_⟩; refine ⟨_, rfl, ?_⟩; clear hS_ hR_ hp_ hJ_ hp0_ hp1_; have NIAo23 := HIAo23.out; have NIAo30 := HIAo30.out; have NLAo23 := HLAo23.out; have NLAo30 := HLAo30.out; have NLAo40 := HLAo40.out; replace HO315 := Aside0.mk (S_kept HO315.out hk_ (by intro k_ hok hx hty hP; rcases hP with (⟨⟨ob, hb | hb⟩, -, ht⟩ | ⟨⟨ob, hb⟩, -, ht⟩) | ⟨⟨ob, hb⟩, -, ht⟩; all_goals (rcases hx with hx | hx); all_goals (first | omega | (simp only [hx, ne_eq, not_true_eq_false, and_false, false_and] at ob; done) | (simp only [hb, ne_eq, not_true_eq_false, and_false, false_and] at hok; done) | exact tyX_ hty ht))); replace HO318 := Aside0.mk (R_kept HO318.out rfl hk_ (by intro k_ hok hx hty hP; rcases hP with (⟨⟨ob, hb | hb⟩, -, ht⟩ | ⟨⟨ob, hb⟩, -, ht⟩) | ⟨⟨ob, hb⟩, -, ht⟩; all_goals (skip; (first | omega | (simp only [hx, ne_eq, not_true_eq_false, and_false, false_and] at ob; done) | (simp only [hb, ne_eq, not_true_eq_false, and_false, false_and] at hok; done) | exact tyX_ hty ht)))); replace HO322 := Aside0.mk (R_kept HO322.out rfl hk_ (by intro k_ hok hx hty hP; rcases hP with (⟨⟨ob, hb | hb⟩, -, ht⟩ | ⟨⟨ob, hb⟩, -, ht⟩) | ⟨⟨ob, hb⟩, -, ht⟩; all_goals (skip; (first | omega | (simp only [hx, ne_eq, not_true_eq_false, and_false, false_and] at ob; done) | (simp only [hb, ne_eq, not_true_eq_false, and_false, false_and] at hok; done) | exact tyX_ hty ht)))); replace HO325 := Aside0.mk (R_kept HO325.out rfl hk_ (by intro k_ hok hx hty hP; rcases hP with (⟨⟨ob, hb | hb⟩, -, ht⟩ | ⟨⟨ob, hb⟩, -, ht⟩) | ⟨⟨ob, hb⟩, -, ht⟩; all_goals (skip; (first | omega | (simp only [hx, ne_eq, not_true_eq_false, and_false, false_and] at ob; done) | (simp only [hb, ne_eq, not_true_eq_false, and_false, false_and] at hok; done) | exact tyX_ hty ht)))); replace HO328 := Aside0.mk (S_back hs0_); replace HO331 := Aside0.mk (Kd.R_mono hs1_ (fun _ h_ => h_.1.1)); replace HO335 := Aside0.mk (Kd.R_mono hs3_ (fun _ h_ => h_.1.1)); replace HO339 := Aside0.mk (R_kept HO339.out rfl hk_ (by intro k_ hok hx hty hP; rcases hP with (⟨⟨ob, hb | hb⟩, -, ht⟩ | ⟨⟨ob, hb⟩, -, ht⟩) | ⟨⟨ob, hb⟩, -, ht⟩; all_goals (skip; (first | omega | (simp only [hx, ne_eq, not_true_eq_false, and_false, false_and] at ob; done) | (simp only [hb, ne_eq, not_true_eq_false, and_false, false_and] at hok; done) | exact tyX_ hty ht)))); replace HO343 := Aside0.mk (S_kept HO343.out hk_ (by intro k_ hok hx hty hP; rcases hP with (⟨⟨ob, hb | hb⟩, -, ht⟩ | ⟨⟨ob, hb⟩, -, ht⟩) | ⟨⟨ob, hb⟩, -, ht⟩; all_goals (rcases hx with hx | hx); all_goals (first | omega | (simp only [hx, ne_eq, not_true_eq_false, and_false, false_and] at ob; done) | (simp only [hb, ne_eq, not_true_eq_false, and_false, false_and] at hok; done) | exact tyX_ hty ht))); replace HO346 := Aside0.mk (R_kept HO346.out rfl hk_ (by intro k_ hok hx hty hP; rcases hP with (⟨⟨ob, hb | hb⟩, -, ht⟩ | ⟨⟨ob, hb⟩, -, ht⟩) | ⟨⟨ob, hb⟩, -, ht⟩; all_goals (skip; (first | omega | (simp only [hx, ne_eq, not_true_eq_false, and_false, false_and] at ob; done) | (simp only [hb, ne_eq, not_true_eq_false, and_false, false_and] at hok; done) | exact tyX_ hty ht)))); replace HO350 := Aside0.mk (R_kept HO350.out rfl hk_ (by intro k_ hok hx hty hP; rcases hP with (⟨⟨ob, hb | hb⟩, -, ht⟩ | ⟨⟨ob, hb⟩, -, ht⟩) | ⟨⟨ob, hb⟩, -, ht⟩; all_goals (skip; (first | omega | (simp only [hx, ne_eq, not_true_eq_false, and_false, false_and] at ob; done) | (simp only [hb, ne_eq, not_true_eq_false, and_false, false_and] at hok; done) | exact tyX_ hty ht)))); replace BK311 := Aside0.mk (blk_kp (g := gb311) (o := .cells #[.slice A0_0 l0_0.length c0_0, .slice A0_1 l0_1.length c0_1, .int .i64 a0_2, .slice A0_3 l0_3.length c0_3] 64 (0, 0)) BK311.out hk_ (by intro hP; have hty : ∃ q_, q_ ∈ [64] ∧ ∃ cells_, _ = some (Obj.cells cells_ q_ (0, 0)) := ⟨_, List.mem_singleton.2 rfl, _, BK311.out⟩; rcases hP with (⟨-, -, ht⟩ | ⟨-, -, ht⟩) | ⟨-, -, ht⟩; all_goals (first | exact tyX_ hty ht))); replace BK336 := Aside0.mk (blk_kp (g := gb336) (o := .cells #[.slice Ao30 t326.length co30, .slice Ao33 t329.length co33, .int .i64 t332, .slice Ao34 t333.length co34] 31 (0, 0)) BK336.out hk_ (by intro hP; have hty : ∃ q_, q_ ∈ [31] ∧ ∃ cells_, _ = some (Obj.cells cells_ q_ (0, 0)) := ⟨_, List.mem_singleton.2 rfl, _, BK336.out⟩; rcases hP with (⟨-, -, ht⟩ | ⟨-, -, ht⟩) | ⟨-, -, ht⟩; all_goals (first | exact tyX_ hty ht))); replace HB := Aside0.mk (hb); clear NIAo23 NIAo30 NLAo23 NLAo30 NLAo40; clear hs0_ hs1_ hs3_ hb hk_; have hl0_ := (S_readsB HO328.out).1; have hl1_ := (Kd.R_reads' HO331.out).1; have hl3_ := (Kd.R_reads' HO335.out).1; (try simp only [hl0_, hl1_, hl3_] at HO315); (try simp only [hl0_, hl1_, hl3_] at HO318); (try simp only [hl0_, hl1_, hl3_] at HO322); (try simp only [hl0_, hl1_, hl3_] at HO325); (try simp only [hl0_, hl1_, hl3_] at HO328); (try simp only [hl0_, hl1_, hl3_] at HO331); (try simp only [hl0_, hl1_, hl3_] at HO335); (try simp only [hl0_, hl1_, hl3_] at HO339); (try simp only [hl0_, hl1_, hl3_] at HO343); (try simp only [hl0_, hl1_, hl3_] at HO346); (try simp only [hl0_, hl1_, hl3_] at HO350); (try simp only [hl0_, hl1_, hl3_] at BK311); (try simp only [hl0_, hl1_, hl3_] at BK336); (try simp only [hl0_, hl1_, hl3_] at HB); clear hl0_ hl1_ hl3_))
    (try simp only [Act.put, List.setIfInBounds_toArray, List.set_cons_zero, List.set_cons_succ])
    go_cut [42] (fun v42 wc => ∃ (kq : Nat) (x42_16 : Bool), v42 = .bool x42_16 ∧ Aside0 (laws_FnExactStuck.j0 kq t323 t337 x42_16 l0_0 l0_1 a0_2 l0_3 = some true) ∧ Aside0 (kq ≤ k) ∧ Aside0 (Kd.R (Kd.int .i64) 2 wc w.heap.size (fun k_ => some k_ ≠ ((.slice Ao36 t337.length co36) : Value).ownBlock ∧ some k_ ≠ ((.slice Ao33 m329.length co33) : Value).ownBlock) (.slice Ao37 t323.length co37) t323) ∧ Aside0 (Kd.R (Kd.int .i64) 2 wc w.heap.size (fun k_ => some k_ ≠ ((.slice Ao37 t323.length co37) : Value).ownBlock ∧ some k_ ≠ ((.slice Ao33 m329.length co33) : Value).ownBlock) (.slice Ao36 t337.length co36) t337) ∧ Aside0 (Kd.S (bet k39 loAo30 hiAo30) 39 wc w.heap.size (fun k_ => some k_ ≠ ((.slice Ao37 t323.length co37) : Value).ownBlock ∧ some k_ ≠ ((.slice Ao36 t337.length co36) : Value).ownBlock ∧ some k_ ≠ ((.slice Ao33 m329.length co33) : Value).ownBlock) (.slice Ao30 m326.length co30) m326) ∧ Aside0 (Kd.R (Kd.int .i64) 2 wc w.heap.size (fun k_ => some k_ ≠ ((.slice Ao37 t323.length co37) : Value).ownBlock ∧ some k_ ≠ ((.slice Ao36 t337.length co36) : Value).ownBlock) (.slice Ao33 m329.length co33) m329) ∧ Aside0 (Kd.R k43 43 wc w.heap.size (fun _ => True) (.slice Ao34 m333.length co34) m333) ∧ Aside0 (wc.heap[gb311]? = some (.cells #[(.slice A0_0 l0_0.length c0_0), (.slice A0_1 l0_1.length c0_1), .int .i64 a0_2, (.slice A0_3 l0_3.length c0_3)] 64 (0, 0))) ∧ Aside0 (wc.heap[gb336]? = some (.cells #[(.slice Ao30 m326.length co30), (.slice Ao33 m329.length co33), .int .i64 t332, (.slice Ao34 m333.length co34)] 31 (0, 0))) ∧ Aside0 (Below w.heap.size w wc))
    case first =>
     have H := HC17.out; clear HC17
     by_cases c46 : t352 < 0
     ·rw [if_pos c46] at H
      have c46b0 := decide_eq_true c46
      clear c46
      (first | rw [c46b0] | (simp only [i64_w, i32_w]; rw [c46b0]) | skip)
      have H' := Aside0.mk H; clear H
      go_wp2
      go_meet
      case rel => exact ⟨_, (true), (by first | rfl | (simp; done) | (simp [*]; done)), H', ⟨by first | omega | exact Nat.le_refl _⟩, ⟨rM2_ HO325⟩, ⟨rM2_ HO339⟩, ⟨sM2_ HO328⟩, ⟨rM2_ HO331⟩, ⟨rM2_ HO335⟩, ⟨bT_ BK311⟩, ⟨bT_ BK336⟩, ⟨sABelo_15⟩⟩
     ·rw [if_neg c46] at H
      have c46b0 := decide_eq_false c46
      clear c46
      (first | rw [c46b0] | (simp only [i64_w, i32_w]; rw [c46b0]) | skip)
      replace H := Option.bind_eq_some_iff.mp H
      obtain ⟨t353, A470, H⟩ := H
      replace H : (laws_FnExactStuck.j0 k t323 t337 (!t353) l0_0 l0_1 a0_2 l0_3) = some true := H
      have A47 := Aside0.mk A470; clear A470; have H' := Aside0.mk H; clear H
      go_wp2_with (first | (go_at_call 37; (with_reducible refine (laws_eqInt64S.calls k _ _ t337 _ _ t323 t353 _ ?side1 ?side2 ?side3 ?side4 A47.out).mono ?_); (case side1 => exact rD_ HO339); (case side2 => exact (Kd.R_reads' HO339.out).2.1); (case side3 => exact rD_ HO325); (case side4 => exact (Kd.R_reads' HO325.out).2.1); rintro e w' ⟨rfl, ⟨nd, rfl⟩⟩))
      go_meet
      case rel => exact ⟨_, (!t353), (by first | rfl | (simp; done) | (simp [*]; done)), H', ⟨by first | omega | exact Nat.le_refl _⟩, ⟨rM2_ HO325⟩, ⟨rM2_ HO339⟩, ⟨sM2_ HO328⟩, ⟨rM2_ HO331⟩, ⟨rM2_ HO335⟩, ⟨bT_ BK311⟩, ⟨bT_ BK336⟩, ⟨sABelo_15⟩⟩
    case rest =>
     clear HC17; (try clear c3); (try clear c3b0); (try clear c12); (try clear c15); (try clear hcz19_0); (try clear hcz19_1); (try clear hcz19_2); (try clear hcz19_3); (try clear hcz21_0); (try clear hcz21_1); (try clear hcz21_2); (try clear hcz21_3); (try clear hcz27_0); (try clear hcz27_1); (try clear hcz27_2); (try clear hcz27_3); (try clear hcz32_0); (try clear hcz32_1); (try clear hcz32_2); (try clear hcz32_3); (try clear hcz44_0); (try clear hcz44_1); (try clear hcz44_2); (try clear hcz44_3); (try clear hfz19_0); (try clear hfz19_1); (try clear hfz19_2); (try clear hfz19_3); (try clear hfz21_0); (try clear hfz21_1); (try clear hfz21_2); (try clear hfz21_3); (try clear hfz27_0); (try clear hfz27_1); (try clear hfz27_2); (try clear hfz27_3); (try clear hfz32_0); (try clear hfz32_1); (try clear hfz32_2); (try clear hfz32_3); (try clear hfz44_0); (try clear hfz44_1); (try clear hfz44_2); (try clear hfz44_3)
     obtain ⟨kq, x42_16, rfl, HA, HJ16, HO_4, HO_6, HO_337000, HO_337001, HO_337003, BK311, BK336, HB⟩ := hcut
     cases kq with
     | zero => exact absurd HA.out (by simp [laws_FnExactStuck.j0])
     | succ kj16 =>
      have H := HA.out; clear HA
      simp only [laws_FnExactStuck.j0] at H
      by_cases c48 : x42_16 = true
      ·subst c48
       replace H := ifT_ H
       exact absurd H (by simp)
      ·replace c48 := Bool.eq_false_iff.mpr c48
       subst c48
       replace H := ifF_ H; replace H := Option.bind_eq_some_iff.mp H
       obtain ⟨⟨t354, t355⟩, A490, H⟩ := H
       replace H : ((laws_heldInt64S.f kj16 t355 1).bind fun t356 => (if t356 < 0 then (some false) else (if t356 = t354 then ((laws_toRun.f kj16 l0_0 l0_1 a0_2 l0_3).bind fun bt357 => ((impl_Stuck.f kj16 bt357.1 bt357.2.1 bt357.2.2.1 bt357.2.2.2).bind fun t367 => ((laws_eqInt64S.f kj16 t367 t323).bind fun t370 => (if t370 = true then ((laws_heldInt64S.f kj16 t355 1).bind fun t371 => (if t371 < 0 then (some false) else (if t371 = t354 then (some true) else (some false)))) else (some false))))) else (some false)))) = some true := H
       have A49 := Aside0.mk A490; clear A490; replace H := Option.bind_eq_some_iff.mp H
       obtain ⟨t356, A500, H⟩ := H
       replace H : (if t356 < 0 then (some false) else (if t356 = t354 then ((laws_toRun.f kj16 l0_0 l0_1 a0_2 l0_3).bind fun bt357 => ((impl_Stuck.f kj16 bt357.1 bt357.2.1 bt357.2.2.1 bt357.2.2.2).bind fun t367 => ((laws_eqInt64S.f kj16 t367 t323).bind fun t370 => (if t370 = true then ((laws_heldInt64S.f kj16 t355 1).bind fun t371 => (if t371 < 0 then (some false) else (if t371 = t354 then (some true) else (some false)))) else (some false))))) else (some false))) = some true := H
       have A50 := Aside0.mk A500; clear A500
       by_cases c51 : t356 < 0
       ·rw [if_pos c51] at H
        have c51b0 := decide_eq_true c51
        clear c51
        exact absurd H (by simp)
       ·rw [if_neg c51] at H
        have c51b0 := decide_eq_false c51
        clear c51
        by_cases c52 : t356 = t354
        ·rw [if_pos c52] at H
         have c52b0 := beq_iff_eq.mpr c52
         have c52b1 := bne_eq_false_iff_eq.mpr c52
         clear c52; replace H := Option.bind_eq_some_iff.mp H
         obtain ⟨⟨t357, t360, t363, t364⟩, A530, H⟩ := H
         replace H : ((impl_Stuck.f kj16 t357 t360 t363 t364).bind fun t367 => ((laws_eqInt64S.f kj16 t367 t323).bind fun t370 => (if t370 = true then ((laws_heldInt64S.f kj16 t355 1).bind fun t371 => (if t371 < 0 then (some false) else (if t371 = t354 then (some true) else (some false)))) else (some false)))) = some true := H
         have A53 := Aside0.mk A530; clear A530; replace H := Option.bind_eq_some_iff.mp H
         obtain ⟨t367, A540, H⟩ := H
         replace H : ((laws_eqInt64S.f kj16 t367 t323).bind fun t370 => (if t370 = true then ((laws_heldInt64S.f kj16 t355 1).bind fun t371 => (if t371 < 0 then (some false) else (if t371 = t354 then (some true) else (some false)))) else (some false))) = some true := H
         have A54 := Aside0.mk A540; clear A540; replace H := Option.bind_eq_some_iff.mp H
         obtain ⟨t370, A550, H⟩ := H
         replace H : (if t370 = true then ((laws_heldInt64S.f kj16 t355 1).bind fun t371 => (if t371 < 0 then (some false) else (if t371 = t354 then (some true) else (some false)))) else (some false)) = some true := H
         have A55 := Aside0.mk A550; clear A550
         by_cases c56 : t370 = true
         ·subst c56
          replace H := ifT_ H; replace H := Option.bind_eq_some_iff.mp H
          obtain ⟨t371, A570, H⟩ := H
          replace H : (if t371 < 0 then (some false) else (if t371 = t354 then (some true) else (some false))) = some true := H
          have A57 := Aside0.mk A570; clear A570
          by_cases c58 : t371 < 0
          ·rw [if_pos c58] at H
           have c58b0 := decide_eq_true c58
           clear c58
           exact absurd H (by simp)
          ·rw [if_neg c58] at H
           have c58b0 := decide_eq_false c58
           clear c58
           by_cases c59 : t371 = t354
           ·rw [if_pos c59] at H
            have c59b0 := beq_iff_eq.mpr c59
            have c59b1 := bne_eq_false_iff_eq.mpr c59
            clear c59 H
            go_wp2_with (first | ((with_reducible refine gate_callee (f := 38) rfl ?_); refine gL_ (some 45) Try.func38 #[.slice Ao36 t337.length co36, .int .i64 1] ?_; (with_reducible refine (laws_markInt64S.calls kj16 (fun k_ => some k_ = (.slice Ao36 t337.length co36 : Value).ownBlock) (.slice Ao36 t337.length co36) t337 1 t354 t355 w _ ?side1 ?side2 A49.out).mono ?_); (case side1 => repeat (first | (with_reducible first | exact HB.out | apply below_alloc | apply pw_below_drewN | apply below_drew1 | refine below_set ?_ GE311.out | refine below_set ?_ GE336.out) | exact HB.out)); (case side2 => exact Kd.R_tight rfl (rT_ HO_6)); rintro e w60 ⟨rfl, hy0, hb, hkp⟩; refine ⟨_, rfl, ?_⟩; replace HO_4 := Aside0.mk (rK_ (ok' := fun k_ => some k_ ≠ (.slice Ao36 t337.length co36 : Value).ownBlock ∧ some k_ ≠ (.slice Ao33 m329.length co33 : Value).ownBlock) HO_4 hkp); replace HO_337000 := Aside0.mk (Kd.S_mono (ok' := fun k_ => some k_ ≠ (.slice Ao37 t323.length co37 : Value).ownBlock ∧ some k_ ≠ (.slice Ao36 t337.length co36 : Value).ownBlock ∧ some k_ ≠ (.slice Ao33 m329.length co33 : Value).ownBlock) (Kd.S_keptB (HO_337000.out) hkp (fun k_ hk_ hs_ => (hk_.2.1) hs_)) (fun k_ hk_ => ⟨hk_.1.1, hk_.1.2.1, hk_.1.2.2⟩)); replace HO_337001 := Aside0.mk (rK_ (ok' := fun k_ => some k_ ≠ (.slice Ao37 t323.length co37 : Value).ownBlock ∧ some k_ ≠ (.slice Ao36 t337.length co36 : Value).ownBlock) HO_337001 hkp); replace HO_337003 := Aside0.mk (Kd.R_mono (ok' := fun k_ => True) (Kd.R_keptB ((Kd.R_apart' HO_337003.out (Kd.R_typed HO_6.out) (by decide))) hkp (fun k_ hk_ hs_ => (hk_.2) hs_)) (fun k_ hk_ => trivial)); replace BK311 := Aside0.mk (blk_kept (bT_ BK311) hkp (fun hs_ => (fun e_ => (Kd.R_ne HO_6.out BK311.out (by decide)) e_) hs_)); replace BK336 := Aside0.mk (blk_kept (bT_ BK336) hkp (fun hs_ => (fun e_ => (Kd.R_ne HO_6.out BK336.out (by decide)) e_) hs_)); replace HO_6 := Aside0.mk (Kd.R_reok rfl hy0 (fun k_ e_ => HO_6.out.1 k_ e_)); replace HB := Aside0.mk (hb); (try clear hb); (try clear hkp); (try clear hy0)) | ((with_reducible refine gate_callee (f := 39) rfl ?_); refine goesL_ (some 48) rfl rfl Try.func39 (by kernel_rfl) rfl #[.slice Ao36 t355.length co36, .int .i64 1] rfl (by (try simp only [List.map_toArray, List.map_cons, List.map_nil]); first | done | (rw [show t355.length = t337.length from (Kd.R_reads' HO_6.out).1.symm] <;> rfl) | rfl | (simp only [List.length_drop, List.length_take]; rfl)) ?_; (with_reducible refine (laws_heldInt64S.calls kj16 _ _ t355 1 t356 _ ?side1 ?side2 A50.out).mono ?_); (case side1 => exact rD_ HO_6); (case side2 => rw [show t355.length = t337.length from (Kd.R_reads' HO_6.out).1.symm]; exact (Kd.R_reads' HO_6.out).2.1); rintro e w' ⟨rfl, ⟨nd, rfl⟩⟩; refine ⟨_, rfl, ?_⟩; have hnb61 := NB311_336.out; have hnc61 := NB336_311.out; obtain ⟨hcz62_0, hcz62_1, hcz62_2, hcz62_3, hfz62_0, hfz62_1, hfz62_2, hfz62_3⟩ := cf4_ BK311) | ((with_reducible refine gate_callee (f := 36) rfl ?_); refine gL_ (some 55) Try.func36 #[.agg #[.slice A0_0 l0_0.length c0_0, .slice A0_1 l0_1.length c0_1, .int .i64 a0_2, .slice A0_3 l0_3.length c0_3]] ?_; (with_reducible refine (laws_toRun.calls kj16 _ _ l0_0 _ _ l0_1 a0_2 _ _ l0_3 t357 t360 t363 t364 _ ?side1 ?side2 ?side3 ?side4 ?side5 ?side6 A53.out).mono ?_); (case side1 => repeat (first | exact (Kd.C_below HR0_0.out sABelo_15) | (with_reducible refine Kd.C_alloc ?_ _) | (with_reducible refine Kd.C_drewN ?_ _) | (with_reducible refine Kd.C_drew ?_))); (case side2 => exact HC0_0.out); (case side3 => repeat (first | exact (Kd.C_below HR0_1.out sABelo_15) | (with_reducible refine Kd.C_alloc ?_ _) | (with_reducible refine Kd.C_drewN ?_ _) | (with_reducible refine Kd.C_drew ?_))); (case side4 => exact HC0_1.out); (case side5 => repeat (first | exact (Kd.C_below HR0_3.out sABelo_15) | (with_reducible refine Kd.C_alloc ?_ _) | (with_reducible refine Kd.C_drewN ?_ _) | (with_reducible refine Kd.C_drew ?_))); (case side6 => exact HC0_3.out); rintro e w63 ⟨v358, v361, v365, rfl, ho0, ho1, ho2, hb⟩; refine ⟨_, rfl, ?_⟩; obtain ⟨loAo64, hiAo64, hl_, hh_, ho0⟩ := S_inV (Q := fun n_ => gb311 < n_ ∧ gb336 < n_) ho0 ⟨(bLt_ BK311), (bLt_ BK336)⟩; have HLAo64 := Aside0.mk (show gb311 < loAo64 ∧ gb336 < loAo64 from hl_); have HHAo64 := Aside0.mk (Nat.le_of_eq hh_); clear hl_ hh_; have HO359 := sL_ (Kd.S_new' (Kd.S_new' (Kd.S_new' (Kd.S_new' ho0 (rLt_ HO_4)) (rLt_ HO_6)) (sLt_ HO_337000)) (rLt_ HO_337001)) HB; replace HO_337000 := Aside0.mk (Kd.S_mono (Kd.S_told (Kd.S_told (Kd.S_old (sT_ HO_337000) hb) (Kd.S_base ho0)) (Kd.R_base ho1)) (fun _ h_ => h_.1)); have HO362 := rL_ (rN_ (rN_ (rN_ ho1 HO_4) HO_6) HO_337001) HB; replace HO_4 := rE_ HO_4 ho1 hb; replace HO_6 := rE_ HO_6 ho1 hb; replace HO_337001 := rE_ HO_337001 ho1 hb; have HO366 := rL_ (rN_ ho2 HO_337003) HB; replace HO_337003 := rE_ HO_337003 ho2 hb; replace BK311 := bB_ BK311 hb; replace BK336 := bB_ BK336 hb; replace HB := bS_ HB hb; (try clear hb); (try clear hk); (try clear ho0); (try clear ho1); (try clear ho2); obtain ⟨Ao64, co64, eo64⟩ := Kd.S_slice HO359.out; subst eo64; obtain ⟨Ao65, co65, eo65⟩ := Kd.R_slice HO362.out; subst eo65; obtain ⟨Ao66, co66, eo66⟩ := Kd.R_slice HO366.out; subst eo66) | ((with_reducible refine gate_callee (f := 19) rfl ?_); refine gL_ (some 56) Try.func19 #[.agg #[.slice Ao64 t357.length co64, .slice Ao65 t360.length co65, .int .i64 t363, .slice Ao66 t364.length co66]] ?_; (with_reducible refine (impl_Stuck.calls kj16 _ _ t357 _ _ t360 t363 _ _ t364 t367 _ ?side1 ?side2 ?side3 ?side4 ?side5 ?side6 A54.out).mono ?_); (case side1 => exact sDb_ HO359); (case side2 => exact (S_readsB HO359.out).2.1); (case side3 => exact rD_ HO362); (case side4 => exact (Kd.R_reads' HO362.out).2.1); (case side5 => exact rD_ HO366); (case side6 => exact (Kd.R_reads' HO366.out).2.1); rintro e w67 ⟨v368, rfl, ho0, hb⟩; refine ⟨_, rfl, ?_⟩; have hy_ : hiAo64 ≤ w67.heap.size := (by first | exact Nat.le_trans HHAo64.out hb.size | (have q_ := hb.size; have q2_ := HHAo64.out; simp at q_ q2_; omega)); clear HHAo64; have HHAo64 := Aside0.mk hy_; clear hy_; replace HO_337000 := Aside0.mk (Kd.S_elder' (sT_ HO_337000) (Kd.R_base ho0) hb); replace HO_337003 := rB_ HO_337003 hb; replace HO359 := Aside0.mk (Kd.S_elder' (sT_ HO359) (Kd.R_base ho0) hb); replace HO366 := rB_ HO366 hb; have HO369 := rL_ (rN_ (rN_ (rN_ (rN_ ho0 HO_4) HO_6) HO_337001) HO362) HB; replace HO_4 := rE_ HO_4 ho0 hb; replace HO_6 := rE_ HO_6 ho0 hb; replace HO_337001 := rE_ HO_337001 ho0 hb; replace HO362 := rE_ HO362 ho0 hb; replace BK311 := bB_ BK311 hb; replace BK336 := bB_ BK336 hb; replace HB := bS_ HB hb; (try clear hb); (try clear hk); (try clear ho0); obtain ⟨Ao68, co68, eo68⟩ := Kd.R_slice HO369.out; subst eo68) | ((with_reducible refine gate_callee (f := 37) rfl ?_); refine gL_ (some 59) Try.func37 #[.slice Ao68 t367.length co68, .slice Ao37 t323.length co37] ?_; (with_reducible refine (laws_eqInt64S.calls kj16 _ _ t367 _ _ t323 true _ ?side1 ?side2 ?side3 ?side4 A55.out).mono ?_); (case side1 => exact rD_ HO369); (case side2 => exact (Kd.R_reads' HO369.out).2.1); (case side3 => exact rD_ HO_4); (case side4 => exact (Kd.R_reads' HO_4.out).2.1); rintro e w' ⟨rfl, ⟨nd, rfl⟩⟩; refine ⟨_, rfl, ?_⟩) | ((with_reducible refine gate_callee (f := 39) rfl ?_); refine goesL_ (some 63) rfl rfl Try.func39 (by kernel_rfl) rfl #[.slice Ao36 t355.length co36, .int .i64 1] rfl (by (try simp only [List.map_toArray, List.map_cons, List.map_nil]); first | done | (rw [show t355.length = t337.length from (Kd.R_reads' HO_6.out).1.symm] <;> rfl) | rfl | (simp only [List.length_drop, List.length_take]; rfl)) ?_; (with_reducible refine (laws_heldInt64S.calls kj16 _ _ t355 1 t371 _ ?side1 ?side2 A57.out).mono ?_); (case side1 => exact rD_ HO_6); (case side2 => rw [show t355.length = t337.length from (Kd.R_reads' HO_6.out).1.symm]; exact (Kd.R_reads' HO_6.out).2.1); rintro e w' ⟨rfl, ⟨nd, rfl⟩⟩; refine ⟨_, rfl, ?_⟩))
            go_ret
            exact ⟨by first | rfl | (simp [errW_none, errW_some] <;> rfl) | (simp [*, errW_none, errW_some] <;> rfl), sABelo_15⟩
           ·rw [if_neg c59] at H
            have c59b0 := beq_eq_false_iff_ne.mpr c59
            have c59b1 := bne_iff_ne.mpr c59
            exact absurd H (by simp)
         ·replace c56 := Bool.eq_false_iff.mpr c56
          subst c56
          replace H := ifF_ H
          exact absurd H (by simp)
        ·rw [if_neg c52] at H
         have c52b0 := beq_eq_false_iff_ne.mpr c52
         have c52b1 := bne_iff_ne.mpr c52
         exact absurd H (by simp)
   ·replace c15 := Bool.eq_false_iff.mpr c15
    subst c15
    replace H := ifF_ H
    exact absurd H (by simp)
  ·replace c12 := Bool.eq_false_iff.mpr c12
   subst c12
   replace H := ifF_ H
   exact absurd H (by simp)

end Go.Proofs.Ytjoghfehmhapbaa.QFnExactStuck
