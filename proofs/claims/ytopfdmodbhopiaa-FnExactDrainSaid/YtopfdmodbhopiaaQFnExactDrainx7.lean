-- Written by a program of this session out of the printer's texts and contracts of its own.
import Derived.Test.YtopfdmodbhopiaaSq
import Derived.Test.YtopfdmodbhopiaaQFnExactDrainx0
import Derived.Test.YtopfdmodbhopiaaQFnExactDrainx1
import Derived.Test.YtopfdmodbhopiaaQFnExactDrainx3
import Derived.Test.YtopfdmodbhopiaaQFnExactDrainx4
import Derived.Test.YtopfdmodbhopiaaQFnExactDrainx5
import Derived.Test.YtopfdmodbhopiaaQFnExactDrainx6
namespace Go.Proofs.Ytopfdmodbhopiaa.QFnExactDrain
open Go.RowKit Go.Proofs.YtopfdmodbhopiaaW.PrintWords Go.Proofs.YtopfdmodbhopiaaW.PrintLast Go.Proofs.YtopfdmodbhopiaaW.PrintMore Go.Proofs.Ytopfdmodbhopiaa.Sq
attribute [local go_sem] max2_int min2_int max_two min_two max_three min_three max_four min_four   -- for this text's walks alone
set_option linter.unusedVariables false
set_option linter.unusedSimpArgs false

/-! ### laws_FnExactDrain: function 8 -/
mutual
def laws_FnExactDrain.j0 : Nat → List Int → List Int → List Int → List Int → Bool → Int → Int → List Int → Int → Int → List Int → Option (Bool)
 | 0, _, _, _, _, _, _, _, _, _, _, _ => none
 | k + 1, x4, x5, x7, x8, x41, x268000, x268001, x268002, x286000, x286001, x286002 => if x41 = true then (some false) else ((laws_toBox.f k x268000 x268001 x268002).bind fun bt294 => ((laws_eqBox.f k x286000 x286001 x286002 bt294.1 bt294.2.1 bt294.2.2).bind fun t299 => (if t299 = true then ((laws_markBox.f k x286000 x286001 x286002 1).bind fun bt300 => (if bt300.1 < 0 then (laws_FnExactDrain.j1 k x4 x5 x7 x8 true x268000 x268001 x268002) else ((laws_eqInt64S.f k x7 x4).bind fun t302 => (if t302 = true then ((laws_eqInt64S.f k x8 x5).bind fun t303 => (laws_FnExactDrain.j1 k x4 x5 x7 x8 (!t303) x268000 x268001 x268002)) else (laws_FnExactDrain.j1 k x4 x5 x7 x8 true x268000 x268001 x268002))))) else (some false))))
def laws_FnExactDrain.j1 : Nat → List Int → List Int → List Int → List Int → Bool → Int → Int → List Int → Option (Bool)
 | 0, _, _, _, _, _, _, _, _ => none
 | k + 1, x4, x5, x7, x8, x63, x268000, x268001, x268002 => if x63 = true then (some false) else ((laws_markInt64S.f k x7 1).bind fun bt304 => ((laws_markInt64S.f k x8 bt304.1).bind fun bt306 => ((laws_heldInt64S.f k bt304.2 1).bind fun t308 => (if t308 < 0 then (some false) else ((laws_heldInt64S.f k bt306.2 t308).bind fun t309 => (if t309 < 0 then (some false) else (if t309 = bt306.1 then ((laws_toBox.f k x268000 x268001 x268002).bind fun bt310 => ((impl_Drain.f k bt310.1 bt310.2.1 bt310.2.2).bind fun bt315 => ((laws_eqInt64S.f k bt315.1 x4).bind fun t321 => (if t321 = true then ((laws_eqInt64S.f k bt315.2 x5).bind fun t322 => (laws_FnExactDrain.j2 k bt304.2 bt306.2 bt306.1 (!t322))) else (laws_FnExactDrain.j2 k bt304.2 bt306.2 bt306.1 true))))) else (some false))))))))
def laws_FnExactDrain.j2 : Nat → List Int → List Int → Int → Bool → Option (Bool)
 | 0, _, _, _, _ => none
 | k + 1, x7, x8, x10, x98 => if x98 = true then (some false) else ((laws_heldInt64S.f k x7 1).bind fun t323 => (if t323 < 0 then (some false) else ((laws_heldInt64S.f k x8 t323).bind fun t324 => (if t324 < 0 then (some false) else (if t324 = x10 then (some true) else (some false))))))
end
def laws_FnExactDrain.f (k : Nat) (a0_0 : Int) (a0_1 : Int) (l0_2 : List Int) : Option (Bool) := (laws_szBox.f a0_0 a0_1 l0_2 1048576).bind fun t268 => (if t268 < 0 then (some true) else ((laws_toBox.f k a0_0 a0_1 l0_2).bind fun bt269 => ((spec_Drain.f k bt269.1 bt269.2.1 bt269.2.2).bind fun bt274 => ((laws_toBox.f k a0_0 a0_1 l0_2).bind fun bt280 => ((impl_Drain.f k bt280.1 bt280.2.1 bt280.2.2).bind fun bt286 => ((laws_eqInt64S.f k bt286.1 bt274.1).bind fun t292 => (if t292 = true then ((laws_eqInt64S.f k bt286.2 bt274.2).bind fun t293 => (laws_FnExactDrain.j0 k bt274.1 bt274.2 bt286.1 bt286.2 (!t293) a0_0 a0_1 l0_2 bt280.1 bt280.2.1 bt280.2.2)) else (laws_FnExactDrain.j0 k bt274.1 bt274.2 bt286.1 bt286.2 true a0_0 a0_1 l0_2 bt280.1 bt280.2.1 bt280.2.2))))))))
theorem laws_FnExactDrain.mono_l : ∀ k, (∀ y0 y1 y2 y3 y4 y5 y6 y7 y8 y9 y10, LeO (laws_FnExactDrain.j0 k y0 y1 y2 y3 y4 y5 y6 y7 y8 y9 y10) (laws_FnExactDrain.j0 (k + 1) y0 y1 y2 y3 y4 y5 y6 y7 y8 y9 y10)) ∧ (∀ y0 y1 y2 y3 y4 y5 y6 y7, LeO (laws_FnExactDrain.j1 k y0 y1 y2 y3 y4 y5 y6 y7) (laws_FnExactDrain.j1 (k + 1) y0 y1 y2 y3 y4 y5 y6 y7)) ∧ (∀ y0 y1 y2 y3, LeO (laws_FnExactDrain.j2 k y0 y1 y2 y3) (laws_FnExactDrain.j2 (k + 1) y0 y1 y2 y3))
 | 0 => ⟨fun _ _ _ _ _ _ _ _ _ _ _ r h => by simp [laws_FnExactDrain.j0] at h, fun _ _ _ _ _ _ _ _ r h => by simp [laws_FnExactDrain.j1] at h, fun _ _ _ _ r h => by simp [laws_FnExactDrain.j2] at h⟩
 | k + 1 => by
  obtain ⟨ih0, ih1, ih2⟩ := laws_FnExactDrain.mono_l k
  refine ⟨?_, ?_, ?_⟩
  intro y0 y1 y2 y3 y4 y5 y6 y7 y8 y9 y10; unfold laws_FnExactDrain.j0; rotate_left
  intro y0 y1 y2 y3 y4 y5 y6 y7; unfold laws_FnExactDrain.j1; rotate_left
  intro y0 y1 y2 y3; unfold laws_FnExactDrain.j2; rotate_left
  all_goals repeat' first
  | (with_reducible exact ih0 _ _ _ _ _ _ _ _ _ _ _)
  | (with_reducible exact ih1 _ _ _ _ _ _ _ _)
  | (with_reducible exact ih2 _ _ _ _)
  | (with_reducible exact impl_Drain.mono _ _ _ _)
  | (with_reducible exact laws_eqBox.mono _ _ _ _ _ _ _)
  | (with_reducible exact laws_eqInt64S.mono _ _ _)
  | (with_reducible exact laws_heldInt64S.mono _ _ _)
  | (with_reducible exact laws_markBox.mono _ _ _ _ _)
  | (with_reducible exact laws_markInt64S.mono _ _ _)
  | (with_reducible exact laws_toBox.mono _ _ _ _)
  | (with_reducible exact spec_Drain.mono _ _ _ _)
  | (with_reducible exact LeO.refl _)
  | (with_reducible exact LeO.none _)
  | (with_reducible refine LeO.ite ?_ ?_)
  | (with_reducible refine LeO.bind ?_ (fun _ => ?_))
  | exact ih0 _ _ _ _ _ _ _ _ _ _ _
  | exact ih1 _ _ _ _ _ _ _ _
  | exact ih2 _ _ _ _
  | exact impl_Drain.mono _ _ _ _
  | exact laws_eqBox.mono _ _ _ _ _ _ _
  | exact laws_eqInt64S.mono _ _ _
  | exact laws_heldInt64S.mono _ _ _
  | exact laws_markBox.mono _ _ _ _ _
  | exact laws_markInt64S.mono _ _ _
  | exact laws_toBox.mono _ _ _ _
  | exact spec_Drain.mono _ _ _ _
  | exact LeO.none _
  | refine LeO.ite ?_ ?_
  | refine LeO.bind ?_ (fun _ => ?_)
theorem laws_FnExactDrain.mono : ∀ a0 a1 a2 k, LeO (laws_FnExactDrain.f k a0 a1 a2) (laws_FnExactDrain.f (k + 1) a0 a1 a2) := by
 intro a0 a1 a2 k
 obtain ⟨ih0, ih1, ih2⟩ := laws_FnExactDrain.mono_l k
 unfold laws_FnExactDrain.f
 repeat' first
   | (with_reducible exact ih0 _ _ _ _ _ _ _ _ _ _ _)
   | (with_reducible exact ih1 _ _ _ _ _ _ _ _)
   | (with_reducible exact ih2 _ _ _ _)
   | (with_reducible exact impl_Drain.mono _ _ _ _)
   | (with_reducible exact laws_eqBox.mono _ _ _ _ _ _ _)
   | (with_reducible exact laws_eqInt64S.mono _ _ _)
   | (with_reducible exact laws_heldInt64S.mono _ _ _)
   | (with_reducible exact laws_markBox.mono _ _ _ _ _)
   | (with_reducible exact laws_markInt64S.mono _ _ _)
   | (with_reducible exact laws_toBox.mono _ _ _ _)
   | (with_reducible exact spec_Drain.mono _ _ _ _)
   | (with_reducible exact LeO.refl _)
   | (with_reducible exact LeO.none _)
   | (with_reducible refine LeO.ite ?_ ?_)
   | (with_reducible refine LeO.bind ?_ (fun _ => ?_))
   | exact ih0 _ _ _ _ _ _ _ _ _ _ _
   | exact ih1 _ _ _ _ _ _ _ _
   | exact ih2 _ _ _ _
   | exact impl_Drain.mono _ _ _ _
   | exact laws_eqBox.mono _ _ _ _ _ _ _
   | exact laws_eqInt64S.mono _ _ _
   | exact laws_heldInt64S.mono _ _ _
   | exact laws_markBox.mono _ _ _ _ _
   | exact laws_markInt64S.mono _ _ _
   | exact laws_toBox.mono _ _ _ _
   | exact spec_Drain.mono _ _ _ _
   | exact LeO.none _
   | refine LeO.ite ?_ ?_
   | refine LeO.bind ?_ (fun _ => ?_)
set_option maxHeartbeats 8000000 in
set_option maxRecDepth 100000 in
theorem laws_FnExactDrain.calls (k : Nat) (a0_0 : Int) (a0_1 : Int) (A0_2 : Option Addr) (c0_2 : Nat) (l0_2 : List Int) (w : World) (hr0_2 : Kd.C (Kd.int .i64) w A0_2 l0_2.length l0_2) (hc0_2 : l0_2.length ≤ c0_2) (h : laws_FnExactDrain.f k a0_0 a0_1 l0_2 = some true) :
  Calls Try.prog 8 #[.agg #[.int .i64 a0_0, .int .i64 a0_1, .slice A0_2 l0_2.length c0_2]] w fun e w' => e = .returned (.bool true) ∧ Below w.heap.size w w' := by
 have hu58 := Try.underlying58; have hu62 := Try.underlying62; have HR0_2 := Aside0.mk hr0_2; have HC0_2 := Aside0.mk hc0_2; clear hr0_2 hc0_2
 have HB := Aside0.mk (Below.refl w.heap.size w)
 have H : ((laws_szBox.f a0_0 a0_1 l0_2 1048576).bind fun t268 => (if t268 < 0 then (some true) else ((laws_toBox.f k a0_0 a0_1 l0_2).bind fun bt269 => ((spec_Drain.f k bt269.1 bt269.2.1 bt269.2.2).bind fun bt274 => ((laws_toBox.f k a0_0 a0_1 l0_2).bind fun bt280 => ((impl_Drain.f k bt280.1 bt280.2.1 bt280.2.2).bind fun bt286 => ((laws_eqInt64S.f k bt286.1 bt274.1).bind fun t292 => (if t292 = true then ((laws_eqInt64S.f k bt286.2 bt274.2).bind fun t293 => (laws_FnExactDrain.j0 k bt274.1 bt274.2 bt286.1 bt286.2 (!t293) a0_0 a0_1 l0_2 bt280.1 bt280.2.1 bt280.2.2)) else (laws_FnExactDrain.j0 k bt274.1 bt274.2 bt286.1 bt286.2 true a0_0 a0_1 l0_2 bt280.1 bt280.2.1 bt280.2.2))))))))) = some true := h
 clear h; replace H := Option.bind_eq_some_iff.mp H
 obtain ⟨t268, A20, H⟩ := H
 replace H : (if t268 < 0 then (some true) else ((laws_toBox.f k a0_0 a0_1 l0_2).bind fun bt269 => ((spec_Drain.f k bt269.1 bt269.2.1 bt269.2.2).bind fun bt274 => ((laws_toBox.f k a0_0 a0_1 l0_2).bind fun bt280 => ((impl_Drain.f k bt280.1 bt280.2.1 bt280.2.2).bind fun bt286 => ((laws_eqInt64S.f k bt286.1 bt274.1).bind fun t292 => (if t292 = true then ((laws_eqInt64S.f k bt286.2 bt274.2).bind fun t293 => (laws_FnExactDrain.j0 k bt274.1 bt274.2 bt286.1 bt286.2 (!t293) a0_0 a0_1 l0_2 bt280.1 bt280.2.1 bt280.2.2)) else (laws_FnExactDrain.j0 k bt274.1 bt274.2 bt286.1 bt286.2 true a0_0 a0_1 l0_2 bt280.1 bt280.2.1 bt280.2.2)))))))) = some true := H
 have A2 := Aside0.mk A20; clear A20
 by_cases c3 : t268 < 0
 ·rw [if_pos c3] at H
  have c3b0 : decide (t268 < 0) = true := decide_eq_true c3
  clear c3 H
  go_enter Try.func8, Try.ntmps8
  go_wp2_with (first | ((with_reducible refine gate_dst (N := 1) rfl ?_); refine box_event ?hg (N := 1) ?hd (cs := #[.int .i64 a0_0, .int .i64 a0_1, .slice A0_2 l0_2.length c0_2]) (t := 58) ?hr ?_; (case hd => rfl); (case hg => rfl); (case hr => first | (go_simp; done) | (go_simp; rfl)); intro gb267 hg w4 hbox hb; have BK267 := Aside0.mk (hbox); have GW267 := gE_ HB hg; have GE267 := gE_ HB hg; replace HB := bS_ HB hb; clear hb hbox hg; have hcz5_0 : w4.cell? ⟨gb267, 0, none⟩ = some (.int .i64 a0_0) := (blk_cell BK267.out 0).trans rfl; have hcz5_1 : w4.cell? ⟨gb267, 1, none⟩ = some (.int .i64 a0_1) := (blk_cell BK267.out 1).trans rfl; have hcz5_2 : w4.cell? ⟨gb267, 2, none⟩ = some (.slice A0_2 l0_2.length c0_2) := (blk_cell BK267.out 2).trans rfl; have hfz5_0 := blk_frozen BK267.out 0; have hfz5_1 := blk_frozen BK267.out 1; have hfz5_2 := blk_frozen BK267.out 2) | ((with_reducible refine gate_callee (f := 35) rfl ?_); refine gL_ (some 16) Try.func35 #[.agg #[.int .i64 a0_0, .int .i64 a0_1, .slice A0_2 l0_2.length c0_2], .int .i64 1048576] ?_; (with_reducible refine (laws_szBox.calls a0_0 a0_1 _ _ l0_2 1048576 t268 _ ?side1 ?side2 A2.out).mono ?_); (case side1 => exact cB_ HR0_2 HB); (case side2 => exact HC0_2.out); rintro e w6 ⟨rfl, hb⟩; refine ⟨_, rfl, ?_⟩; replace BK267 := bB_ BK267 hb; replace HB := bS_ HB hb; (try clear hb); (try clear hb2); (try clear hk); (try clear hi)))
  go_ret
  exact ⟨by first | rfl | (simp [errW_none, errW_some] <;> rfl) | (simp [*, errW_none, errW_some] <;> rfl), by repeat (first | (with_reducible first | exact HB.out | apply below_alloc | apply pw_below_drewN | apply below_drew1 | refine below_set ?_ GE267.out) | exact HB.out)⟩
 ·rw [if_neg c3] at H
  have c3b0 : decide (t268 < 0) = false := decide_eq_false c3
  clear c3; replace H := Option.bind_eq_some_iff.mp H
  obtain ⟨⟨t269, t270, t271⟩, A70, H⟩ := H
  replace H : ((spec_Drain.f k t269 t270 t271).bind fun bt274 => ((laws_toBox.f k a0_0 a0_1 l0_2).bind fun bt280 => ((impl_Drain.f k bt280.1 bt280.2.1 bt280.2.2).bind fun bt286 => ((laws_eqInt64S.f k bt286.1 bt274.1).bind fun t292 => (if t292 = true then ((laws_eqInt64S.f k bt286.2 bt274.2).bind fun t293 => (laws_FnExactDrain.j0 k bt274.1 bt274.2 bt286.1 bt286.2 (!t293) a0_0 a0_1 l0_2 bt280.1 bt280.2.1 bt280.2.2)) else (laws_FnExactDrain.j0 k bt274.1 bt274.2 bt286.1 bt286.2 true a0_0 a0_1 l0_2 bt280.1 bt280.2.1 bt280.2.2)))))) = some true := H
  have A7 := Aside0.mk A70; clear A70; replace H := Option.bind_eq_some_iff.mp H
  obtain ⟨⟨t274, t277⟩, A80, H⟩ := H
  replace H : ((laws_toBox.f k a0_0 a0_1 l0_2).bind fun bt280 => ((impl_Drain.f k bt280.1 bt280.2.1 bt280.2.2).bind fun bt286 => ((laws_eqInt64S.f k bt286.1 t274).bind fun t292 => (if t292 = true then ((laws_eqInt64S.f k bt286.2 t277).bind fun t293 => (laws_FnExactDrain.j0 k t274 t277 bt286.1 bt286.2 (!t293) a0_0 a0_1 l0_2 bt280.1 bt280.2.1 bt280.2.2)) else (laws_FnExactDrain.j0 k t274 t277 bt286.1 bt286.2 true a0_0 a0_1 l0_2 bt280.1 bt280.2.1 bt280.2.2))))) = some true := H
  have A8 := Aside0.mk A80; clear A80; replace H := Option.bind_eq_some_iff.mp H
  obtain ⟨⟨t280, t281, t282⟩, A90, H⟩ := H
  replace H : ((impl_Drain.f k t280 t281 t282).bind fun bt286 => ((laws_eqInt64S.f k bt286.1 t274).bind fun t292 => (if t292 = true then ((laws_eqInt64S.f k bt286.2 t277).bind fun t293 => (laws_FnExactDrain.j0 k t274 t277 bt286.1 bt286.2 (!t293) a0_0 a0_1 l0_2 t280 t281 t282)) else (laws_FnExactDrain.j0 k t274 t277 bt286.1 bt286.2 true a0_0 a0_1 l0_2 t280 t281 t282)))) = some true := H
  have A9 := Aside0.mk A90; clear A90; replace H := Option.bind_eq_some_iff.mp H
  obtain ⟨⟨t286, t289⟩, A100, H⟩ := H
  replace H : ((laws_eqInt64S.f k t286 t274).bind fun t292 => (if t292 = true then ((laws_eqInt64S.f k t289 t277).bind fun t293 => (laws_FnExactDrain.j0 k t274 t277 t286 t289 (!t293) a0_0 a0_1 l0_2 t280 t281 t282)) else (laws_FnExactDrain.j0 k t274 t277 t286 t289 true a0_0 a0_1 l0_2 t280 t281 t282))) = some true := H
  have A10 := Aside0.mk A100; clear A100; have HC11 := Aside0.mk H; clear H
  go_enter Try.func8, Try.ntmps8
  go_upto_region 8 with (first | ((with_reducible refine gate_dst (N := 1) rfl ?_); refine box_event ?hg (N := 1) ?hd (cs := #[.int .i64 a0_0, .int .i64 a0_1, .slice A0_2 l0_2.length c0_2]) (t := 58) ?hr ?_; (case hd => rfl); (case hg => rfl); (case hr => first | (go_simp; done) | (go_simp; rfl)); intro gb267 hg w12 hbox hb; have BK267 := Aside0.mk (hbox); have GW267 := gE_ HB hg; have GE267 := gE_ HB hg; replace HB := bS_ HB hb; clear hb hbox hg; have hcz13_0 : w12.cell? ⟨gb267, 0, none⟩ = some (.int .i64 a0_0) := (blk_cell BK267.out 0).trans rfl; have hcz13_1 : w12.cell? ⟨gb267, 1, none⟩ = some (.int .i64 a0_1) := (blk_cell BK267.out 1).trans rfl; have hcz13_2 : w12.cell? ⟨gb267, 2, none⟩ = some (.slice A0_2 l0_2.length c0_2) := (blk_cell BK267.out 2).trans rfl; have hfz13_0 := blk_frozen BK267.out 0; have hfz13_1 := blk_frozen BK267.out 1; have hfz13_2 := blk_frozen BK267.out 2) | ((with_reducible refine gate_callee (f := 35) rfl ?_); refine gL_ (some 16) Try.func35 #[.agg #[.int .i64 a0_0, .int .i64 a0_1, .slice A0_2 l0_2.length c0_2], .int .i64 1048576] ?_; (with_reducible refine (laws_szBox.calls a0_0 a0_1 _ _ l0_2 1048576 t268 _ ?side1 ?side2 A2.out).mono ?_); (case side1 => exact cB_ HR0_2 HB); (case side2 => exact HC0_2.out); rintro e w14 ⟨rfl, hb⟩; refine ⟨_, rfl, ?_⟩; replace BK267 := bB_ BK267 hb; replace HB := bS_ HB hb; (try clear hb); (try clear hb2); (try clear hk); (try clear hi); have hcz15_0 : w14.cell? ⟨gb267, 0, none⟩ = some (.int .i64 a0_0) := (blk_cell BK267.out 0).trans rfl; have hcz15_1 : w14.cell? ⟨gb267, 1, none⟩ = some (.int .i64 a0_1) := (blk_cell BK267.out 1).trans rfl; have hcz15_2 : w14.cell? ⟨gb267, 2, none⟩ = some (.slice A0_2 l0_2.length c0_2) := (blk_cell BK267.out 2).trans rfl; have hfz15_0 := blk_frozen BK267.out 0; have hfz15_1 := blk_frozen BK267.out 1; have hfz15_2 := blk_frozen BK267.out 2) | ((with_reducible refine gate_callee (f := 37) rfl ?_); refine gL_ (some 21) Try.func37 #[.agg #[.int .i64 a0_0, .int .i64 a0_1, .slice A0_2 l0_2.length c0_2]] ?_; (with_reducible refine (laws_toBox.calls k a0_0 a0_1 _ _ l0_2 t269 t270 t271 _ ?side1 ?side2 A7.out).mono ?_); (case side1 => exact cB_ HR0_2 HB); (case side2 => exact HC0_2.out); rintro e w16 ⟨v272, rfl, ho0, hb⟩; refine ⟨_, rfl, ?_⟩; have HO273 := rL_ ho0 HB; replace BK267 := bB_ BK267 hb; replace HB := bS_ HB hb; (try clear hb); (try clear hb2); (try clear hk); (try clear hi); (try clear ho0); obtain ⟨Ao17, co17, eo17⟩ := Kd.R_slice HO273.out; subst eo17) | ((with_reducible refine gate_callee (f := 36) rfl ?_); refine gL_ (some 22) Try.func36 #[.agg #[.int .i64 t269, .int .i64 t270, .slice Ao17 t271.length co17]] ?_; (with_reducible refine (spec_Drain.calls k t269 t270 _ _ t271 t274 t277 _ ?side1 ?side2 A8.out).mono ?_); (case side1 => exact rD_ HO273); (case side2 => exact (Kd.R_reads' HO273.out).2.1); rintro e w18 ⟨v275, v278, rfl, ho0, ho1, hb⟩; refine ⟨_, rfl, ?_⟩; have HO276 := rL_ (rN_ ho0 HO273) HB; have HO279 := rL_ (rN_ ho1 HO273) HB; replace HO273 := Aside0.mk (Kd.R_mono (Kd.R_told (Kd.R_told (Kd.R_old (rT_ HO273) hb) (Kd.R_base ho0)) (Kd.R_base ho1)) (fun _ h_ => h_.1)); replace BK267 := bB_ BK267 hb; replace HB := bS_ HB hb; (try clear hb); (try clear hb2); (try clear hk); (try clear hi); (try clear ho0); (try clear ho1); have hcz19_0 : w18.cell? ⟨gb267, 0, none⟩ = some (.int .i64 a0_0) := (blk_cell BK267.out 0).trans rfl; have hcz19_1 : w18.cell? ⟨gb267, 1, none⟩ = some (.int .i64 a0_1) := (blk_cell BK267.out 1).trans rfl; have hcz19_2 : w18.cell? ⟨gb267, 2, none⟩ = some (.slice A0_2 l0_2.length c0_2) := (blk_cell BK267.out 2).trans rfl; have hfz19_0 := blk_frozen BK267.out 0; have hfz19_1 := blk_frozen BK267.out 1; have hfz19_2 := blk_frozen BK267.out 2) | ((with_reducible refine gate_callee (f := 37) rfl ?_); refine gL_ (some 26) Try.func37 #[.agg #[.int .i64 a0_0, .int .i64 a0_1, .slice A0_2 l0_2.length c0_2]] ?_; (with_reducible refine (laws_toBox.calls k a0_0 a0_1 _ _ l0_2 t280 t281 t282 _ ?side1 ?side2 A9.out).mono ?_); (case side1 => exact cB_ HR0_2 HB); (case side2 => exact HC0_2.out); rintro e w20 ⟨v283, rfl, ho0, hb⟩; refine ⟨_, rfl, ?_⟩; have HO284 := rL_ (rN_ (rN_ (rN_ ho0 HO273) HO276) HO279) HB; replace HO273 := rE_ HO273 ho0 hb; replace HO276 := rE_ HO276 ho0 hb; replace HO279 := rE_ HO279 ho0 hb; replace BK267 := bB_ BK267 hb; replace HB := bS_ HB hb; (try clear hb); (try clear hb2); (try clear hk); (try clear hi); (try clear ho0)) | ((with_reducible refine gate_dst (N := 6) rfl ?_); refine box_event ?hg (N := 6) ?hd (cs := #[.int .i64 0, .int .i64 0, .slice none 0 0]) (t := 62) ?hr ?_; (case hd => rfl); (case hg => rfl); (case hr => first | (go_simp; done) | (go_simp; rfl)); intro gb285 hg w21 hbox hb; replace HO273 := rB_ HO273 hb; replace HO276 := rB_ HO276 hb; replace HO279 := rB_ HO279 hb; replace HO284 := rB_ HO284 hb; have BK285 := Aside0.mk (hbox); have GW285 := gE_ HB hg; have GE285 := gE_ HB hg; replace HB := bS_ HB hb; have NB267_285 := nL_ BK267 hg; have NB285_267 := nG_ BK267 hg; replace BK267 := bB_ BK267 hb; clear hb hbox hg; have hnb22 := NB285_267.out; have hnc22 := NB267_285.out; have hcz23_0 : w21.cell? ⟨gb285, 0, none⟩ = some (.int .i64 0) := (blk_cell BK285.out 0).trans rfl; have hcz23_1 : w21.cell? ⟨gb285, 1, none⟩ = some (.int .i64 0) := (blk_cell BK285.out 1).trans rfl; have hcz23_2 : w21.cell? ⟨gb285, 2, none⟩ = some (.slice none 0 0) := (blk_cell BK285.out 2).trans rfl; have hfz23_0 := blk_frozen BK285.out 0; have hfz23_1 := blk_frozen BK285.out 1; have hfz23_2 := blk_frozen BK285.out 2; obtain ⟨Ao24, co24, eo24⟩ := Kd.R_slice HO284.out; subst eo24) | ((with_reducible refine gate_callee (f := 38) rfl ?_); refine gL_ (some 29) Try.func38 #[.agg #[.int .i64 t280, .int .i64 t281, .slice Ao24 t282.length co24]] ?_; (with_reducible refine (impl_Drain.calls k t280 t281 _ _ t282 t286 t289 _ ?side1 ?side2 A10.out).mono ?_); (case side1 => exact rDF_ HO284 BK285); (case side2 => exact (Kd.R_reads' HO284.out).2.1); rintro e w25 ⟨v287, v290, rfl, ho0, ho1, hb⟩; refine ⟨_, rfl, ?_⟩; have HO288 := rLF_ (rN_ (rN_ (rN_ (rN_ ho0 HO273) HO276) HO279) HO284) HB; have HO291 := rLF_ (rN_ (rN_ (rN_ (rN_ ho1 HO273) HO276) HO279) HO284) HB; replace HO273 := Aside0.mk (Kd.R_mono (Kd.R_told (Kd.R_told (Kd.R_old (rF_ HO273 BK285) hb) (Kd.R_base ho0)) (Kd.R_base ho1)) (fun _ h_ => h_.1)); replace HO276 := Aside0.mk (Kd.R_mono (Kd.R_told (Kd.R_told (Kd.R_old (rF_ HO276 BK285) hb) (Kd.R_base ho0)) (Kd.R_base ho1)) (fun _ h_ => h_.1)); replace HO279 := Aside0.mk (Kd.R_mono (Kd.R_told (Kd.R_told (Kd.R_old (rF_ HO279 BK285) hb) (Kd.R_base ho0)) (Kd.R_base ho1)) (fun _ h_ => h_.1)); replace HO284 := Aside0.mk (Kd.R_mono (Kd.R_told (Kd.R_told (Kd.R_old (rF_ HO284 BK285) hb) (Kd.R_base ho0)) (Kd.R_base ho1)) (fun _ h_ => h_.1)); replace BK267 := bBF_ BK267 NB267_285 hb; replace BK285 := Aside0.mk (blk_below (g := gb285) (o := .cells #[.int .i64 t280, .int .i64 t281, .slice Ao24 t282.length co24] 62 (0, 0)) (by (with_reducible repeat (first | refine blk_drewN ?_ _ | refine blk_drew ?_ | refine blk_alloc ?_ _)); refine blk_put (cs := #[.int .i64 t280, .int .i64 t281, .slice none 0 0]) ?_ 2 _ rfl; (with_reducible repeat (first | refine blk_drewN ?_ _ | refine blk_drew ?_ | refine blk_alloc ?_ _)); refine blk_put (cs := #[.int .i64 t280, .int .i64 0, .slice none 0 0]) ?_ 1 _ rfl; (with_reducible repeat (first | refine blk_drewN ?_ _ | refine blk_drew ?_ | refine blk_alloc ?_ _)); refine blk_put (cs := #[.int .i64 0, .int .i64 0, .slice none 0 0]) ?_ 0 _ rfl; exact bT_ BK285) hb); replace HB := bSF_ HB GE285 hb; (try clear hb); (try clear hb2); (try clear hk); (try clear hi); (try clear ho0); (try clear ho1)))
  (try simp only [Act.put, List.setIfInBounds_toArray, List.set_cons_zero, List.set_cons_succ])
  go_cut [41] (fun v41 wc => ∃ (kq : Nat) (x41_10 : Bool), v41 = .bool x41_10 ∧ Aside0 (laws_FnExactDrain.j0 kq t274 t277 t286 t289 x41_10 a0_0 a0_1 l0_2 t280 t281 t282 = some true) ∧ Aside0 (kq ≤ k) ∧ Aside0 (Kd.R (Kd.int .i64) 2 wc w.heap.size (fun k_ => some k_ ≠ (v278 : Value).ownBlock ∧ some k_ ≠ (v287 : Value).ownBlock ∧ some k_ ≠ (v290 : Value).ownBlock ∧ some k_ ≠ ((.slice Ao24 t282.length co24) : Value).ownBlock) v275 t274) ∧ Aside0 (Kd.R (Kd.int .i64) 2 wc w.heap.size (fun k_ => some k_ ≠ (v275 : Value).ownBlock ∧ some k_ ≠ (v287 : Value).ownBlock ∧ some k_ ≠ (v290 : Value).ownBlock ∧ some k_ ≠ ((.slice Ao24 t282.length co24) : Value).ownBlock) v278 t277) ∧ Aside0 (Kd.R (Kd.int .i64) 2 wc w.heap.size (fun k_ => some k_ ≠ (v275 : Value).ownBlock ∧ some k_ ≠ (v278 : Value).ownBlock ∧ some k_ ≠ (v290 : Value).ownBlock ∧ some k_ ≠ ((.slice Ao24 t282.length co24) : Value).ownBlock) v287 t286) ∧ Aside0 (Kd.R (Kd.int .i64) 2 wc w.heap.size (fun k_ => some k_ ≠ (v275 : Value).ownBlock ∧ some k_ ≠ (v278 : Value).ownBlock ∧ some k_ ≠ (v287 : Value).ownBlock ∧ some k_ ≠ ((.slice Ao24 t282.length co24) : Value).ownBlock) v290 t289) ∧ Aside0 (Kd.R (Kd.int .i64) 2 wc w.heap.size (fun k_ => some k_ ≠ (v275 : Value).ownBlock ∧ some k_ ≠ (v278 : Value).ownBlock ∧ some k_ ≠ (v287 : Value).ownBlock ∧ some k_ ≠ (v290 : Value).ownBlock) (.slice Ao24 t282.length co24) t282) ∧ Aside0 (wc.heap[gb267]? = some (.cells #[.int .i64 a0_0, .int .i64 a0_1, (.slice A0_2 l0_2.length c0_2)] 58 (0, 0))) ∧ Aside0 (wc.heap[gb285]? = some (.cells #[.int .i64 t280, .int .i64 t281, (.slice Ao24 t282.length co24)] 62 (0, 0))) ∧ Aside0 (Below w.heap.size w wc))
  case first =>
   have H := HC11.out; clear HC11; replace H := Option.bind_eq_some_iff.mp H
   obtain ⟨t292, A260, H⟩ := H
   replace H : (if t292 = true then ((laws_eqInt64S.f k t289 t277).bind fun t293 => (laws_FnExactDrain.j0 k t274 t277 t286 t289 (!t293) a0_0 a0_1 l0_2 t280 t281 t282)) else (laws_FnExactDrain.j0 k t274 t277 t286 t289 true a0_0 a0_1 l0_2 t280 t281 t282)) = some true := H
   have A26 := Aside0.mk A260; clear A260
   by_cases c27 : t292 = true
   ·subst c27
    have H1 : ((laws_eqInt64S.f k t289 t277).bind fun t293 => (laws_FnExactDrain.j0 k t274 t277 t286 t289 (!t293) a0_0 a0_1 l0_2 t280 t281 t282)) = some true := by rw [if_pos rfl] at H; exact H
    clear H; have H := H1; clear H1; replace H := Option.bind_eq_some_iff.mp H
    obtain ⟨t293, A280, H⟩ := H
    replace H : (laws_FnExactDrain.j0 k t274 t277 t286 t289 (!t293) a0_0 a0_1 l0_2 t280 t281 t282) = some true := H
    have A28 := Aside0.mk A280; clear A280; have H' := Aside0.mk H; clear H
    obtain ⟨Ao29, co29, eo29⟩ := Kd.R_slice HO288.out
    subst eo29
    obtain ⟨Ao30, co30, eo30⟩ := Kd.R_slice HO276.out
    subst eo30
    go_wp2_with (first | ((with_reducible refine gate_callee (f := 15) rfl ?_); refine gL_ (some 34) Try.func15 #[.slice Ao29 t286.length co29, .slice Ao30 t274.length co30] ?_; (with_reducible refine (laws_eqInt64S.calls k _ _ t286 _ _ t274 true _ ?side1 ?side2 ?side3 ?side4 A26.out).mono ?_); (case side1 => exact rD_ HO288); (case side2 => exact (Kd.R_reads' HO288.out).2.1); (case side3 => exact rD_ HO276); (case side4 => exact (Kd.R_reads' HO276.out).2.1); rintro e w' ⟨rfl, ⟨nd, rfl⟩⟩; refine ⟨_, rfl, ?_⟩; obtain ⟨Ao31, co31, eo31⟩ := Kd.R_slice HO291.out; subst eo31; obtain ⟨Ao32, co32, eo32⟩ := Kd.R_slice HO279.out; subst eo32) | (go_at_call 15; (with_reducible refine (laws_eqInt64S.calls k _ _ t289 _ _ t277 t293 _ ?side1 ?side2 ?side3 ?side4 A28.out).mono ?_); (case side1 => exact rD_ HO291); (case side2 => exact (Kd.R_reads' HO291.out).2.1); (case side3 => exact rD_ HO279); (case side4 => exact (Kd.R_reads' HO279.out).2.1); rintro e w' ⟨rfl, ⟨nd, rfl⟩⟩))
    go_meet
    case rel => exact ⟨_, (!t293), (by first | rfl | (simp; done) | (simp [*]; done)), H', ⟨by first | omega | exact Nat.le_refl _⟩, ⟨by (with_reducible repeat (first | apply Kd.R_alloc | apply Kd.R_drewN | apply Kd.R_drew)); exact Kd.R_mono HO276.out (fun _ hk => ⟨hk.1.1.1.1, ⟨hk.1.2, ⟨hk.2, hk.1.1.2⟩⟩⟩)⟩, ⟨by (with_reducible repeat (first | apply Kd.R_alloc | apply Kd.R_drewN | apply Kd.R_drew)); exact Kd.R_mono HO279.out (fun _ hk => ⟨hk.1.1.1.1, ⟨hk.1.2, ⟨hk.2, hk.1.1.2⟩⟩⟩)⟩, ⟨by (with_reducible repeat (first | apply Kd.R_alloc | apply Kd.R_drewN | apply Kd.R_drew)); exact Kd.R_mono HO288.out (fun _ hk => ⟨hk.1.1.2, ⟨hk.1.2, ⟨hk.1.1.1.1, hk.2⟩⟩⟩)⟩, ⟨by (with_reducible repeat (first | apply Kd.R_alloc | apply Kd.R_drewN | apply Kd.R_drew)); exact Kd.R_mono HO291.out (fun _ hk => ⟨hk.1.1.2, ⟨hk.1.2, ⟨hk.1.1.1.1, hk.2⟩⟩⟩)⟩, ⟨by (with_reducible repeat (first | apply Kd.R_alloc | apply Kd.R_drewN | apply Kd.R_drew)); exact Kd.R_mono HO284.out (fun _ hk => ⟨hk.1.1.1.2, ⟨hk.1.1.2, ⟨hk.1.2, hk.2⟩⟩⟩)⟩, ⟨by exact bT_ BK267⟩, ⟨by exact bT_ BK285⟩, ⟨by repeat (first | (with_reducible first | exact HB.out | apply below_alloc | apply pw_below_drewN | apply below_drew1 | refine below_set ?_ GE267.out | refine below_set ?_ GE285.out) | exact HB.out)⟩⟩
   ·replace c27 := Bool.eq_false_iff.mpr c27
    subst c27
    have H1 : (laws_FnExactDrain.j0 k t274 t277 t286 t289 true a0_0 a0_1 l0_2 t280 t281 t282) = some true := by rw [if_neg (show ¬ (false = true) by decide)] at H; exact H
    clear H; have H := H1; clear H1; have H' := Aside0.mk H; clear H
    obtain ⟨Ao33, co33, eo33⟩ := Kd.R_slice HO288.out
    subst eo33
    obtain ⟨Ao34, co34, eo34⟩ := Kd.R_slice HO276.out
    subst eo34
    go_wp2_with (first | ((with_reducible refine gate_callee (f := 15) rfl ?_); refine gL_ (some 34) Try.func15 #[.slice Ao33 t286.length co33, .slice Ao34 t274.length co34] ?_; (with_reducible refine (laws_eqInt64S.calls k _ _ t286 _ _ t274 false _ ?side1 ?side2 ?side3 ?side4 A26.out).mono ?_); (case side1 => exact rD_ HO288); (case side2 => exact (Kd.R_reads' HO288.out).2.1); (case side3 => exact rD_ HO276); (case side4 => exact (Kd.R_reads' HO276.out).2.1); rintro e w' ⟨rfl, ⟨nd, rfl⟩⟩; refine ⟨_, rfl, ?_⟩))
    go_meet
    case rel => exact ⟨_, (true), (by first | rfl | (simp; done) | (simp [*]; done)), H', ⟨by first | omega | exact Nat.le_refl _⟩, ⟨by (with_reducible repeat (first | apply Kd.R_alloc | apply Kd.R_drewN | apply Kd.R_drew)); exact Kd.R_mono HO276.out (fun _ hk => ⟨hk.1.1.1.1, ⟨hk.1.2, ⟨hk.2, hk.1.1.2⟩⟩⟩)⟩, ⟨by (with_reducible repeat (first | apply Kd.R_alloc | apply Kd.R_drewN | apply Kd.R_drew)); exact Kd.R_mono HO279.out (fun _ hk => ⟨hk.1.1.1.1, ⟨hk.1.2, ⟨hk.2, hk.1.1.2⟩⟩⟩)⟩, ⟨by (with_reducible repeat (first | apply Kd.R_alloc | apply Kd.R_drewN | apply Kd.R_drew)); exact Kd.R_mono HO288.out (fun _ hk => ⟨hk.1.1.2, ⟨hk.1.2, ⟨hk.1.1.1.1, hk.2⟩⟩⟩)⟩, ⟨by (with_reducible repeat (first | apply Kd.R_alloc | apply Kd.R_drewN | apply Kd.R_drew)); exact Kd.R_mono HO291.out (fun _ hk => ⟨hk.1.1.2, ⟨hk.1.2, ⟨hk.1.1.1.1, hk.2⟩⟩⟩)⟩, ⟨by (with_reducible repeat (first | apply Kd.R_alloc | apply Kd.R_drewN | apply Kd.R_drew)); exact Kd.R_mono HO284.out (fun _ hk => ⟨hk.1.1.1.2, ⟨hk.1.1.2, ⟨hk.1.2, hk.2⟩⟩⟩)⟩, ⟨by exact bT_ BK267⟩, ⟨by exact bT_ BK285⟩, ⟨by repeat (first | (with_reducible first | exact HB.out | apply below_alloc | apply pw_below_drewN | apply below_drew1 | refine below_set ?_ GE267.out | refine below_set ?_ GE285.out) | exact HB.out)⟩⟩
  case rest =>
   clear HC11; (try clear c1); (try clear c2); (try clear p2); (try clear c3); (try clear c3b0); (try clear c8); (try clear c15); (try clear c22); (try clear c27); (try clear hcz13_0); (try clear hcz13_1); (try clear hcz13_2); (try clear hcz15_0); (try clear hcz15_1); (try clear hcz15_2); (try clear hcz19_0); (try clear hcz19_1); (try clear hcz19_2); (try clear hcz23_0); (try clear hcz23_1); (try clear hcz23_2); (try clear hcz5_0); (try clear hcz5_1); (try clear hcz5_2); (try clear hfz13_0); (try clear hfz13_1); (try clear hfz13_2); (try clear hfz15_0); (try clear hfz15_1); (try clear hfz15_2); (try clear hfz19_0); (try clear hfz19_1); (try clear hfz19_2); (try clear hfz23_0); (try clear hfz23_1); (try clear hfz23_2); (try clear hfz5_0); (try clear hfz5_1); (try clear hfz5_2)
   obtain ⟨kq, x41_10, rfl, HA, HJ10, HO_4, HO_5, HO_7, HO_8, HO_286002, BK267, BK285, HB⟩ := hcut
   cases kq with
   | zero => exact absurd HA.out (by simp [laws_FnExactDrain.j0])
   | succ kj10 =>
    have H := HA.out; clear HA
    simp only [laws_FnExactDrain.j0] at H
    by_cases c35 : x41_10 = true
    ·subst c35
     have H1 : (some false) = some true := by rw [if_pos rfl] at H; exact H
     clear H; have H := H1; clear H1
     exact absurd H (by simp)
    ·replace c35 := Bool.eq_false_iff.mpr c35
     subst c35
     have H1 : ((laws_toBox.f kj10 a0_0 a0_1 l0_2).bind fun bt294 => ((laws_eqBox.f kj10 t280 t281 t282 bt294.1 bt294.2.1 bt294.2.2).bind fun t299 => (if t299 = true then ((laws_markBox.f kj10 t280 t281 t282 1).bind fun bt300 => (if bt300.1 < 0 then (laws_FnExactDrain.j1 kj10 t274 t277 t286 t289 true a0_0 a0_1 l0_2) else ((laws_eqInt64S.f kj10 t286 t274).bind fun t302 => (if t302 = true then ((laws_eqInt64S.f kj10 t289 t277).bind fun t303 => (laws_FnExactDrain.j1 kj10 t274 t277 t286 t289 (!t303) a0_0 a0_1 l0_2)) else (laws_FnExactDrain.j1 kj10 t274 t277 t286 t289 true a0_0 a0_1 l0_2))))) else (some false)))) = some true := by rw [if_neg (show ¬ (false = true) by decide)] at H; exact H
     clear H; have H := H1; clear H1; replace H := Option.bind_eq_some_iff.mp H
     obtain ⟨⟨t294, t295, t296⟩, A360, H⟩ := H
     replace H : ((laws_eqBox.f kj10 t280 t281 t282 t294 t295 t296).bind fun t299 => (if t299 = true then ((laws_markBox.f kj10 t280 t281 t282 1).bind fun bt300 => (if bt300.1 < 0 then (laws_FnExactDrain.j1 kj10 t274 t277 t286 t289 true a0_0 a0_1 l0_2) else ((laws_eqInt64S.f kj10 t286 t274).bind fun t302 => (if t302 = true then ((laws_eqInt64S.f kj10 t289 t277).bind fun t303 => (laws_FnExactDrain.j1 kj10 t274 t277 t286 t289 (!t303) a0_0 a0_1 l0_2)) else (laws_FnExactDrain.j1 kj10 t274 t277 t286 t289 true a0_0 a0_1 l0_2))))) else (some false))) = some true := H
     have A36 := Aside0.mk A360; clear A360; replace H := Option.bind_eq_some_iff.mp H
     obtain ⟨t299, A370, H⟩ := H
     replace H : (if t299 = true then ((laws_markBox.f kj10 t280 t281 t282 1).bind fun bt300 => (if bt300.1 < 0 then (laws_FnExactDrain.j1 kj10 t274 t277 t286 t289 true a0_0 a0_1 l0_2) else ((laws_eqInt64S.f kj10 t286 t274).bind fun t302 => (if t302 = true then ((laws_eqInt64S.f kj10 t289 t277).bind fun t303 => (laws_FnExactDrain.j1 kj10 t274 t277 t286 t289 (!t303) a0_0 a0_1 l0_2)) else (laws_FnExactDrain.j1 kj10 t274 t277 t286 t289 true a0_0 a0_1 l0_2))))) else (some false)) = some true := H
     have A37 := Aside0.mk A370; clear A370
     by_cases c38 : t299 = true
     ·subst c38
      have H1 : ((laws_markBox.f kj10 t280 t281 t282 1).bind fun bt300 => (if bt300.1 < 0 then (laws_FnExactDrain.j1 kj10 t274 t277 t286 t289 true a0_0 a0_1 l0_2) else ((laws_eqInt64S.f kj10 t286 t274).bind fun t302 => (if t302 = true then ((laws_eqInt64S.f kj10 t289 t277).bind fun t303 => (laws_FnExactDrain.j1 kj10 t274 t277 t286 t289 (!t303) a0_0 a0_1 l0_2)) else (laws_FnExactDrain.j1 kj10 t274 t277 t286 t289 true a0_0 a0_1 l0_2))))) = some true := by rw [if_pos rfl] at H; exact H
      clear H; have H := H1; clear H1; replace H := Option.bind_eq_some_iff.mp H
      obtain ⟨⟨t300, t301⟩, A390, H⟩ := H
      replace H : (if t300 < 0 then (laws_FnExactDrain.j1 kj10 t274 t277 t286 t289 true a0_0 a0_1 l0_2) else ((laws_eqInt64S.f kj10 t286 t274).bind fun t302 => (if t302 = true then ((laws_eqInt64S.f kj10 t289 t277).bind fun t303 => (laws_FnExactDrain.j1 kj10 t274 t277 t286 t289 (!t303) a0_0 a0_1 l0_2)) else (laws_FnExactDrain.j1 kj10 t274 t277 t286 t289 true a0_0 a0_1 l0_2)))) = some true := H
      have A39 := Aside0.mk A390; clear A390; have HC40 := Aside0.mk H; clear H
      try go_wp2
      replace HO_4 := Aside0.mk (Kd.R_drew HO_4.out)
      replace HO_5 := Aside0.mk (Kd.R_drew HO_5.out)
      replace HO_7 := Aside0.mk (Kd.R_drew HO_7.out)
      replace HO_8 := Aside0.mk (Kd.R_drew HO_8.out)
      replace HO_286002 := Aside0.mk (Kd.R_drew HO_286002.out)
      replace BK267 := Aside0.mk (blk_drew BK267.out)
      replace BK285 := Aside0.mk (blk_drew BK285.out)
      replace HB := Aside0.mk (below_drew1 HB.out)
      refine start_ (n := 5) (S := fun w' => w'.cell? ⟨gb285, 0, none⟩ = some (.int .i64 t280) ∧ w'.cell? ⟨gb285, 1, none⟩ = some (.int .i64 t281) ∧ w'.cell? ⟨gb285, 2, none⟩ = some (.slice Ao24 t282.length co24) ∧ w'.cell? ⟨gb267, 0, none⟩ = some (.int .i64 a0_0) ∧ w'.cell? ⟨gb267, 1, none⟩ = some (.int .i64 a0_1) ∧ w'.cell? ⟨gb267, 2, none⟩ = some (.slice A0_2 l0_2.length c0_2)) (ds := []) #[false, false, false, false, false] (by kernel_rfl) rfl rfl ⟨(blk_cell BK285.out 0).trans rfl, (blk_cell BK285.out 1).trans rfl, (blk_cell BK285.out 2).trans rfl, (blk_cell BK267.out 0).trans rfl, (blk_cell BK267.out 1).trans rfl, (blk_cell BK267.out 2).trans rfl⟩ (fun hHeld => ?_)
      generalize wc.drew = w41 at HO_4 HO_5 HO_7 HO_8 HO_286002 BK267 BK285 HB hHeld ⊢
      refine tB_ 0 (some 42) #[true, false, false, false, false] hHeld ?_ (hy := by rintro w' ⟨s0, s1, s2, s3, s4, s5⟩; go_simp; with_reducible rfl)
      refine tB_ 1 (some 43) #[true, true, false, false, false] hHeld ?_ (hy := by rintro w' ⟨s0, s1, s2, s3, s4, s5⟩; go_simp; with_reducible rfl)
      refine one_ (i := 2) (N := some 44) #[true, true, true, false, false] rfl rfl (by kernel_rfl) (by decide) (fun K hK => ?_)
      refine goes_ Try.func37 (by kernel_rfl) rfl #[.agg #[.int .i64 a0_0, .int .i64 a0_1, .slice A0_2 l0_2.length c0_2]] (by rfl) rfl rfl (by (try simp only [List.map_toArray, List.map_cons, List.map_nil]); first | done | rfl | (simp only [List.length_drop, List.length_take]; rfl)) ?_
      with_reducible refine (laws_toBox.calls kj10 a0_0 a0_1 _ _ l0_2 t294 t295 t296 _ ?side1 ?side2 A36.out).mono ?_
      (case side1 => exact cB_ HR0_2 HB)
      (case side2 => exact HC0_2.out)
      rintro e w42 ⟨v297, rfl, ho0, hb⟩
      refine ⟨_, rfl, ?_⟩
      have HO298 := rL_ (rN_ (rN_ (rN_ (rN_ (rN_ ho0 HO_4) HO_5) HO_7) HO_8) HO_286002) HB
      replace HO_4 := rE_ HO_4 ho0 hb; replace HO_5 := rE_ HO_5 ho0 hb; replace HO_7 := rE_ HO_7 ho0 hb; replace HO_8 := rE_ HO_8 ho0 hb; replace HO_286002 := rE_ HO_286002 ho0 hb; replace BK267 := bB_ BK267 hb; replace BK285 := bB_ BK285 hb; replace HB := bS_ HB hb; (try clear hb); (try clear hb2); (try clear hk); (try clear hi); (try clear ho0)
      obtain ⟨Ao43, co43, eo43⟩ := Kd.R_slice HO298.out
      (first | subst eo43 | (injection eo43 with f1_ f2_ f3_; have f4_ := f1_.symm; have f5_ := f3_.symm; clear f1_ f2_ f3_; subst f4_; subst f5_))
      refine hK.out _ _ ⟨(blk_cell BK285.out 0).trans rfl, (blk_cell BK285.out 1).trans rfl, (blk_cell BK285.out 2).trans rfl, (blk_cell BK267.out 0).trans rfl, (blk_cell BK267.out 1).trans rfl, (blk_cell BK267.out 2).trans rfl⟩ (fun hHeld => ?_)
      clear hK K
      refine nS_ (some 44) ?_
      refine one_ (i := 3) (N := some 45) #[true, true, true, true, false] rfl rfl (by kernel_rfl) (by decide) (fun K hK => ?_)
      refine goes_ Try.func39 (by kernel_rfl) rfl #[.agg #[.int .i64 t280, .int .i64 t281, .slice Ao24 t282.length co24], .agg #[.int .i64 t294, .int .i64 t295, .slice Ao43 t296.length co43]] (by rfl) rfl rfl (by (try simp only [List.map_toArray, List.map_cons, List.map_nil]); first | done | rfl | (simp only [List.length_drop, List.length_take]; rfl)) ?_
      with_reducible refine (laws_eqBox.calls kj10 t280 t281 _ _ t282 t294 t295 _ _ t296 true _ ?side1 ?side2 ?side3 ?side4 A37.out).mono ?_
      (case side1 => exact rD_ HO_286002)
      (case side2 => exact (Kd.R_reads' HO_286002.out).2.1)
      (case side3 => exact rD_ HO298)
      (case side4 => exact (Kd.R_reads' HO298.out).2.1)
      rintro e w44 ⟨rfl, hb⟩
      refine ⟨_, rfl, ?_⟩
      replace HO_4 := rB_ HO_4 hb; replace HO_5 := rB_ HO_5 hb; replace HO_7 := rB_ HO_7 hb; replace HO_8 := rB_ HO_8 hb; replace HO_286002 := rB_ HO_286002 hb; replace HO298 := rB_ HO298 hb; replace BK267 := bB_ BK267 hb; replace BK285 := bB_ BK285 hb; replace HB := bS_ HB hb; (try clear hb); (try clear hb2); (try clear hk); (try clear hi)
      refine hK.out _ _ ⟨(blk_cell BK285.out 0).trans rfl, (blk_cell BK285.out 1).trans rfl, (blk_cell BK285.out 2).trans rfl, (blk_cell BK267.out 0).trans rfl, (blk_cell BK267.out 1).trans rfl, (blk_cell BK267.out 2).trans rfl⟩ (fun hHeld => ?_)
      clear hK K
      refine nS_ (some 45) ?_
      refine pB_ 4 (some 46) #[true, true, true, true, true] ?_
      refine done_ (by kernel_rfl) ?_
      have hnb45 := NB285_267.out; have hnc45 := NB267_285.out
      have hcz46_0 : w44.cell? ⟨gb285, 0, none⟩ = some (.int .i64 t280) := (blk_cell BK285.out 0).trans rfl
      have hcz46_1 : w44.cell? ⟨gb285, 1, none⟩ = some (.int .i64 t281) := (blk_cell BK285.out 1).trans rfl
      have hcz46_2 : w44.cell? ⟨gb285, 2, none⟩ = some (.slice Ao24 t282.length co24) := (blk_cell BK285.out 2).trans rfl
      have hfz46_0 := blk_frozen BK285.out 0; have hfz46_1 := blk_frozen BK285.out 1; have hfz46_2 := blk_frozen BK285.out 2
      go_upto_region 14 with (first | ((with_reducible refine gate_callee (f := 40) rfl ?_); refine gL_ (some 49) Try.func40 #[.agg #[.int .i64 t280, .int .i64 t281, .slice Ao24 t282.length co24], .int .i64 1] ?_; (with_reducible refine (laws_markBox.calls kj10 t280 t281 (fun k_ => some k_ = (.slice Ao24 t282.length co24 : Value).ownBlock) (.slice Ao24 t282.length co24) t282 1 t300 t301 w _ ?side1 ?side2 A39.out).mono ?_); (case side1 => repeat (first | (with_reducible first | exact HB.out | apply below_alloc | apply pw_below_drewN | apply below_drew1 | refine below_set ?_ GE267.out | refine below_set ?_ GE285.out) | exact HB.out)); (case side2 => exact Kd.R_tight rfl (rT_ HO_286002)); rintro e w47 ⟨rfl, hy0, hb, hkp⟩; refine ⟨_, rfl, ?_⟩; replace HO_4 := Aside0.mk (rK_ (ok' := fun k_ => some k_ ≠ (v278 : Value).ownBlock ∧ some k_ ≠ (v287 : Value).ownBlock ∧ some k_ ≠ (v290 : Value).ownBlock ∧ some k_ ≠ (.slice Ao24 t282.length co24 : Value).ownBlock ∧ some k_ ≠ (.slice Ao43 t296.length co43 : Value).ownBlock) HO_4 hkp); replace HO_5 := Aside0.mk (rK_ (ok' := fun k_ => some k_ ≠ (v275 : Value).ownBlock ∧ some k_ ≠ (v287 : Value).ownBlock ∧ some k_ ≠ (v290 : Value).ownBlock ∧ some k_ ≠ (.slice Ao24 t282.length co24 : Value).ownBlock ∧ some k_ ≠ (.slice Ao43 t296.length co43 : Value).ownBlock) HO_5 hkp); replace HO_7 := Aside0.mk (rK_ (ok' := fun k_ => some k_ ≠ (v275 : Value).ownBlock ∧ some k_ ≠ (v278 : Value).ownBlock ∧ some k_ ≠ (v290 : Value).ownBlock ∧ some k_ ≠ (.slice Ao24 t282.length co24 : Value).ownBlock ∧ some k_ ≠ (.slice Ao43 t296.length co43 : Value).ownBlock) HO_7 hkp); replace HO_8 := Aside0.mk (rK_ (ok' := fun k_ => some k_ ≠ (v275 : Value).ownBlock ∧ some k_ ≠ (v278 : Value).ownBlock ∧ some k_ ≠ (v287 : Value).ownBlock ∧ some k_ ≠ (.slice Ao24 t282.length co24 : Value).ownBlock ∧ some k_ ≠ (.slice Ao43 t296.length co43 : Value).ownBlock) HO_8 hkp); replace BK267 := Aside0.mk (blk_kept (bT_ BK267) hkp (fun hs_ => (fun e_ => (Kd.R_ne HO_286002.out BK267.out (by decide)) e_) hs_)); replace BK285 := Aside0.mk (blk_kept (bT_ BK285) hkp (fun hs_ => (fun e_ => (Kd.R_ne HO_286002.out BK285.out (by decide)) e_) hs_)); replace HO_286002 := Aside0.mk (Kd.R_reok rfl hy0 (fun k_ e_ => HO_286002.out.1 k_ e_)); replace HO298 := Aside0.mk (rK_ (ok' := fun k_ => some k_ ≠ (v275 : Value).ownBlock ∧ some k_ ≠ (v278 : Value).ownBlock ∧ some k_ ≠ (v287 : Value).ownBlock ∧ some k_ ≠ (v290 : Value).ownBlock ∧ some k_ ≠ (.slice Ao24 t282.length co24 : Value).ownBlock) HO298 hkp); replace HB := Aside0.mk (hb); (try clear hb); (try clear hkp); (try clear hy0)))
      (try simp only [Act.put, List.setIfInBounds_toArray, List.set_cons_zero, List.set_cons_succ])
      go_cut [63] (fun v63 wc => ∃ (kq : Nat) (x63_39 : Bool), v63 = .bool x63_39 ∧ Aside0 (laws_FnExactDrain.j1 kq t274 t277 t286 t289 x63_39 a0_0 a0_1 l0_2 = some true) ∧ Aside0 (kq ≤ kj10) ∧ Aside0 (Kd.R (Kd.int .i64) 2 wc w.heap.size (fun k_ => some k_ ≠ (v278 : Value).ownBlock ∧ some k_ ≠ (v287 : Value).ownBlock ∧ some k_ ≠ (v290 : Value).ownBlock ∧ some k_ ≠ ((.slice Ao24 t282.length co24) : Value).ownBlock) v275 t274) ∧ Aside0 (Kd.R (Kd.int .i64) 2 wc w.heap.size (fun k_ => some k_ ≠ (v275 : Value).ownBlock ∧ some k_ ≠ (v287 : Value).ownBlock ∧ some k_ ≠ (v290 : Value).ownBlock ∧ some k_ ≠ ((.slice Ao24 t282.length co24) : Value).ownBlock) v278 t277) ∧ Aside0 (Kd.R (Kd.int .i64) 2 wc w.heap.size (fun k_ => some k_ ≠ (v275 : Value).ownBlock ∧ some k_ ≠ (v278 : Value).ownBlock ∧ some k_ ≠ (v290 : Value).ownBlock ∧ some k_ ≠ ((.slice Ao24 t282.length co24) : Value).ownBlock) v287 t286) ∧ Aside0 (Kd.R (Kd.int .i64) 2 wc w.heap.size (fun k_ => some k_ ≠ (v275 : Value).ownBlock ∧ some k_ ≠ (v278 : Value).ownBlock ∧ some k_ ≠ (v287 : Value).ownBlock ∧ some k_ ≠ ((.slice Ao24 t282.length co24) : Value).ownBlock) v290 t289) ∧ Aside0 (Kd.R (Kd.int .i64) 2 wc w.heap.size (fun k_ => some k_ ≠ (v275 : Value).ownBlock ∧ some k_ ≠ (v278 : Value).ownBlock ∧ some k_ ≠ (v287 : Value).ownBlock ∧ some k_ ≠ (v290 : Value).ownBlock) (.slice Ao24 t282.length co24) t301) ∧ Aside0 (wc.heap[gb267]? = some (.cells #[.int .i64 a0_0, .int .i64 a0_1, (.slice A0_2 l0_2.length c0_2)] 58 (0, 0))) ∧ Aside0 (wc.heap[gb285]? = some (.cells #[.int .i64 t280, .int .i64 t281, (.slice Ao24 t282.length co24)] 62 (0, 0))) ∧ Aside0 (Below w.heap.size w wc))
      case first =>
       have H := HC40.out; clear HC40
       by_cases c48 : t300 < 0
       ·rw [if_pos c48] at H
        have c48b0 : decide (t300 < 0) = true := decide_eq_true c48
        clear c48
        (first | rw [c48b0] | (simp only [i64_w, i32_w]; rw [c48b0]) | skip)
        have H' := Aside0.mk H; clear H
        go_wp2
        go_meet
        case rel => exact ⟨_, (true), (by first | rfl | (simp; done) | (simp [*]; done)), H', ⟨by have := HJ10.out; first | omega | exact Nat.le_refl _⟩, ⟨by (with_reducible repeat (first | apply Kd.R_alloc | apply Kd.R_drewN | apply Kd.R_drew)); exact Kd.R_mono HO_4.out (fun _ hk => ⟨hk.1, ⟨hk.2.1, ⟨hk.2.2.1, hk.2.2.2.1⟩⟩⟩)⟩, ⟨by (with_reducible repeat (first | apply Kd.R_alloc | apply Kd.R_drewN | apply Kd.R_drew)); exact Kd.R_mono HO_5.out (fun _ hk => ⟨hk.1, ⟨hk.2.1, ⟨hk.2.2.1, hk.2.2.2.1⟩⟩⟩)⟩, ⟨by (with_reducible repeat (first | apply Kd.R_alloc | apply Kd.R_drewN | apply Kd.R_drew)); exact Kd.R_mono HO_7.out (fun _ hk => ⟨hk.1, ⟨hk.2.1, ⟨hk.2.2.1, hk.2.2.2.1⟩⟩⟩)⟩, ⟨by (with_reducible repeat (first | apply Kd.R_alloc | apply Kd.R_drewN | apply Kd.R_drew)); exact Kd.R_mono HO_8.out (fun _ hk => ⟨hk.1, ⟨hk.2.1, ⟨hk.2.2.1, hk.2.2.2.1⟩⟩⟩)⟩, ⟨by (with_reducible repeat (first | apply Kd.R_alloc | apply Kd.R_drewN | apply Kd.R_drew)); exact Kd.R_mono HO_286002.out (fun _ hk => ⟨hk.1.1, ⟨hk.1.2.1, ⟨hk.1.2.2.1, hk.1.2.2.2⟩⟩⟩)⟩, ⟨by exact bT_ BK267⟩, ⟨by exact bT_ BK285⟩, ⟨by repeat (first | (with_reducible first | exact HB.out | apply below_alloc | apply pw_below_drewN | apply below_drew1 | refine below_set ?_ GE267.out | refine below_set ?_ GE285.out) | exact HB.out)⟩⟩
       ·rw [if_neg c48] at H
        have c48b0 : decide (t300 < 0) = false := decide_eq_false c48
        clear c48
        (first | rw [c48b0] | (simp only [i64_w, i32_w]; rw [c48b0]) | skip)
        replace H := Option.bind_eq_some_iff.mp H
        obtain ⟨t302, A490, H⟩ := H
        replace H : (if t302 = true then ((laws_eqInt64S.f kj10 t289 t277).bind fun t303 => (laws_FnExactDrain.j1 kj10 t274 t277 t286 t289 (!t303) a0_0 a0_1 l0_2)) else (laws_FnExactDrain.j1 kj10 t274 t277 t286 t289 true a0_0 a0_1 l0_2)) = some true := H
        have A49 := Aside0.mk A490; clear A490
        by_cases c50 : t302 = true
        ·subst c50
         have H1 : ((laws_eqInt64S.f kj10 t289 t277).bind fun t303 => (laws_FnExactDrain.j1 kj10 t274 t277 t286 t289 (!t303) a0_0 a0_1 l0_2)) = some true := by rw [if_pos rfl] at H; exact H
         clear H; have H := H1; clear H1; replace H := Option.bind_eq_some_iff.mp H
         obtain ⟨t303, A510, H⟩ := H
         replace H : (laws_FnExactDrain.j1 kj10 t274 t277 t286 t289 (!t303) a0_0 a0_1 l0_2) = some true := H
         have A51 := Aside0.mk A510; clear A510; have H' := Aside0.mk H; clear H
         obtain ⟨Ao52, co52, eo52⟩ := Kd.R_slice HO_7.out
         subst eo52
         obtain ⟨Ao53, co53, eo53⟩ := Kd.R_slice HO_4.out
         subst eo53
         go_wp2_with (first | (go_at_call 15; (with_reducible refine (laws_eqInt64S.calls kj10 _ _ t286 _ _ t274 true _ ?side1 ?side2 ?side3 ?side4 A49.out).mono ?_); (case side1 => exact rD_ HO_7); (case side2 => exact (Kd.R_reads' HO_7.out).2.1); (case side3 => exact rD_ HO_4); (case side4 => exact (Kd.R_reads' HO_4.out).2.1); rintro e w' ⟨rfl, ⟨nd, rfl⟩⟩; obtain ⟨Ao54, co54, eo54⟩ := Kd.R_slice HO_8.out; subst eo54; obtain ⟨Ao55, co55, eo55⟩ := Kd.R_slice HO_5.out; subst eo55) | (go_at_call 15; (with_reducible refine (laws_eqInt64S.calls kj10 _ _ t289 _ _ t277 t303 _ ?side1 ?side2 ?side3 ?side4 A51.out).mono ?_); (case side1 => exact rD_ HO_8); (case side2 => exact (Kd.R_reads' HO_8.out).2.1); (case side3 => exact rD_ HO_5); (case side4 => exact (Kd.R_reads' HO_5.out).2.1); rintro e w' ⟨rfl, ⟨nd, rfl⟩⟩))
         go_meet
         case rel => exact ⟨_, (!t303), (by first | rfl | (simp; done) | (simp [*]; done)), H', ⟨by have := HJ10.out; first | omega | exact Nat.le_refl _⟩, ⟨by (with_reducible repeat (first | apply Kd.R_alloc | apply Kd.R_drewN | apply Kd.R_drew)); exact Kd.R_mono HO_4.out (fun _ hk => ⟨hk.1, ⟨hk.2.1, ⟨hk.2.2.1, hk.2.2.2.1⟩⟩⟩)⟩, ⟨by (with_reducible repeat (first | apply Kd.R_alloc | apply Kd.R_drewN | apply Kd.R_drew)); exact Kd.R_mono HO_5.out (fun _ hk => ⟨hk.1, ⟨hk.2.1, ⟨hk.2.2.1, hk.2.2.2.1⟩⟩⟩)⟩, ⟨by (with_reducible repeat (first | apply Kd.R_alloc | apply Kd.R_drewN | apply Kd.R_drew)); exact Kd.R_mono HO_7.out (fun _ hk => ⟨hk.1, ⟨hk.2.1, ⟨hk.2.2.1, hk.2.2.2.1⟩⟩⟩)⟩, ⟨by (with_reducible repeat (first | apply Kd.R_alloc | apply Kd.R_drewN | apply Kd.R_drew)); exact Kd.R_mono HO_8.out (fun _ hk => ⟨hk.1, ⟨hk.2.1, ⟨hk.2.2.1, hk.2.2.2.1⟩⟩⟩)⟩, ⟨by (with_reducible repeat (first | apply Kd.R_alloc | apply Kd.R_drewN | apply Kd.R_drew)); exact Kd.R_mono HO_286002.out (fun _ hk => ⟨hk.1.1, ⟨hk.1.2.1, ⟨hk.1.2.2.1, hk.1.2.2.2⟩⟩⟩)⟩, ⟨by exact bT_ BK267⟩, ⟨by exact bT_ BK285⟩, ⟨by repeat (first | (with_reducible first | exact HB.out | apply below_alloc | apply pw_below_drewN | apply below_drew1 | refine below_set ?_ GE267.out | refine below_set ?_ GE285.out) | exact HB.out)⟩⟩
        ·replace c50 := Bool.eq_false_iff.mpr c50
         subst c50
         have H1 : (laws_FnExactDrain.j1 kj10 t274 t277 t286 t289 true a0_0 a0_1 l0_2) = some true := by rw [if_neg (show ¬ (false = true) by decide)] at H; exact H
         clear H; have H := H1; clear H1; have H' := Aside0.mk H; clear H
         obtain ⟨Ao56, co56, eo56⟩ := Kd.R_slice HO_7.out
         subst eo56
         obtain ⟨Ao57, co57, eo57⟩ := Kd.R_slice HO_4.out
         subst eo57
         go_wp2_with (first | (go_at_call 15; (with_reducible refine (laws_eqInt64S.calls kj10 _ _ t286 _ _ t274 false _ ?side1 ?side2 ?side3 ?side4 A49.out).mono ?_); (case side1 => exact rD_ HO_7); (case side2 => exact (Kd.R_reads' HO_7.out).2.1); (case side3 => exact rD_ HO_4); (case side4 => exact (Kd.R_reads' HO_4.out).2.1); rintro e w' ⟨rfl, ⟨nd, rfl⟩⟩))
         go_meet
         case rel => exact ⟨_, (true), (by first | rfl | (simp; done) | (simp [*]; done)), H', ⟨by have := HJ10.out; first | omega | exact Nat.le_refl _⟩, ⟨by (with_reducible repeat (first | apply Kd.R_alloc | apply Kd.R_drewN | apply Kd.R_drew)); exact Kd.R_mono HO_4.out (fun _ hk => ⟨hk.1, ⟨hk.2.1, ⟨hk.2.2.1, hk.2.2.2.1⟩⟩⟩)⟩, ⟨by (with_reducible repeat (first | apply Kd.R_alloc | apply Kd.R_drewN | apply Kd.R_drew)); exact Kd.R_mono HO_5.out (fun _ hk => ⟨hk.1, ⟨hk.2.1, ⟨hk.2.2.1, hk.2.2.2.1⟩⟩⟩)⟩, ⟨by (with_reducible repeat (first | apply Kd.R_alloc | apply Kd.R_drewN | apply Kd.R_drew)); exact Kd.R_mono HO_7.out (fun _ hk => ⟨hk.1, ⟨hk.2.1, ⟨hk.2.2.1, hk.2.2.2.1⟩⟩⟩)⟩, ⟨by (with_reducible repeat (first | apply Kd.R_alloc | apply Kd.R_drewN | apply Kd.R_drew)); exact Kd.R_mono HO_8.out (fun _ hk => ⟨hk.1, ⟨hk.2.1, ⟨hk.2.2.1, hk.2.2.2.1⟩⟩⟩)⟩, ⟨by (with_reducible repeat (first | apply Kd.R_alloc | apply Kd.R_drewN | apply Kd.R_drew)); exact Kd.R_mono HO_286002.out (fun _ hk => ⟨hk.1.1, ⟨hk.1.2.1, ⟨hk.1.2.2.1, hk.1.2.2.2⟩⟩⟩)⟩, ⟨by exact bT_ BK267⟩, ⟨by exact bT_ BK285⟩, ⟨by repeat (first | (with_reducible first | exact HB.out | apply below_alloc | apply pw_below_drewN | apply below_drew1 | refine below_set ?_ GE267.out | refine below_set ?_ GE285.out) | exact HB.out)⟩⟩
      case rest =>
       clear HC40; (try clear c1); (try clear c2); (try clear p2); (try clear c3); (try clear c3b0); (try clear c4); (try clear c5); (try clear c8); (try clear c15); (try clear c22); (try clear c27); (try clear c35); (try clear c36); (try clear c37); (try clear c38); (try clear c39); (try clear c40); (try clear c45); (try clear c48); (try clear c48b0); (try clear c50); (try clear hcz13_0); (try clear hcz13_1); (try clear hcz13_2); (try clear hcz15_0); (try clear hcz15_1); (try clear hcz15_2); (try clear hcz19_0); (try clear hcz19_1); (try clear hcz19_2); (try clear hcz23_0); (try clear hcz23_1); (try clear hcz23_2); (try clear hcz46_0); (try clear hcz46_1); (try clear hcz46_2); (try clear hcz5_0); (try clear hcz5_1); (try clear hcz5_2); (try clear hfz13_0); (try clear hfz13_1); (try clear hfz13_2); (try clear hfz15_0); (try clear hfz15_1); (try clear hfz15_2); (try clear hfz19_0); (try clear hfz19_1); (try clear hfz19_2); (try clear hfz23_0); (try clear hfz23_1); (try clear hfz23_2); (try clear hfz46_0); (try clear hfz46_1); (try clear hfz46_2); (try clear hfz5_0); (try clear hfz5_1); (try clear hfz5_2); (try clear p2)
       obtain ⟨kq, x63_39, rfl, HA, HJ39, HO_4, HO_5, HO_7, HO_8, HO_286002, BK267, BK285, HB⟩ := hcut
       have hl286002_39 := (Kd.R_reads' HO_286002.out).1
       rw [hl286002_39] at HO_286002
       (try simp only [hl286002_39])
       (try simp only [hl286002_39] at BK267)
       (try simp only [hl286002_39] at BK285)
       (try simp only [hl286002_39] at HO_4)
       (try simp only [hl286002_39] at HO_5)
       (try simp only [hl286002_39] at HO_7)
       (try simp only [hl286002_39] at HO_8)
       cases kq with
       | zero => exact absurd HA.out (by simp [laws_FnExactDrain.j1])
       | succ kj39 =>
        have H := HA.out; clear HA
        simp only [laws_FnExactDrain.j1] at H
        by_cases c58 : x63_39 = true
        ·subst c58
         have H1 : (some false) = some true := by rw [if_pos rfl] at H; exact H
         clear H; have H := H1; clear H1
         exact absurd H (by simp)
        ·replace c58 := Bool.eq_false_iff.mpr c58
         subst c58
         have H1 : ((laws_markInt64S.f kj39 t286 1).bind fun bt304 => ((laws_markInt64S.f kj39 t289 bt304.1).bind fun bt306 => ((laws_heldInt64S.f kj39 bt304.2 1).bind fun t308 => (if t308 < 0 then (some false) else ((laws_heldInt64S.f kj39 bt306.2 t308).bind fun t309 => (if t309 < 0 then (some false) else (if t309 = bt306.1 then ((laws_toBox.f kj39 a0_0 a0_1 l0_2).bind fun bt310 => ((impl_Drain.f kj39 bt310.1 bt310.2.1 bt310.2.2).bind fun bt315 => ((laws_eqInt64S.f kj39 bt315.1 t274).bind fun t321 => (if t321 = true then ((laws_eqInt64S.f kj39 bt315.2 t277).bind fun t322 => (laws_FnExactDrain.j2 kj39 bt304.2 bt306.2 bt306.1 (!t322))) else (laws_FnExactDrain.j2 kj39 bt304.2 bt306.2 bt306.1 true))))) else (some false)))))))) = some true := by rw [if_neg (show ¬ (false = true) by decide)] at H; exact H
         clear H; have H := H1; clear H1; replace H := Option.bind_eq_some_iff.mp H
         obtain ⟨⟨t304, t305⟩, A590, H⟩ := H
         replace H : ((laws_markInt64S.f kj39 t289 t304).bind fun bt306 => ((laws_heldInt64S.f kj39 t305 1).bind fun t308 => (if t308 < 0 then (some false) else ((laws_heldInt64S.f kj39 bt306.2 t308).bind fun t309 => (if t309 < 0 then (some false) else (if t309 = bt306.1 then ((laws_toBox.f kj39 a0_0 a0_1 l0_2).bind fun bt310 => ((impl_Drain.f kj39 bt310.1 bt310.2.1 bt310.2.2).bind fun bt315 => ((laws_eqInt64S.f kj39 bt315.1 t274).bind fun t321 => (if t321 = true then ((laws_eqInt64S.f kj39 bt315.2 t277).bind fun t322 => (laws_FnExactDrain.j2 kj39 t305 bt306.2 bt306.1 (!t322))) else (laws_FnExactDrain.j2 kj39 t305 bt306.2 bt306.1 true))))) else (some false))))))) = some true := H
         have A59 := Aside0.mk A590; clear A590; replace H := Option.bind_eq_some_iff.mp H
         obtain ⟨⟨t306, t307⟩, A600, H⟩ := H
         replace H : ((laws_heldInt64S.f kj39 t305 1).bind fun t308 => (if t308 < 0 then (some false) else ((laws_heldInt64S.f kj39 t307 t308).bind fun t309 => (if t309 < 0 then (some false) else (if t309 = t306 then ((laws_toBox.f kj39 a0_0 a0_1 l0_2).bind fun bt310 => ((impl_Drain.f kj39 bt310.1 bt310.2.1 bt310.2.2).bind fun bt315 => ((laws_eqInt64S.f kj39 bt315.1 t274).bind fun t321 => (if t321 = true then ((laws_eqInt64S.f kj39 bt315.2 t277).bind fun t322 => (laws_FnExactDrain.j2 kj39 t305 t307 t306 (!t322))) else (laws_FnExactDrain.j2 kj39 t305 t307 t306 true))))) else (some false)))))) = some true := H
         have A60 := Aside0.mk A600; clear A600; replace H := Option.bind_eq_some_iff.mp H
         obtain ⟨t308, A610, H⟩ := H
         replace H : (if t308 < 0 then (some false) else ((laws_heldInt64S.f kj39 t307 t308).bind fun t309 => (if t309 < 0 then (some false) else (if t309 = t306 then ((laws_toBox.f kj39 a0_0 a0_1 l0_2).bind fun bt310 => ((impl_Drain.f kj39 bt310.1 bt310.2.1 bt310.2.2).bind fun bt315 => ((laws_eqInt64S.f kj39 bt315.1 t274).bind fun t321 => (if t321 = true then ((laws_eqInt64S.f kj39 bt315.2 t277).bind fun t322 => (laws_FnExactDrain.j2 kj39 t305 t307 t306 (!t322))) else (laws_FnExactDrain.j2 kj39 t305 t307 t306 true))))) else (some false))))) = some true := H
         have A61 := Aside0.mk A610; clear A610
         by_cases c62 : t308 < 0
         ·rw [if_pos c62] at H
          have c62b0 : decide (t308 < 0) = true := decide_eq_true c62
          clear c62
          exact absurd H (by simp)
         ·rw [if_neg c62] at H
          have c62b0 : decide (t308 < 0) = false := decide_eq_false c62
          clear c62; replace H := Option.bind_eq_some_iff.mp H
          obtain ⟨t309, A630, H⟩ := H
          replace H : (if t309 < 0 then (some false) else (if t309 = t306 then ((laws_toBox.f kj39 a0_0 a0_1 l0_2).bind fun bt310 => ((impl_Drain.f kj39 bt310.1 bt310.2.1 bt310.2.2).bind fun bt315 => ((laws_eqInt64S.f kj39 bt315.1 t274).bind fun t321 => (if t321 = true then ((laws_eqInt64S.f kj39 bt315.2 t277).bind fun t322 => (laws_FnExactDrain.j2 kj39 t305 t307 t306 (!t322))) else (laws_FnExactDrain.j2 kj39 t305 t307 t306 true))))) else (some false))) = some true := H
          have A63 := Aside0.mk A630; clear A630
          by_cases c64 : t309 < 0
          ·rw [if_pos c64] at H
           have c64b0 : decide (t309 < 0) = true := decide_eq_true c64
           clear c64
           exact absurd H (by simp)
          ·rw [if_neg c64] at H
           have c64b0 : decide (t309 < 0) = false := decide_eq_false c64
           clear c64
           by_cases c65 : t309 = t306
           ·rw [if_pos c65] at H
            have c65b0 : (t309 == t306) = true := beq_iff_eq.mpr c65
            have c65b1 : (t309 != t306) = false := bne_eq_false_iff_eq.mpr c65
            clear c65; replace H := Option.bind_eq_some_iff.mp H
            obtain ⟨⟨t310, t311, t312⟩, A660, H⟩ := H
            replace H : ((impl_Drain.f kj39 t310 t311 t312).bind fun bt315 => ((laws_eqInt64S.f kj39 bt315.1 t274).bind fun t321 => (if t321 = true then ((laws_eqInt64S.f kj39 bt315.2 t277).bind fun t322 => (laws_FnExactDrain.j2 kj39 t305 t307 t306 (!t322))) else (laws_FnExactDrain.j2 kj39 t305 t307 t306 true)))) = some true := H
            have A66 := Aside0.mk A660; clear A660; replace H := Option.bind_eq_some_iff.mp H
            obtain ⟨⟨t315, t318⟩, A670, H⟩ := H
            replace H : ((laws_eqInt64S.f kj39 t315 t274).bind fun t321 => (if t321 = true then ((laws_eqInt64S.f kj39 t318 t277).bind fun t322 => (laws_FnExactDrain.j2 kj39 t305 t307 t306 (!t322))) else (laws_FnExactDrain.j2 kj39 t305 t307 t306 true))) = some true := H
            have A67 := Aside0.mk A670; clear A670; have HC68 := Aside0.mk H; clear H
            obtain ⟨Ao69, co69, eo69⟩ := Kd.R_slice HO_7.out
            subst eo69
            go_upto_region 29 with (first | ((with_reducible refine gate_callee (f := 16) rfl ?_); refine gL_ (some 66) Try.func16 #[.slice Ao69 t286.length co69, .int .i64 1] ?_; (with_reducible refine (laws_markInt64S.calls kj39 (fun k_ => some k_ = (.slice Ao69 t286.length co69 : Value).ownBlock) (.slice Ao69 t286.length co69) t286 1 t304 t305 w _ ?side1 ?side2 A59.out).mono ?_); (case side1 => repeat (first | (with_reducible first | exact HB.out | apply below_alloc | apply pw_below_drewN | apply below_drew1 | refine below_set ?_ GE267.out | refine below_set ?_ GE285.out) | exact HB.out)); (case side2 => exact Kd.R_tight rfl (rT_ HO_7)); rintro e w70 ⟨rfl, hy0, hb, hkp⟩; refine ⟨_, rfl, ?_⟩; replace HO_4 := Aside0.mk (rK_ (ok' := fun k_ => some k_ ≠ (v278 : Value).ownBlock ∧ some k_ ≠ (.slice Ao69 t286.length co69 : Value).ownBlock ∧ some k_ ≠ (v290 : Value).ownBlock ∧ some k_ ≠ (.slice Ao24 t301.length co24 : Value).ownBlock) HO_4 hkp); replace HO_5 := Aside0.mk (rK_ (ok' := fun k_ => some k_ ≠ (v275 : Value).ownBlock ∧ some k_ ≠ (.slice Ao69 t286.length co69 : Value).ownBlock ∧ some k_ ≠ (v290 : Value).ownBlock ∧ some k_ ≠ (.slice Ao24 t301.length co24 : Value).ownBlock) HO_5 hkp); replace HO_8 := Aside0.mk (rK_ (ok' := fun k_ => some k_ ≠ (v275 : Value).ownBlock ∧ some k_ ≠ (v278 : Value).ownBlock ∧ some k_ ≠ (.slice Ao69 t286.length co69 : Value).ownBlock ∧ some k_ ≠ (.slice Ao24 t301.length co24 : Value).ownBlock) HO_8 hkp); replace HO_286002 := Aside0.mk (rK_ (ok' := fun k_ => some k_ ≠ (v275 : Value).ownBlock ∧ some k_ ≠ (v278 : Value).ownBlock ∧ some k_ ≠ (.slice Ao69 t286.length co69 : Value).ownBlock ∧ some k_ ≠ (v290 : Value).ownBlock) HO_286002 hkp); replace BK267 := Aside0.mk (blk_kept (bT_ BK267) hkp (fun hs_ => (fun e_ => (Kd.R_ne HO_7.out BK267.out (by decide)) e_) hs_)); replace BK285 := Aside0.mk (blk_kept (bT_ BK285) hkp (fun hs_ => (fun e_ => (Kd.R_ne HO_7.out BK285.out (by decide)) e_) hs_)); replace HO_7 := Aside0.mk (Kd.R_reok rfl hy0 (fun k_ e_ => HO_7.out.1 k_ e_)); replace HB := Aside0.mk (hb); (try clear hb); (try clear hkp); (try clear hy0); obtain ⟨Ao71, co71, eo71⟩ := Kd.R_slice HO_8.out; subst eo71) | ((with_reducible refine gate_callee (f := 16) rfl ?_); refine gL_ (some 69) Try.func16 #[.slice Ao71 t289.length co71, .int .i64 t304] ?_; (with_reducible refine (laws_markInt64S.calls kj39 (fun k_ => some k_ = (.slice Ao71 t289.length co71 : Value).ownBlock) (.slice Ao71 t289.length co71) t289 t304 t306 t307 w _ ?side1 ?side2 A60.out).mono ?_); (case side1 => repeat (first | (with_reducible first | exact HB.out | apply below_alloc | apply pw_below_drewN | apply below_drew1 | refine below_set ?_ GE267.out | refine below_set ?_ GE285.out) | exact HB.out)); (case side2 => exact Kd.R_tight rfl (rT_ HO_8)); rintro e w72 ⟨rfl, hy0, hb, hkp⟩; refine ⟨_, rfl, ?_⟩; replace HO_4 := Aside0.mk (rK_ (ok' := fun k_ => some k_ ≠ (v278 : Value).ownBlock ∧ some k_ ≠ (.slice Ao69 t286.length co69 : Value).ownBlock ∧ some k_ ≠ (.slice Ao71 t289.length co71 : Value).ownBlock ∧ some k_ ≠ (.slice Ao24 t301.length co24 : Value).ownBlock) HO_4 hkp); replace HO_5 := Aside0.mk (rK_ (ok' := fun k_ => some k_ ≠ (v275 : Value).ownBlock ∧ some k_ ≠ (.slice Ao69 t286.length co69 : Value).ownBlock ∧ some k_ ≠ (.slice Ao71 t289.length co71 : Value).ownBlock ∧ some k_ ≠ (.slice Ao24 t301.length co24 : Value).ownBlock) HO_5 hkp); replace HO_7 := Aside0.mk (rK_ (ok' := fun k_ => some k_ ≠ (v275 : Value).ownBlock ∧ some k_ ≠ (v278 : Value).ownBlock ∧ some k_ ≠ (.slice Ao71 t289.length co71 : Value).ownBlock ∧ some k_ ≠ (.slice Ao24 t301.length co24 : Value).ownBlock) HO_7 hkp); replace HO_286002 := Aside0.mk (rK_ (ok' := fun k_ => some k_ ≠ (v275 : Value).ownBlock ∧ some k_ ≠ (v278 : Value).ownBlock ∧ some k_ ≠ (.slice Ao69 t286.length co69 : Value).ownBlock ∧ some k_ ≠ (.slice Ao71 t289.length co71 : Value).ownBlock) HO_286002 hkp); replace BK267 := Aside0.mk (blk_kept (bT_ BK267) hkp (fun hs_ => (fun e_ => (Kd.R_ne HO_8.out BK267.out (by decide)) e_) hs_)); replace BK285 := Aside0.mk (blk_kept (bT_ BK285) hkp (fun hs_ => (fun e_ => (Kd.R_ne HO_8.out BK285.out (by decide)) e_) hs_)); replace HO_8 := Aside0.mk (Kd.R_reok rfl hy0 (fun k_ e_ => HO_8.out.1 k_ e_)); replace HB := Aside0.mk (hb); (try clear hb); (try clear hkp); (try clear hy0)) | ((with_reducible refine gate_callee (f := 41) rfl ?_); refine goesL_ (some 72) rfl rfl Try.func41 (by kernel_rfl) rfl #[.slice Ao69 t305.length co69, .int .i64 1] rfl (by (try simp only [List.map_toArray, List.map_cons, List.map_nil]); first | done | (rw [show t305.length = t286.length from (Kd.R_reads' HO_7.out).1.symm] <;> rfl) | rfl | (simp only [List.length_drop, List.length_take]; rfl)) ?_; (with_reducible refine (laws_heldInt64S.calls kj39 _ _ t305 1 t308 _ ?side1 ?side2 A61.out).mono ?_); (case side1 => exact rD_ HO_7); (case side2 => rw [show t305.length = t286.length from (Kd.R_reads' HO_7.out).1.symm]; exact (Kd.R_reads' HO_7.out).2.1); rintro e w' ⟨rfl, ⟨nd, rfl⟩⟩; refine ⟨_, rfl, ?_⟩) | ((with_reducible refine gate_callee (f := 41) rfl ?_); refine goesL_ (some 77) rfl rfl Try.func41 (by kernel_rfl) rfl #[.slice Ao71 t307.length co71, .int .i64 t308] rfl (by (try simp only [List.map_toArray, List.map_cons, List.map_nil]); first | done | (rw [show t307.length = t289.length from (Kd.R_reads' HO_8.out).1.symm] <;> rfl) | rfl | (simp only [List.length_drop, List.length_take]; rfl)) ?_; (with_reducible refine (laws_heldInt64S.calls kj39 _ _ t307 t308 t309 _ ?side1 ?side2 A63.out).mono ?_); (case side1 => exact rD_ HO_8); (case side2 => rw [show t307.length = t289.length from (Kd.R_reads' HO_8.out).1.symm]; exact (Kd.R_reads' HO_8.out).2.1); rintro e w' ⟨rfl, ⟨nd, rfl⟩⟩; refine ⟨_, rfl, ?_⟩; have hnb73 := NB267_285.out; have hnc73 := NB285_267.out; have hcz74_0 : w72.cell? ⟨gb267, 0, none⟩ = some (.int .i64 a0_0) := (blk_cell BK267.out 0).trans rfl; have hcz74_1 : w72.cell? ⟨gb267, 1, none⟩ = some (.int .i64 a0_1) := (blk_cell BK267.out 1).trans rfl; have hcz74_2 : w72.cell? ⟨gb267, 2, none⟩ = some (.slice A0_2 l0_2.length c0_2) := (blk_cell BK267.out 2).trans rfl; have hfz74_0 := blk_frozen BK267.out 0; have hfz74_1 := blk_frozen BK267.out 1; have hfz74_2 := blk_frozen BK267.out 2) | ((with_reducible refine gate_callee (f := 37) rfl ?_); refine gL_ (some 85) Try.func37 #[.agg #[.int .i64 a0_0, .int .i64 a0_1, .slice A0_2 l0_2.length c0_2]] ?_; (with_reducible refine (laws_toBox.calls kj39 a0_0 a0_1 _ _ l0_2 t310 t311 t312 _ ?side1 ?side2 A66.out).mono ?_); (case side1 => repeat (first | exact (Kd.C_below HR0_2.out (by repeat (first | (with_reducible first | exact HB.out | apply below_alloc | apply pw_below_drewN | apply below_drew1 | refine below_set ?_ GE267.out | refine below_set ?_ GE285.out) | exact HB.out))) | (with_reducible refine Kd.C_alloc ?_ _) | (with_reducible refine Kd.C_drewN ?_ _) | (with_reducible refine Kd.C_drew ?_))); (case side2 => exact HC0_2.out); rintro e w75 ⟨v313, rfl, ho0, hb⟩; refine ⟨_, rfl, ?_⟩; have HO314 := rL_ (rN_ (rN_ (rN_ (rN_ (rN_ ho0 HO_4) HO_5) HO_7) HO_8) HO_286002) HB; replace HO_4 := rE_ HO_4 ho0 hb; replace HO_5 := rE_ HO_5 ho0 hb; replace HO_7 := rE_ HO_7 ho0 hb; replace HO_8 := rE_ HO_8 ho0 hb; replace HO_286002 := rE_ HO_286002 ho0 hb; replace BK267 := bB_ BK267 hb; replace BK285 := bB_ BK285 hb; replace HB := bS_ HB hb; (try clear hb); (try clear hb2); (try clear hk); (try clear hi); (try clear ho0); obtain ⟨Ao76, co76, eo76⟩ := Kd.R_slice HO314.out; subst eo76) | ((with_reducible refine gate_callee (f := 38) rfl ?_); refine gL_ (some 86) Try.func38 #[.agg #[.int .i64 t310, .int .i64 t311, .slice Ao76 t312.length co76]] ?_; (with_reducible refine (impl_Drain.calls kj39 t310 t311 _ _ t312 t315 t318 _ ?side1 ?side2 A67.out).mono ?_); (case side1 => exact rD_ HO314); (case side2 => exact (Kd.R_reads' HO314.out).2.1); rintro e w77 ⟨v316, v319, rfl, ho0, ho1, hb⟩; refine ⟨_, rfl, ?_⟩; have HO317 := rL_ (rN_ (rN_ (rN_ (rN_ (rN_ (rN_ ho0 HO_4) HO_5) HO_7) HO_8) HO_286002) HO314) HB; have HO320 := rL_ (rN_ (rN_ (rN_ (rN_ (rN_ (rN_ ho1 HO_4) HO_5) HO_7) HO_8) HO_286002) HO314) HB; replace HO_4 := Aside0.mk (Kd.R_mono (Kd.R_told (Kd.R_told (Kd.R_old (rT_ HO_4) hb) (Kd.R_base ho0)) (Kd.R_base ho1)) (fun _ h_ => h_.1)); replace HO_5 := Aside0.mk (Kd.R_mono (Kd.R_told (Kd.R_told (Kd.R_old (rT_ HO_5) hb) (Kd.R_base ho0)) (Kd.R_base ho1)) (fun _ h_ => h_.1)); replace HO_7 := Aside0.mk (Kd.R_mono (Kd.R_told (Kd.R_told (Kd.R_old (rT_ HO_7) hb) (Kd.R_base ho0)) (Kd.R_base ho1)) (fun _ h_ => h_.1)); replace HO_8 := Aside0.mk (Kd.R_mono (Kd.R_told (Kd.R_told (Kd.R_old (rT_ HO_8) hb) (Kd.R_base ho0)) (Kd.R_base ho1)) (fun _ h_ => h_.1)); replace HO_286002 := Aside0.mk (Kd.R_mono (Kd.R_told (Kd.R_told (Kd.R_old (rT_ HO_286002) hb) (Kd.R_base ho0)) (Kd.R_base ho1)) (fun _ h_ => h_.1)); replace HO314 := Aside0.mk (Kd.R_mono (Kd.R_told (Kd.R_told (Kd.R_old (rT_ HO314) hb) (Kd.R_base ho0)) (Kd.R_base ho1)) (fun _ h_ => h_.1)); replace BK267 := bB_ BK267 hb; replace BK285 := bB_ BK285 hb; replace HB := bS_ HB hb; (try clear hb); (try clear hb2); (try clear hk); (try clear hi); (try clear ho0); (try clear ho1)))
            (try simp only [Act.put, List.setIfInBounds_toArray, List.set_cons_zero, List.set_cons_succ])
            go_cut [98] (fun v98 wc => ∃ (kq : Nat) (x98_67 : Bool), v98 = .bool x98_67 ∧ Aside0 (laws_FnExactDrain.j2 kq t305 t307 t306 x98_67 = some true) ∧ Aside0 (kq ≤ kj39) ∧ Aside0 (Kd.R (Kd.int .i64) 2 wc w.heap.size (fun k_ => some k_ ≠ ((.slice Ao71 t289.length co71) : Value).ownBlock ∧ some k_ ≠ ((.slice Ao24 t301.length co24) : Value).ownBlock) (.slice Ao69 t286.length co69) t305) ∧ Aside0 (Kd.R (Kd.int .i64) 2 wc w.heap.size (fun k_ => some k_ ≠ ((.slice Ao69 t286.length co69) : Value).ownBlock ∧ some k_ ≠ ((.slice Ao24 t301.length co24) : Value).ownBlock) (.slice Ao71 t289.length co71) t307) ∧ Aside0 (Kd.R (Kd.int .i64) 2 wc w.heap.size (fun k_ => some k_ ≠ ((.slice Ao69 t286.length co69) : Value).ownBlock ∧ some k_ ≠ ((.slice Ao71 t289.length co71) : Value).ownBlock) (.slice Ao24 t301.length co24) t301) ∧ Aside0 (wc.heap[gb267]? = some (.cells #[.int .i64 a0_0, .int .i64 a0_1, (.slice A0_2 l0_2.length c0_2)] 58 (0, 0))) ∧ Aside0 (wc.heap[gb285]? = some (.cells #[.int .i64 t280, .int .i64 t281, (.slice Ao24 t301.length co24)] 62 (0, 0))) ∧ Aside0 (Below w.heap.size w wc))
            case first =>
             have H := HC68.out; clear HC68; replace H := Option.bind_eq_some_iff.mp H
             obtain ⟨t321, A780, H⟩ := H
             replace H : (if t321 = true then ((laws_eqInt64S.f kj39 t318 t277).bind fun t322 => (laws_FnExactDrain.j2 kj39 t305 t307 t306 (!t322))) else (laws_FnExactDrain.j2 kj39 t305 t307 t306 true)) = some true := H
             have A78 := Aside0.mk A780; clear A780
             by_cases c79 : t321 = true
             ·subst c79
              have H1 : ((laws_eqInt64S.f kj39 t318 t277).bind fun t322 => (laws_FnExactDrain.j2 kj39 t305 t307 t306 (!t322))) = some true := by rw [if_pos rfl] at H; exact H
              clear H; have H := H1; clear H1; replace H := Option.bind_eq_some_iff.mp H
              obtain ⟨t322, A800, H⟩ := H
              replace H : (laws_FnExactDrain.j2 kj39 t305 t307 t306 (!t322)) = some true := H
              have A80 := Aside0.mk A800; clear A800; have H' := Aside0.mk H; clear H
              obtain ⟨Ao81, co81, eo81⟩ := Kd.R_slice HO317.out
              subst eo81
              obtain ⟨Ao82, co82, eo82⟩ := Kd.R_slice HO_4.out
              subst eo82
              go_wp2_with (first | ((with_reducible refine gate_callee (f := 15) rfl ?_); refine gL_ (some 91) Try.func15 #[.slice Ao81 t315.length co81, .slice Ao82 t274.length co82] ?_; (with_reducible refine (laws_eqInt64S.calls kj39 _ _ t315 _ _ t274 true _ ?side1 ?side2 ?side3 ?side4 A78.out).mono ?_); (case side1 => exact rD_ HO317); (case side2 => exact (Kd.R_reads' HO317.out).2.1); (case side3 => exact rD_ HO_4); (case side4 => exact (Kd.R_reads' HO_4.out).2.1); rintro e w' ⟨rfl, ⟨nd, rfl⟩⟩; refine ⟨_, rfl, ?_⟩; obtain ⟨Ao83, co83, eo83⟩ := Kd.R_slice HO320.out; subst eo83; obtain ⟨Ao84, co84, eo84⟩ := Kd.R_slice HO_5.out; subst eo84) | (go_at_call 15; (with_reducible refine (laws_eqInt64S.calls kj39 _ _ t318 _ _ t277 t322 _ ?side1 ?side2 ?side3 ?side4 A80.out).mono ?_); (case side1 => exact rD_ HO320); (case side2 => exact (Kd.R_reads' HO320.out).2.1); (case side3 => exact rD_ HO_5); (case side4 => exact (Kd.R_reads' HO_5.out).2.1); rintro e w' ⟨rfl, ⟨nd, rfl⟩⟩))
              go_meet
              case rel => exact ⟨_, (!t322), (by first | rfl | (simp; done) | (simp [*]; done)), H', ⟨by have := HJ10.out; have := HJ39.out; first | omega | exact Nat.le_refl _⟩, ⟨by (try simp only [hl286002_39]); (with_reducible repeat (first | apply Kd.R_alloc | apply Kd.R_drewN | apply Kd.R_drew)); exact Kd.R_mono HO_7.out (fun _ hk => ⟨hk.1.1.1.2.2.1, hk.1.1.1.2.2.2⟩)⟩, ⟨by (try simp only [hl286002_39]); (with_reducible repeat (first | apply Kd.R_alloc | apply Kd.R_drewN | apply Kd.R_drew)); exact Kd.R_mono HO_8.out (fun _ hk => ⟨hk.1.1.1.2.2.1, hk.1.1.1.2.2.2⟩)⟩, ⟨by (try simp only [hl286002_39]); (with_reducible repeat (first | apply Kd.R_alloc | apply Kd.R_drewN | apply Kd.R_drew)); exact Kd.R_mono HO_286002.out (fun _ hk => ⟨hk.1.1.1.2.2.1, hk.1.1.1.2.2.2⟩)⟩, ⟨by (try simp only [hl286002_39]); exact bT_ BK267⟩, ⟨by (try simp only [hl286002_39]); exact bT_ BK285⟩, ⟨by repeat (first | (with_reducible first | exact HB.out | apply below_alloc | apply pw_below_drewN | apply below_drew1 | refine below_set ?_ GE267.out | refine below_set ?_ GE285.out) | exact HB.out)⟩⟩
             ·replace c79 := Bool.eq_false_iff.mpr c79
              subst c79
              have H1 : (laws_FnExactDrain.j2 kj39 t305 t307 t306 true) = some true := by rw [if_neg (show ¬ (false = true) by decide)] at H; exact H
              clear H; have H := H1; clear H1; have H' := Aside0.mk H; clear H
              obtain ⟨Ao85, co85, eo85⟩ := Kd.R_slice HO317.out
              subst eo85
              obtain ⟨Ao86, co86, eo86⟩ := Kd.R_slice HO_4.out
              subst eo86
              go_wp2_with (first | ((with_reducible refine gate_callee (f := 15) rfl ?_); refine gL_ (some 91) Try.func15 #[.slice Ao85 t315.length co85, .slice Ao86 t274.length co86] ?_; (with_reducible refine (laws_eqInt64S.calls kj39 _ _ t315 _ _ t274 false _ ?side1 ?side2 ?side3 ?side4 A78.out).mono ?_); (case side1 => exact rD_ HO317); (case side2 => exact (Kd.R_reads' HO317.out).2.1); (case side3 => exact rD_ HO_4); (case side4 => exact (Kd.R_reads' HO_4.out).2.1); rintro e w' ⟨rfl, ⟨nd, rfl⟩⟩; refine ⟨_, rfl, ?_⟩))
              go_meet
              case rel => exact ⟨_, (true), (by first | rfl | (simp; done) | (simp [*]; done)), H', ⟨by have := HJ10.out; have := HJ39.out; first | omega | exact Nat.le_refl _⟩, ⟨by (try simp only [hl286002_39]); (with_reducible repeat (first | apply Kd.R_alloc | apply Kd.R_drewN | apply Kd.R_drew)); exact Kd.R_mono HO_7.out (fun _ hk => ⟨hk.1.1.1.2.2.1, hk.1.1.1.2.2.2⟩)⟩, ⟨by (try simp only [hl286002_39]); (with_reducible repeat (first | apply Kd.R_alloc | apply Kd.R_drewN | apply Kd.R_drew)); exact Kd.R_mono HO_8.out (fun _ hk => ⟨hk.1.1.1.2.2.1, hk.1.1.1.2.2.2⟩)⟩, ⟨by (try simp only [hl286002_39]); (with_reducible repeat (first | apply Kd.R_alloc | apply Kd.R_drewN | apply Kd.R_drew)); exact Kd.R_mono HO_286002.out (fun _ hk => ⟨hk.1.1.1.2.2.1, hk.1.1.1.2.2.2⟩)⟩, ⟨by (try simp only [hl286002_39]); exact bT_ BK267⟩, ⟨by (try simp only [hl286002_39]); exact bT_ BK285⟩, ⟨by repeat (first | (with_reducible first | exact HB.out | apply below_alloc | apply pw_below_drewN | apply below_drew1 | refine below_set ?_ GE267.out | refine below_set ?_ GE285.out) | exact HB.out)⟩⟩
            case rest =>
             clear HC68; (try clear c1); (try clear c2); (try clear p2); (try clear c3); (try clear c3b0); (try clear c4); (try clear c5); (try clear c6); (try clear c7); (try clear c8); (try clear c15); (try clear c16); (try clear c22); (try clear c27); (try clear c35); (try clear c36); (try clear c37); (try clear c38); (try clear c39); (try clear c40); (try clear c41); (try clear c45); (try clear c48); (try clear c48b0); (try clear c50); (try clear c58); (try clear c62); (try clear c62b0); (try clear c64); (try clear c64b0); (try clear c65); (try clear c65b0); (try clear c65b1); (try clear c73); (try clear c79); (try clear hcz13_0); (try clear hcz13_1); (try clear hcz13_2); (try clear hcz15_0); (try clear hcz15_1); (try clear hcz15_2); (try clear hcz19_0); (try clear hcz19_1); (try clear hcz19_2); (try clear hcz23_0); (try clear hcz23_1); (try clear hcz23_2); (try clear hcz46_0); (try clear hcz46_1); (try clear hcz46_2); (try clear hcz5_0); (try clear hcz5_1); (try clear hcz5_2); (try clear hcz74_0); (try clear hcz74_1); (try clear hcz74_2); (try clear hfz13_0); (try clear hfz13_1); (try clear hfz13_2); (try clear hfz15_0); (try clear hfz15_1); (try clear hfz15_2); (try clear hfz19_0); (try clear hfz19_1); (try clear hfz19_2); (try clear hfz23_0); (try clear hfz23_1); (try clear hfz23_2); (try clear hfz46_0); (try clear hfz46_1); (try clear hfz46_2); (try clear hfz5_0); (try clear hfz5_1); (try clear hfz5_2); (try clear hfz74_0); (try clear hfz74_1); (try clear hfz74_2); (try clear p2)
             obtain ⟨kq, x98_67, rfl, HA, HJ67, HO_7, HO_8, HO_286002, BK267, BK285, HB⟩ := hcut
             have hl7_67 := (Kd.R_reads' HO_7.out).1
             rw [hl7_67] at HO_7
             (try simp only [hl7_67])
             (try simp only [hl7_67] at BK267)
             (try simp only [hl7_67] at BK285)
             (try simp only [hl7_67] at HO_8)
             (try simp only [hl7_67] at HO_286002)
             have hl8_67 := (Kd.R_reads' HO_8.out).1
             rw [hl8_67] at HO_8
             (try simp only [hl8_67])
             (try simp only [hl8_67] at BK267)
             (try simp only [hl8_67] at BK285)
             (try simp only [hl8_67] at HO_7)
             (try simp only [hl8_67] at HO_286002)
             cases kq with
             | zero => exact absurd HA.out (by simp [laws_FnExactDrain.j2])
             | succ kj67 =>
              have H := HA.out; clear HA
              simp only [laws_FnExactDrain.j2] at H
              by_cases c87 : x98_67 = true
              ·subst c87
               have H1 : (some false) = some true := by rw [if_pos rfl] at H; exact H
               clear H; have H := H1; clear H1
               exact absurd H (by simp)
              ·replace c87 := Bool.eq_false_iff.mpr c87
               subst c87
               have H1 : ((laws_heldInt64S.f kj67 t305 1).bind fun t323 => (if t323 < 0 then (some false) else ((laws_heldInt64S.f kj67 t307 t323).bind fun t324 => (if t324 < 0 then (some false) else (if t324 = t306 then (some true) else (some false)))))) = some true := by rw [if_neg (show ¬ (false = true) by decide)] at H; exact H
               clear H; have H := H1; clear H1; replace H := Option.bind_eq_some_iff.mp H
               obtain ⟨t323, A880, H⟩ := H
               replace H : (if t323 < 0 then (some false) else ((laws_heldInt64S.f kj67 t307 t323).bind fun t324 => (if t324 < 0 then (some false) else (if t324 = t306 then (some true) else (some false))))) = some true := H
               have A88 := Aside0.mk A880; clear A880
               by_cases c89 : t323 < 0
               ·rw [if_pos c89] at H
                have c89b0 : decide (t323 < 0) = true := decide_eq_true c89
                clear c89
                exact absurd H (by simp)
               ·rw [if_neg c89] at H
                have c89b0 : decide (t323 < 0) = false := decide_eq_false c89
                clear c89; replace H := Option.bind_eq_some_iff.mp H
                obtain ⟨t324, A900, H⟩ := H
                replace H : (if t324 < 0 then (some false) else (if t324 = t306 then (some true) else (some false))) = some true := H
                have A90 := Aside0.mk A900; clear A900
                by_cases c91 : t324 < 0
                ·rw [if_pos c91] at H
                 have c91b0 : decide (t324 < 0) = true := decide_eq_true c91
                 clear c91
                 exact absurd H (by simp)
                ·rw [if_neg c91] at H
                 have c91b0 : decide (t324 < 0) = false := decide_eq_false c91
                 clear c91
                 by_cases c92 : t324 = t306
                 ·rw [if_pos c92] at H
                  have c92b0 : (t324 == t306) = true := beq_iff_eq.mpr c92
                  have c92b1 : (t324 != t306) = false := bne_eq_false_iff_eq.mpr c92
                  clear c92 H
                  go_wp2_with (first | ((with_reducible refine gate_callee (f := 41) rfl ?_); refine gL_ (some 101) Try.func41 #[.slice Ao69 t305.length co69, .int .i64 1] ?_; (with_reducible refine (laws_heldInt64S.calls kj67 _ _ t305 1 t323 _ ?side1 ?side2 A88.out).mono ?_); (case side1 => exact rD_ HO_7); (case side2 => exact (Kd.R_reads' HO_7.out).2.1); rintro e w' ⟨rfl, ⟨nd, rfl⟩⟩; refine ⟨_, rfl, ?_⟩) | ((with_reducible refine gate_callee (f := 41) rfl ?_); refine gL_ (some 106) Try.func41 #[.slice Ao71 t307.length co71, .int .i64 t323] ?_; (with_reducible refine (laws_heldInt64S.calls kj67 _ _ t307 t323 t324 _ ?side1 ?side2 A90.out).mono ?_); (case side1 => exact rD_ HO_8); (case side2 => exact (Kd.R_reads' HO_8.out).2.1); rintro e w' ⟨rfl, ⟨nd, rfl⟩⟩; refine ⟨_, rfl, ?_⟩))
                  go_ret
                  exact ⟨by first | rfl | (simp [errW_none, errW_some] <;> rfl) | (simp [*, errW_none, errW_some] <;> rfl), by repeat (first | (with_reducible first | exact HB.out | apply below_alloc | apply pw_below_drewN | apply below_drew1 | refine below_set ?_ GE267.out | refine below_set ?_ GE285.out) | exact HB.out)⟩
                 ·rw [if_neg c92] at H
                  have c92b0 : (t324 == t306) = false := beq_eq_false_iff_ne.mpr c92
                  have c92b1 : (t324 != t306) = true := bne_iff_ne.mpr c92
                  exact absurd H (by simp)
           ·rw [if_neg c65] at H
            have c65b0 : (t309 == t306) = false := beq_eq_false_iff_ne.mpr c65
            have c65b1 : (t309 != t306) = true := bne_iff_ne.mpr c65
            exact absurd H (by simp)
     ·replace c38 := Bool.eq_false_iff.mpr c38
      subst c38
      have H1 : (some false) = some true := by rw [if_neg (show ¬ (false = true) by decide)] at H; exact H
      clear H; have H := H1; clear H1
      exact absurd H (by simp)

end Go.Proofs.Ytopfdmodbhopiaa.QFnExactDrain
