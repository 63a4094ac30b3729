-- Written by a program of this session out of the printer's texts and contracts of its own.
import Derived.Test.YtopfdmodbhopiaaSq
import Derived.Test.YtopfdmodbhopiaaQFnExactFlowStepx0
import Derived.Test.YtopfdmodbhopiaaQFnExactFlowStepx1
import Derived.Test.YtopfdmodbhopiaaQFnExactFlowStepx2
import Derived.Test.YtopfdmodbhopiaaQFnExactFlowStepx3
import Derived.Test.YtopfdmodbhopiaaQFnExactFlowStepx4
import Derived.Test.YtopfdmodbhopiaaQFnExactFlowStepx5
namespace Go.Proofs.Ytopfdmodbhopiaa.QFnExactFlowStep
open Go.RowKit Go.Proofs.YtopfdmodbhopiaaW.PrintWords Go.Proofs.YtopfdmodbhopiaaW.PrintLast Go.Proofs.YtopfdmodbhopiaaW.PrintMore Go.Proofs.Ytopfdmodbhopiaa.Sq
attribute [local go_sem] max2_int min2_int max_two min_two max_three min_three max_four min_four   -- for this text's walks alone
set_option linter.unusedVariables false
set_option linter.unusedSimpArgs false

/-! ### laws_FnExactFlowStep: function 3 -/
mutual
def laws_FnExactFlowStep.j0 : Nat → List Int → List Int → Bool → List Int → List Int → Bool → Bool → List Int → Int → Int → List Int → Int → Int → List Int → Int → Int → List Int → Int → Int → Option (Bool)
 | 0, _, _, _, _, _, _, _, _, _, _, _, _, _, _, _, _, _, _, _ => none
 | k + 1, x0, x2, x9, x10, x12, x14, x62, x204000, x204001, x204002, x223000, x223001, x223002, x232000, x232001, x232002, x242000, x242001, x242002 => if x62 = true then (some false) else ((laws_toInt64S.f k x0).bind fun t243 => ((laws_eqInt64S.f k x10 t243).bind fun t246 => (if t246 = true then ((laws_toBook.f k x204000 x204001 x204002).bind fun bt247 => ((laws_eqBook.f k x232000 x232001 x232002 bt247.1 bt247.2.1 bt247.2.2).bind fun t252 => (if t252 = true then ((laws_toInt64S.f k x2).bind fun t253 => ((laws_eqInt64S.f k x12 t253).bind fun t256 => (if t256 = true then ((laws_markInt64S.f k x10 1).bind fun bt257 => ((laws_markBook.f k x232000 x232001 x232002 bt257.1).bind fun bt259 => ((laws_markInt64S.f k x12 bt259.1).bind fun bt261 => (if bt261.1 < 0 then (laws_FnExactFlowStep.j1 k x0 x2 x9 true x204000 x204001 x204002 x223000 x223001 x223002 x242000 x242001 x242002) else ((laws_eqBook.f k x242000 x242001 x242002 x223000 x223001 x223002).bind fun t263 => (if t263 = true then (laws_FnExactFlowStep.j1 k x0 x2 x9 (x14 != x9) x204000 x204001 x204002 x223000 x223001 x223002 x242000 x242001 x242002) else (laws_FnExactFlowStep.j1 k x0 x2 x9 true x204000 x204001 x204002 x223000 x223001 x223002 x242000 x242001 x242002))))))) else (some false)))) else (some false)))) else (some false))))
def laws_FnExactFlowStep.j1 : Nat → List Int → List Int → Bool → Bool → List Int → Int → Int → List Int → Int → Int → List Int → Int → Int → Option (Bool)
 | 0, _, _, _, _, _, _, _, _, _, _, _, _, _ => none
 | k + 1, x0, x2, x9, x99, x204000, x204001, x204002, x223000, x223001, x223002, x242000, x242001, x242002 => if x99 = true then (some false) else ((laws_markBook.f k x242000 x242001 x242002 1).bind fun bt264 => ((laws_heldBook.f k bt264.2 x242001 x242002 1).bind fun t266 => (if t266 < 0 then (some false) else (if t266 = bt264.1 then ((laws_toInt64S.f k x0).bind fun t267 => ((laws_toBook.f k x204000 x204001 x204002).bind fun bt270 => ((laws_toInt64S.f k x2).bind fun t275 => ((impl_FlowStep.f k t267 bt270.1 bt270.2.1 bt270.2.2 t275).bind fun bt278 => ((laws_eqBook.f k bt278.1 bt278.2.1 bt278.2.2.1 x223000 x223001 x223002).bind fun t285 => (if t285 = true then (laws_FnExactFlowStep.j2 k bt264.1 (bt278.2.2.2 != x9) bt264.2 x242001 x242002) else (laws_FnExactFlowStep.j2 k bt264.1 true bt264.2 x242001 x242002))))))) else (some false)))))
def laws_FnExactFlowStep.j2 : Nat → Int → Bool → List Int → Int → Int → Option (Bool)
 | 0, _, _, _, _, _ => none
 | k + 1, x16, x129, x242000, x242001, x242002 => if x129 = true then (some false) else ((laws_heldBook.f k x242000 x242001 x242002 1).bind fun t286 => (if t286 < 0 then (some false) else (if t286 = x16 then (some true) else (some false))))
end
def laws_FnExactFlowStep.f (k : Nat) (l0 : List Int) (l1_0 : List Int) (a1_1 : Int) (a1_2 : Int) (l2 : List Int) : Option (Bool) := if (l0.length : Int) > 1048576 then (some true) else (if (l2.length : Int) > 1048576 then (some true) else ((laws_szBook.f l1_0 a1_1 a1_2 1048576).bind fun t204 => (if t204 < 0 then (some true) else ((laws_toInt64S.f k l0).bind fun t205 => ((laws_toBook.f k l1_0 a1_1 a1_2).bind fun bt208 => ((laws_toInt64S.f k l2).bind fun t213 => ((spec_FlowStep.f k t205 bt208.1 bt208.2.1 bt208.2.2 t213).bind fun bt216 => ((laws_toInt64S.f k l0).bind fun t223 => ((laws_toBook.f k l1_0 a1_1 a1_2).bind fun bt226 => ((laws_toInt64S.f k l2).bind fun t232 => ((impl_FlowStep.f k t223 bt226.1 bt226.2.1 bt226.2.2 t232).bind fun bt235 => ((laws_eqBook.f k bt235.1 bt235.2.1 bt235.2.2.1 bt216.1 bt216.2.1 bt216.2.2.1).bind fun t242 => (if t242 = true then (laws_FnExactFlowStep.j0 k l0 l2 bt216.2.2.2 t223 t232 bt235.2.2.2 (bt235.2.2.2 != bt216.2.2.2) l1_0 a1_1 a1_2 bt216.1 bt216.2.1 bt216.2.2.1 bt226.1 bt226.2.1 bt226.2.2 bt235.1 bt235.2.1 bt235.2.2.1) else (laws_FnExactFlowStep.j0 k l0 l2 bt216.2.2.2 t223 t232 bt235.2.2.2 true l1_0 a1_1 a1_2 bt216.1 bt216.2.1 bt216.2.2.1 bt226.1 bt226.2.1 bt226.2.2 bt235.1 bt235.2.1 bt235.2.2.1))))))))))))))
theorem laws_FnExactFlowStep.mono_l : ∀ k, (∀ y0 y1 y2 y3 y4 y5 y6 y7 y8 y9 y10 y11 y12 y13 y14 y15 y16 y17 y18, LeO (laws_FnExactFlowStep.j0 k y0 y1 y2 y3 y4 y5 y6 y7 y8 y9 y10 y11 y12 y13 y14 y15 y16 y17 y18) (laws_FnExactFlowStep.j0 (k + 1) y0 y1 y2 y3 y4 y5 y6 y7 y8 y9 y10 y11 y12 y13 y14 y15 y16 y17 y18)) ∧ (∀ y0 y1 y2 y3 y4 y5 y6 y7 y8 y9 y10 y11 y12, LeO (laws_FnExactFlowStep.j1 k y0 y1 y2 y3 y4 y5 y6 y7 y8 y9 y10 y11 y12) (laws_FnExactFlowStep.j1 (k + 1) y0 y1 y2 y3 y4 y5 y6 y7 y8 y9 y10 y11 y12)) ∧ (∀ y0 y1 y2 y3 y4, LeO (laws_FnExactFlowStep.j2 k y0 y1 y2 y3 y4) (laws_FnExactFlowStep.j2 (k + 1) y0 y1 y2 y3 y4))
 | 0 => ⟨fun _ _ _ _ _ _ _ _ _ _ _ _ _ _ _ _ _ _ _ r h => by simp [laws_FnExactFlowStep.j0] at h, fun _ _ _ _ _ _ _ _ _ _ _ _ _ r h => by simp [laws_FnExactFlowStep.j1] at h, fun _ _ _ _ _ r h => by simp [laws_FnExactFlowStep.j2] at h⟩
 | k + 1 => by
  obtain ⟨ih0, ih1, ih2⟩ := laws_FnExactFlowStep.mono_l k
  refine ⟨?_, ?_, ?_⟩
  ·intro y0 y1 y2 y3 y4 y5 y6 y7 y8 y9 y10 y11 y12 y13 y14 y15 y16 y17 y18
   unfold laws_FnExactFlowStep.j0
   repeat' first
   | (with_reducible exact ih0 _ _ _ _ _ _ _ _ _ _ _ _ _ _ _ _ _ _ _)
   | (with_reducible exact ih1 _ _ _ _ _ _ _ _ _ _ _ _ _)
   | (with_reducible exact ih2 _ _ _ _ _)
   | (with_reducible exact impl_FlowStep.mono _ _ _ _ _ _)
   | (with_reducible exact laws_eqBook.mono _ _ _ _ _ _ _)
   | (with_reducible exact laws_eqInt64S.mono _ _ _)
   | (with_reducible exact laws_heldBook.mono _ _ _ _ _)
   | (with_reducible exact laws_markBook.mono _ _ _ _ _)
   | (with_reducible exact laws_markInt64S.mono _ _ _)
   | (with_reducible exact laws_toBook.mono _ _ _ _)
   | (with_reducible exact laws_toInt64S.mono _ _)
   | (with_reducible exact spec_FlowStep.mono _ _ _ _ _ _)
   | (with_reducible exact LeO.refl _)
   | (with_reducible exact LeO.none _)
   | (with_reducible refine LeO.ite ?_ ?_)
   | (with_reducible refine LeO.bind ?_ (fun _ => ?_))
   | exact ih0 _ _ _ _ _ _ _ _ _ _ _ _ _ _ _ _ _ _ _
   | exact ih1 _ _ _ _ _ _ _ _ _ _ _ _ _
   | exact ih2 _ _ _ _ _
   | exact impl_FlowStep.mono _ _ _ _ _ _
   | exact laws_eqBook.mono _ _ _ _ _ _ _
   | exact laws_eqInt64S.mono _ _ _
   | exact laws_heldBook.mono _ _ _ _ _
   | exact laws_markBook.mono _ _ _ _ _
   | exact laws_markInt64S.mono _ _ _
   | exact laws_toBook.mono _ _ _ _
   | exact laws_toInt64S.mono _ _
   | exact spec_FlowStep.mono _ _ _ _ _ _
   | exact LeO.none _
   | refine LeO.ite ?_ ?_
   | refine LeO.bind ?_ (fun _ => ?_)
  ·intro y0 y1 y2 y3 y4 y5 y6 y7 y8 y9 y10 y11 y12
   unfold laws_FnExactFlowStep.j1
   repeat' first
   | (with_reducible exact ih0 _ _ _ _ _ _ _ _ _ _ _ _ _ _ _ _ _ _ _)
   | (with_reducible exact ih1 _ _ _ _ _ _ _ _ _ _ _ _ _)
   | (with_reducible exact ih2 _ _ _ _ _)
   | (with_reducible exact impl_FlowStep.mono _ _ _ _ _ _)
   | (with_reducible exact laws_eqBook.mono _ _ _ _ _ _ _)
   | (with_reducible exact laws_eqInt64S.mono _ _ _)
   | (with_reducible exact laws_heldBook.mono _ _ _ _ _)
   | (with_reducible exact laws_markBook.mono _ _ _ _ _)
   | (with_reducible exact laws_markInt64S.mono _ _ _)
   | (with_reducible exact laws_toBook.mono _ _ _ _)
   | (with_reducible exact laws_toInt64S.mono _ _)
   | (with_reducible exact spec_FlowStep.mono _ _ _ _ _ _)
   | (with_reducible exact LeO.refl _)
   | (with_reducible exact LeO.none _)
   | (with_reducible refine LeO.ite ?_ ?_)
   | (with_reducible refine LeO.bind ?_ (fun _ => ?_))
   | exact ih0 _ _ _ _ _ _ _ _ _ _ _ _ _ _ _ _ _ _ _
   | exact ih1 _ _ _ _ _ _ _ _ _ _ _ _ _
   | exact ih2 _ _ _ _ _
   | exact impl_FlowStep.mono _ _ _ _ _ _
   | exact laws_eqBook.mono _ _ _ _ _ _ _
   | exact laws_eqInt64S.mono _ _ _
   | exact laws_heldBook.mono _ _ _ _ _
   | exact laws_markBook.mono _ _ _ _ _
   | exact laws_markInt64S.mono _ _ _
   | exact laws_toBook.mono _ _ _ _
   | exact laws_toInt64S.mono _ _
   | exact spec_FlowStep.mono _ _ _ _ _ _
   | exact LeO.none _
   | refine LeO.ite ?_ ?_
   | refine LeO.bind ?_ (fun _ => ?_)
  ·intro y0 y1 y2 y3 y4
   unfold laws_FnExactFlowStep.j2
   repeat' first
   | (with_reducible exact ih0 _ _ _ _ _ _ _ _ _ _ _ _ _ _ _ _ _ _ _)
   | (with_reducible exact ih1 _ _ _ _ _ _ _ _ _ _ _ _ _)
   | (with_reducible exact ih2 _ _ _ _ _)
   | (with_reducible exact impl_FlowStep.mono _ _ _ _ _ _)
   | (with_reducible exact laws_eqBook.mono _ _ _ _ _ _ _)
   | (with_reducible exact laws_eqInt64S.mono _ _ _)
   | (with_reducible exact laws_heldBook.mono _ _ _ _ _)
   | (with_reducible exact laws_markBook.mono _ _ _ _ _)
   | (with_reducible exact laws_markInt64S.mono _ _ _)
   | (with_reducible exact laws_toBook.mono _ _ _ _)
   | (with_reducible exact laws_toInt64S.mono _ _)
   | (with_reducible exact spec_FlowStep.mono _ _ _ _ _ _)
   | (with_reducible exact LeO.refl _)
   | (with_reducible exact LeO.none _)
   | (with_reducible refine LeO.ite ?_ ?_)
   | (with_reducible refine LeO.bind ?_ (fun _ => ?_))
   | exact ih0 _ _ _ _ _ _ _ _ _ _ _ _ _ _ _ _ _ _ _
   | exact ih1 _ _ _ _ _ _ _ _ _ _ _ _ _
   | exact ih2 _ _ _ _ _
   | exact impl_FlowStep.mono _ _ _ _ _ _
   | exact laws_eqBook.mono _ _ _ _ _ _ _
   | exact laws_eqInt64S.mono _ _ _
   | exact laws_heldBook.mono _ _ _ _ _
   | exact laws_markBook.mono _ _ _ _ _
   | exact laws_markInt64S.mono _ _ _
   | exact laws_toBook.mono _ _ _ _
   | exact laws_toInt64S.mono _ _
   | exact spec_FlowStep.mono _ _ _ _ _ _
   | exact LeO.none _
   | refine LeO.ite ?_ ?_
   | refine LeO.bind ?_ (fun _ => ?_)
theorem laws_FnExactFlowStep.mono : ∀ a0 a1 a2 a3 a4 k, LeO (laws_FnExactFlowStep.f k a0 a1 a2 a3 a4) (laws_FnExactFlowStep.f (k + 1) a0 a1 a2 a3 a4) := by
 intro a0 a1 a2 a3 a4 k
 obtain ⟨ih0, ih1, ih2⟩ := laws_FnExactFlowStep.mono_l k
 unfold laws_FnExactFlowStep.f
 repeat' first
   | (with_reducible exact ih0 _ _ _ _ _ _ _ _ _ _ _ _ _ _ _ _ _ _ _)
   | (with_reducible exact ih1 _ _ _ _ _ _ _ _ _ _ _ _ _)
   | (with_reducible exact ih2 _ _ _ _ _)
   | (with_reducible exact impl_FlowStep.mono _ _ _ _ _ _)
   | (with_reducible exact laws_eqBook.mono _ _ _ _ _ _ _)
   | (with_reducible exact laws_eqInt64S.mono _ _ _)
   | (with_reducible exact laws_heldBook.mono _ _ _ _ _)
   | (with_reducible exact laws_markBook.mono _ _ _ _ _)
   | (with_reducible exact laws_markInt64S.mono _ _ _)
   | (with_reducible exact laws_toBook.mono _ _ _ _)
   | (with_reducible exact laws_toInt64S.mono _ _)
   | (with_reducible exact spec_FlowStep.mono _ _ _ _ _ _)
   | (with_reducible exact LeO.refl _)
   | (with_reducible exact LeO.none _)
   | (with_reducible refine LeO.ite ?_ ?_)
   | (with_reducible refine LeO.bind ?_ (fun _ => ?_))
   | exact ih0 _ _ _ _ _ _ _ _ _ _ _ _ _ _ _ _ _ _ _
   | exact ih1 _ _ _ _ _ _ _ _ _ _ _ _ _
   | exact ih2 _ _ _ _ _
   | exact impl_FlowStep.mono _ _ _ _ _ _
   | exact laws_eqBook.mono _ _ _ _ _ _ _
   | exact laws_eqInt64S.mono _ _ _
   | exact laws_heldBook.mono _ _ _ _ _
   | exact laws_markBook.mono _ _ _ _ _
   | exact laws_markInt64S.mono _ _ _
   | exact laws_toBook.mono _ _ _ _
   | exact laws_toInt64S.mono _ _
   | exact spec_FlowStep.mono _ _ _ _ _ _
   | exact LeO.none _
   | refine LeO.ite ?_ ?_
   | refine LeO.bind ?_ (fun _ => ?_)
def laws_FnExactFlowStep.T9 : Bool × List (List Nat × List Nat) := (true, [([], []), ([0], [0]), ([], []), ([2, 1], [2]), ([], []), ([4, 3], [4]), ([1, 3, 5, 5], [1, 3, 5]), ([6], [6]), ([7], [7]), ([7], [7]), ([], []), ([10, 8, 6, 0, 1, 2, 3, 4, 5, 6, 7, 8, 10], [8, 10]), ([9, 11, 0, 1, 2, 3, 4, 5, 6, 7, 8, 9, 10, 11], [9])])
def laws_FnExactFlowStep.B9 : List Nat := [0, 1, 0, 7, 0, 31, 63, 127, 255, 255, 0, 1535, 4095]
theorem laws_FnExactFlowStep.tab9 : rtab .any (opsOf Try.f3 9) = laws_FnExactFlowStep.T9 := by kernel_rfl
theorem laws_FnExactFlowStep.bits9 : waitsOk laws_FnExactFlowStep.T9.2 laws_FnExactFlowStep.B9 = true := by kernel_rfl
def laws_FnExactFlowStep.T36 : Bool × List (List Nat × List Nat) := (true, [([], []), ([0], [0]), ([], []), ([2, 1], [2]), ([], []), ([4, 3], [4]), ([1, 3, 5, 5], [1, 3, 5]), ([6], [6]), ([7], [7]), ([7], [7]), ([], []), ([10, 8, 6, 0, 1, 2, 3, 4, 5, 6, 7, 8, 10], [8, 10]), ([9, 11, 0, 1, 2, 3, 4, 5, 6, 7, 8, 9, 10, 11], [9])])
def laws_FnExactFlowStep.B36 : List Nat := [0, 1, 0, 7, 0, 31, 63, 127, 255, 255, 0, 1535, 4095]
theorem laws_FnExactFlowStep.tab36 : rtab .any (opsOf Try.f3 36) = laws_FnExactFlowStep.T36 := by kernel_rfl
theorem laws_FnExactFlowStep.bits36 : waitsOk laws_FnExactFlowStep.T36.2 laws_FnExactFlowStep.B36 = true := by kernel_rfl
set_option maxHeartbeats 8000000 in
set_option maxRecDepth 100000 in
theorem laws_FnExactFlowStep.calls (k : Nat) (A0 : Option Addr) (c0 : Nat) (l0 : List Int) (A1_0 : Option Addr) (c1_0 : Nat) (l1_0 : List Int) (a1_1 : Int) (a1_2 : Int) (A2 : Option Addr) (c2 : Nat) (l2 : List Int) (w : World) (hr0 : Kd.C (Kd.int .i64) w A0 l0.length l0) (hc0 : l0.length ≤ c0) (hr1_0 : Kd.C (Kd.int .i64) w A1_0 l1_0.length l1_0) (hc1_0 : l1_0.length ≤ c1_0) (hr2 : Kd.C (Kd.int .i64) w A2 l2.length l2) (hc2 : l2.length ≤ c2) (h : laws_FnExactFlowStep.f k l0 l1_0 a1_1 a1_2 l2 = some true) :
  Calls Try.prog 3 #[.slice A0 l0.length c0, .agg #[.slice A1_0 l1_0.length c1_0, .int .i64 a1_1, .int .i64 a1_2], .slice A2 l2.length c2] w fun e w' => e = .returned (.bool true) ∧ Below w.heap.size w w' := by
 have hu24 := Try.underlying24; have hu26 := Try.underlying26; have HR0 := Aside0.mk hr0; have HC0 := Aside0.mk hc0; clear hr0 hc0; have HR1_0 := Aside0.mk hr1_0; have HC1_0 := Aside0.mk hc1_0; clear hr1_0 hc1_0; have HR2 := Aside0.mk hr2; have HC2 := Aside0.mk hc2; clear hr2 hc2
 have HB := Aside0.mk (Below.refl w.heap.size w)
 have H : (if (l0.length : Int) > 1048576 then (some true) else (if (l2.length : Int) > 1048576 then (some true) else ((laws_szBook.f l1_0 a1_1 a1_2 1048576).bind fun t204 => (if t204 < 0 then (some true) else ((laws_toInt64S.f k l0).bind fun t205 => ((laws_toBook.f k l1_0 a1_1 a1_2).bind fun bt208 => ((laws_toInt64S.f k l2).bind fun t213 => ((spec_FlowStep.f k t205 bt208.1 bt208.2.1 bt208.2.2 t213).bind fun bt216 => ((laws_toInt64S.f k l0).bind fun t223 => ((laws_toBook.f k l1_0 a1_1 a1_2).bind fun bt226 => ((laws_toInt64S.f k l2).bind fun t232 => ((impl_FlowStep.f k t223 bt226.1 bt226.2.1 bt226.2.2 t232).bind fun bt235 => ((laws_eqBook.f k bt235.1 bt235.2.1 bt235.2.2.1 bt216.1 bt216.2.1 bt216.2.2.1).bind fun t242 => (if t242 = true then (laws_FnExactFlowStep.j0 k l0 l2 bt216.2.2.2 t223 t232 bt235.2.2.2 (bt235.2.2.2 != bt216.2.2.2) l1_0 a1_1 a1_2 bt216.1 bt216.2.1 bt216.2.2.1 bt226.1 bt226.2.1 bt226.2.2 bt235.1 bt235.2.1 bt235.2.2.1) else (laws_FnExactFlowStep.j0 k l0 l2 bt216.2.2.2 t223 t232 bt235.2.2.2 true l1_0 a1_1 a1_2 bt216.1 bt216.2.1 bt216.2.2.1 bt226.1 bt226.2.1 bt226.2.2 bt235.1 bt235.2.1 bt235.2.2.1))))))))))))))) = some true := h
 clear h
 by_cases c4 : (l0.length : Int) > 1048576
 ·rw [if_pos c4] at H
  have c4b0 : decide (1048576 < (l0.length : Int)) = true := decide_eq_true c4
  have c4b1 : decide (1048576 < l0.length) = true := decide_eq_true (by omega)
  clear c4 H
  go_enter Try.func3, Try.ntmps3
  go_wp2_with (first | ((with_reducible refine gate_dst (N := 4) rfl ?_); refine box_event ?hg (N := 4) ?hd (cs := #[.slice A1_0 l1_0.length c1_0, .int .i64 a1_1, .int .i64 a1_2]) (t := 24) ?hr ?_; (case hd => rfl); (case hg => rfl); (case hr => first | (go_simp; done) | (go_simp; rfl)); intro gb203 hg w5 hbox hb; have BK203 := Aside0.mk (hbox); have GW203 := gE_ HB hg; have GE203 := gE_ HB hg; replace HB := bS_ HB hb; clear hb hbox hg))
  go_ret
  exact ⟨by first | rfl | (simp [errW_none, errW_some] <;> rfl) | (simp [*, errW_none, errW_some] <;> rfl), by repeat (first | (with_reducible first | exact HB.out | apply below_alloc | apply pw_below_drewN | apply below_drew1 | refine below_set ?_ GE203.out) | exact HB.out)⟩
 ·rw [if_neg c4] at H
  have c4b0 : decide (1048576 < (l0.length : Int)) = false := decide_eq_false c4
  have c4b1 : decide (1048576 < l0.length) = false := decide_eq_false (by omega)
  clear c4
  by_cases c6 : (l2.length : Int) > 1048576
  ·rw [if_pos c6] at H
   have c6b0 : decide (1048576 < (l2.length : Int)) = true := decide_eq_true c6
   have c6b1 : decide (1048576 < l2.length) = true := decide_eq_true (by omega)
   clear c6 H
   go_enter Try.func3, Try.ntmps3
   go_wp2_with (first | ((with_reducible refine gate_dst (N := 4) rfl ?_); refine box_event ?hg (N := 4) ?hd (cs := #[.slice A1_0 l1_0.length c1_0, .int .i64 a1_1, .int .i64 a1_2]) (t := 24) ?hr ?_; (case hd => rfl); (case hg => rfl); (case hr => first | (go_simp; done) | (go_simp; rfl)); intro gb203 hg w7 hbox hb; have BK203 := Aside0.mk (hbox); have GW203 := gE_ HB hg; have GE203 := gE_ HB hg; replace HB := bS_ HB hb; clear hb hbox hg))
   go_ret
   exact ⟨by first | rfl | (simp [errW_none, errW_some] <;> rfl) | (simp [*, errW_none, errW_some] <;> rfl), by repeat (first | (with_reducible first | exact HB.out | apply below_alloc | apply pw_below_drewN | apply below_drew1 | refine below_set ?_ GE203.out) | exact HB.out)⟩
  ·rw [if_neg c6] at H
   have c6b0 : decide (1048576 < (l2.length : Int)) = false := decide_eq_false c6
   have c6b1 : decide (1048576 < l2.length) = false := decide_eq_false (by omega)
   clear c6; replace H := Option.bind_eq_some_iff.mp H
   obtain ⟨t204, A80, H⟩ := H
   replace H : (if t204 < 0 then (some true) else ((laws_toInt64S.f k l0).bind fun t205 => ((laws_toBook.f k l1_0 a1_1 a1_2).bind fun bt208 => ((laws_toInt64S.f k l2).bind fun t213 => ((spec_FlowStep.f k t205 bt208.1 bt208.2.1 bt208.2.2 t213).bind fun bt216 => ((laws_toInt64S.f k l0).bind fun t223 => ((laws_toBook.f k l1_0 a1_1 a1_2).bind fun bt226 => ((laws_toInt64S.f k l2).bind fun t232 => ((impl_FlowStep.f k t223 bt226.1 bt226.2.1 bt226.2.2 t232).bind fun bt235 => ((laws_eqBook.f k bt235.1 bt235.2.1 bt235.2.2.1 bt216.1 bt216.2.1 bt216.2.2.1).bind fun t242 => (if t242 = true then (laws_FnExactFlowStep.j0 k l0 l2 bt216.2.2.2 t223 t232 bt235.2.2.2 (bt235.2.2.2 != bt216.2.2.2) l1_0 a1_1 a1_2 bt216.1 bt216.2.1 bt216.2.2.1 bt226.1 bt226.2.1 bt226.2.2 bt235.1 bt235.2.1 bt235.2.2.1) else (laws_FnExactFlowStep.j0 k l0 l2 bt216.2.2.2 t223 t232 bt235.2.2.2 true l1_0 a1_1 a1_2 bt216.1 bt216.2.1 bt216.2.2.1 bt226.1 bt226.2.1 bt226.2.2 bt235.1 bt235.2.1 bt235.2.2.1)))))))))))) = some true := H
   have A8 := Aside0.mk A80; clear A80
   by_cases c9 : t204 < 0
   ·rw [if_pos c9] at H
    have c9b0 : decide (t204 < 0) = true := decide_eq_true c9
    clear c9 H
    go_enter Try.func3, Try.ntmps3
    go_wp2_with (first | ((with_reducible refine gate_dst (N := 4) rfl ?_); refine box_event ?hg (N := 4) ?hd (cs := #[.slice A1_0 l1_0.length c1_0, .int .i64 a1_1, .int .i64 a1_2]) (t := 24) ?hr ?_; (case hd => rfl); (case hg => rfl); (case hr => first | (go_simp; done) | (go_simp; rfl)); intro gb203 hg w10 hbox hb; have BK203 := Aside0.mk (hbox); have GW203 := gE_ HB hg; have GE203 := gE_ HB hg; replace HB := bS_ HB hb; clear hb hbox hg; have hcz11_0 : w10.cell? ⟨gb203, 0, none⟩ = some (.slice A1_0 l1_0.length c1_0) := (blk_cell BK203.out 0).trans rfl; have hcz11_1 : w10.cell? ⟨gb203, 1, none⟩ = some (.int .i64 a1_1) := (blk_cell BK203.out 1).trans rfl; have hcz11_2 : w10.cell? ⟨gb203, 2, none⟩ = some (.int .i64 a1_2) := (blk_cell BK203.out 2).trans rfl; have hfz11_0 := blk_frozen BK203.out 0; have hfz11_1 := blk_frozen BK203.out 1; have hfz11_2 := blk_frozen BK203.out 2) | ((with_reducible refine gate_callee (f := 9) rfl ?_); refine goesL_ (some 28) rfl rfl Try.func9 (by kernel_rfl) rfl #[.agg #[.slice A1_0 l1_0.length c1_0, .int .i64 a1_1, .int .i64 a1_2], .int .i64 1048576] rfl (by (try simp only [List.map_toArray, List.map_cons, List.map_nil]); first | done | rfl | (simp only [List.length_drop, List.length_take]; rfl)) ?_; (with_reducible refine (laws_szBook.calls _ _ l1_0 a1_1 a1_2 1048576 t204 _ ?side1 ?side2 A8.out).mono ?_); (case side1 => exact cB_ HR1_0 HB); (case side2 => exact HC1_0.out); rintro e w12 ⟨rfl, hb⟩; refine ⟨_, rfl, ?_⟩; replace BK203 := bB_ BK203 hb; replace HB := bS_ HB hb; (try clear hb); (try clear hb2); (try clear hk); (try clear hi)))
    go_ret
    exact ⟨by first | rfl | (simp [errW_none, errW_some] <;> rfl) | (simp [*, errW_none, errW_some] <;> rfl), by repeat (first | (with_reducible first | exact HB.out | apply below_alloc | apply pw_below_drewN | apply below_drew1 | refine below_set ?_ GE203.out) | exact HB.out)⟩
   ·rw [if_neg c9] at H
    have c9b0 : decide (t204 < 0) = false := decide_eq_false c9
    clear c9; replace H := Option.bind_eq_some_iff.mp H
    obtain ⟨t205, A130, H⟩ := H
    replace H : ((laws_toBook.f k l1_0 a1_1 a1_2).bind fun bt208 => ((laws_toInt64S.f k l2).bind fun t213 => ((spec_FlowStep.f k t205 bt208.1 bt208.2.1 bt208.2.2 t213).bind fun bt216 => ((laws_toInt64S.f k l0).bind fun t223 => ((laws_toBook.f k l1_0 a1_1 a1_2).bind fun bt226 => ((laws_toInt64S.f k l2).bind fun t232 => ((impl_FlowStep.f k t223 bt226.1 bt226.2.1 bt226.2.2 t232).bind fun bt235 => ((laws_eqBook.f k bt235.1 bt235.2.1 bt235.2.2.1 bt216.1 bt216.2.1 bt216.2.2.1).bind fun t242 => (if t242 = true then (laws_FnExactFlowStep.j0 k l0 l2 bt216.2.2.2 t223 t232 bt235.2.2.2 (bt235.2.2.2 != bt216.2.2.2) l1_0 a1_1 a1_2 bt216.1 bt216.2.1 bt216.2.2.1 bt226.1 bt226.2.1 bt226.2.2 bt235.1 bt235.2.1 bt235.2.2.1) else (laws_FnExactFlowStep.j0 k l0 l2 bt216.2.2.2 t223 t232 bt235.2.2.2 true l1_0 a1_1 a1_2 bt216.1 bt216.2.1 bt216.2.2.1 bt226.1 bt226.2.1 bt226.2.2 bt235.1 bt235.2.1 bt235.2.2.1)))))))))) = some true := H
    have A13 := Aside0.mk A130; clear A130; replace H := Option.bind_eq_some_iff.mp H
    obtain ⟨⟨t208, t211, t212⟩, A140, H⟩ := H
    replace H : ((laws_toInt64S.f k l2).bind fun t213 => ((spec_FlowStep.f k t205 t208 t211 t212 t213).bind fun bt216 => ((laws_toInt64S.f k l0).bind fun t223 => ((laws_toBook.f k l1_0 a1_1 a1_2).bind fun bt226 => ((laws_toInt64S.f k l2).bind fun t232 => ((impl_FlowStep.f k t223 bt226.1 bt226.2.1 bt226.2.2 t232).bind fun bt235 => ((laws_eqBook.f k bt235.1 bt235.2.1 bt235.2.2.1 bt216.1 bt216.2.1 bt216.2.2.1).bind fun t242 => (if t242 = true then (laws_FnExactFlowStep.j0 k l0 l2 bt216.2.2.2 t223 t232 bt235.2.2.2 (bt235.2.2.2 != bt216.2.2.2) l1_0 a1_1 a1_2 bt216.1 bt216.2.1 bt216.2.2.1 bt226.1 bt226.2.1 bt226.2.2 bt235.1 bt235.2.1 bt235.2.2.1) else (laws_FnExactFlowStep.j0 k l0 l2 bt216.2.2.2 t223 t232 bt235.2.2.2 true l1_0 a1_1 a1_2 bt216.1 bt216.2.1 bt216.2.2.1 bt226.1 bt226.2.1 bt226.2.2 bt235.1 bt235.2.1 bt235.2.2.1))))))))) = some true := H
    have A14 := Aside0.mk A140; clear A140; replace H := Option.bind_eq_some_iff.mp H
    obtain ⟨t213, A150, H⟩ := H
    replace H : ((spec_FlowStep.f k t205 t208 t211 t212 t213).bind fun bt216 => ((laws_toInt64S.f k l0).bind fun t223 => ((laws_toBook.f k l1_0 a1_1 a1_2).bind fun bt226 => ((laws_toInt64S.f k l2).bind fun t232 => ((impl_FlowStep.f k t223 bt226.1 bt226.2.1 bt226.2.2 t232).bind fun bt235 => ((laws_eqBook.f k bt235.1 bt235.2.1 bt235.2.2.1 bt216.1 bt216.2.1 bt216.2.2.1).bind fun t242 => (if t242 = true then (laws_FnExactFlowStep.j0 k l0 l2 bt216.2.2.2 t223 t232 bt235.2.2.2 (bt235.2.2.2 != bt216.2.2.2) l1_0 a1_1 a1_2 bt216.1 bt216.2.1 bt216.2.2.1 bt226.1 bt226.2.1 bt226.2.2 bt235.1 bt235.2.1 bt235.2.2.1) else (laws_FnExactFlowStep.j0 k l0 l2 bt216.2.2.2 t223 t232 bt235.2.2.2 true l1_0 a1_1 a1_2 bt216.1 bt216.2.1 bt216.2.2.1 bt226.1 bt226.2.1 bt226.2.2 bt235.1 bt235.2.1 bt235.2.2.1)))))))) = some true := H
    have A15 := Aside0.mk A150; clear A150; replace H := Option.bind_eq_some_iff.mp H
    obtain ⟨⟨t216, t219, t220, t221⟩, A160, H⟩ := H
    replace H : ((laws_toInt64S.f k l0).bind fun t223 => ((laws_toBook.f k l1_0 a1_1 a1_2).bind fun bt226 => ((laws_toInt64S.f k l2).bind fun t232 => ((impl_FlowStep.f k t223 bt226.1 bt226.2.1 bt226.2.2 t232).bind fun bt235 => ((laws_eqBook.f k bt235.1 bt235.2.1 bt235.2.2.1 t216 t219 t220).bind fun t242 => (if t242 = true then (laws_FnExactFlowStep.j0 k l0 l2 t221 t223 t232 bt235.2.2.2 (bt235.2.2.2 != t221) l1_0 a1_1 a1_2 t216 t219 t220 bt226.1 bt226.2.1 bt226.2.2 bt235.1 bt235.2.1 bt235.2.2.1) else (laws_FnExactFlowStep.j0 k l0 l2 t221 t223 t232 bt235.2.2.2 true l1_0 a1_1 a1_2 t216 t219 t220 bt226.1 bt226.2.1 bt226.2.2 bt235.1 bt235.2.1 bt235.2.2.1))))))) = some true := H
    have A16 := Aside0.mk A160; clear A160; replace H := Option.bind_eq_some_iff.mp H
    obtain ⟨t223, A170, H⟩ := H
    replace H : ((laws_toBook.f k l1_0 a1_1 a1_2).bind fun bt226 => ((laws_toInt64S.f k l2).bind fun t232 => ((impl_FlowStep.f k t223 bt226.1 bt226.2.1 bt226.2.2 t232).bind fun bt235 => ((laws_eqBook.f k bt235.1 bt235.2.1 bt235.2.2.1 t216 t219 t220).bind fun t242 => (if t242 = true then (laws_FnExactFlowStep.j0 k l0 l2 t221 t223 t232 bt235.2.2.2 (bt235.2.2.2 != t221) l1_0 a1_1 a1_2 t216 t219 t220 bt226.1 bt226.2.1 bt226.2.2 bt235.1 bt235.2.1 bt235.2.2.1) else (laws_FnExactFlowStep.j0 k l0 l2 t221 t223 t232 bt235.2.2.2 true l1_0 a1_1 a1_2 t216 t219 t220 bt226.1 bt226.2.1 bt226.2.2 bt235.1 bt235.2.1 bt235.2.2.1)))))) = some true := H
    have A17 := Aside0.mk A170; clear A170; replace H := Option.bind_eq_some_iff.mp H
    obtain ⟨⟨t226, t229, t230⟩, A180, H⟩ := H
    replace H : ((laws_toInt64S.f k l2).bind fun t232 => ((impl_FlowStep.f k t223 t226 t229 t230 t232).bind fun bt235 => ((laws_eqBook.f k bt235.1 bt235.2.1 bt235.2.2.1 t216 t219 t220).bind fun t242 => (if t242 = true then (laws_FnExactFlowStep.j0 k l0 l2 t221 t223 t232 bt235.2.2.2 (bt235.2.2.2 != t221) l1_0 a1_1 a1_2 t216 t219 t220 t226 t229 t230 bt235.1 bt235.2.1 bt235.2.2.1) else (laws_FnExactFlowStep.j0 k l0 l2 t221 t223 t232 bt235.2.2.2 true l1_0 a1_1 a1_2 t216 t219 t220 t226 t229 t230 bt235.1 bt235.2.1 bt235.2.2.1))))) = some true := H
    have A18 := Aside0.mk A180; clear A180; replace H := Option.bind_eq_some_iff.mp H
    obtain ⟨t232, A190, H⟩ := H
    replace H : ((impl_FlowStep.f k t223 t226 t229 t230 t232).bind fun bt235 => ((laws_eqBook.f k bt235.1 bt235.2.1 bt235.2.2.1 t216 t219 t220).bind fun t242 => (if t242 = true then (laws_FnExactFlowStep.j0 k l0 l2 t221 t223 t232 bt235.2.2.2 (bt235.2.2.2 != t221) l1_0 a1_1 a1_2 t216 t219 t220 t226 t229 t230 bt235.1 bt235.2.1 bt235.2.2.1) else (laws_FnExactFlowStep.j0 k l0 l2 t221 t223 t232 bt235.2.2.2 true l1_0 a1_1 a1_2 t216 t219 t220 t226 t229 t230 bt235.1 bt235.2.1 bt235.2.2.1)))) = some true := H
    have A19 := Aside0.mk A190; clear A190; replace H := Option.bind_eq_some_iff.mp H
    obtain ⟨⟨t235, t238, t239, t240⟩, A200, H⟩ := H
    replace H : ((laws_eqBook.f k t235 t238 t239 t216 t219 t220).bind fun t242 => (if t242 = true then (laws_FnExactFlowStep.j0 k l0 l2 t221 t223 t232 t240 (t240 != t221) l1_0 a1_1 a1_2 t216 t219 t220 t226 t229 t230 t235 t238 t239) else (laws_FnExactFlowStep.j0 k l0 l2 t221 t223 t232 t240 true l1_0 a1_1 a1_2 t216 t219 t220 t226 t229 t230 t235 t238 t239))) = some true := H
    have A20 := Aside0.mk A200; clear A200; have HC21 := Aside0.mk H; clear H
    go_enter Try.func3, Try.ntmps3
    try go_wp2_with (first | ((with_reducible refine gate_dst (N := 4) rfl ?_); refine box_event ?hg (N := 4) ?hd (cs := #[.slice A1_0 l1_0.length c1_0, .int .i64 a1_1, .int .i64 a1_2]) (t := 24) ?hr ?_; (case hd => rfl); (case hg => rfl); (case hr => first | (go_simp; done) | (go_simp; rfl)); intro gb203 hg w22 hbox hb; have BK203 := Aside0.mk (hbox); have GW203 := gE_ HB hg; have GE203 := gE_ HB hg; replace HB := bS_ HB hb; clear hb hbox hg; have hcz23_0 : w22.cell? ⟨gb203, 0, none⟩ = some (.slice A1_0 l1_0.length c1_0) := (blk_cell BK203.out 0).trans rfl; have hcz23_1 : w22.cell? ⟨gb203, 1, none⟩ = some (.int .i64 a1_1) := (blk_cell BK203.out 1).trans rfl; have hcz23_2 : w22.cell? ⟨gb203, 2, none⟩ = some (.int .i64 a1_2) := (blk_cell BK203.out 2).trans rfl; have hfz23_0 := blk_frozen BK203.out 0; have hfz23_1 := blk_frozen BK203.out 1; have hfz23_2 := blk_frozen BK203.out 2) | ((with_reducible refine gate_callee (f := 9) rfl ?_); refine goesL_ (some 28) rfl rfl Try.func9 (by kernel_rfl) rfl #[.agg #[.slice A1_0 l1_0.length c1_0, .int .i64 a1_1, .int .i64 a1_2], .int .i64 1048576] rfl (by (try simp only [List.map_toArray, List.map_cons, List.map_nil]); first | done | rfl | (simp only [List.length_drop, List.length_take]; rfl)) ?_; (with_reducible refine (laws_szBook.calls _ _ l1_0 a1_1 a1_2 1048576 t204 _ ?side1 ?side2 A8.out).mono ?_); (case side1 => exact cB_ HR1_0 HB); (case side2 => exact HC1_0.out); rintro e w24 ⟨rfl, hb⟩; refine ⟨_, rfl, ?_⟩; replace BK203 := bB_ BK203 hb; replace HB := bS_ HB hb; (try clear hb); (try clear hb2); (try clear hk); (try clear hi)))
    replace BK203 := Aside0.mk (blk_drew BK203.out)
    replace HB := Aside0.mk (below_drew1 HB.out)
    refine start_ (n := 13) (S := fun w' => w'.cell? ⟨gb203, 0, none⟩ = some (.slice A1_0 l1_0.length c1_0) ∧ w'.cell? ⟨gb203, 1, none⟩ = some (.int .i64 a1_1) ∧ w'.cell? ⟨gb203, 2, none⟩ = some (.int .i64 a1_2)) (ds := []) #[false, false, false, false, false, false, false, false, false, false, false, false, false] (by kernel_rfl) rfl rfl ⟨(blk_cell BK203.out 0).trans rfl, (blk_cell BK203.out 1).trans rfl, (blk_cell BK203.out 2).trans rfl⟩ (fun hHeld => ?_); refine with_tabW laws_FnExactFlowStep.tab9 laws_FnExactFlowStep.bits9 (fun HT_ HW_ => ?_)
    generalize w24.drew = w25 at BK203 HB hHeld ⊢
    refine pure_ (i := 0) (N := some 32) (v := ?_) (a' := ?_) #[true, false, false, false, false, false, false, false, false, false, false, false, false] rfl rfl (any_of HT_.out (by kernel_rfl)) (fun _ _ _ h => h) (Or.inl ⟨by rfl, ?_⟩) ?_ ?_
    rotate_left
    ·intro w'
     go_simp
     with_reducible rfl
    rotate_left
    ·simp only [Act.put, List.setIfInBounds_toArray, List.set_cons_zero, List.set_cons_succ, i64_w, i32_w]
     rfl
    refine pure_ (i := 4) (N := some 36) (v := ?_) (a' := ?_) #[true, false, false, false, true, false, false, false, false, false, false, false, false] rfl rfl (any_of HT_.out (by kernel_rfl)) (fun _ _ _ h => h) (Or.inl ⟨by rfl, ?_⟩) ?_ ?_
    rotate_left
    ·intro w'
     go_simp
     with_reducible rfl
    rotate_left
    ·simp only [Act.put, List.setIfInBounds_toArray, List.set_cons_zero, List.set_cons_succ, i64_w, i32_w]
     rfl
    refine take_ (i := 2) (N := some 34) (v := ?_) (a' := ?_) #[true, false, true, false, true, false, false, false, false, false, false, false, false] rfl rfl (take_ofW HT_.out HW_.out (by kernel_rfl)) (fun _ _ _ h => h) (Or.inl ⟨by rfl, ?_⟩) hHeld ?_ ?_
    rotate_left
    ·rintro w' ⟨s0, s1, s2⟩
     go_simp
     with_reducible rfl
    rotate_left
    ·simp only [Act.put, List.setIfInBounds_toArray, List.set_cons_zero, List.set_cons_succ, i64_w, i32_w]
     rfl
    refine join_ (σ := Value × Value × Value × Value × Nat) 2 #[true, true, true, true, true, true, true, true, true, true, true, false, false] (fun s_ => [(33, s_.1), (35, .agg #[s_.2.1, .int .i64 t211, .int .i64 t212]), (37, s_.2.2.1), (38, .tuple #[.agg #[s_.2.2.2.1, .int .i64 t219, .int .i64 t220], .bool t221]), (8, .pointer (some ⟨s_.2.2.2.2, 0, none⟩)), (31, .tuple #[.agg #[s_.2.2.2.1, .int .i64 t219, .int .i64 t220], .bool t221]), (39, .agg #[s_.2.2.2.1, .int .i64 t219, .int .i64 t220]), (40, .bool t221)]) (fun s_ w' => (w'.cell? ⟨gb203, 0, none⟩ = some (.slice A1_0 l1_0.length c1_0) ∧ w'.cell? ⟨gb203, 1, none⟩ = some (.int .i64 a1_1) ∧ w'.cell? ⟨gb203, 2, none⟩ = some (.int .i64 a1_2)) ∧ (Kd.R (Kd.int .i64) 2 w' w.heap.size (fun k_ => some k_ ≠ (s_.2.1 : Value).ownBlock ∧ some k_ ≠ (s_.2.2.1 : Value).ownBlock ∧ some k_ ≠ (s_.2.2.2.1 : Value).ownBlock) s_.1 t205) ∧ (Kd.R (Kd.int .i64) 2 w' w.heap.size (fun k_ => some k_ ≠ (s_.1 : Value).ownBlock ∧ some k_ ≠ (s_.2.2.1 : Value).ownBlock ∧ some k_ ≠ (s_.2.2.2.1 : Value).ownBlock) s_.2.1 t208) ∧ (Kd.R (Kd.int .i64) 2 w' w.heap.size (fun k_ => some k_ ≠ (s_.1 : Value).ownBlock ∧ some k_ ≠ (s_.2.1 : Value).ownBlock ∧ some k_ ≠ (s_.2.2.2.1 : Value).ownBlock) s_.2.2.1 t213) ∧ (Kd.R (Kd.int .i64) 2 w' w.heap.size (fun k_ => some k_ ≠ (s_.1 : Value).ownBlock ∧ some k_ ≠ (s_.2.1 : Value).ownBlock ∧ some k_ ≠ (s_.2.2.1 : Value).ownBlock) s_.2.2.2.1 t216) ∧ (w'.heap[gb203]? = some (.cells #[.slice A1_0 l1_0.length c1_0, .int .i64 a1_1, .int .i64 a1_2] 24 (0, 0))) ∧ (w'.heap[s_.2.2.2.2]? = some (.cells #[.slice none 0 0, .int .i64 0, .int .i64 0] 26 (0, 0))) ∧ (w.heap.size ≤ s_.2.2.2.2) ∧ (w.heap.size ≤ s_.2.2.2.2) ∧ (gb203 ≠ s_.2.2.2.2) ∧ (s_.2.2.2.2 ≠ gb203) ∧ (Below w.heap.size w w')) ?_ ?_
    rotate_left
    ·intro hJ1_3_5_6_10
     refine join_ (σ := Value × Value × Value × Value) 3 #[true, true, true, true, true, true, true, true, true, true, false, false, false] (fun s_ => [(33, s_.1), (35, .agg #[s_.2.1, .int .i64 t211, .int .i64 t212]), (37, s_.2.2.1), (38, .tuple #[.agg #[s_.2.2.2, .int .i64 t219, .int .i64 t220], .bool t221]), (31, .tuple #[.agg #[s_.2.2.2, .int .i64 t219, .int .i64 t220], .bool t221]), (39, .agg #[s_.2.2.2, .int .i64 t219, .int .i64 t220]), (40, .bool t221)]) (fun s_ w' => (w'.cell? ⟨gb203, 0, none⟩ = some (.slice A1_0 l1_0.length c1_0) ∧ w'.cell? ⟨gb203, 1, none⟩ = some (.int .i64 a1_1) ∧ w'.cell? ⟨gb203, 2, none⟩ = some (.int .i64 a1_2)) ∧ (Kd.R (Kd.int .i64) 2 w' w.heap.size (fun k_ => some k_ ≠ (s_.2.1 : Value).ownBlock ∧ some k_ ≠ (s_.2.2.1 : Value).ownBlock ∧ some k_ ≠ (s_.2.2.2 : Value).ownBlock) s_.1 t205) ∧ (Kd.R (Kd.int .i64) 2 w' w.heap.size (fun k_ => some k_ ≠ (s_.1 : Value).ownBlock ∧ some k_ ≠ (s_.2.2.1 : Value).ownBlock ∧ some k_ ≠ (s_.2.2.2 : Value).ownBlock) s_.2.1 t208) ∧ (Kd.R (Kd.int .i64) 2 w' w.heap.size (fun k_ => some k_ ≠ (s_.1 : Value).ownBlock ∧ some k_ ≠ (s_.2.1 : Value).ownBlock ∧ some k_ ≠ (s_.2.2.2 : Value).ownBlock) s_.2.2.1 t213) ∧ (Kd.R (Kd.int .i64) 2 w' w.heap.size (fun k_ => some k_ ≠ (s_.1 : Value).ownBlock ∧ some k_ ≠ (s_.2.1 : Value).ownBlock ∧ some k_ ≠ (s_.2.2.1 : Value).ownBlock) s_.2.2.2 t216) ∧ (w'.heap[gb203]? = some (.cells #[.slice A1_0 l1_0.length c1_0, .int .i64 a1_1, .int .i64 a1_2] 24 (0, 0))) ∧ (Below w.heap.size w w')) ?_ ?_
     rotate_left
     ·intro hJ1_3_5_6
      refine join_ (σ := Value × Value × Value × Nat) 6 #[true, true, true, true, true, true, false, false, false, false, true, false, false] (fun s_ => [(33, s_.1), (35, .agg #[s_.2.1, .int .i64 t211, .int .i64 t212]), (37, s_.2.2.1), (8, .pointer (some ⟨s_.2.2.2, 0, none⟩))]) (fun s_ w' => (w'.cell? ⟨gb203, 0, none⟩ = some (.slice A1_0 l1_0.length c1_0) ∧ w'.cell? ⟨gb203, 1, none⟩ = some (.int .i64 a1_1) ∧ w'.cell? ⟨gb203, 2, none⟩ = some (.int .i64 a1_2)) ∧ (Kd.R (Kd.int .i64) 2 w' w.heap.size (fun k_ => some k_ ≠ (s_.2.1 : Value).ownBlock ∧ some k_ ≠ (s_.2.2.1 : Value).ownBlock) s_.1 t205) ∧ (Kd.R (Kd.int .i64) 2 w' w.heap.size (fun k_ => some k_ ≠ (s_.1 : Value).ownBlock ∧ some k_ ≠ (s_.2.2.1 : Value).ownBlock) s_.2.1 t208) ∧ (Kd.R (Kd.int .i64) 2 w' w.heap.size (fun k_ => some k_ ≠ (s_.1 : Value).ownBlock ∧ some k_ ≠ (s_.2.1 : Value).ownBlock) s_.2.2.1 t213) ∧ (w'.heap[gb203]? = some (.cells #[.slice A1_0 l1_0.length c1_0, .int .i64 a1_1, .int .i64 a1_2] 24 (0, 0))) ∧ (w'.heap[s_.2.2.2]? = some (.cells #[.slice none 0 0, .int .i64 0, .int .i64 0] 26 (0, 0))) ∧ (w.heap.size ≤ s_.2.2.2) ∧ (w.heap.size ≤ s_.2.2.2) ∧ (gb203 ≠ s_.2.2.2) ∧ (s_.2.2.2 ≠ gb203) ∧ (Below w.heap.size w w')) ?_ ?_
      rotate_left
      ·intro hJ1_3_5_10
       refine join_ (σ := Value × Value × Value) 7 #[true, true, true, true, true, true, false, false, false, false, false, false, false] (fun s_ => [(33, s_.1), (35, .agg #[s_.2.1, .int .i64 t211, .int .i64 t212]), (37, s_.2.2)]) (fun s_ w' => (w'.cell? ⟨gb203, 0, none⟩ = some (.slice A1_0 l1_0.length c1_0) ∧ w'.cell? ⟨gb203, 1, none⟩ = some (.int .i64 a1_1) ∧ w'.cell? ⟨gb203, 2, none⟩ = some (.int .i64 a1_2)) ∧ (Kd.R (Kd.int .i64) 2 w' w.heap.size (fun k_ => some k_ ≠ (s_.2.1 : Value).ownBlock ∧ some k_ ≠ (s_.2.2 : Value).ownBlock) s_.1 t205) ∧ (Kd.R (Kd.int .i64) 2 w' w.heap.size (fun k_ => some k_ ≠ (s_.1 : Value).ownBlock ∧ some k_ ≠ (s_.2.2 : Value).ownBlock) s_.2.1 t208) ∧ (Kd.R (Kd.int .i64) 2 w' w.heap.size (fun k_ => some k_ ≠ (s_.1 : Value).ownBlock ∧ some k_ ≠ (s_.2.1 : Value).ownBlock) s_.2.2 t213) ∧ (w'.heap[gb203]? = some (.cells #[.slice A1_0 l1_0.length c1_0, .int .i64 a1_1, .int .i64 a1_2] 24 (0, 0))) ∧ (Below w.heap.size w w')) ?_ ?_
       rotate_left
       ·intro hJ1_3_5
        refine join_ (σ := Value × Value × Nat) 7 #[true, true, true, true, true, false, false, false, false, false, true, false, false] (fun s_ => [(33, s_.1), (35, .agg #[s_.2.1, .int .i64 t211, .int .i64 t212]), (8, .pointer (some ⟨s_.2.2, 0, none⟩))]) (fun s_ w' => (w'.cell? ⟨gb203, 0, none⟩ = some (.slice A1_0 l1_0.length c1_0) ∧ w'.cell? ⟨gb203, 1, none⟩ = some (.int .i64 a1_1) ∧ w'.cell? ⟨gb203, 2, none⟩ = some (.int .i64 a1_2)) ∧ (Kd.R (Kd.int .i64) 2 w' w.heap.size (fun k_ => some k_ ≠ (s_.2.1 : Value).ownBlock) s_.1 t205) ∧ (Kd.R (Kd.int .i64) 2 w' w.heap.size (fun k_ => some k_ ≠ (s_.1 : Value).ownBlock) s_.2.1 t208) ∧ (w'.heap[gb203]? = some (.cells #[.slice A1_0 l1_0.length c1_0, .int .i64 a1_1, .int .i64 a1_2] 24 (0, 0))) ∧ (w'.heap[s_.2.2]? = some (.cells #[.slice none 0 0, .int .i64 0, .int .i64 0] 26 (0, 0))) ∧ (w.heap.size ≤ s_.2.2) ∧ (w.heap.size ≤ s_.2.2) ∧ (gb203 ≠ s_.2.2) ∧ (s_.2.2 ≠ gb203) ∧ (Below w.heap.size w w')) ?_ ?_
        rotate_left
        ·intro hJ1_3_10
         refine join_ (σ := Value × Value) 8 #[true, true, true, true, true, false, false, false, false, false, false, false, false] (fun s_ => [(33, s_.1), (35, .agg #[s_.2, .int .i64 t211, .int .i64 t212])]) (fun s_ w' => (w'.cell? ⟨gb203, 0, none⟩ = some (.slice A1_0 l1_0.length c1_0) ∧ w'.cell? ⟨gb203, 1, none⟩ = some (.int .i64 a1_1) ∧ w'.cell? ⟨gb203, 2, none⟩ = some (.int .i64 a1_2)) ∧ (Kd.R (Kd.int .i64) 2 w' w.heap.size (fun k_ => some k_ ≠ (s_.2 : Value).ownBlock) s_.1 t205) ∧ (Kd.R (Kd.int .i64) 2 w' w.heap.size (fun k_ => some k_ ≠ (s_.1 : Value).ownBlock) s_.2 t208) ∧ (w'.heap[gb203]? = some (.cells #[.slice A1_0 l1_0.length c1_0, .int .i64 a1_1, .int .i64 a1_2] 24 (0, 0))) ∧ (Below w.heap.size w w')) ?_ ?_
         rotate_left
         ·intro hJ1_3
          refine join_ (σ := Value × Nat) 8 #[true, true, true, false, true, false, false, false, false, false, true, false, false] (fun s_ => [(33, s_.1), (8, .pointer (some ⟨s_.2, 0, none⟩))]) (fun s_ w' => (w'.cell? ⟨gb203, 0, none⟩ = some (.slice A1_0 l1_0.length c1_0) ∧ w'.cell? ⟨gb203, 1, none⟩ = some (.int .i64 a1_1) ∧ w'.cell? ⟨gb203, 2, none⟩ = some (.int .i64 a1_2)) ∧ (Kd.R (Kd.int .i64) 2 w' w.heap.size (fun _ => True) s_.1 t205) ∧ (w'.heap[gb203]? = some (.cells #[.slice A1_0 l1_0.length c1_0, .int .i64 a1_1, .int .i64 a1_2] 24 (0, 0))) ∧ (w'.heap[s_.2]? = some (.cells #[.slice none 0 0, .int .i64 0, .int .i64 0] 26 (0, 0))) ∧ (w.heap.size ≤ s_.2) ∧ (w.heap.size ≤ s_.2) ∧ (gb203 ≠ s_.2) ∧ (s_.2 ≠ gb203) ∧ (Below w.heap.size w w')) ?_ ?_
          rotate_left
          ·intro hJ1_10
           refine join_ (σ := Value) 9 #[true, true, true, false, true, false, false, false, false, false, false, false, false] (fun s_ => [(33, s_)]) (fun s_ w' => (w'.cell? ⟨gb203, 0, none⟩ = some (.slice A1_0 l1_0.length c1_0) ∧ w'.cell? ⟨gb203, 1, none⟩ = some (.int .i64 a1_1) ∧ w'.cell? ⟨gb203, 2, none⟩ = some (.int .i64 a1_2)) ∧ (Kd.R (Kd.int .i64) 2 w' w.heap.size (fun _ => True) s_ t205) ∧ (w'.heap[gb203]? = some (.cells #[.slice A1_0 l1_0.length c1_0, .int .i64 a1_1, .int .i64 a1_2] 24 (0, 0))) ∧ (Below w.heap.size w w')) ?_ ?_
           rotate_left
           ·intro hJ1
            refine join_ (σ := Nat) 9 #[true, false, true, false, true, false, false, false, false, false, true, false, false] (fun s_ => [(8, .pointer (some ⟨s_, 0, none⟩))]) (fun s_ w' => (w'.cell? ⟨gb203, 0, none⟩ = some (.slice A1_0 l1_0.length c1_0) ∧ w'.cell? ⟨gb203, 1, none⟩ = some (.int .i64 a1_1) ∧ w'.cell? ⟨gb203, 2, none⟩ = some (.int .i64 a1_2)) ∧ (w'.heap[gb203]? = some (.cells #[.slice A1_0 l1_0.length c1_0, .int .i64 a1_1, .int .i64 a1_2] 24 (0, 0))) ∧ (w'.heap[s_]? = some (.cells #[.slice none 0 0, .int .i64 0, .int .i64 0] 26 (0, 0))) ∧ (w.heap.size ≤ s_) ∧ (w.heap.size ≤ s_) ∧ (gb203 ≠ s_) ∧ (s_ ≠ gb203) ∧ (Below w.heap.size w w')) ?_ ?_
            rotate_left
            ·intro hJ10
             refine two_ (i := 1) (j := 10) (Ni := some 33) (Nj := some 8) #[true, true, true, false, true, false, false, false, false, false, false, false, false] #[true, false, true, false, true, false, false, false, false, false, true, false, false] rfl rfl rfl rfl (two_of HT_.out (by kernel_rfl)) (by decide) (by decide) (fun K hK => ?_) (fun K hK => ?_)
             ·skip
              refine goes_ Try.func11 (by kernel_rfl) rfl #[.slice A0 l0.length c0] (by rfl) rfl rfl (by (try simp only [List.map_toArray, List.map_cons, List.map_nil]); first | done | rfl | (simp only [List.length_drop, List.length_take]; rfl)) ?_
              with_reducible refine (laws_toInt64S.calls k _ _ l0 t205 _ ?side1 ?side2 A13.out).mono ?_
              (case side1 => exact cB_ HR0 HB)
              (case side2 => exact HC0.out)
              rintro e w26 ⟨v206, rfl, ho0, hb⟩
              refine ⟨_, rfl, ?_⟩
              have HO207 := rL_ ho0 HB; replace BK203 := bB_ BK203 hb; replace HB := bS_ HB hb; (try clear hb); (try clear hb2); (try clear hk); (try clear hi); (try clear ho0)
              refine hK.out _ _ ⟨(blk_cell BK203.out 0).trans rfl, (blk_cell BK203.out 1).trans rfl, (blk_cell BK203.out 2).trans rfl⟩ (fun hHeld => ?_)
              clear hK K
              refine norm_ (a' := ?_) ?_ ?_
              rotate_left
              ·show Act.put _ (some 33) _ = _
               simp only [Act.put, List.setIfInBounds_toArray, List.set_cons_zero, List.set_cons_succ, i64_w, i32_w]
               rfl
              exact norm_ (by simp only [putAll, Act.put, List.setIfInBounds_toArray, List.set_cons_zero, List.set_cons_succ] <;> rfl) (hJ1 (v206) _ ⟨hHeld, (rT_ HO207), (bT_ BK203), (by repeat (first | (with_reducible first | exact HB.out | apply below_alloc | apply pw_below_drewN | apply below_drew1 | refine below_set ?_ GE203.out) | exact HB.out))⟩)
             ·skip
              refine box_step ?hg (N := 8) ?hd (cs := #[.slice none 0 0, .int .i64 0, .int .i64 0]) (t := 26) ?hr ?_; (case hd => rfl); (case hg => rfl); (case hr => first | (go_simp; done) | (go_simp; rfl))
              intro gb222 hg w26 hbox hb
              have BK222 := Aside0.mk (hbox)
              have GW222 := gE_ HB hg; have GE222 := gE_ HB hg; replace HB := bS_ HB hb; have NB203_222 := nL_ BK203 hg; have NB222_203 := nG_ BK203 hg; replace BK203 := bB_ BK203 hb; clear hb hbox hg
              refine hK.out _ _ ⟨(blk_cell BK203.out 0).trans rfl, (blk_cell BK203.out 1).trans rfl, (blk_cell BK203.out 2).trans rfl⟩ (fun hHeld => ?_)
              clear hK K
              refine norm_ (a' := ?_) ?_ ?_
              rotate_left
              ·show Act.put _ (some 8) _ = _
               simp only [Act.put, List.setIfInBounds_toArray, List.set_cons_zero, List.set_cons_succ, i64_w, i32_w]
               rfl
              exact norm_ (by simp only [putAll, Act.put, List.setIfInBounds_toArray, List.set_cons_zero, List.set_cons_succ] <;> rfl) (hJ10 (gb222) _ ⟨hHeld, (bT_ BK203), (bT_ BK222), GW222.out, GE222.out, NB203_222.out, NB222_203.out, (by repeat (first | (with_reducible first | exact HB.out | apply below_alloc | apply pw_below_drewN | apply below_drew1 | refine below_set ?_ GE203.out | refine below_set ?_ GE222.out) | exact HB.out))⟩)
            ·skip
             rintro gb222 w27 ⟨hS_, h0_, h1_, h2_, h3_, h4_, h5_, h6_⟩
             try dsimp only at h0_ h1_ h2_ h3_ h4_ h5_ h6_
             replace BK203 := Aside0.mk h0_; have BK222 := Aside0.mk h1_; have GW222 := Aside0.mk h2_; have GE222 := Aside0.mk h3_; have NB203_222 := Aside0.mk h4_; have NB222_203 := Aside0.mk h5_; replace HB := Aside0.mk h6_; clear h0_ h1_ h2_ h3_ h4_ h5_ h6_
             have hHeld : w27.cell? ⟨gb203, 0, none⟩ = some (.slice A1_0 l1_0.length c1_0) ∧ w27.cell? ⟨gb203, 1, none⟩ = some (.int .i64 a1_1) ∧ w27.cell? ⟨gb203, 2, none⟩ = some (.int .i64 a1_2) := hS_
             refine norm_ (a' := ?_) ?_ ?_
             rotate_left
             ·simp only [putAll, Act.put, List.setIfInBounds_toArray, List.set_cons_zero, List.set_cons_succ]
              rfl
             refine one_ (i := 1) (N := some 33) #[true, true, true, false, true, false, false, false, false, false, true, false, false] rfl rfl (one_of HT_.out (by kernel_rfl)) (by decide) (fun K hK => ?_)
             refine goes_ Try.func11 (by kernel_rfl) rfl #[.slice A0 l0.length c0] (by rfl) rfl rfl (by (try simp only [List.map_toArray, List.map_cons, List.map_nil]); first | done | rfl | (simp only [List.length_drop, List.length_take]; rfl)) ?_
             with_reducible refine (laws_toInt64S.calls k _ _ l0 t205 _ ?side1 ?side2 A13.out).mono ?_
             (case side1 => exact cB_ HR0 HB)
             (case side2 => exact HC0.out)
             rintro e w28 ⟨v206, rfl, ho0, hb⟩
             refine ⟨_, rfl, ?_⟩
             have HO207 := rL_ ho0 HB; replace BK203 := bB_ BK203 hb; replace BK222 := bB_ BK222 hb; replace HB := bS_ HB hb; (try clear hb); (try clear hb2); (try clear hk); (try clear hi); (try clear ho0)
             refine hK.out _ _ ⟨(blk_cell BK203.out 0).trans rfl, (blk_cell BK203.out 1).trans rfl, (blk_cell BK203.out 2).trans rfl⟩ (fun hHeld => ?_)
             clear hK K
             refine norm_ (a' := ?_) ?_ ?_
             rotate_left
             ·show Act.put _ (some 33) _ = _
              simp only [Act.put, List.setIfInBounds_toArray, List.set_cons_zero, List.set_cons_succ, i64_w, i32_w]
              rfl
             exact norm_ (by simp only [putAll, Act.put, List.setIfInBounds_toArray, List.set_cons_zero, List.set_cons_succ] <;> rfl) (hJ1_10 (v206, gb222) _ ⟨hHeld, (rT_ HO207), (bT_ BK203), (bT_ BK222), GW222.out, GE222.out, NB203_222.out, NB222_203.out, (by repeat (first | (with_reducible first | exact HB.out | apply below_alloc | apply pw_below_drewN | apply below_drew1 | refine below_set ?_ GE203.out | refine below_set ?_ GE222.out) | exact HB.out))⟩)
           ·skip
            rintro v206 w27 ⟨hS_, h0_, h1_, h2_⟩
            try dsimp only at h0_ h1_ h2_
            have HO207 := Aside0.mk h0_; replace BK203 := Aside0.mk h1_; replace HB := Aside0.mk h2_; clear h0_ h1_ h2_
            have hHeld : w27.cell? ⟨gb203, 0, none⟩ = some (.slice A1_0 l1_0.length c1_0) ∧ w27.cell? ⟨gb203, 1, none⟩ = some (.int .i64 a1_1) ∧ w27.cell? ⟨gb203, 2, none⟩ = some (.int .i64 a1_2) := hS_
            refine norm_ (a' := ?_) ?_ ?_
            rotate_left
            ·simp only [putAll, Act.put, List.setIfInBounds_toArray, List.set_cons_zero, List.set_cons_succ]
             rfl
            refine two_ (i := 3) (j := 10) (Ni := some 35) (Nj := some 8) #[true, true, true, true, true, false, false, false, false, false, false, false, false] #[true, true, true, false, true, false, false, false, false, false, true, false, false] rfl rfl rfl rfl (two_of HT_.out (by kernel_rfl)) (by decide) (by decide) (fun K hK => ?_) (fun K hK => ?_)
            ·skip
             refine goes_ Try.func12 (by kernel_rfl) rfl #[.agg #[.slice A1_0 l1_0.length c1_0, .int .i64 a1_1, .int .i64 a1_2]] (by rfl) rfl rfl (by (try simp only [List.map_toArray, List.map_cons, List.map_nil]); first | done | rfl | (simp only [List.length_drop, List.length_take]; rfl)) ?_
             with_reducible refine (laws_toBook.calls k _ _ l1_0 a1_1 a1_2 t208 t211 t212 _ ?side1 ?side2 A14.out).mono ?_
             (case side1 => exact cB_ HR1_0 HB)
             (case side2 => exact HC1_0.out)
             rintro e w28 ⟨v209, rfl, ho0, hb⟩
             refine ⟨_, rfl, ?_⟩
             have HO210 := rL_ (rN_ ho0 HO207) HB
             replace HO207 := rE_ HO207 ho0 hb; replace BK203 := bB_ BK203 hb; replace HB := bS_ HB hb; (try clear hb); (try clear hb2); (try clear hk); (try clear hi); (try clear ho0)
             refine hK.out _ _ ⟨(blk_cell BK203.out 0).trans rfl, (blk_cell BK203.out 1).trans rfl, (blk_cell BK203.out 2).trans rfl⟩ (fun hHeld => ?_)
             clear hK K
             refine norm_ (a' := ?_) ?_ ?_
             rotate_left
             ·show Act.put _ (some 35) _ = _
              simp only [Act.put, List.setIfInBounds_toArray, List.set_cons_zero, List.set_cons_succ, i64_w, i32_w]
              rfl
             exact norm_ (by simp only [putAll, Act.put, List.setIfInBounds_toArray, List.set_cons_zero, List.set_cons_succ] <;> rfl) (hJ1_3 (v206, v209) _ ⟨hHeld, (rM_ HO207), (rM_ HO210), (bT_ BK203), (by repeat (first | (with_reducible first | exact HB.out | apply below_alloc | apply pw_below_drewN | apply below_drew1 | refine below_set ?_ GE203.out) | exact HB.out))⟩)
            ·skip
             refine box_step ?hg (N := 8) ?hd (cs := #[.slice none 0 0, .int .i64 0, .int .i64 0]) (t := 26) ?hr ?_; (case hd => rfl); (case hg => rfl); (case hr => first | (go_simp; done) | (go_simp; rfl))
             intro gb222 hg w28 hbox hb
             replace HO207 := rB_ HO207 hb
             have BK222 := Aside0.mk (hbox)
             have GW222 := gE_ HB hg; have GE222 := gE_ HB hg; replace HB := bS_ HB hb; have NB203_222 := nL_ BK203 hg; have NB222_203 := nG_ BK203 hg; replace BK203 := bB_ BK203 hb; clear hb hbox hg
             refine hK.out _ _ ⟨(blk_cell BK203.out 0).trans rfl, (blk_cell BK203.out 1).trans rfl, (blk_cell BK203.out 2).trans rfl⟩ (fun hHeld => ?_)
             clear hK K
             refine norm_ (a' := ?_) ?_ ?_
             rotate_left
             ·show Act.put _ (some 8) _ = _
              simp only [Act.put, List.setIfInBounds_toArray, List.set_cons_zero, List.set_cons_succ, i64_w, i32_w]
              rfl
             exact norm_ (by simp only [putAll, Act.put, List.setIfInBounds_toArray, List.set_cons_zero, List.set_cons_succ] <;> rfl) (hJ1_10 (v206, gb222) _ ⟨hHeld, (rT_ HO207), (bT_ BK203), (bT_ BK222), GW222.out, GE222.out, NB203_222.out, NB222_203.out, (by repeat (first | (with_reducible first | exact HB.out | apply below_alloc | apply pw_below_drewN | apply below_drew1 | refine below_set ?_ GE203.out | refine below_set ?_ GE222.out) | exact HB.out))⟩)
          ·skip
           rintro ⟨v206, gb222⟩ w28 ⟨hS_, h0_, h1_, h2_, h3_, h4_, h5_, h6_, h7_⟩
           try dsimp only at h0_ h1_ h2_ h3_ h4_ h5_ h6_ h7_
           have HO207 := Aside0.mk h0_; replace BK203 := Aside0.mk h1_; have BK222 := Aside0.mk h2_; have GW222 := Aside0.mk h3_; have GE222 := Aside0.mk h4_; have NB203_222 := Aside0.mk h5_; have NB222_203 := Aside0.mk h6_; replace HB := Aside0.mk h7_; clear h0_ h1_ h2_ h3_ h4_ h5_ h6_ h7_
           have hHeld : w28.cell? ⟨gb203, 0, none⟩ = some (.slice A1_0 l1_0.length c1_0) ∧ w28.cell? ⟨gb203, 1, none⟩ = some (.int .i64 a1_1) ∧ w28.cell? ⟨gb203, 2, none⟩ = some (.int .i64 a1_2) := hS_
           refine norm_ (a' := ?_) ?_ ?_
           rotate_left
           ·simp only [putAll, Act.put, List.setIfInBounds_toArray, List.set_cons_zero, List.set_cons_succ]
            rfl
           refine one_ (i := 3) (N := some 35) #[true, true, true, true, true, false, false, false, false, false, true, false, false] rfl rfl (one_of HT_.out (by kernel_rfl)) (by decide) (fun K hK => ?_)
           refine goes_ Try.func12 (by kernel_rfl) rfl #[.agg #[.slice A1_0 l1_0.length c1_0, .int .i64 a1_1, .int .i64 a1_2]] (by rfl) rfl rfl (by (try simp only [List.map_toArray, List.map_cons, List.map_nil]); first | done | rfl | (simp only [List.length_drop, List.length_take]; rfl)) ?_
           with_reducible refine (laws_toBook.calls k _ _ l1_0 a1_1 a1_2 t208 t211 t212 _ ?side1 ?side2 A14.out).mono ?_
           (case side1 => exact cB_ HR1_0 HB)
           (case side2 => exact HC1_0.out)
           rintro e w29 ⟨v209, rfl, ho0, hb⟩
           refine ⟨_, rfl, ?_⟩
           have HO210 := rL_ (rN_ ho0 HO207) HB
           replace HO207 := rE_ HO207 ho0 hb; replace BK203 := bB_ BK203 hb; replace BK222 := bB_ BK222 hb; replace HB := bS_ HB hb; (try clear hb); (try clear hb2); (try clear hk); (try clear hi); (try clear ho0)
           refine hK.out _ _ ⟨(blk_cell BK203.out 0).trans rfl, (blk_cell BK203.out 1).trans rfl, (blk_cell BK203.out 2).trans rfl⟩ (fun hHeld => ?_)
           clear hK K
           refine norm_ (a' := ?_) ?_ ?_
           rotate_left
           ·show Act.put _ (some 35) _ = _
            simp only [Act.put, List.setIfInBounds_toArray, List.set_cons_zero, List.set_cons_succ, i64_w, i32_w]
            rfl
           exact norm_ (by simp only [putAll, Act.put, List.setIfInBounds_toArray, List.set_cons_zero, List.set_cons_succ] <;> rfl) (hJ1_3_10 (v206, v209, gb222) _ ⟨hHeld, (rM_ HO207), (rM_ HO210), (bT_ BK203), (bT_ BK222), GW222.out, GE222.out, NB203_222.out, NB222_203.out, (by repeat (first | (with_reducible first | exact HB.out | apply below_alloc | apply pw_below_drewN | apply below_drew1 | refine below_set ?_ GE203.out | refine below_set ?_ GE222.out) | exact HB.out))⟩)
         ·skip
          rintro ⟨v206, v209⟩ w28 ⟨hS_, h0_, h1_, h2_, h3_⟩
          try dsimp only at h0_ h1_ h2_ h3_
          have HO207 := Aside0.mk h0_; have HO210 := Aside0.mk h1_; replace BK203 := Aside0.mk h2_; replace HB := Aside0.mk h3_; clear h0_ h1_ h2_ h3_
          have hHeld : w28.cell? ⟨gb203, 0, none⟩ = some (.slice A1_0 l1_0.length c1_0) ∧ w28.cell? ⟨gb203, 1, none⟩ = some (.int .i64 a1_1) ∧ w28.cell? ⟨gb203, 2, none⟩ = some (.int .i64 a1_2) := hS_
          refine norm_ (a' := ?_) ?_ ?_
          rotate_left
          ·simp only [putAll, Act.put, List.setIfInBounds_toArray, List.set_cons_zero, List.set_cons_succ]
           rfl
          refine two_ (i := 5) (j := 10) (Ni := some 37) (Nj := some 8) #[true, true, true, true, true, true, false, false, false, false, false, false, false] #[true, true, true, true, true, false, false, false, false, false, true, false, false] rfl rfl rfl rfl (two_of HT_.out (by kernel_rfl)) (by decide) (by decide) (fun K hK => ?_) (fun K hK => ?_)
          ·skip
           refine goes_ Try.func11 (by kernel_rfl) rfl #[.slice A2 l2.length c2] (by rfl) rfl rfl (by (try simp only [List.map_toArray, List.map_cons, List.map_nil]); first | done | rfl | (simp only [List.length_drop, List.length_take]; rfl)) ?_
           with_reducible refine (laws_toInt64S.calls k _ _ l2 t213 _ ?side1 ?side2 A15.out).mono ?_
           (case side1 => exact cB_ HR2 HB)
           (case side2 => exact HC2.out)
           rintro e w29 ⟨v214, rfl, ho0, hb⟩
           refine ⟨_, rfl, ?_⟩
           have HO215 := rL_ (rN_ (rN_ ho0 HO207) HO210) HB
           replace HO207 := rE_ HO207 ho0 hb; replace HO210 := rE_ HO210 ho0 hb; replace BK203 := bB_ BK203 hb; replace HB := bS_ HB hb; (try clear hb); (try clear hb2); (try clear hk); (try clear hi); (try clear ho0)
           refine hK.out _ _ ⟨(blk_cell BK203.out 0).trans rfl, (blk_cell BK203.out 1).trans rfl, (blk_cell BK203.out 2).trans rfl⟩ (fun hHeld => ?_)
           clear hK K
           refine norm_ (a' := ?_) ?_ ?_
           rotate_left
           ·show Act.put _ (some 37) _ = _
            simp only [Act.put, List.setIfInBounds_toArray, List.set_cons_zero, List.set_cons_succ, i64_w, i32_w]
            rfl
           exact norm_ (by simp only [putAll, Act.put, List.setIfInBounds_toArray, List.set_cons_zero, List.set_cons_succ] <;> rfl) (hJ1_3_5 (v206, v209, v214) _ ⟨hHeld, (rT_ HO207), (rT_ HO210), (rM_ HO215), (bT_ BK203), (by repeat (first | (with_reducible first | exact HB.out | apply below_alloc | apply pw_below_drewN | apply below_drew1 | refine below_set ?_ GE203.out) | exact HB.out))⟩)
          ·skip
           refine box_step ?hg (N := 8) ?hd (cs := #[.slice none 0 0, .int .i64 0, .int .i64 0]) (t := 26) ?hr ?_; (case hd => rfl); (case hg => rfl); (case hr => first | (go_simp; done) | (go_simp; rfl))
           intro gb222 hg w29 hbox hb
           replace HO207 := rB_ HO207 hb; replace HO210 := rB_ HO210 hb
           have BK222 := Aside0.mk (hbox)
           have GW222 := gE_ HB hg; have GE222 := gE_ HB hg; replace HB := bS_ HB hb; have NB203_222 := nL_ BK203 hg; have NB222_203 := nG_ BK203 hg; replace BK203 := bB_ BK203 hb; clear hb hbox hg
           refine hK.out _ _ ⟨(blk_cell BK203.out 0).trans rfl, (blk_cell BK203.out 1).trans rfl, (blk_cell BK203.out 2).trans rfl⟩ (fun hHeld => ?_)
           clear hK K
           refine norm_ (a' := ?_) ?_ ?_
           rotate_left
           ·show Act.put _ (some 8) _ = _
            simp only [Act.put, List.setIfInBounds_toArray, List.set_cons_zero, List.set_cons_succ, i64_w, i32_w]
            rfl
           exact norm_ (by simp only [putAll, Act.put, List.setIfInBounds_toArray, List.set_cons_zero, List.set_cons_succ] <;> rfl) (hJ1_3_10 (v206, v209, gb222) _ ⟨hHeld, (rT_ HO207), (rT_ HO210), (bT_ BK203), (bT_ BK222), GW222.out, GE222.out, NB203_222.out, NB222_203.out, (by repeat (first | (with_reducible first | exact HB.out | apply below_alloc | apply pw_below_drewN | apply below_drew1 | refine below_set ?_ GE203.out | refine below_set ?_ GE222.out) | exact HB.out))⟩)
        ·skip
         rintro ⟨v206, v209, gb222⟩ w29 ⟨hS_, h0_, h1_, h2_, h3_, h4_, h5_, h6_, h7_, h8_⟩
         try dsimp only at h0_ h1_ h2_ h3_ h4_ h5_ h6_ h7_ h8_
         have HO207 := Aside0.mk h0_; have HO210 := Aside0.mk h1_; replace BK203 := Aside0.mk h2_; have BK222 := Aside0.mk h3_; have GW222 := Aside0.mk h4_; have GE222 := Aside0.mk h5_; have NB203_222 := Aside0.mk h6_; have NB222_203 := Aside0.mk h7_; replace HB := Aside0.mk h8_; clear h0_ h1_ h2_ h3_ h4_ h5_ h6_ h7_ h8_
         have hHeld : w29.cell? ⟨gb203, 0, none⟩ = some (.slice A1_0 l1_0.length c1_0) ∧ w29.cell? ⟨gb203, 1, none⟩ = some (.int .i64 a1_1) ∧ w29.cell? ⟨gb203, 2, none⟩ = some (.int .i64 a1_2) := hS_
         refine norm_ (a' := ?_) ?_ ?_
         rotate_left
         ·simp only [putAll, Act.put, List.setIfInBounds_toArray, List.set_cons_zero, List.set_cons_succ]
          rfl
         refine one_ (i := 5) (N := some 37) #[true, true, true, true, true, true, false, false, false, false, true, false, false] rfl rfl (one_of HT_.out (by kernel_rfl)) (by decide) (fun K hK => ?_)
         refine goes_ Try.func11 (by kernel_rfl) rfl #[.slice A2 l2.length c2] (by rfl) rfl rfl (by (try simp only [List.map_toArray, List.map_cons, List.map_nil]); first | done | rfl | (simp only [List.length_drop, List.length_take]; rfl)) ?_
         with_reducible refine (laws_toInt64S.calls k _ _ l2 t213 _ ?side1 ?side2 A15.out).mono ?_
         (case side1 => exact cB_ HR2 HB)
         (case side2 => exact HC2.out)
         rintro e w30 ⟨v214, rfl, ho0, hb⟩
         refine ⟨_, rfl, ?_⟩
         have HO215 := rL_ (rN_ (rN_ ho0 HO207) HO210) HB
         replace HO207 := rE_ HO207 ho0 hb; replace HO210 := rE_ HO210 ho0 hb; replace BK203 := bB_ BK203 hb; replace BK222 := bB_ BK222 hb; replace HB := bS_ HB hb; (try clear hb); (try clear hb2); (try clear hk); (try clear hi); (try clear ho0)
         refine hK.out _ _ ⟨(blk_cell BK203.out 0).trans rfl, (blk_cell BK203.out 1).trans rfl, (blk_cell BK203.out 2).trans rfl⟩ (fun hHeld => ?_)
         clear hK K
         refine norm_ (a' := ?_) ?_ ?_
         rotate_left
         ·show Act.put _ (some 37) _ = _
          simp only [Act.put, List.setIfInBounds_toArray, List.set_cons_zero, List.set_cons_succ, i64_w, i32_w]
          rfl
         exact norm_ (by simp only [putAll, Act.put, List.setIfInBounds_toArray, List.set_cons_zero, List.set_cons_succ] <;> rfl) (hJ1_3_5_10 (v206, v209, v214, gb222) _ ⟨hHeld, (rT_ HO207), (rT_ HO210), (rM_ HO215), (bT_ BK203), (bT_ BK222), GW222.out, GE222.out, NB203_222.out, NB222_203.out, (by repeat (first | (with_reducible first | exact HB.out | apply below_alloc | apply pw_below_drewN | apply below_drew1 | refine below_set ?_ GE203.out | refine below_set ?_ GE222.out) | exact HB.out))⟩)
       ·skip
        rintro ⟨v206, v209, v214⟩ w29 ⟨hS_, h0_, h1_, h2_, h3_, h4_⟩
        try dsimp only at h0_ h1_ h2_ h3_ h4_
        have HO207 := Aside0.mk h0_; have HO210 := Aside0.mk h1_; have HO215 := Aside0.mk h2_; replace BK203 := Aside0.mk h3_; replace HB := Aside0.mk h4_; clear h0_ h1_ h2_ h3_ h4_
        have hHeld : w29.cell? ⟨gb203, 0, none⟩ = some (.slice A1_0 l1_0.length c1_0) ∧ w29.cell? ⟨gb203, 1, none⟩ = some (.int .i64 a1_1) ∧ w29.cell? ⟨gb203, 2, none⟩ = some (.int .i64 a1_2) := hS_
        obtain ⟨Ao30, co30, eo30⟩ := Kd.R_slice HO207.out
        (first | subst eo30 | (injection eo30 with f1_ f2_ f3_; have f4_ := f1_.symm; have f5_ := f3_.symm; clear f1_ f2_ f3_; subst f4_; subst f5_))
        obtain ⟨Ao31, co31, eo31⟩ := Kd.R_slice HO210.out
        (first | subst eo31 | (injection eo31 with f1_ f2_ f3_; have f4_ := f1_.symm; have f5_ := f3_.symm; clear f1_ f2_ f3_; subst f4_; subst f5_))
        obtain ⟨Ao32, co32, eo32⟩ := Kd.R_slice HO215.out
        (first | subst eo32 | (injection eo32 with f1_ f2_ f3_; have f4_ := f1_.symm; have f5_ := f3_.symm; clear f1_ f2_ f3_; subst f4_; subst f5_))
        refine norm_ (a' := ?_) ?_ ?_
        rotate_left
        ·simp only [putAll, Act.put, List.setIfInBounds_toArray, List.set_cons_zero, List.set_cons_succ]
         rfl
        refine two_ (i := 6) (j := 10) (Ni := some 38) (Nj := some 8) #[true, true, true, true, true, true, true, false, false, false, false, false, false] #[true, true, true, true, true, true, false, false, false, false, true, false, false] rfl rfl rfl rfl (two_of HT_.out (by kernel_rfl)) (by decide) (by decide) (fun K hK => ?_) (fun K hK => ?_)
        ·skip
         refine goes_ Try.func10 (by kernel_rfl) rfl #[.slice Ao30 t205.length co30, .agg #[.slice Ao31 t208.length co31, .int .i64 t211, .int .i64 t212], .slice Ao32 t213.length co32] (by rfl) rfl rfl (by (try simp only [List.map_toArray, List.map_cons, List.map_nil]); first | done | rfl | (simp only [List.length_drop, List.length_take]; rfl)) ?_
         with_reducible refine (spec_FlowStep.calls k _ _ t205 _ _ t208 t211 t212 _ _ t213 t216 t219 t220 t221 _ ?side1 ?side2 ?side3 ?side4 ?side5 ?side6 A16.out).mono ?_
         (case side1 => exact rD_ HO207)
         (case side2 => exact (Kd.R_reads' HO207.out).2.1)
         (case side3 => exact rD_ HO210)
         (case side4 => exact (Kd.R_reads' HO210.out).2.1)
         (case side5 => exact rD_ HO215)
         (case side6 => exact (Kd.R_reads' HO215.out).2.1)
         rintro e w33 ⟨v217, rfl, ho0, hb⟩
         refine ⟨_, rfl, ?_⟩
         have HO218 := rL_ (rN_ (rN_ (rN_ ho0 HO207) HO210) HO215) HB
         replace HO207 := rE_ HO207 ho0 hb; replace HO210 := rE_ HO210 ho0 hb; replace HO215 := rE_ HO215 ho0 hb; replace BK203 := bB_ BK203 hb; replace HB := bS_ HB hb; (try clear hb); (try clear hb2); (try clear hk); (try clear hi); (try clear ho0)
         refine hK.out _ _ ⟨(blk_cell BK203.out 0).trans rfl, (blk_cell BK203.out 1).trans rfl, (blk_cell BK203.out 2).trans rfl⟩ (fun hHeld => ?_)
         clear hK K
         refine norm_ (a' := ?_) ?_ ?_
         rotate_left
         ·show Act.put _ (some 38) _ = _
          simp only [Act.put, List.setIfInBounds_toArray, List.set_cons_zero, List.set_cons_succ, i64_w, i32_w]
          rfl
         refine pure_ (i := 7) (N := some 31) (v := ?_) (a' := ?_) #[true, true, true, true, true, true, true, true, false, false, false, false, false] rfl rfl (any_of HT_.out (by kernel_rfl)) (fun _ _ _ h => h) (Or.inl ⟨by rfl, ?_⟩) ?_ ?_
         rotate_left
         ·intro w'
          go_simp
          with_reducible rfl
         rotate_left
         ·simp only [Act.put, List.setIfInBounds_toArray, List.set_cons_zero, List.set_cons_succ, i64_w, i32_w]
          rfl
         refine pure_ (i := 8) (N := some 39) (v := ?_) (a' := ?_) #[true, true, true, true, true, true, true, true, true, false, false, false, false] rfl rfl (any_of HT_.out (by kernel_rfl)) (fun _ _ _ h => h) (Or.inl ⟨by rfl, ?_⟩) ?_ ?_
         rotate_left
         ·intro w'
          go_simp
          with_reducible rfl
         rotate_left
         ·simp only [Act.put, List.setIfInBounds_toArray, List.set_cons_zero, List.set_cons_succ, i64_w, i32_w]
          rfl
         refine pure_ (i := 9) (N := some 40) (v := ?_) (a' := ?_) #[true, true, true, true, true, true, true, true, true, true, false, false, false] rfl rfl (any_of HT_.out (by kernel_rfl)) (fun _ _ _ h => h) (Or.inl ⟨by rfl, ?_⟩) ?_ ?_
         rotate_left
         ·intro w'
          go_simp
          with_reducible rfl
         rotate_left
         ·simp only [Act.put, List.setIfInBounds_toArray, List.set_cons_zero, List.set_cons_succ, i64_w, i32_w]
          rfl
         exact norm_ (by simp only [putAll, Act.put, List.setIfInBounds_toArray, List.set_cons_zero, List.set_cons_succ] <;> rfl) (hJ1_3_5_6 (.slice Ao30 t205.length co30, .slice Ao31 t208.length co31, .slice Ao32 t213.length co32, v217) _ ⟨hHeld, (rM_ HO207), (rM_ HO210), (rM_ HO215), (rM_ HO218), (bT_ BK203), (by repeat (first | (with_reducible first | exact HB.out | apply below_alloc | apply pw_below_drewN | apply below_drew1 | refine below_set ?_ GE203.out) | exact HB.out))⟩)
        ·skip
         refine box_step ?hg (N := 8) ?hd (cs := #[.slice none 0 0, .int .i64 0, .int .i64 0]) (t := 26) ?hr ?_; (case hd => rfl); (case hg => rfl); (case hr => first | (go_simp; done) | (go_simp; rfl))
         intro gb222 hg w30 hbox hb
         replace HO207 := rB_ HO207 hb; replace HO210 := rB_ HO210 hb; replace HO215 := rB_ HO215 hb
         have BK222 := Aside0.mk (hbox)
         have GW222 := gE_ HB hg; have GE222 := gE_ HB hg; replace HB := bS_ HB hb; have NB203_222 := nL_ BK203 hg; have NB222_203 := nG_ BK203 hg; replace BK203 := bB_ BK203 hb; clear hb hbox hg
         refine hK.out _ _ ⟨(blk_cell BK203.out 0).trans rfl, (blk_cell BK203.out 1).trans rfl, (blk_cell BK203.out 2).trans rfl⟩ (fun hHeld => ?_)
         clear hK K
         refine norm_ (a' := ?_) ?_ ?_
         rotate_left
         ·show Act.put _ (some 8) _ = _
          simp only [Act.put, List.setIfInBounds_toArray, List.set_cons_zero, List.set_cons_succ, i64_w, i32_w]
          rfl
         exact norm_ (by simp only [putAll, Act.put, List.setIfInBounds_toArray, List.set_cons_zero, List.set_cons_succ] <;> rfl) (hJ1_3_5_10 ((.slice Ao30 t205.length co30), (.slice Ao31 t208.length co31), (.slice Ao32 t213.length co32), gb222) _ ⟨hHeld, (rT_ HO207), (rT_ HO210), (rT_ HO215), (bT_ BK203), (bT_ BK222), GW222.out, GE222.out, NB203_222.out, NB222_203.out, (by repeat (first | (with_reducible first | exact HB.out | apply below_alloc | apply pw_below_drewN | apply below_drew1 | refine below_set ?_ GE203.out | refine below_set ?_ GE222.out) | exact HB.out))⟩)
      ·skip
       rintro ⟨v206, v209, v214, gb222⟩ w30 ⟨hS_, h0_, h1_, h2_, h3_, h4_, h5_, h6_, h7_, h8_, h9_⟩
       try dsimp only at h0_ h1_ h2_ h3_ h4_ h5_ h6_ h7_ h8_ h9_
       have HO207 := Aside0.mk h0_; have HO210 := Aside0.mk h1_; have HO215 := Aside0.mk h2_; replace BK203 := Aside0.mk h3_; have BK222 := Aside0.mk h4_; have GW222 := Aside0.mk h5_; have GE222 := Aside0.mk h6_; have NB203_222 := Aside0.mk h7_; have NB222_203 := Aside0.mk h8_; replace HB := Aside0.mk h9_; clear h0_ h1_ h2_ h3_ h4_ h5_ h6_ h7_ h8_ h9_
       have hHeld : w30.cell? ⟨gb203, 0, none⟩ = some (.slice A1_0 l1_0.length c1_0) ∧ w30.cell? ⟨gb203, 1, none⟩ = some (.int .i64 a1_1) ∧ w30.cell? ⟨gb203, 2, none⟩ = some (.int .i64 a1_2) := hS_
       obtain ⟨Ao31, co31, eo31⟩ := Kd.R_slice HO207.out
       (first | subst eo31 | (injection eo31 with f1_ f2_ f3_; have f4_ := f1_.symm; have f5_ := f3_.symm; clear f1_ f2_ f3_; subst f4_; subst f5_))
       obtain ⟨Ao32, co32, eo32⟩ := Kd.R_slice HO210.out
       (first | subst eo32 | (injection eo32 with f1_ f2_ f3_; have f4_ := f1_.symm; have f5_ := f3_.symm; clear f1_ f2_ f3_; subst f4_; subst f5_))
       obtain ⟨Ao33, co33, eo33⟩ := Kd.R_slice HO215.out
       (first | subst eo33 | (injection eo33 with f1_ f2_ f3_; have f4_ := f1_.symm; have f5_ := f3_.symm; clear f1_ f2_ f3_; subst f4_; subst f5_))
       refine norm_ (a' := ?_) ?_ ?_
       rotate_left
       ·simp only [putAll, Act.put, List.setIfInBounds_toArray, List.set_cons_zero, List.set_cons_succ]
        rfl
       refine one_ (i := 6) (N := some 38) #[true, true, true, true, true, true, true, false, false, false, true, false, false] rfl rfl (one_of HT_.out (by kernel_rfl)) (by decide) (fun K hK => ?_)
       refine goes_ Try.func10 (by kernel_rfl) rfl #[.slice Ao31 t205.length co31, .agg #[.slice Ao32 t208.length co32, .int .i64 t211, .int .i64 t212], .slice Ao33 t213.length co33] (by rfl) rfl rfl (by (try simp only [List.map_toArray, List.map_cons, List.map_nil]); first | done | rfl | (simp only [List.length_drop, List.length_take]; rfl)) ?_
       with_reducible refine (spec_FlowStep.calls k _ _ t205 _ _ t208 t211 t212 _ _ t213 t216 t219 t220 t221 _ ?side1 ?side2 ?side3 ?side4 ?side5 ?side6 A16.out).mono ?_
       (case side1 => exact rD_ HO207)
       (case side2 => exact (Kd.R_reads' HO207.out).2.1)
       (case side3 => exact rD_ HO210)
       (case side4 => exact (Kd.R_reads' HO210.out).2.1)
       (case side5 => exact rD_ HO215)
       (case side6 => exact (Kd.R_reads' HO215.out).2.1)
       rintro e w34 ⟨v217, rfl, ho0, hb⟩
       refine ⟨_, rfl, ?_⟩
       have HO218 := rL_ (rN_ (rN_ (rN_ ho0 HO207) HO210) HO215) HB
       replace HO207 := rE_ HO207 ho0 hb; replace HO210 := rE_ HO210 ho0 hb; replace HO215 := rE_ HO215 ho0 hb; replace BK203 := bB_ BK203 hb; replace BK222 := bB_ BK222 hb; replace HB := bS_ HB hb; (try clear hb); (try clear hb2); (try clear hk); (try clear hi); (try clear ho0)
       refine hK.out _ _ ⟨(blk_cell BK203.out 0).trans rfl, (blk_cell BK203.out 1).trans rfl, (blk_cell BK203.out 2).trans rfl⟩ (fun hHeld => ?_)
       clear hK K
       refine norm_ (a' := ?_) ?_ ?_
       rotate_left
       ·show Act.put _ (some 38) _ = _
        simp only [Act.put, List.setIfInBounds_toArray, List.set_cons_zero, List.set_cons_succ, i64_w, i32_w]
        rfl
       refine pure_ (i := 7) (N := some 31) (v := ?_) (a' := ?_) #[true, true, true, true, true, true, true, true, false, false, true, false, false] rfl rfl (any_of HT_.out (by kernel_rfl)) (fun _ _ _ h => h) (Or.inl ⟨by rfl, ?_⟩) ?_ ?_
       rotate_left
       ·intro w'
        go_simp
        with_reducible rfl
       rotate_left
       ·simp only [Act.put, List.setIfInBounds_toArray, List.set_cons_zero, List.set_cons_succ, i64_w, i32_w]
        rfl
       refine pure_ (i := 8) (N := some 39) (v := ?_) (a' := ?_) #[true, true, true, true, true, true, true, true, true, false, true, false, false] rfl rfl (any_of HT_.out (by kernel_rfl)) (fun _ _ _ h => h) (Or.inl ⟨by rfl, ?_⟩) ?_ ?_
       rotate_left
       ·intro w'
        go_simp
        with_reducible rfl
       rotate_left
       ·simp only [Act.put, List.setIfInBounds_toArray, List.set_cons_zero, List.set_cons_succ, i64_w, i32_w]
        rfl
       refine pure_ (i := 9) (N := some 40) (v := ?_) (a' := ?_) #[true, true, true, true, true, true, true, true, true, true, true, false, false] rfl rfl (any_of HT_.out (by kernel_rfl)) (fun _ _ _ h => h) (Or.inl ⟨by rfl, ?_⟩) ?_ ?_
       rotate_left
       ·intro w'
        go_simp
        with_reducible rfl
       rotate_left
       ·simp only [Act.put, List.setIfInBounds_toArray, List.set_cons_zero, List.set_cons_succ, i64_w, i32_w]
        rfl
       exact norm_ (by simp only [putAll, Act.put, List.setIfInBounds_toArray, List.set_cons_zero, List.set_cons_succ] <;> rfl) (hJ1_3_5_6_10 (.slice Ao31 t205.length co31, .slice Ao32 t208.length co32, .slice Ao33 t213.length co33, v217, gb222) _ ⟨hHeld, (rM_ HO207), (rM_ HO210), (rM_ HO215), (rM_ HO218), (bT_ BK203), (bT_ BK222), GW222.out, GE222.out, NB203_222.out, NB222_203.out, (by repeat (first | (with_reducible first | exact HB.out | apply below_alloc | apply pw_below_drewN | apply below_drew1 | refine below_set ?_ GE203.out | refine below_set ?_ GE222.out) | exact HB.out))⟩)
     ·skip
      rintro ⟨v206, v209, v214, v217⟩ w33 ⟨hS_, h0_, h1_, h2_, h3_, h4_, h5_⟩
      try dsimp only at h0_ h1_ h2_ h3_ h4_ h5_
      have HO207 := Aside0.mk h0_; have HO210 := Aside0.mk h1_; have HO215 := Aside0.mk h2_; have HO218 := Aside0.mk h3_; replace BK203 := Aside0.mk h4_; replace HB := Aside0.mk h5_; clear h0_ h1_ h2_ h3_ h4_ h5_
      have hHeld : w33.cell? ⟨gb203, 0, none⟩ = some (.slice A1_0 l1_0.length c1_0) ∧ w33.cell? ⟨gb203, 1, none⟩ = some (.int .i64 a1_1) ∧ w33.cell? ⟨gb203, 2, none⟩ = some (.int .i64 a1_2) := hS_
      refine norm_ (a' := ?_) ?_ ?_
      rotate_left
      ·simp only [putAll, Act.put, List.setIfInBounds_toArray, List.set_cons_zero, List.set_cons_succ]
       rfl
      refine one_ (i := 10) (N := some 8) #[true, true, true, true, true, true, true, true, true, true, true, false, false] rfl rfl (one_of HT_.out (by kernel_rfl)) (by decide) (fun K hK => ?_)
      refine box_step ?hg (N := 8) ?hd (cs := #[.slice none 0 0, .int .i64 0, .int .i64 0]) (t := 26) ?hr ?_; (case hd => rfl); (case hg => rfl); (case hr => first | (go_simp; done) | (go_simp; rfl))
      intro gb222 hg w34 hbox hb
      replace HO207 := rB_ HO207 hb; replace HO210 := rB_ HO210 hb; replace HO215 := rB_ HO215 hb; replace HO218 := rB_ HO218 hb
      have BK222 := Aside0.mk (hbox)
      have GW222 := gE_ HB hg; have GE222 := gE_ HB hg; replace HB := bS_ HB hb; have NB203_222 := nL_ BK203 hg; have NB222_203 := nG_ BK203 hg; replace BK203 := bB_ BK203 hb; clear hb hbox hg
      refine hK.out _ _ ⟨(blk_cell BK203.out 0).trans rfl, (blk_cell BK203.out 1).trans rfl, (blk_cell BK203.out 2).trans rfl⟩ (fun hHeld => ?_)
      clear hK K
      refine norm_ (a' := ?_) ?_ ?_
      rotate_left
      ·show Act.put _ (some 8) _ = _
       simp only [Act.put, List.setIfInBounds_toArray, List.set_cons_zero, List.set_cons_succ, i64_w, i32_w]
       rfl
      exact norm_ (by simp only [putAll, Act.put, List.setIfInBounds_toArray, List.set_cons_zero, List.set_cons_succ] <;> rfl) (hJ1_3_5_6_10 (v206, v209, v214, v217, gb222) _ ⟨hHeld, (rT_ HO207), (rT_ HO210), (rT_ HO215), (rT_ HO218), (bT_ BK203), (bT_ BK222), GW222.out, GE222.out, NB203_222.out, NB222_203.out, (by repeat (first | (with_reducible first | exact HB.out | apply below_alloc | apply pw_below_drewN | apply below_drew1 | refine below_set ?_ GE203.out | refine below_set ?_ GE222.out) | exact HB.out))⟩)
    rintro ⟨v206, v209, v214, v217, gb222⟩ w34 ⟨hS_, h0_, h1_, h2_, h3_, h4_, h5_, h6_, h7_, h8_, h9_, h10_⟩
    try dsimp only at h0_ h1_ h2_ h3_ h4_ h5_ h6_ h7_ h8_ h9_ h10_
    have HO207 := Aside0.mk h0_; have HO210 := Aside0.mk h1_; have HO215 := Aside0.mk h2_; have HO218 := Aside0.mk h3_; replace BK203 := Aside0.mk h4_; have BK222 := Aside0.mk h5_; have GW222 := Aside0.mk h6_; have GE222 := Aside0.mk h7_; have NB203_222 := Aside0.mk h8_; have NB222_203 := Aside0.mk h9_; replace HB := Aside0.mk h10_; clear h0_ h1_ h2_ h3_ h4_ h5_ h6_ h7_ h8_ h9_ h10_
    have hHeld : w34.cell? ⟨gb203, 0, none⟩ = some (.slice A1_0 l1_0.length c1_0) ∧ w34.cell? ⟨gb203, 1, none⟩ = some (.int .i64 a1_1) ∧ w34.cell? ⟨gb203, 2, none⟩ = some (.int .i64 a1_2) := hS_
    obtain ⟨Ao35, co35, eo35⟩ := Kd.R_slice HO218.out
    (first | subst eo35 | (injection eo35 with f1_ f2_ f3_; have f4_ := f1_.symm; have f5_ := f3_.symm; clear f1_ f2_ f3_; subst f4_; subst f5_))
    refine norm_ (a' := ?_) ?_ ?_
    rotate_left
    ·simp only [putAll, Act.put, List.setIfInBounds_toArray, List.set_cons_zero, List.set_cons_succ]
     rfl
    refine one_ (i := 11) (N := none) #[true, true, true, true, true, true, true, true, true, true, true, true, false] rfl rfl (one_of HT_.out (by kernel_rfl)) (by decide) (fun K hK => ?_)
    have hs36 : w34.cell? ⟨gb222, 0, none⟩ = some (.slice none 0 0) := (blk_cell BK222.out 0).trans rfl
    have hfs36 := blk_frozen BK222.out 0; have hns36_0 := NB203_222.out; have hms36_0 := NB222_203.out
    have hs37 : w34.cell? ⟨gb222, 1, none⟩ = some (.int .i64 0) := (blk_cell BK222.out 1).trans rfl
    have hfs37 := blk_frozen BK222.out 1; have hns37_0 := NB203_222.out; have hms37_0 := NB222_203.out
    have hs38 : w34.cell? ⟨gb222, 2, none⟩ = some (.int .i64 0) := (blk_cell BK222.out 2).trans rfl
    have hfs38 := blk_frozen BK222.out 2; have hns38_0 := NB203_222.out; have hms38_0 := NB222_203.out
    refine skip_ (w1 := ?_) (by rfl) rfl ?_ ?_
    rotate_left
    ·go_simp
     rfl
    refine hK.out _ _ ⟨((cell_far (p := ⟨gb222, _, none⟩) NB203_222.out _).trans (((cell_far (p := ⟨gb222, _, none⟩) NB203_222.out _).trans (((cell_far (p := ⟨gb222, _, none⟩) NB203_222.out _).trans (hHeld.1)))))), ((cell_far (p := ⟨gb222, _, none⟩) NB203_222.out _).trans (((cell_far (p := ⟨gb222, _, none⟩) NB203_222.out _).trans (((cell_far (p := ⟨gb222, _, none⟩) NB203_222.out _).trans (hHeld.2.1)))))), ((cell_far (p := ⟨gb222, _, none⟩) NB203_222.out _).trans (((cell_far (p := ⟨gb222, _, none⟩) NB203_222.out _).trans (((cell_far (p := ⟨gb222, _, none⟩) NB203_222.out _).trans (hHeld.2.2))))))⟩ (fun hHeld => ?_)
    clear hK K
    refine pure_ (i := 12) (N := some 9) (v := ?_) (a' := ?_) #[true, true, true, true, true, true, true, true, true, true, true, true, true] rfl rfl (any_of HT_.out (by kernel_rfl)) (fun _ _ _ h => h) (Or.inl ⟨by rfl, ?_⟩) ?_ ?_
    rotate_left
    ·intro w'
     go_simp
     with_reducible rfl
    rotate_left
    ·simp only [Act.put, List.setIfInBounds_toArray, List.set_cons_zero, List.set_cons_succ, i64_w, i32_w]
     rfl
    refine done_ (done_of HT_.out (by kernel_rfl)) ?_
    go_upto_region 14 with (first | ((with_reducible refine gate_callee (f := 11) rfl ?_); refine goesL_ (some 42) rfl rfl Try.func11 (by kernel_rfl) rfl #[.slice A0 l0.length c0] rfl (by (try simp only [List.map_toArray, List.map_cons, List.map_nil]); first | done | rfl | (simp only [List.length_drop, List.length_take]; rfl)) ?_; (with_reducible refine (laws_toInt64S.calls k _ _ l0 t223 _ ?side1 ?side2 A17.out).mono ?_); (case side1 => exact cBF_ HR0 HB GE222); (case side2 => exact HC0.out); rintro e w39 ⟨v224, rfl, ho0, hb⟩; refine ⟨_, rfl, ?_⟩; have HO225 := rLF_ (rN_ (rN_ (rN_ (rN_ ho0 HO207) HO210) HO215) HO218) HB; replace HO207 := rEF_ HO207 BK222 ho0 hb; replace HO210 := rEF_ HO210 BK222 ho0 hb; replace HO215 := rEF_ HO215 BK222 ho0 hb; replace HO218 := rEF_ HO218 BK222 ho0 hb; replace BK203 := bBF_ BK203 NB203_222 hb; replace BK222 := Aside0.mk (blk_below (g := gb222) (o := .cells #[.slice Ao35 t216.length co35, .int .i64 t219, .int .i64 t220] 26 (0, 0)) (by (with_reducible repeat (first | refine blk_drewN ?_ _ | refine blk_drew ?_ | refine blk_alloc ?_ _)); refine blk_put (cs := #[.slice Ao35 t216.length co35, .int .i64 t219, .int .i64 0]) ?_ 2 _ rfl; (with_reducible repeat (first | refine blk_drewN ?_ _ | refine blk_drew ?_ | refine blk_alloc ?_ _)); refine blk_put (cs := #[.slice Ao35 t216.length co35, .int .i64 0, .int .i64 0]) ?_ 1 _ rfl; (with_reducible repeat (first | refine blk_drewN ?_ _ | refine blk_drew ?_ | refine blk_alloc ?_ _)); refine blk_put (cs := #[.slice none 0 0, .int .i64 0, .int .i64 0]) ?_ 0 _ rfl; (with_reducible repeat (first | refine blk_drewN ?_ _ | refine blk_drew ?_ | refine blk_alloc ?_ _)); exact BK222.out) hb); replace HB := bSF_ HB GE222 hb; (try clear hb); (try clear hb2); (try clear hk); (try clear hi); (try clear ho0); have hnb40 := NB203_222.out; have hnc40 := NB222_203.out; have hcz41_0 : w39.cell? ⟨gb203, 0, none⟩ = some (.slice A1_0 l1_0.length c1_0) := (blk_cell BK203.out 0).trans rfl; have hcz41_1 : w39.cell? ⟨gb203, 1, none⟩ = some (.int .i64 a1_1) := (blk_cell BK203.out 1).trans rfl; have hcz41_2 : w39.cell? ⟨gb203, 2, none⟩ = some (.int .i64 a1_2) := (blk_cell BK203.out 2).trans rfl; have hfz41_0 := blk_frozen BK203.out 0; have hfz41_1 := blk_frozen BK203.out 1; have hfz41_2 := blk_frozen BK203.out 2) | ((with_reducible refine gate_callee (f := 12) rfl ?_); refine goesL_ (some 44) rfl rfl Try.func12 (by kernel_rfl) rfl #[.agg #[.slice A1_0 l1_0.length c1_0, .int .i64 a1_1, .int .i64 a1_2]] rfl (by (try simp only [List.map_toArray, List.map_cons, List.map_nil]); first | done | rfl | (simp only [List.length_drop, List.length_take]; rfl)) ?_; (with_reducible refine (laws_toBook.calls k _ _ l1_0 a1_1 a1_2 t226 t229 t230 _ ?side1 ?side2 A18.out).mono ?_); (case side1 => exact cB_ HR1_0 HB); (case side2 => exact HC1_0.out); rintro e w42 ⟨v227, rfl, ho0, hb⟩; refine ⟨_, rfl, ?_⟩; have HO228 := rL_ (rN_ (rN_ (rN_ (rN_ (rN_ ho0 HO207) HO210) HO215) HO218) HO225) HB; replace HO207 := rE_ HO207 ho0 hb; replace HO210 := rE_ HO210 ho0 hb; replace HO215 := rE_ HO215 ho0 hb; replace HO218 := rE_ HO218 ho0 hb; replace HO225 := rE_ HO225 ho0 hb; replace BK203 := bB_ BK203 hb; replace BK222 := bB_ BK222 hb; replace HB := bS_ HB hb; (try clear hb); (try clear hb2); (try clear hk); (try clear hi); (try clear ho0)) | ((with_reducible refine gate_dst (N := 11) rfl ?_); refine box_event ?hg (N := 11) ?hd (cs := #[.slice none 0 0, .int .i64 0, .int .i64 0]) (t := 26) ?hr ?_; (case hd => rfl); (case hg => rfl); (case hr => first | (go_simp; done) | (go_simp; rfl)); intro gb231 hg w43 hbox hb; replace HO207 := rB_ HO207 hb; replace HO210 := rB_ HO210 hb; replace HO215 := rB_ HO215 hb; replace HO218 := rB_ HO218 hb; replace HO225 := rB_ HO225 hb; replace HO228 := rB_ HO228 hb; have BK231 := Aside0.mk (hbox); have GW231 := gE_ HB hg; have GE231 := gE_ HB hg; replace HB := bS_ HB hb; have NB203_231 := nL_ BK203 hg; have NB231_203 := nG_ BK203 hg; replace BK203 := bB_ BK203 hb; have NB222_231 := nL_ BK222 hg; have NB231_222 := nG_ BK222 hg; replace BK222 := bB_ BK222 hb; clear hb hbox hg; obtain ⟨Ao44, co44, eo44⟩ := Kd.R_slice HO228.out; subst eo44; have hnb45 := NB231_203.out; have hnc45 := NB203_231.out; have hnb46 := NB231_222.out; have hnc46 := NB222_231.out; have hcz47_0 : w43.cell? ⟨gb231, 0, none⟩ = some (.slice none 0 0) := (blk_cell BK231.out 0).trans rfl; have hcz47_1 : w43.cell? ⟨gb231, 1, none⟩ = some (.int .i64 0) := (blk_cell BK231.out 1).trans rfl; have hcz47_2 : w43.cell? ⟨gb231, 2, none⟩ = some (.int .i64 0) := (blk_cell BK231.out 2).trans rfl; have hfz47_0 := blk_frozen BK231.out 0; have hfz47_1 := blk_frozen BK231.out 1; have hfz47_2 := blk_frozen BK231.out 2) | ((with_reducible refine gate_callee (f := 11) rfl ?_); refine goesL_ (some 46) rfl rfl Try.func11 (by kernel_rfl) rfl #[.slice A2 l2.length c2] rfl (by (try simp only [List.map_toArray, List.map_cons, List.map_nil]); first | done | rfl | (simp only [List.length_drop, List.length_take]; rfl)) ?_; (with_reducible refine (laws_toInt64S.calls k _ _ l2 t232 _ ?side1 ?side2 A19.out).mono ?_); (case side1 => exact cBF_ HR2 HB GE231); (case side2 => exact HC2.out); rintro e w48 ⟨v233, rfl, ho0, hb⟩; refine ⟨_, rfl, ?_⟩; have HO234 := rLF_ (rN_ (rN_ (rN_ (rN_ (rN_ (rN_ ho0 HO207) HO210) HO215) HO218) HO225) HO228) HB; replace HO207 := rEF_ HO207 BK231 ho0 hb; replace HO210 := rEF_ HO210 BK231 ho0 hb; replace HO215 := rEF_ HO215 BK231 ho0 hb; replace HO218 := rEF_ HO218 BK231 ho0 hb; replace HO225 := rEF_ HO225 BK231 ho0 hb; replace HO228 := rEF_ HO228 BK231 ho0 hb; replace BK203 := bBF_ BK203 NB203_231 hb; replace BK222 := bBF_ BK222 NB222_231 hb; replace BK231 := Aside0.mk (blk_below (g := gb231) (o := .cells #[.slice Ao44 t226.length co44, .int .i64 t229, .int .i64 t230] 26 (0, 0)) (by (with_reducible repeat (first | refine blk_drewN ?_ _ | refine blk_drew ?_ | refine blk_alloc ?_ _)); refine blk_put (cs := #[.slice Ao44 t226.length co44, .int .i64 t229, .int .i64 0]) ?_ 2 _ rfl; (with_reducible repeat (first | refine blk_drewN ?_ _ | refine blk_drew ?_ | refine blk_alloc ?_ _)); refine blk_put (cs := #[.slice Ao44 t226.length co44, .int .i64 0, .int .i64 0]) ?_ 1 _ rfl; (with_reducible repeat (first | refine blk_drewN ?_ _ | refine blk_drew ?_ | refine blk_alloc ?_ _)); refine blk_put (cs := #[.slice none 0 0, .int .i64 0, .int .i64 0]) ?_ 0 _ rfl; (with_reducible repeat (first | refine blk_drewN ?_ _ | refine blk_drew ?_ | refine blk_alloc ?_ _)); exact BK231.out) hb); replace HB := bSF_ HB GE231 hb; (try clear hb); (try clear hb2); (try clear hk); (try clear hi); (try clear ho0); have hcz49_0 : w48.cell? ⟨gb231, 0, none⟩ = some (.slice Ao44 t226.length co44) := (blk_cell BK231.out 0).trans rfl; have hcz49_1 : w48.cell? ⟨gb231, 1, none⟩ = some (.int .i64 t229) := (blk_cell BK231.out 1).trans rfl; have hcz49_2 : w48.cell? ⟨gb231, 2, none⟩ = some (.int .i64 t230) := (blk_cell BK231.out 2).trans rfl; have hfz49_0 := blk_frozen BK231.out 0; have hfz49_1 := blk_frozen BK231.out 1; have hfz49_2 := blk_frozen BK231.out 2; obtain ⟨Ao50, co50, eo50⟩ := Kd.R_slice HO225.out; subst eo50; obtain ⟨Ao51, co51, eo51⟩ := Kd.R_slice HO234.out; subst eo51) | ((with_reducible refine gate_callee (f := 13) rfl ?_); refine goesL_ (some 51) rfl rfl Try.func13 (by kernel_rfl) rfl #[.slice Ao50 t223.length co50, .agg #[.slice Ao44 t226.length co44, .int .i64 t229, .int .i64 t230], .slice Ao51 t232.length co51] rfl (by (try simp only [List.map_toArray, List.map_cons, List.map_nil]); first | done | rfl | (simp only [List.length_drop, List.length_take]; rfl)) ?_; (with_reducible refine (impl_FlowStep.calls k _ _ t223 _ _ t226 t229 t230 _ _ t232 t235 t238 t239 t240 _ ?side1 ?side2 ?side3 ?side4 ?side5 ?side6 A20.out).mono ?_); (case side1 => exact rD_ HO225); (case side2 => exact (Kd.R_reads' HO225.out).2.1); (case side3 => exact rD_ HO228); (case side4 => exact (Kd.R_reads' HO228.out).2.1); (case side5 => exact rD_ HO234); (case side6 => exact (Kd.R_reads' HO234.out).2.1); rintro e w52 ⟨v236, rfl, ho0, hb⟩; refine ⟨_, rfl, ?_⟩; have HO237 := rL_ (rN_ (rN_ (rN_ (rN_ (rN_ (rN_ (rN_ ho0 HO207) HO210) HO215) HO218) HO225) HO228) HO234) HB; replace HO207 := rE_ HO207 ho0 hb; replace HO210 := rE_ HO210 ho0 hb; replace HO215 := rE_ HO215 ho0 hb; replace HO218 := rE_ HO218 ho0 hb; replace HO225 := rE_ HO225 ho0 hb; replace HO228 := rE_ HO228 ho0 hb; replace HO234 := rE_ HO234 ho0 hb; replace BK203 := bB_ BK203 hb; replace BK222 := bB_ BK222 hb; replace BK231 := bB_ BK231 hb; replace HB := bS_ HB hb; (try clear hb); (try clear hb2); (try clear hk); (try clear hi); (try clear ho0)) | ((with_reducible refine gate_dst (N := 13) rfl ?_); refine box_event ?hg (N := 13) ?hd (cs := #[.slice none 0 0, .int .i64 0, .int .i64 0]) (t := 26) ?hr ?_; (case hd => rfl); (case hg => rfl); (case hr => first | (go_simp; done) | (go_simp; rfl)); intro gb241 hg w53 hbox hb; replace HO207 := rB_ HO207 hb; replace HO210 := rB_ HO210 hb; replace HO215 := rB_ HO215 hb; replace HO218 := rB_ HO218 hb; replace HO225 := rB_ HO225 hb; replace HO228 := rB_ HO228 hb; replace HO234 := rB_ HO234 hb; replace HO237 := rB_ HO237 hb; have BK241 := Aside0.mk (hbox); have GW241 := gE_ HB hg; have GE241 := gE_ HB hg; replace HB := bS_ HB hb; have NB203_241 := nL_ BK203 hg; have NB241_203 := nG_ BK203 hg; replace BK203 := bB_ BK203 hb; have NB222_241 := nL_ BK222 hg; have NB241_222 := nG_ BK222 hg; replace BK222 := bB_ BK222 hb; have NB231_241 := nL_ BK231 hg; have NB241_231 := nG_ BK231 hg; replace BK231 := bB_ BK231 hb; clear hb hbox hg; obtain ⟨Ao54, co54, eo54⟩ := Kd.R_slice HO237.out; subst eo54; have hnb55 := NB241_203.out; have hnc55 := NB203_241.out; have hnb56 := NB241_222.out; have hnc56 := NB222_241.out; have hnb57 := NB241_231.out; have hnc57 := NB231_241.out; have hcz58_0 : w53.cell? ⟨gb241, 0, none⟩ = some (.slice none 0 0) := (blk_cell BK241.out 0).trans rfl; have hcz58_1 : w53.cell? ⟨gb241, 1, none⟩ = some (.int .i64 0) := (blk_cell BK241.out 1).trans rfl; have hcz58_2 : w53.cell? ⟨gb241, 2, none⟩ = some (.int .i64 0) := (blk_cell BK241.out 2).trans rfl; have hfz58_0 := blk_frozen BK241.out 0; have hfz58_1 := blk_frozen BK241.out 1; have hfz58_2 := blk_frozen BK241.out 2))
    (try simp only [Act.put, List.setIfInBounds_toArray, List.set_cons_zero, List.set_cons_succ])
    go_cut [62] (fun v62 wc => ∃ (kq : Nat) (x62_20 : Bool), v62 = .bool x62_20 ∧ Aside0 (laws_FnExactFlowStep.j0 kq l0 l2 t221 t223 t232 t240 x62_20 l1_0 a1_1 a1_2 t216 t219 t220 t226 t229 t230 t235 t238 t239 = some true) ∧ Aside0 (kq ≤ k) ∧ Aside0 (Kd.R (Kd.int .i64) 2 wc w.heap.size (fun k_ => some k_ ≠ ((.slice Ao51 t232.length co51) : Value).ownBlock ∧ some k_ ≠ ((.slice Ao35 t216.length co35) : Value).ownBlock ∧ some k_ ≠ ((.slice Ao44 t226.length co44) : Value).ownBlock ∧ some k_ ≠ ((.slice Ao54 t235.length co54) : Value).ownBlock) (.slice Ao50 t223.length co50) t223) ∧ Aside0 (Kd.R (Kd.int .i64) 2 wc w.heap.size (fun k_ => some k_ ≠ ((.slice Ao50 t223.length co50) : Value).ownBlock ∧ some k_ ≠ ((.slice Ao35 t216.length co35) : Value).ownBlock ∧ some k_ ≠ ((.slice Ao44 t226.length co44) : Value).ownBlock ∧ some k_ ≠ ((.slice Ao54 t235.length co54) : Value).ownBlock) (.slice Ao51 t232.length co51) t232) ∧ Aside0 (Kd.R (Kd.int .i64) 2 wc w.heap.size (fun k_ => some k_ ≠ ((.slice Ao50 t223.length co50) : Value).ownBlock ∧ some k_ ≠ ((.slice Ao51 t232.length co51) : Value).ownBlock ∧ some k_ ≠ ((.slice Ao44 t226.length co44) : Value).ownBlock ∧ some k_ ≠ ((.slice Ao54 t235.length co54) : Value).ownBlock) (.slice Ao35 t216.length co35) t216) ∧ Aside0 (Kd.R (Kd.int .i64) 2 wc w.heap.size (fun k_ => some k_ ≠ ((.slice Ao50 t223.length co50) : Value).ownBlock ∧ some k_ ≠ ((.slice Ao51 t232.length co51) : Value).ownBlock ∧ some k_ ≠ ((.slice Ao35 t216.length co35) : Value).ownBlock ∧ some k_ ≠ ((.slice Ao54 t235.length co54) : Value).ownBlock) (.slice Ao44 t226.length co44) t226) ∧ Aside0 (Kd.R (Kd.int .i64) 2 wc w.heap.size (fun k_ => some k_ ≠ ((.slice Ao50 t223.length co50) : Value).ownBlock ∧ some k_ ≠ ((.slice Ao51 t232.length co51) : Value).ownBlock ∧ some k_ ≠ ((.slice Ao35 t216.length co35) : Value).ownBlock ∧ some k_ ≠ ((.slice Ao44 t226.length co44) : Value).ownBlock) (.slice Ao54 t235.length co54) t235) ∧ Aside0 (wc.heap[gb203]? = some (.cells #[(.slice A1_0 l1_0.length c1_0), .int .i64 a1_1, .int .i64 a1_2] 24 (0, 0))) ∧ Aside0 (wc.heap[gb222]? = some (.cells #[(.slice Ao35 t216.length co35), .int .i64 t219, .int .i64 t220] 26 (0, 0))) ∧ Aside0 (wc.heap[gb231]? = some (.cells #[(.slice Ao44 t226.length co44), .int .i64 t229, .int .i64 t230] 26 (0, 0))) ∧ Aside0 (wc.heap[gb241]? = some (.cells #[(.slice Ao54 t235.length co54), .int .i64 t238, .int .i64 t239] 26 (0, 0))) ∧ Aside0 (Below w.heap.size w wc))
    case first =>
     have H := HC21.out; clear HC21; replace H := Option.bind_eq_some_iff.mp H
     obtain ⟨t242, A590, H⟩ := H
     replace H : (if t242 = true then (laws_FnExactFlowStep.j0 k l0 l2 t221 t223 t232 t240 (t240 != t221) l1_0 a1_1 a1_2 t216 t219 t220 t226 t229 t230 t235 t238 t239) else (laws_FnExactFlowStep.j0 k l0 l2 t221 t223 t232 t240 true l1_0 a1_1 a1_2 t216 t219 t220 t226 t229 t230 t235 t238 t239)) = some true := H
     have A59 := Aside0.mk A590; clear A590
     by_cases c60 : t242 = true
     ·subst c60
      have H1 : (laws_FnExactFlowStep.j0 k l0 l2 t221 t223 t232 t240 (t240 != t221) l1_0 a1_1 a1_2 t216 t219 t220 t226 t229 t230 t235 t238 t239) = some true := by rw [if_pos rfl] at H; exact H
      clear H; have H := H1; clear H1; have H' := Aside0.mk H; clear H; have hnb61 := NB241_203.out; have hnc61 := NB203_241.out; have hnb62 := NB241_222.out; have hnc62 := NB222_241.out; have hnb63 := NB241_231.out; have hnc63 := NB231_241.out
      have hcz64_0 : w53.cell? ⟨gb241, 0, none⟩ = some (.slice none 0 0) := (blk_cell BK241.out 0).trans rfl
      have hcz64_1 : w53.cell? ⟨gb241, 1, none⟩ = some (.int .i64 0) := (blk_cell BK241.out 1).trans rfl
      have hcz64_2 : w53.cell? ⟨gb241, 2, none⟩ = some (.int .i64 0) := (blk_cell BK241.out 2).trans rfl
      have hfz64_0 := blk_frozen BK241.out 0; have hfz64_1 := blk_frozen BK241.out 1; have hfz64_2 := blk_frozen BK241.out 2; have hnb65 := NB222_203.out; have hnc65 := NB203_222.out; have hnb66 := NB222_231.out; have hnc66 := NB231_222.out
      have hcz67_0 : w53.cell? ⟨gb222, 0, none⟩ = some (.slice Ao35 t216.length co35) := (blk_cell BK222.out 0).trans rfl
      have hcz67_1 : w53.cell? ⟨gb222, 1, none⟩ = some (.int .i64 t219) := (blk_cell BK222.out 1).trans rfl
      have hcz67_2 : w53.cell? ⟨gb222, 2, none⟩ = some (.int .i64 t220) := (blk_cell BK222.out 2).trans rfl
      have hfz67_0 := blk_frozen BK222.out 0; have hfz67_1 := blk_frozen BK222.out 1; have hfz67_2 := blk_frozen BK222.out 2
      go_wp2_with (first | ((with_reducible refine gate_callee (f := 14) rfl ?_); refine goesL_ (some 56) rfl rfl Try.func14 (by kernel_rfl) rfl #[.agg #[.slice Ao54 t235.length co54, .int .i64 t238, .int .i64 t239], .agg #[.slice Ao35 t216.length co35, .int .i64 t219, .int .i64 t220]] rfl (by (try simp only [List.map_toArray, List.map_cons, List.map_nil]); first | done | rfl | (simp only [List.length_drop, List.length_take]; rfl)) ?_; (with_reducible refine (laws_eqBook.calls k _ _ t235 t238 t239 _ _ t216 t219 t220 true _ ?side1 ?side2 ?side3 ?side4 A59.out).mono ?_); (case side1 => exact rDF_ HO237 BK241); (case side2 => exact (Kd.R_reads' HO237.out).2.1); (case side3 => exact rDF_ HO218 BK241); (case side4 => exact (Kd.R_reads' HO218.out).2.1); rintro e w68 ⟨rfl, hb⟩; refine ⟨_, rfl, ?_⟩; replace HO207 := rBF_ HO207 BK241 hb; replace HO210 := rBF_ HO210 BK241 hb; replace HO215 := rBF_ HO215 BK241 hb; replace HO218 := rBF_ HO218 BK241 hb; replace HO225 := rBF_ HO225 BK241 hb; replace HO228 := rBF_ HO228 BK241 hb; replace HO234 := rBF_ HO234 BK241 hb; replace HO237 := rBF_ HO237 BK241 hb; replace BK203 := bBF_ BK203 NB203_241 hb; replace BK222 := bBF_ BK222 NB222_241 hb; replace BK231 := bBF_ BK231 NB231_241 hb; replace BK241 := Aside0.mk (blk_below (g := gb241) (o := .cells #[.slice Ao54 t235.length co54, .int .i64 t238, .int .i64 t239] 26 (0, 0)) (by (with_reducible repeat (first | refine blk_drewN ?_ _ | refine blk_drew ?_ | refine blk_alloc ?_ _)); refine blk_put (cs := #[.slice Ao54 t235.length co54, .int .i64 t238, .int .i64 0]) ?_ 2 _ rfl; (with_reducible repeat (first | refine blk_drewN ?_ _ | refine blk_drew ?_ | refine blk_alloc ?_ _)); refine blk_put (cs := #[.slice Ao54 t235.length co54, .int .i64 0, .int .i64 0]) ?_ 1 _ rfl; (with_reducible repeat (first | refine blk_drewN ?_ _ | refine blk_drew ?_ | refine blk_alloc ?_ _)); refine blk_put (cs := #[.slice none 0 0, .int .i64 0, .int .i64 0]) ?_ 0 _ rfl; (with_reducible repeat (first | refine blk_drewN ?_ _ | refine blk_drew ?_ | refine blk_alloc ?_ _)); exact BK241.out) hb); replace HB := bSF_ HB GE241 hb; (try clear hb); (try clear hb2); (try clear hk); (try clear hi)))
      go_meet
      case rel => exact ⟨_, ((t240 != t221)), (by first | rfl | (simp; done) | (simp [*]; done)), H', ⟨by first | omega | exact Nat.le_refl _⟩, ⟨by (with_reducible repeat (first | apply Kd.R_alloc | apply Kd.R_drewN | apply Kd.R_drew)); exact Kd.R_mono HO225.out (fun _ hk => ⟨hk.1.2, ⟨hk.1.1.1.2, ⟨hk.1.1.2, hk.2⟩⟩⟩)⟩, ⟨by (with_reducible repeat (first | apply Kd.R_alloc | apply Kd.R_drewN | apply Kd.R_drew)); exact Kd.R_mono HO234.out (fun _ hk => ⟨hk.1.1.2, ⟨hk.1.1.1.2, ⟨hk.1.2, hk.2⟩⟩⟩)⟩, ⟨by (with_reducible repeat (first | apply Kd.R_alloc | apply Kd.R_drewN | apply Kd.R_drew)); exact Kd.R_mono HO218.out (fun _ hk => ⟨hk.1.1.1.2, ⟨hk.1.2, ⟨hk.1.1.2, hk.2⟩⟩⟩)⟩, ⟨by (with_reducible repeat (first | apply Kd.R_alloc | apply Kd.R_drewN | apply Kd.R_drew)); exact Kd.R_mono HO228.out (fun _ hk => ⟨hk.1.1.2, ⟨hk.1.2, ⟨hk.1.1.1.2, hk.2⟩⟩⟩)⟩, ⟨by (with_reducible repeat (first | apply Kd.R_alloc | apply Kd.R_drewN | apply Kd.R_drew)); exact Kd.R_mono HO237.out (fun _ hk => ⟨hk.1.1.2, ⟨hk.2, ⟨hk.1.1.1.2, hk.1.2⟩⟩⟩)⟩, ⟨by (with_reducible repeat (first | refine blk_drewN ?_ _ | refine blk_drew ?_ | refine blk_alloc ?_ _)); exact BK203.out⟩, ⟨by (with_reducible repeat (first | refine blk_drewN ?_ _ | refine blk_drew ?_ | refine blk_alloc ?_ _)); exact BK222.out⟩, ⟨by (with_reducible repeat (first | refine blk_drewN ?_ _ | refine blk_drew ?_ | refine blk_alloc ?_ _)); exact BK231.out⟩, ⟨by (with_reducible repeat (first | refine blk_drewN ?_ _ | refine blk_drew ?_ | refine blk_alloc ?_ _)); exact BK241.out⟩, ⟨by repeat (first | (with_reducible first | exact HB.out | apply below_alloc | apply pw_below_drewN | apply below_drew1 | refine below_set ?_ GE203.out | refine below_set ?_ GE222.out | refine below_set ?_ GE231.out | refine below_set ?_ GE241.out) | exact HB.out)⟩⟩
     ·replace c60 := Bool.eq_false_iff.mpr c60
      subst c60
      have H1 : (laws_FnExactFlowStep.j0 k l0 l2 t221 t223 t232 t240 true l1_0 a1_1 a1_2 t216 t219 t220 t226 t229 t230 t235 t238 t239) = some true := by rw [if_neg (show ¬ (false = true) by decide)] at H; exact H
      clear H; have H := H1; clear H1; have H' := Aside0.mk H; clear H; have hnb69 := NB241_203.out; have hnc69 := NB203_241.out; have hnb70 := NB241_222.out; have hnc70 := NB222_241.out; have hnb71 := NB241_231.out; have hnc71 := NB231_241.out
      have hcz72_0 : w53.cell? ⟨gb241, 0, none⟩ = some (.slice none 0 0) := (blk_cell BK241.out 0).trans rfl
      have hcz72_1 : w53.cell? ⟨gb241, 1, none⟩ = some (.int .i64 0) := (blk_cell BK241.out 1).trans rfl
      have hcz72_2 : w53.cell? ⟨gb241, 2, none⟩ = some (.int .i64 0) := (blk_cell BK241.out 2).trans rfl
      have hfz72_0 := blk_frozen BK241.out 0; have hfz72_1 := blk_frozen BK241.out 1; have hfz72_2 := blk_frozen BK241.out 2; have hnb73 := NB222_203.out; have hnc73 := NB203_222.out; have hnb74 := NB222_231.out; have hnc74 := NB231_222.out
      have hcz75_0 : w53.cell? ⟨gb222, 0, none⟩ = some (.slice Ao35 t216.length co35) := (blk_cell BK222.out 0).trans rfl
      have hcz75_1 : w53.cell? ⟨gb222, 1, none⟩ = some (.int .i64 t219) := (blk_cell BK222.out 1).trans rfl
      have hcz75_2 : w53.cell? ⟨gb222, 2, none⟩ = some (.int .i64 t220) := (blk_cell BK222.out 2).trans rfl
      have hfz75_0 := blk_frozen BK222.out 0; have hfz75_1 := blk_frozen BK222.out 1; have hfz75_2 := blk_frozen BK222.out 2
      go_wp2_with (first | ((with_reducible refine gate_callee (f := 14) rfl ?_); refine goesL_ (some 56) rfl rfl Try.func14 (by kernel_rfl) rfl #[.agg #[.slice Ao54 t235.length co54, .int .i64 t238, .int .i64 t239], .agg #[.slice Ao35 t216.length co35, .int .i64 t219, .int .i64 t220]] rfl (by (try simp only [List.map_toArray, List.map_cons, List.map_nil]); first | done | rfl | (simp only [List.length_drop, List.length_take]; rfl)) ?_; (with_reducible refine (laws_eqBook.calls k _ _ t235 t238 t239 _ _ t216 t219 t220 false _ ?side1 ?side2 ?side3 ?side4 A59.out).mono ?_); (case side1 => exact rDF_ HO237 BK241); (case side2 => exact (Kd.R_reads' HO237.out).2.1); (case side3 => exact rDF_ HO218 BK241); (case side4 => exact (Kd.R_reads' HO218.out).2.1); rintro e w76 ⟨rfl, hb⟩; refine ⟨_, rfl, ?_⟩; replace HO207 := rBF_ HO207 BK241 hb; replace HO210 := rBF_ HO210 BK241 hb; replace HO215 := rBF_ HO215 BK241 hb; replace HO218 := rBF_ HO218 BK241 hb; replace HO225 := rBF_ HO225 BK241 hb; replace HO228 := rBF_ HO228 BK241 hb; replace HO234 := rBF_ HO234 BK241 hb; replace HO237 := rBF_ HO237 BK241 hb; replace BK203 := bBF_ BK203 NB203_241 hb; replace BK222 := bBF_ BK222 NB222_241 hb; replace BK231 := bBF_ BK231 NB231_241 hb; replace BK241 := Aside0.mk (blk_below (g := gb241) (o := .cells #[.slice Ao54 t235.length co54, .int .i64 t238, .int .i64 t239] 26 (0, 0)) (by (with_reducible repeat (first | refine blk_drewN ?_ _ | refine blk_drew ?_ | refine blk_alloc ?_ _)); refine blk_put (cs := #[.slice Ao54 t235.length co54, .int .i64 t238, .int .i64 0]) ?_ 2 _ rfl; (with_reducible repeat (first | refine blk_drewN ?_ _ | refine blk_drew ?_ | refine blk_alloc ?_ _)); refine blk_put (cs := #[.slice Ao54 t235.length co54, .int .i64 0, .int .i64 0]) ?_ 1 _ rfl; (with_reducible repeat (first | refine blk_drewN ?_ _ | refine blk_drew ?_ | refine blk_alloc ?_ _)); refine blk_put (cs := #[.slice none 0 0, .int .i64 0, .int .i64 0]) ?_ 0 _ rfl; (with_reducible repeat (first | refine blk_drewN ?_ _ | refine blk_drew ?_ | refine blk_alloc ?_ _)); exact BK241.out) hb); replace HB := bSF_ HB GE241 hb; (try clear hb); (try clear hb2); (try clear hk); (try clear hi)))
      go_meet
      case rel => exact ⟨_, (true), (by first | rfl | (simp; done) | (simp [*]; done)), H', ⟨by first | omega | exact Nat.le_refl _⟩, ⟨by (with_reducible repeat (first | apply Kd.R_alloc | apply Kd.R_drewN | apply Kd.R_drew)); exact Kd.R_mono HO225.out (fun _ hk => ⟨hk.1.2, ⟨hk.1.1.1.2, ⟨hk.1.1.2, hk.2⟩⟩⟩)⟩, ⟨by (with_reducible repeat (first | apply Kd.R_alloc | apply Kd.R_drewN | apply Kd.R_drew)); exact Kd.R_mono HO234.out (fun _ hk => ⟨hk.1.1.2, ⟨hk.1.1.1.2, ⟨hk.1.2, hk.2⟩⟩⟩)⟩, ⟨by (with_reducible repeat (first | apply Kd.R_alloc | apply Kd.R_drewN | apply Kd.R_drew)); exact Kd.R_mono HO218.out (fun _ hk => ⟨hk.1.1.1.2, ⟨hk.1.2, ⟨hk.1.1.2, hk.2⟩⟩⟩)⟩, ⟨by (with_reducible repeat (first | apply Kd.R_alloc | apply Kd.R_drewN | apply Kd.R_drew)); exact Kd.R_mono HO228.out (fun _ hk => ⟨hk.1.1.2, ⟨hk.1.2, ⟨hk.1.1.1.2, hk.2⟩⟩⟩)⟩, ⟨by (with_reducible repeat (first | apply Kd.R_alloc | apply Kd.R_drewN | apply Kd.R_drew)); exact Kd.R_mono HO237.out (fun _ hk => ⟨hk.1.1.2, ⟨hk.2, ⟨hk.1.1.1.2, hk.1.2⟩⟩⟩)⟩, ⟨by (with_reducible repeat (first | refine blk_drewN ?_ _ | refine blk_drew ?_ | refine blk_alloc ?_ _)); exact BK203.out⟩, ⟨by (with_reducible repeat (first | refine blk_drewN ?_ _ | refine blk_drew ?_ | refine blk_alloc ?_ _)); exact BK222.out⟩, ⟨by (with_reducible repeat (first | refine blk_drewN ?_ _ | refine blk_drew ?_ | refine blk_alloc ?_ _)); exact BK231.out⟩, ⟨by (with_reducible repeat (first | refine blk_drewN ?_ _ | refine blk_drew ?_ | refine blk_alloc ?_ _)); exact BK241.out⟩, ⟨by repeat (first | (with_reducible first | exact HB.out | apply below_alloc | apply pw_below_drewN | apply below_drew1 | refine below_set ?_ GE203.out | refine below_set ?_ GE222.out | refine below_set ?_ GE231.out | refine below_set ?_ GE241.out) | exact HB.out)⟩⟩
    case rest =>
     clear HC21; (try clear c1); (try clear c2); (try clear p2); (try clear c4); (try clear c5); (try clear c6); (try clear c7); (try clear c10); (try clear c11); (try clear c12); (try clear c13); (try clear c14); (try clear c40); (try clear c45); (try clear c46); (try clear c55); (try clear c56); (try clear c57); (try clear c60); (try clear c61); (try clear c62); (try clear c63); (try clear c65); (try clear c66); (try clear c69); (try clear c70); (try clear c71); (try clear c73); (try clear c74); (try clear hcz41_0); (try clear hcz41_1); (try clear hcz41_2); (try clear hcz47_0); (try clear hcz47_1); (try clear hcz47_2); (try clear hcz49_0); (try clear hcz49_1); (try clear hcz49_2); (try clear hcz58_0); (try clear hcz58_1); (try clear hcz58_2); (try clear hcz64_0); (try clear hcz64_1); (try clear hcz64_2); (try clear hcz67_0); (try clear hcz67_1); (try clear hcz67_2); (try clear hcz72_0); (try clear hcz72_1); (try clear hcz72_2); (try clear hcz75_0); (try clear hcz75_1); (try clear hcz75_2); (try clear hfz41_0); (try clear hfz41_1); (try clear hfz41_2); (try clear hfz47_0); (try clear hfz47_1); (try clear hfz47_2); (try clear hfz49_0); (try clear hfz49_1); (try clear hfz49_2); (try clear hfz58_0); (try clear hfz58_1); (try clear hfz58_2); (try clear hfz64_0); (try clear hfz64_1); (try clear hfz64_2); (try clear hfz67_0); (try clear hfz67_1); (try clear hfz67_2); (try clear hfz72_0); (try clear hfz72_1); (try clear hfz72_2); (try clear hfz75_0); (try clear hfz75_1); (try clear hfz75_2)
     obtain ⟨kq, x62_20, rfl, HA, HJ20, HO_10, HO_12, HO_223000, HO_232000, HO_242000, BK203, BK222, BK231, BK241, HB⟩ := hcut
     cases kq with
     | zero => exact absurd HA.out (by simp [laws_FnExactFlowStep.j0])
     | succ kj20 =>
      have H := HA.out; clear HA
      simp only [laws_FnExactFlowStep.j0] at H
      by_cases c77 : x62_20 = true
      ·subst c77
       have H1 : (some false) = some true := by rw [if_pos rfl] at H; exact H
       clear H; have H := H1; clear H1
       exact absurd H (by simp)
      ·replace c77 := Bool.eq_false_iff.mpr c77
       subst c77
       have H1 : ((laws_toInt64S.f kj20 l0).bind fun t243 => ((laws_eqInt64S.f kj20 t223 t243).bind fun t246 => (if t246 = true then ((laws_toBook.f kj20 l1_0 a1_1 a1_2).bind fun bt247 => ((laws_eqBook.f kj20 t226 t229 t230 bt247.1 bt247.2.1 bt247.2.2).bind fun t252 => (if t252 = true then ((laws_toInt64S.f kj20 l2).bind fun t253 => ((laws_eqInt64S.f kj20 t232 t253).bind fun t256 => (if t256 = true then ((laws_markInt64S.f kj20 t223 1).bind fun bt257 => ((laws_markBook.f kj20 t226 t229 t230 bt257.1).bind fun bt259 => ((laws_markInt64S.f kj20 t232 bt259.1).bind fun bt261 => (if bt261.1 < 0 then (laws_FnExactFlowStep.j1 kj20 l0 l2 t221 true l1_0 a1_1 a1_2 t216 t219 t220 t235 t238 t239) else ((laws_eqBook.f kj20 t235 t238 t239 t216 t219 t220).bind fun t263 => (if t263 = true then (laws_FnExactFlowStep.j1 kj20 l0 l2 t221 (t240 != t221) l1_0 a1_1 a1_2 t216 t219 t220 t235 t238 t239) else (laws_FnExactFlowStep.j1 kj20 l0 l2 t221 true l1_0 a1_1 a1_2 t216 t219 t220 t235 t238 t239))))))) else (some false)))) else (some false)))) else (some false)))) = some true := by rw [if_neg (show ¬ (false = true) by decide)] at H; exact H
       clear H; have H := H1; clear H1; replace H := Option.bind_eq_some_iff.mp H
       obtain ⟨t243, A780, H⟩ := H
       replace H : ((laws_eqInt64S.f kj20 t223 t243).bind fun t246 => (if t246 = true then ((laws_toBook.f kj20 l1_0 a1_1 a1_2).bind fun bt247 => ((laws_eqBook.f kj20 t226 t229 t230 bt247.1 bt247.2.1 bt247.2.2).bind fun t252 => (if t252 = true then ((laws_toInt64S.f kj20 l2).bind fun t253 => ((laws_eqInt64S.f kj20 t232 t253).bind fun t256 => (if t256 = true then ((laws_markInt64S.f kj20 t223 1).bind fun bt257 => ((laws_markBook.f kj20 t226 t229 t230 bt257.1).bind fun bt259 => ((laws_markInt64S.f kj20 t232 bt259.1).bind fun bt261 => (if bt261.1 < 0 then (laws_FnExactFlowStep.j1 kj20 l0 l2 t221 true l1_0 a1_1 a1_2 t216 t219 t220 t235 t238 t239) else ((laws_eqBook.f kj20 t235 t238 t239 t216 t219 t220).bind fun t263 => (if t263 = true then (laws_FnExactFlowStep.j1 kj20 l0 l2 t221 (t240 != t221) l1_0 a1_1 a1_2 t216 t219 t220 t235 t238 t239) else (laws_FnExactFlowStep.j1 kj20 l0 l2 t221 true l1_0 a1_1 a1_2 t216 t219 t220 t235 t238 t239))))))) else (some false)))) else (some false)))) else (some false))) = some true := H
       have A78 := Aside0.mk A780; clear A780; replace H := Option.bind_eq_some_iff.mp H
       obtain ⟨t246, A790, H⟩ := H
       replace H : (if t246 = true then ((laws_toBook.f kj20 l1_0 a1_1 a1_2).bind fun bt247 => ((laws_eqBook.f kj20 t226 t229 t230 bt247.1 bt247.2.1 bt247.2.2).bind fun t252 => (if t252 = true then ((laws_toInt64S.f kj20 l2).bind fun t253 => ((laws_eqInt64S.f kj20 t232 t253).bind fun t256 => (if t256 = true then ((laws_markInt64S.f kj20 t223 1).bind fun bt257 => ((laws_markBook.f kj20 t226 t229 t230 bt257.1).bind fun bt259 => ((laws_markInt64S.f kj20 t232 bt259.1).bind fun bt261 => (if bt261.1 < 0 then (laws_FnExactFlowStep.j1 kj20 l0 l2 t221 true l1_0 a1_1 a1_2 t216 t219 t220 t235 t238 t239) else ((laws_eqBook.f kj20 t235 t238 t239 t216 t219 t220).bind fun t263 => (if t263 = true then (laws_FnExactFlowStep.j1 kj20 l0 l2 t221 (t240 != t221) l1_0 a1_1 a1_2 t216 t219 t220 t235 t238 t239) else (laws_FnExactFlowStep.j1 kj20 l0 l2 t221 true l1_0 a1_1 a1_2 t216 t219 t220 t235 t238 t239))))))) else (some false)))) else (some false)))) else (some false)) = some true := H
       have A79 := Aside0.mk A790; clear A790
       by_cases c80 : t246 = true
       ·subst c80
        have H1 : ((laws_toBook.f kj20 l1_0 a1_1 a1_2).bind fun bt247 => ((laws_eqBook.f kj20 t226 t229 t230 bt247.1 bt247.2.1 bt247.2.2).bind fun t252 => (if t252 = true then ((laws_toInt64S.f kj20 l2).bind fun t253 => ((laws_eqInt64S.f kj20 t232 t253).bind fun t256 => (if t256 = true then ((laws_markInt64S.f kj20 t223 1).bind fun bt257 => ((laws_markBook.f kj20 t226 t229 t230 bt257.1).bind fun bt259 => ((laws_markInt64S.f kj20 t232 bt259.1).bind fun bt261 => (if bt261.1 < 0 then (laws_FnExactFlowStep.j1 kj20 l0 l2 t221 true l1_0 a1_1 a1_2 t216 t219 t220 t235 t238 t239) else ((laws_eqBook.f kj20 t235 t238 t239 t216 t219 t220).bind fun t263 => (if t263 = true then (laws_FnExactFlowStep.j1 kj20 l0 l2 t221 (t240 != t221) l1_0 a1_1 a1_2 t216 t219 t220 t235 t238 t239) else (laws_FnExactFlowStep.j1 kj20 l0 l2 t221 true l1_0 a1_1 a1_2 t216 t219 t220 t235 t238 t239))))))) else (some false)))) else (some false)))) = some true := by rw [if_pos rfl] at H; exact H
        clear H; have H := H1; clear H1; replace H := Option.bind_eq_some_iff.mp H
        obtain ⟨⟨t247, t250, t251⟩, A810, H⟩ := H
        replace H : ((laws_eqBook.f kj20 t226 t229 t230 t247 t250 t251).bind fun t252 => (if t252 = true then ((laws_toInt64S.f kj20 l2).bind fun t253 => ((laws_eqInt64S.f kj20 t232 t253).bind fun t256 => (if t256 = true then ((laws_markInt64S.f kj20 t223 1).bind fun bt257 => ((laws_markBook.f kj20 t226 t229 t230 bt257.1).bind fun bt259 => ((laws_markInt64S.f kj20 t232 bt259.1).bind fun bt261 => (if bt261.1 < 0 then (laws_FnExactFlowStep.j1 kj20 l0 l2 t221 true l1_0 a1_1 a1_2 t216 t219 t220 t235 t238 t239) else ((laws_eqBook.f kj20 t235 t238 t239 t216 t219 t220).bind fun t263 => (if t263 = true then (laws_FnExactFlowStep.j1 kj20 l0 l2 t221 (t240 != t221) l1_0 a1_1 a1_2 t216 t219 t220 t235 t238 t239) else (laws_FnExactFlowStep.j1 kj20 l0 l2 t221 true l1_0 a1_1 a1_2 t216 t219 t220 t235 t238 t239))))))) else (some false)))) else (some false))) = some true := H
        have A81 := Aside0.mk A810; clear A810; replace H := Option.bind_eq_some_iff.mp H
        obtain ⟨t252, A820, H⟩ := H
        replace H : (if t252 = true then ((laws_toInt64S.f kj20 l2).bind fun t253 => ((laws_eqInt64S.f kj20 t232 t253).bind fun t256 => (if t256 = true then ((laws_markInt64S.f kj20 t223 1).bind fun bt257 => ((laws_markBook.f kj20 t226 t229 t230 bt257.1).bind fun bt259 => ((laws_markInt64S.f kj20 t232 bt259.1).bind fun bt261 => (if bt261.1 < 0 then (laws_FnExactFlowStep.j1 kj20 l0 l2 t221 true l1_0 a1_1 a1_2 t216 t219 t220 t235 t238 t239) else ((laws_eqBook.f kj20 t235 t238 t239 t216 t219 t220).bind fun t263 => (if t263 = true then (laws_FnExactFlowStep.j1 kj20 l0 l2 t221 (t240 != t221) l1_0 a1_1 a1_2 t216 t219 t220 t235 t238 t239) else (laws_FnExactFlowStep.j1 kj20 l0 l2 t221 true l1_0 a1_1 a1_2 t216 t219 t220 t235 t238 t239))))))) else (some false)))) else (some false)) = some true := H
        have A82 := Aside0.mk A820; clear A820
        by_cases c83 : t252 = true
        ·subst c83
         have H1 : ((laws_toInt64S.f kj20 l2).bind fun t253 => ((laws_eqInt64S.f kj20 t232 t253).bind fun t256 => (if t256 = true then ((laws_markInt64S.f kj20 t223 1).bind fun bt257 => ((laws_markBook.f kj20 t226 t229 t230 bt257.1).bind fun bt259 => ((laws_markInt64S.f kj20 t232 bt259.1).bind fun bt261 => (if bt261.1 < 0 then (laws_FnExactFlowStep.j1 kj20 l0 l2 t221 true l1_0 a1_1 a1_2 t216 t219 t220 t235 t238 t239) else ((laws_eqBook.f kj20 t235 t238 t239 t216 t219 t220).bind fun t263 => (if t263 = true then (laws_FnExactFlowStep.j1 kj20 l0 l2 t221 (t240 != t221) l1_0 a1_1 a1_2 t216 t219 t220 t235 t238 t239) else (laws_FnExactFlowStep.j1 kj20 l0 l2 t221 true l1_0 a1_1 a1_2 t216 t219 t220 t235 t238 t239))))))) else (some false)))) = some true := by rw [if_pos rfl] at H; exact H
         clear H; have H := H1; clear H1; replace H := Option.bind_eq_some_iff.mp H
         obtain ⟨t253, A840, H⟩ := H
         replace H : ((laws_eqInt64S.f kj20 t232 t253).bind fun t256 => (if t256 = true then ((laws_markInt64S.f kj20 t223 1).bind fun bt257 => ((laws_markBook.f kj20 t226 t229 t230 bt257.1).bind fun bt259 => ((laws_markInt64S.f kj20 t232 bt259.1).bind fun bt261 => (if bt261.1 < 0 then (laws_FnExactFlowStep.j1 kj20 l0 l2 t221 true l1_0 a1_1 a1_2 t216 t219 t220 t235 t238 t239) else ((laws_eqBook.f kj20 t235 t238 t239 t216 t219 t220).bind fun t263 => (if t263 = true then (laws_FnExactFlowStep.j1 kj20 l0 l2 t221 (t240 != t221) l1_0 a1_1 a1_2 t216 t219 t220 t235 t238 t239) else (laws_FnExactFlowStep.j1 kj20 l0 l2 t221 true l1_0 a1_1 a1_2 t216 t219 t220 t235 t238 t239))))))) else (some false))) = some true := H
         have A84 := Aside0.mk A840; clear A840; replace H := Option.bind_eq_some_iff.mp H
         obtain ⟨t256, A850, H⟩ := H
         replace H : (if t256 = true then ((laws_markInt64S.f kj20 t223 1).bind fun bt257 => ((laws_markBook.f kj20 t226 t229 t230 bt257.1).bind fun bt259 => ((laws_markInt64S.f kj20 t232 bt259.1).bind fun bt261 => (if bt261.1 < 0 then (laws_FnExactFlowStep.j1 kj20 l0 l2 t221 true l1_0 a1_1 a1_2 t216 t219 t220 t235 t238 t239) else ((laws_eqBook.f kj20 t235 t238 t239 t216 t219 t220).bind fun t263 => (if t263 = true then (laws_FnExactFlowStep.j1 kj20 l0 l2 t221 (t240 != t221) l1_0 a1_1 a1_2 t216 t219 t220 t235 t238 t239) else (laws_FnExactFlowStep.j1 kj20 l0 l2 t221 true l1_0 a1_1 a1_2 t216 t219 t220 t235 t238 t239))))))) else (some false)) = some true := H
         have A85 := Aside0.mk A850; clear A850
         by_cases c86 : t256 = true
         ·subst c86
          have H1 : ((laws_markInt64S.f kj20 t223 1).bind fun bt257 => ((laws_markBook.f kj20 t226 t229 t230 bt257.1).bind fun bt259 => ((laws_markInt64S.f kj20 t232 bt259.1).bind fun bt261 => (if bt261.1 < 0 then (laws_FnExactFlowStep.j1 kj20 l0 l2 t221 true l1_0 a1_1 a1_2 t216 t219 t220 t235 t238 t239) else ((laws_eqBook.f kj20 t235 t238 t239 t216 t219 t220).bind fun t263 => (if t263 = true then (laws_FnExactFlowStep.j1 kj20 l0 l2 t221 (t240 != t221) l1_0 a1_1 a1_2 t216 t219 t220 t235 t238 t239) else (laws_FnExactFlowStep.j1 kj20 l0 l2 t221 true l1_0 a1_1 a1_2 t216 t219 t220 t235 t238 t239))))))) = some true := by rw [if_pos rfl] at H; exact H
          clear H; have H := H1; clear H1; replace H := Option.bind_eq_some_iff.mp H
          obtain ⟨⟨t257, t258⟩, A870, H⟩ := H
          replace H : ((laws_markBook.f kj20 t226 t229 t230 t257).bind fun bt259 => ((laws_markInt64S.f kj20 t232 bt259.1).bind fun bt261 => (if bt261.1 < 0 then (laws_FnExactFlowStep.j1 kj20 l0 l2 t221 true l1_0 a1_1 a1_2 t216 t219 t220 t235 t238 t239) else ((laws_eqBook.f kj20 t235 t238 t239 t216 t219 t220).bind fun t263 => (if t263 = true then (laws_FnExactFlowStep.j1 kj20 l0 l2 t221 (t240 != t221) l1_0 a1_1 a1_2 t216 t219 t220 t235 t238 t239) else (laws_FnExactFlowStep.j1 kj20 l0 l2 t221 true l1_0 a1_1 a1_2 t216 t219 t220 t235 t238 t239)))))) = some true := H
          have A87 := Aside0.mk A870; clear A870; replace H := Option.bind_eq_some_iff.mp H
          obtain ⟨⟨t259, t260⟩, A880, H⟩ := H
          replace H : ((laws_markInt64S.f kj20 t232 t259).bind fun bt261 => (if bt261.1 < 0 then (laws_FnExactFlowStep.j1 kj20 l0 l2 t221 true l1_0 a1_1 a1_2 t216 t219 t220 t235 t238 t239) else ((laws_eqBook.f kj20 t235 t238 t239 t216 t219 t220).bind fun t263 => (if t263 = true then (laws_FnExactFlowStep.j1 kj20 l0 l2 t221 (t240 != t221) l1_0 a1_1 a1_2 t216 t219 t220 t235 t238 t239) else (laws_FnExactFlowStep.j1 kj20 l0 l2 t221 true l1_0 a1_1 a1_2 t216 t219 t220 t235 t238 t239))))) = some true := H
          have A88 := Aside0.mk A880; clear A880; replace H := Option.bind_eq_some_iff.mp H
          obtain ⟨⟨t261, t262⟩, A890, H⟩ := H
          replace H : (if t261 < 0 then (laws_FnExactFlowStep.j1 kj20 l0 l2 t221 true l1_0 a1_1 a1_2 t216 t219 t220 t235 t238 t239) else ((laws_eqBook.f kj20 t235 t238 t239 t216 t219 t220).bind fun t263 => (if t263 = true then (laws_FnExactFlowStep.j1 kj20 l0 l2 t221 (t240 != t221) l1_0 a1_1 a1_2 t216 t219 t220 t235 t238 t239) else (laws_FnExactFlowStep.j1 kj20 l0 l2 t221 true l1_0 a1_1 a1_2 t216 t219 t220 t235 t238 t239)))) = some true := H
          have A89 := Aside0.mk A890; clear A890; have HC90 := Aside0.mk H; clear H
          try go_wp2_with (first | ((with_reducible refine gate_callee (f := 11) rfl ?_); refine goesL_ (some 65) rfl rfl Try.func11 (by kernel_rfl) rfl #[.slice A0 l0.length c0] rfl (by (try simp only [List.map_toArray, List.map_cons, List.map_nil]); first | done | rfl | (simp only [List.length_drop, List.length_take]; rfl)) ?_; (with_reducible refine (laws_toInt64S.calls kj20 _ _ l0 t243 _ ?side1 ?side2 A78.out).mono ?_); (case side1 => exact cB_ HR0 HB); (case side2 => exact HC0.out); rintro e w91 ⟨v244, rfl, ho0, hb⟩; refine ⟨_, rfl, ?_⟩; have HO245 := rL_ (rN_ (rN_ (rN_ (rN_ (rN_ ho0 HO_10) HO_12) HO_223000) HO_232000) HO_242000) HB; replace HO_10 := rE_ HO_10 ho0 hb; replace HO_12 := rE_ HO_12 ho0 hb; replace HO_223000 := rE_ HO_223000 ho0 hb; replace HO_232000 := rE_ HO_232000 ho0 hb; replace HO_242000 := rE_ HO_242000 ho0 hb; replace BK203 := bB_ BK203 hb; replace BK222 := bB_ BK222 hb; replace BK231 := bB_ BK231 hb; replace BK241 := bB_ BK241 hb; replace HB := bS_ HB hb; (try clear hb); (try clear hb2); (try clear hk); (try clear hi); (try clear ho0); obtain ⟨Ao92, co92, eo92⟩ := Kd.R_slice HO245.out; subst eo92) | ((with_reducible refine gate_callee (f := 15) rfl ?_); refine goesL_ (some 66) rfl rfl Try.func15 (by kernel_rfl) rfl #[.slice Ao50 t223.length co50, .slice Ao92 t243.length co92] rfl (by (try simp only [List.map_toArray, List.map_cons, List.map_nil]); first | done | rfl | (simp only [List.length_drop, List.length_take]; rfl)) ?_; (with_reducible refine (laws_eqInt64S.calls kj20 _ _ t223 _ _ t243 true _ ?side1 ?side2 ?side3 ?side4 A79.out).mono ?_); (case side1 => exact rD_ HO_10); (case side2 => exact (Kd.R_reads' HO_10.out).2.1); (case side3 => exact rD_ HO245); (case side4 => exact (Kd.R_reads' HO245.out).2.1); rintro e w' ⟨rfl, ⟨nd, rfl⟩⟩; refine ⟨_, rfl, ?_⟩))
          (try (rw [drewN_self w91]; generalize hq_ : World.drewN w91 _ = w91; have n0_ : Aside0 (Kd.R (Kd.int .i64) 2 w91 w.heap.size (fun k_ => some k_ ≠ (.slice Ao50 t223.length co50 : Value).ownBlock ∧ some k_ ≠ (.slice Ao51 t232.length co51 : Value).ownBlock ∧ some k_ ≠ (.slice Ao35 t216.length co35 : Value).ownBlock ∧ some k_ ≠ (.slice Ao44 t226.length co44 : Value).ownBlock ∧ some k_ ≠ (.slice Ao54 t235.length co54 : Value).ownBlock) (.slice Ao92 t243.length co92) t243) := ⟨by rw [← hq_]; exact (rM_ HO245)⟩; have n1_ : Aside0 (Kd.R (Kd.int .i64) 2 w91 w.heap.size (fun k_ => some k_ ≠ (.slice Ao92 t243.length co92 : Value).ownBlock ∧ some k_ ≠ (.slice Ao51 t232.length co51 : Value).ownBlock ∧ some k_ ≠ (.slice Ao35 t216.length co35 : Value).ownBlock ∧ some k_ ≠ (.slice Ao44 t226.length co44 : Value).ownBlock ∧ some k_ ≠ (.slice Ao54 t235.length co54 : Value).ownBlock) (.slice Ao50 t223.length co50) t223) := ⟨by rw [← hq_]; exact (rM_ HO_10)⟩; have n2_ : Aside0 (Kd.R (Kd.int .i64) 2 w91 w.heap.size (fun k_ => some k_ ≠ (.slice Ao92 t243.length co92 : Value).ownBlock ∧ some k_ ≠ (.slice Ao50 t223.length co50 : Value).ownBlock ∧ some k_ ≠ (.slice Ao35 t216.length co35 : Value).ownBlock ∧ some k_ ≠ (.slice Ao44 t226.length co44 : Value).ownBlock ∧ some k_ ≠ (.slice Ao54 t235.length co54 : Value).ownBlock) (.slice Ao51 t232.length co51) t232) := ⟨by rw [← hq_]; exact (rM_ HO_12)⟩; have n3_ : Aside0 (Kd.R (Kd.int .i64) 2 w91 w.heap.size (fun k_ => some k_ ≠ (.slice Ao92 t243.length co92 : Value).ownBlock ∧ some k_ ≠ (.slice Ao50 t223.length co50 : Value).ownBlock ∧ some k_ ≠ (.slice Ao51 t232.length co51 : Value).ownBlock ∧ some k_ ≠ (.slice Ao44 t226.length co44 : Value).ownBlock ∧ some k_ ≠ (.slice Ao54 t235.length co54 : Value).ownBlock) (.slice Ao35 t216.length co35) t216) := ⟨by rw [← hq_]; exact (rM_ HO_223000)⟩; have n4_ : Aside0 (Kd.R (Kd.int .i64) 2 w91 w.heap.size (fun k_ => some k_ ≠ (.slice Ao92 t243.length co92 : Value).ownBlock ∧ some k_ ≠ (.slice Ao50 t223.length co50 : Value).ownBlock ∧ some k_ ≠ (.slice Ao51 t232.length co51 : Value).ownBlock ∧ some k_ ≠ (.slice Ao35 t216.length co35 : Value).ownBlock ∧ some k_ ≠ (.slice Ao54 t235.length co54 : Value).ownBlock) (.slice Ao44 t226.length co44) t226) := ⟨by rw [← hq_]; exact (rM_ HO_232000)⟩; have n5_ : Aside0 (Kd.R (Kd.int .i64) 2 w91 w.heap.size (fun k_ => some k_ ≠ (.slice Ao92 t243.length co92 : Value).ownBlock ∧ some k_ ≠ (.slice Ao50 t223.length co50 : Value).ownBlock ∧ some k_ ≠ (.slice Ao51 t232.length co51 : Value).ownBlock ∧ some k_ ≠ (.slice Ao35 t216.length co35 : Value).ownBlock ∧ some k_ ≠ (.slice Ao44 t226.length co44 : Value).ownBlock) (.slice Ao54 t235.length co54) t235) := ⟨by rw [← hq_]; exact (rM_ HO_242000)⟩; have n6_ : Aside0 (w91.heap[gb203]? = some (.cells #[.slice A1_0 l1_0.length c1_0, .int .i64 a1_1, .int .i64 a1_2] 24 (0, 0))) := ⟨by rw [← hq_]; exact (bT_ BK203)⟩; have n7_ : Aside0 (w91.heap[gb222]? = some (.cells #[.slice Ao35 t216.length co35, .int .i64 t219, .int .i64 t220] 26 (0, 0))) := ⟨by rw [← hq_]; exact (bT_ BK222)⟩; have n8_ : Aside0 (w91.heap[gb231]? = some (.cells #[.slice Ao44 t226.length co44, .int .i64 t229, .int .i64 t230] 26 (0, 0))) := ⟨by rw [← hq_]; exact (bT_ BK231)⟩; have n9_ : Aside0 (w91.heap[gb241]? = some (.cells #[.slice Ao54 t235.length co54, .int .i64 t238, .int .i64 t239] 26 (0, 0))) := ⟨by rw [← hq_]; exact (bT_ BK241)⟩; have n10_ : Aside0 (Below w.heap.size w w91) := ⟨by rw [← hq_]; exact (by repeat (first | (with_reducible first | exact HB.out | apply below_alloc | apply pw_below_drewN | apply below_drew1 | refine below_set ?_ GE203.out | refine below_set ?_ GE222.out | refine below_set ?_ GE231.out | refine below_set ?_ GE241.out) | exact HB.out))⟩; clear HO245 HO_10 HO_12 HO_223000 HO_232000 HO_242000 BK203 BK222 BK231 BK241 HB hq_; have HO245 := n0_; have HO_10 := n1_; have HO_12 := n2_; have HO_223000 := n3_; have HO_232000 := n4_; have HO_242000 := n5_; have BK203 := n6_; have BK222 := n7_; have BK231 := n8_; have BK241 := n9_; have HB := n10_; clear n0_ n1_ n2_ n3_ n4_ n5_ n6_ n7_ n8_ n9_ n10_))
          replace HO_10 := Aside0.mk (Kd.R_drew HO_10.out)
          replace HO_12 := Aside0.mk (Kd.R_drew HO_12.out)
          replace HO_223000 := Aside0.mk (Kd.R_drew HO_223000.out)
          replace HO_232000 := Aside0.mk (Kd.R_drew HO_232000.out)
          replace HO_242000 := Aside0.mk (Kd.R_drew HO_242000.out)
          replace HO245 := Aside0.mk (Kd.R_drew HO245.out)
          replace BK203 := Aside0.mk (blk_drew BK203.out)
          replace BK222 := Aside0.mk (blk_drew BK222.out)
          replace BK231 := Aside0.mk (blk_drew BK231.out)
          replace BK241 := Aside0.mk (blk_drew BK241.out)
          replace HB := Aside0.mk (below_drew1 HB.out)
          refine start_ (n := 5) (S := fun w' => w'.cell? ⟨gb231, 0, none⟩ = some (.slice Ao44 t226.length co44) ∧ w'.cell? ⟨gb231, 1, none⟩ = some (.int .i64 t229) ∧ w'.cell? ⟨gb231, 2, none⟩ = some (.int .i64 t230) ∧ w'.cell? ⟨gb203, 0, none⟩ = some (.slice A1_0 l1_0.length c1_0) ∧ w'.cell? ⟨gb203, 1, none⟩ = some (.int .i64 a1_1) ∧ w'.cell? ⟨gb203, 2, none⟩ = some (.int .i64 a1_2)) (ds := []) #[false, false, false, false, false] (by kernel_rfl) rfl rfl ⟨(blk_cell BK231.out 0).trans rfl, (blk_cell BK231.out 1).trans rfl, (blk_cell BK231.out 2).trans rfl, (blk_cell BK203.out 0).trans rfl, (blk_cell BK203.out 1).trans rfl, (blk_cell BK203.out 2).trans rfl⟩ (fun hHeld => ?_)
          generalize w91.drew = w93 at HO_10 HO_12 HO_223000 HO_232000 HO_242000 HO245 BK203 BK222 BK231 BK241 HB hHeld ⊢
          refine take_ (i := 0) (N := some 68) (v := ?_) (a' := ?_) #[true, false, false, false, false] rfl rfl (by kernel_rfl) (fun _ _ _ h => h) (Or.inl ⟨by rfl, ?_⟩) hHeld ?_ ?_
          rotate_left
          ·rintro w' ⟨s0, s1, s2, s3, s4, s5⟩
           go_simp
           with_reducible rfl
          rotate_left
          ·simp only [Act.put, List.setIfInBounds_toArray, List.set_cons_zero, List.set_cons_succ, i64_w, i32_w]
           rfl
          refine take_ (i := 1) (N := some 69) (v := ?_) (a' := ?_) #[true, true, false, false, false] rfl rfl (by kernel_rfl) (fun _ _ _ h => h) (Or.inl ⟨by rfl, ?_⟩) hHeld ?_ ?_
          rotate_left
          ·rintro w' ⟨s0, s1, s2, s3, s4, s5⟩
           go_simp
           with_reducible rfl
          rotate_left
          ·simp only [Act.put, List.setIfInBounds_toArray, List.set_cons_zero, List.set_cons_succ, i64_w, i32_w]
           rfl
          refine one_ (i := 2) (N := some 70) #[true, true, true, false, false] rfl rfl (by kernel_rfl) (by decide) (fun K hK => ?_)
          refine goes_ Try.func12 (by kernel_rfl) rfl #[.agg #[.slice A1_0 l1_0.length c1_0, .int .i64 a1_1, .int .i64 a1_2]] (by rfl) rfl rfl (by (try simp only [List.map_toArray, List.map_cons, List.map_nil]); first | done | rfl | (simp only [List.length_drop, List.length_take]; rfl)) ?_
          with_reducible refine (laws_toBook.calls kj20 _ _ l1_0 a1_1 a1_2 t247 t250 t251 _ ?side1 ?side2 A81.out).mono ?_
          (case side1 => exact cB_ HR1_0 HB)
          (case side2 => exact HC1_0.out)
          rintro e w94 ⟨v248, rfl, ho0, hb⟩
          refine ⟨_, rfl, ?_⟩
          have HO249 := rL_ (rN_ (rN_ (rN_ (rN_ (rN_ (rN_ ho0 HO_10) HO_12) HO_223000) HO_232000) HO_242000) HO245) HB
          replace HO_10 := rE_ HO_10 ho0 hb; replace HO_12 := rE_ HO_12 ho0 hb; replace HO_223000 := rE_ HO_223000 ho0 hb; replace HO_232000 := rE_ HO_232000 ho0 hb; replace HO_242000 := rE_ HO_242000 ho0 hb; replace HO245 := rE_ HO245 ho0 hb; replace BK203 := bB_ BK203 hb; replace BK222 := bB_ BK222 hb; replace BK231 := bB_ BK231 hb; replace BK241 := bB_ BK241 hb; replace HB := bS_ HB hb; (try clear hb); (try clear hb2); (try clear hk); (try clear hi); (try clear ho0)
          obtain ⟨Ao95, co95, eo95⟩ := Kd.R_slice HO249.out
          (first | subst eo95 | (injection eo95 with f1_ f2_ f3_; have f4_ := f1_.symm; have f5_ := f3_.symm; clear f1_ f2_ f3_; subst f4_; subst f5_))
          refine hK.out _ _ ⟨(blk_cell BK231.out 0).trans rfl, (blk_cell BK231.out 1).trans rfl, (blk_cell BK231.out 2).trans rfl, (blk_cell BK203.out 0).trans rfl, (blk_cell BK203.out 1).trans rfl, (blk_cell BK203.out 2).trans rfl⟩ (fun hHeld => ?_)
          clear hK K
          refine norm_ (a' := ?_) ?_ ?_
          rotate_left
          ·show Act.put _ (some 70) _ = _
           simp only [Act.put, List.setIfInBounds_toArray, List.set_cons_zero, List.set_cons_succ, i64_w, i32_w]
           rfl
          refine one_ (i := 3) (N := some 71) #[true, true, true, true, false] rfl rfl (by kernel_rfl) (by decide) (fun K hK => ?_)
          refine goes_ Try.func14 (by kernel_rfl) rfl #[.agg #[.slice Ao44 t226.length co44, .int .i64 t229, .int .i64 t230], .agg #[.slice Ao95 t247.length co95, .int .i64 t250, .int .i64 t251]] (by rfl) rfl rfl (by (try simp only [List.map_toArray, List.map_cons, List.map_nil]); first | done | rfl | (simp only [List.length_drop, List.length_take]; rfl)) ?_
          with_reducible refine (laws_eqBook.calls kj20 _ _ t226 t229 t230 _ _ t247 t250 t251 true _ ?side1 ?side2 ?side3 ?side4 A82.out).mono ?_
          (case side1 => exact rD_ HO_232000)
          (case side2 => exact (Kd.R_reads' HO_232000.out).2.1)
          (case side3 => exact rD_ HO249)
          (case side4 => exact (Kd.R_reads' HO249.out).2.1)
          rintro e w96 ⟨rfl, hb⟩
          refine ⟨_, rfl, ?_⟩
          replace HO_10 := rB_ HO_10 hb; replace HO_12 := rB_ HO_12 hb; replace HO_223000 := rB_ HO_223000 hb; replace HO_232000 := rB_ HO_232000 hb; replace HO_242000 := rB_ HO_242000 hb; replace HO245 := rB_ HO245 hb; replace HO249 := rB_ HO249 hb; replace BK203 := bB_ BK203 hb; replace BK222 := bB_ BK222 hb; replace BK231 := bB_ BK231 hb; replace BK241 := bB_ BK241 hb; replace HB := bS_ HB hb; (try clear hb); (try clear hb2); (try clear hk); (try clear hi)
          refine hK.out _ _ ⟨(blk_cell BK231.out 0).trans rfl, (blk_cell BK231.out 1).trans rfl, (blk_cell BK231.out 2).trans rfl, (blk_cell BK203.out 0).trans rfl, (blk_cell BK203.out 1).trans rfl, (blk_cell BK203.out 2).trans rfl⟩ (fun hHeld => ?_)
          clear hK K
          refine norm_ (a' := ?_) ?_ ?_
          rotate_left
          ·show Act.put _ (some 71) _ = _
           simp only [Act.put, List.setIfInBounds_toArray, List.set_cons_zero, List.set_cons_succ, i64_w, i32_w]
           rfl
          refine pure_ (i := 4) (N := some 72) (v := ?_) (a' := ?_) #[true, true, true, true, true] rfl rfl (by kernel_rfl) (fun _ _ _ h => h) (Or.inl ⟨by rfl, ?_⟩) ?_ ?_
          rotate_left
          ·intro w'
           go_simp
           with_reducible rfl
          rotate_left
          ·simp only [Act.put, List.setIfInBounds_toArray, List.set_cons_zero, List.set_cons_succ, i64_w, i32_w]
           rfl
          refine done_ (by kernel_rfl) ?_
          go_upto_region 26 with (first | ((with_reducible refine gate_callee (f := 11) rfl ?_); refine goesL_ (some 75) rfl rfl Try.func11 (by kernel_rfl) rfl #[.slice A2 l2.length c2] rfl (by (try simp only [List.map_toArray, List.map_cons, List.map_nil]); first | done | rfl | (simp only [List.length_drop, List.length_take]; rfl)) ?_; (with_reducible refine (laws_toInt64S.calls kj20 _ _ l2 t253 _ ?side1 ?side2 A84.out).mono ?_); (case side1 => exact cB_ HR2 HB); (case side2 => exact HC2.out); rintro e w97 ⟨v254, rfl, ho0, hb⟩; refine ⟨_, rfl, ?_⟩; have HO255 := rL_ (rN_ (rN_ (rN_ (rN_ (rN_ (rN_ (rN_ ho0 HO_10) HO_12) HO_223000) HO_232000) HO_242000) HO245) HO249) HB; replace HO_10 := rE_ HO_10 ho0 hb; replace HO_12 := rE_ HO_12 ho0 hb; replace HO_223000 := rE_ HO_223000 ho0 hb; replace HO_232000 := rE_ HO_232000 ho0 hb; replace HO_242000 := rE_ HO_242000 ho0 hb; replace HO245 := rE_ HO245 ho0 hb; replace HO249 := rE_ HO249 ho0 hb; replace BK203 := bB_ BK203 hb; replace BK222 := bB_ BK222 hb; replace BK231 := bB_ BK231 hb; replace BK241 := bB_ BK241 hb; replace HB := bS_ HB hb; (try clear hb); (try clear hb2); (try clear hk); (try clear hi); (try clear ho0); obtain ⟨Ao98, co98, eo98⟩ := Kd.R_slice HO255.out; subst eo98) | ((with_reducible refine gate_callee (f := 15) rfl ?_); refine goesL_ (some 76) rfl rfl Try.func15 (by kernel_rfl) rfl #[.slice Ao51 t232.length co51, .slice Ao98 t253.length co98] rfl (by (try simp only [List.map_toArray, List.map_cons, List.map_nil]); first | done | rfl | (simp only [List.length_drop, List.length_take]; rfl)) ?_; (with_reducible refine (laws_eqInt64S.calls kj20 _ _ t232 _ _ t253 true _ ?side1 ?side2 ?side3 ?side4 A85.out).mono ?_); (case side1 => exact rD_ HO_12); (case side2 => exact (Kd.R_reads' HO_12.out).2.1); (case side3 => exact rD_ HO255); (case side4 => exact (Kd.R_reads' HO255.out).2.1); rintro e w' ⟨rfl, ⟨nd, rfl⟩⟩; refine ⟨_, rfl, ?_⟩) | ((with_reducible refine gate_callee (f := 16) rfl ?_); refine goesL_ (some 80) rfl rfl Try.func16 (by kernel_rfl) rfl #[.slice Ao50 t223.length co50, .int .i64 1] rfl (by (try simp only [List.map_toArray, List.map_cons, List.map_nil]); first | done | rfl | (simp only [List.length_drop, List.length_take]; rfl)) ?_; (with_reducible refine (laws_markInt64S.calls kj20 (fun k_ => some k_ = (.slice Ao50 t223.length co50 : Value).ownBlock) (.slice Ao50 t223.length co50) t223 1 t257 t258 w _ ?side1 ?side2 A87.out).mono ?_); (case side1 => repeat (first | (with_reducible first | exact HB.out | apply below_alloc | apply pw_below_drewN | apply below_drew1 | refine below_set ?_ GE203.out | refine below_set ?_ GE222.out | refine below_set ?_ GE231.out | refine below_set ?_ GE241.out) | exact HB.out)); (case side2 => exact Kd.R_tight rfl (rT_ HO_10)); rintro e w99 ⟨rfl, hy0, hb, hkp⟩; refine ⟨_, rfl, ?_⟩; replace HO_12 := Aside0.mk (rK_ (ok' := fun k_ => some k_ ≠ (.slice Ao50 t223.length co50 : Value).ownBlock ∧ some k_ ≠ (.slice Ao35 t216.length co35 : Value).ownBlock ∧ some k_ ≠ (.slice Ao44 t226.length co44 : Value).ownBlock ∧ some k_ ≠ (.slice Ao54 t235.length co54 : Value).ownBlock ∧ some k_ ≠ (.slice Ao92 t243.length co92 : Value).ownBlock ∧ some k_ ≠ (.slice Ao95 t247.length co95 : Value).ownBlock ∧ some k_ ≠ (.slice Ao98 t253.length co98 : Value).ownBlock) HO_12 hkp); replace HO_223000 := Aside0.mk (rK_ (ok' := fun k_ => some k_ ≠ (.slice Ao50 t223.length co50 : Value).ownBlock ∧ some k_ ≠ (.slice Ao51 t232.length co51 : Value).ownBlock ∧ some k_ ≠ (.slice Ao44 t226.length co44 : Value).ownBlock ∧ some k_ ≠ (.slice Ao54 t235.length co54 : Value).ownBlock ∧ some k_ ≠ (.slice Ao92 t243.length co92 : Value).ownBlock ∧ some k_ ≠ (.slice Ao95 t247.length co95 : Value).ownBlock ∧ some k_ ≠ (.slice Ao98 t253.length co98 : Value).ownBlock) HO_223000 hkp); replace HO_232000 := Aside0.mk (rK_ (ok' := fun k_ => some k_ ≠ (.slice Ao50 t223.length co50 : Value).ownBlock ∧ some k_ ≠ (.slice Ao51 t232.length co51 : Value).ownBlock ∧ some k_ ≠ (.slice Ao35 t216.length co35 : Value).ownBlock ∧ some k_ ≠ (.slice Ao54 t235.length co54 : Value).ownBlock ∧ some k_ ≠ (.slice Ao92 t243.length co92 : Value).ownBlock ∧ some k_ ≠ (.slice Ao95 t247.length co95 : Value).ownBlock ∧ some k_ ≠ (.slice Ao98 t253.length co98 : Value).ownBlock) HO_232000 hkp); replace HO_242000 := Aside0.mk (rK_ (ok' := fun k_ => some k_ ≠ (.slice Ao50 t223.length co50 : Value).ownBlock ∧ some k_ ≠ (.slice Ao51 t232.length co51 : Value).ownBlock ∧ some k_ ≠ (.slice Ao35 t216.length co35 : Value).ownBlock ∧ some k_ ≠ (.slice Ao44 t226.length co44 : Value).ownBlock ∧ some k_ ≠ (.slice Ao92 t243.length co92 : Value).ownBlock ∧ some k_ ≠ (.slice Ao95 t247.length co95 : Value).ownBlock ∧ some k_ ≠ (.slice Ao98 t253.length co98 : Value).ownBlock) HO_242000 hkp); replace BK203 := Aside0.mk (blk_kept (bT_ BK203) hkp (fun hs_ => (fun e_ => (Kd.R_ne HO_10.out BK203.out (by decide)) e_) hs_)); replace BK222 := Aside0.mk (blk_kept (bT_ BK222) hkp (fun hs_ => (fun e_ => (Kd.R_ne HO_10.out BK222.out (by decide)) e_) hs_)); replace BK231 := Aside0.mk (blk_kept (bT_ BK231) hkp (fun hs_ => (fun e_ => (Kd.R_ne HO_10.out BK231.out (by decide)) e_) hs_)); replace BK241 := Aside0.mk (blk_kept (bT_ BK241) hkp (fun hs_ => (fun e_ => (Kd.R_ne HO_10.out BK241.out (by decide)) e_) hs_)); replace HO_10 := Aside0.mk (Kd.R_reok rfl hy0 (fun k_ e_ => HO_10.out.1 k_ e_)); replace HO245 := Aside0.mk (rK_ (ok' := fun k_ => some k_ ≠ (.slice Ao50 t223.length co50 : Value).ownBlock ∧ some k_ ≠ (.slice Ao51 t232.length co51 : Value).ownBlock ∧ some k_ ≠ (.slice Ao35 t216.length co35 : Value).ownBlock ∧ some k_ ≠ (.slice Ao44 t226.length co44 : Value).ownBlock ∧ some k_ ≠ (.slice Ao54 t235.length co54 : Value).ownBlock ∧ some k_ ≠ (.slice Ao95 t247.length co95 : Value).ownBlock ∧ some k_ ≠ (.slice Ao98 t253.length co98 : Value).ownBlock) HO245 hkp); replace HO249 := Aside0.mk (rK_ (ok' := fun k_ => some k_ ≠ (.slice Ao50 t223.length co50 : Value).ownBlock ∧ some k_ ≠ (.slice Ao51 t232.length co51 : Value).ownBlock ∧ some k_ ≠ (.slice Ao35 t216.length co35 : Value).ownBlock ∧ some k_ ≠ (.slice Ao44 t226.length co44 : Value).ownBlock ∧ some k_ ≠ (.slice Ao54 t235.length co54 : Value).ownBlock ∧ some k_ ≠ (.slice Ao92 t243.length co92 : Value).ownBlock ∧ some k_ ≠ (.slice Ao98 t253.length co98 : Value).ownBlock) HO249 hkp); replace HO255 := Aside0.mk (rK_ (ok' := fun k_ => some k_ ≠ (.slice Ao50 t223.length co50 : Value).ownBlock ∧ some k_ ≠ (.slice Ao51 t232.length co51 : Value).ownBlock ∧ some k_ ≠ (.slice Ao35 t216.length co35 : Value).ownBlock ∧ some k_ ≠ (.slice Ao44 t226.length co44 : Value).ownBlock ∧ some k_ ≠ (.slice Ao54 t235.length co54 : Value).ownBlock ∧ some k_ ≠ (.slice Ao92 t243.length co92 : Value).ownBlock ∧ some k_ ≠ (.slice Ao95 t247.length co95 : Value).ownBlock) HO255 hkp); replace HB := Aside0.mk (hb); (try clear hb); (try clear hkp); (try clear hy0); have hnb100 := NB231_203.out; have hnc100 := NB203_231.out; have hnb101 := NB231_222.out; have hnc101 := NB222_231.out; have hnb102 := NB231_241.out; have hnc102 := NB241_231.out; have hcz103_0 : w99.cell? ⟨gb231, 0, none⟩ = some (.slice Ao44 t226.length co44) := (blk_cell BK231.out 0).trans rfl; have hcz103_1 : w99.cell? ⟨gb231, 1, none⟩ = some (.int .i64 t229) := (blk_cell BK231.out 1).trans rfl; have hcz103_2 : w99.cell? ⟨gb231, 2, none⟩ = some (.int .i64 t230) := (blk_cell BK231.out 2).trans rfl; have hfz103_0 := blk_frozen BK231.out 0; have hfz103_1 := blk_frozen BK231.out 1; have hfz103_2 := blk_frozen BK231.out 2) | ((with_reducible refine gate_callee (f := 17) rfl ?_); refine goesL_ (some 83) rfl rfl Try.func17 (by kernel_rfl) rfl #[.agg #[.slice Ao44 t226.length co44, .int .i64 t229, .int .i64 t230], .int .i64 t257] rfl (by (try simp only [List.map_toArray, List.map_cons, List.map_nil]); first | done | rfl | (simp only [List.length_drop, List.length_take]; rfl)) ?_; (with_reducible refine (laws_markBook.calls kj20 (fun k_ => some k_ = (.slice Ao44 t226.length co44 : Value).ownBlock) (.slice Ao44 t226.length co44) t226 t229 t230 t257 t259 t260 w _ ?side1 ?side2 A88.out).mono ?_); (case side1 => repeat (first | (with_reducible first | exact HB.out | apply below_alloc | apply pw_below_drewN | apply below_drew1 | refine below_set ?_ GE203.out | refine below_set ?_ GE222.out | refine below_set ?_ GE231.out | refine below_set ?_ GE241.out) | exact HB.out)); (case side2 => exact Kd.R_tight rfl (rT_ HO_232000)); rintro e w104 ⟨rfl, hy0, hb, hkp⟩; refine ⟨_, rfl, ?_⟩; replace HO_10 := Aside0.mk (rK_ (ok' := fun k_ => some k_ ≠ (.slice Ao51 t232.length co51 : Value).ownBlock ∧ some k_ ≠ (.slice Ao35 t216.length co35 : Value).ownBlock ∧ some k_ ≠ (.slice Ao44 t226.length co44 : Value).ownBlock ∧ some k_ ≠ (.slice Ao54 t235.length co54 : Value).ownBlock ∧ some k_ ≠ (.slice Ao92 t243.length co92 : Value).ownBlock ∧ some k_ ≠ (.slice Ao95 t247.length co95 : Value).ownBlock ∧ some k_ ≠ (.slice Ao98 t253.length co98 : Value).ownBlock) HO_10 hkp); replace HO_12 := Aside0.mk (rK_ (ok' := fun k_ => some k_ ≠ (.slice Ao50 t223.length co50 : Value).ownBlock ∧ some k_ ≠ (.slice Ao35 t216.length co35 : Value).ownBlock ∧ some k_ ≠ (.slice Ao44 t226.length co44 : Value).ownBlock ∧ some k_ ≠ (.slice Ao54 t235.length co54 : Value).ownBlock ∧ some k_ ≠ (.slice Ao92 t243.length co92 : Value).ownBlock ∧ some k_ ≠ (.slice Ao95 t247.length co95 : Value).ownBlock ∧ some k_ ≠ (.slice Ao98 t253.length co98 : Value).ownBlock) HO_12 hkp); replace HO_223000 := Aside0.mk (rK_ (ok' := fun k_ => some k_ ≠ (.slice Ao50 t223.length co50 : Value).ownBlock ∧ some k_ ≠ (.slice Ao51 t232.length co51 : Value).ownBlock ∧ some k_ ≠ (.slice Ao44 t226.length co44 : Value).ownBlock ∧ some k_ ≠ (.slice Ao54 t235.length co54 : Value).ownBlock ∧ some k_ ≠ (.slice Ao92 t243.length co92 : Value).ownBlock ∧ some k_ ≠ (.slice Ao95 t247.length co95 : Value).ownBlock ∧ some k_ ≠ (.slice Ao98 t253.length co98 : Value).ownBlock) HO_223000 hkp); replace HO_242000 := Aside0.mk (rK_ (ok' := fun k_ => some k_ ≠ (.slice Ao50 t223.length co50 : Value).ownBlock ∧ some k_ ≠ (.slice Ao51 t232.length co51 : Value).ownBlock ∧ some k_ ≠ (.slice Ao35 t216.length co35 : Value).ownBlock ∧ some k_ ≠ (.slice Ao44 t226.length co44 : Value).ownBlock ∧ some k_ ≠ (.slice Ao92 t243.length co92 : Value).ownBlock ∧ some k_ ≠ (.slice Ao95 t247.length co95 : Value).ownBlock ∧ some k_ ≠ (.slice Ao98 t253.length co98 : Value).ownBlock) HO_242000 hkp); replace BK203 := Aside0.mk (blk_kept (bT_ BK203) hkp (fun hs_ => (fun e_ => (Kd.R_ne HO_232000.out BK203.out (by decide)) e_) hs_)); replace BK222 := Aside0.mk (blk_kept (bT_ BK222) hkp (fun hs_ => (fun e_ => (Kd.R_ne HO_232000.out BK222.out (by decide)) e_) hs_)); replace BK231 := Aside0.mk (blk_kept (bT_ BK231) hkp (fun hs_ => (fun e_ => (Kd.R_ne HO_232000.out BK231.out (by decide)) e_) hs_)); replace BK241 := Aside0.mk (blk_kept (bT_ BK241) hkp (fun hs_ => (fun e_ => (Kd.R_ne HO_232000.out BK241.out (by decide)) e_) hs_)); replace HO_232000 := Aside0.mk (Kd.R_reok rfl hy0 (fun k_ e_ => HO_232000.out.1 k_ e_)); replace HO245 := Aside0.mk (rK_ (ok' := fun k_ => some k_ ≠ (.slice Ao50 t223.length co50 : Value).ownBlock ∧ some k_ ≠ (.slice Ao51 t232.length co51 : Value).ownBlock ∧ some k_ ≠ (.slice Ao35 t216.length co35 : Value).ownBlock ∧ some k_ ≠ (.slice Ao44 t226.length co44 : Value).ownBlock ∧ some k_ ≠ (.slice Ao54 t235.length co54 : Value).ownBlock ∧ some k_ ≠ (.slice Ao95 t247.length co95 : Value).ownBlock ∧ some k_ ≠ (.slice Ao98 t253.length co98 : Value).ownBlock) HO245 hkp); replace HO249 := Aside0.mk (rK_ (ok' := fun k_ => some k_ ≠ (.slice Ao50 t223.length co50 : Value).ownBlock ∧ some k_ ≠ (.slice Ao51 t232.length co51 : Value).ownBlock ∧ some k_ ≠ (.slice Ao35 t216.length co35 : Value).ownBlock ∧ some k_ ≠ (.slice Ao44 t226.length co44 : Value).ownBlock ∧ some k_ ≠ (.slice Ao54 t235.length co54 : Value).ownBlock ∧ some k_ ≠ (.slice Ao92 t243.length co92 : Value).ownBlock ∧ some k_ ≠ (.slice Ao98 t253.length co98 : Value).ownBlock) HO249 hkp); replace HO255 := Aside0.mk (rK_ (ok' := fun k_ => some k_ ≠ (.slice Ao50 t223.length co50 : Value).ownBlock ∧ some k_ ≠ (.slice Ao51 t232.length co51 : Value).ownBlock ∧ some k_ ≠ (.slice Ao35 t216.length co35 : Value).ownBlock ∧ some k_ ≠ (.slice Ao44 t226.length co44 : Value).ownBlock ∧ some k_ ≠ (.slice Ao54 t235.length co54 : Value).ownBlock ∧ some k_ ≠ (.slice Ao92 t243.length co92 : Value).ownBlock ∧ some k_ ≠ (.slice Ao95 t247.length co95 : Value).ownBlock) HO255 hkp); replace HB := Aside0.mk (hb); (try clear hb); (try clear hkp); (try clear hy0)) | ((with_reducible refine gate_callee (f := 16) rfl ?_); refine goesL_ (some 86) rfl rfl Try.func16 (by kernel_rfl) rfl #[.slice Ao51 t232.length co51, .int .i64 t259] rfl (by (try simp only [List.map_toArray, List.map_cons, List.map_nil]); first | done | rfl | (simp only [List.length_drop, List.length_take]; rfl)) ?_; (with_reducible refine (laws_markInt64S.calls kj20 (fun k_ => some k_ = (.slice Ao51 t232.length co51 : Value).ownBlock) (.slice Ao51 t232.length co51) t232 t259 t261 t262 w _ ?side1 ?side2 A89.out).mono ?_); (case side1 => repeat (first | (with_reducible first | exact HB.out | apply below_alloc | apply pw_below_drewN | apply below_drew1 | refine below_set ?_ GE203.out | refine below_set ?_ GE222.out | refine below_set ?_ GE231.out | refine below_set ?_ GE241.out) | exact HB.out)); (case side2 => exact Kd.R_tight rfl (rT_ HO_12)); rintro e w105 ⟨rfl, hy0, hb, hkp⟩; refine ⟨_, rfl, ?_⟩; replace HO_10 := Aside0.mk (rK_ (ok' := fun k_ => some k_ ≠ (.slice Ao51 t232.length co51 : Value).ownBlock ∧ some k_ ≠ (.slice Ao35 t216.length co35 : Value).ownBlock ∧ some k_ ≠ (.slice Ao44 t226.length co44 : Value).ownBlock ∧ some k_ ≠ (.slice Ao54 t235.length co54 : Value).ownBlock ∧ some k_ ≠ (.slice Ao92 t243.length co92 : Value).ownBlock ∧ some k_ ≠ (.slice Ao95 t247.length co95 : Value).ownBlock ∧ some k_ ≠ (.slice Ao98 t253.length co98 : Value).ownBlock) HO_10 hkp); replace HO_223000 := Aside0.mk (rK_ (ok' := fun k_ => some k_ ≠ (.slice Ao50 t223.length co50 : Value).ownBlock ∧ some k_ ≠ (.slice Ao51 t232.length co51 : Value).ownBlock ∧ some k_ ≠ (.slice Ao44 t226.length co44 : Value).ownBlock ∧ some k_ ≠ (.slice Ao54 t235.length co54 : Value).ownBlock ∧ some k_ ≠ (.slice Ao92 t243.length co92 : Value).ownBlock ∧ some k_ ≠ (.slice Ao95 t247.length co95 : Value).ownBlock ∧ some k_ ≠ (.slice Ao98 t253.length co98 : Value).ownBlock) HO_223000 hkp); replace HO_232000 := Aside0.mk (rK_ (ok' := fun k_ => some k_ ≠ (.slice Ao50 t223.length co50 : Value).ownBlock ∧ some k_ ≠ (.slice Ao51 t232.length co51 : Value).ownBlock ∧ some k_ ≠ (.slice Ao35 t216.length co35 : Value).ownBlock ∧ some k_ ≠ (.slice Ao54 t235.length co54 : Value).ownBlock ∧ some k_ ≠ (.slice Ao92 t243.length co92 : Value).ownBlock ∧ some k_ ≠ (.slice Ao95 t247.length co95 : Value).ownBlock ∧ some k_ ≠ (.slice Ao98 t253.length co98 : Value).ownBlock) HO_232000 hkp); replace HO_242000 := Aside0.mk (rK_ (ok' := fun k_ => some k_ ≠ (.slice Ao50 t223.length co50 : Value).ownBlock ∧ some k_ ≠ (.slice Ao51 t232.length co51 : Value).ownBlock ∧ some k_ ≠ (.slice Ao35 t216.length co35 : Value).ownBlock ∧ some k_ ≠ (.slice Ao44 t226.length co44 : Value).ownBlock ∧ some k_ ≠ (.slice Ao92 t243.length co92 : Value).ownBlock ∧ some k_ ≠ (.slice Ao95 t247.length co95 : Value).ownBlock ∧ some k_ ≠ (.slice Ao98 t253.length co98 : Value).ownBlock) HO_242000 hkp); replace BK203 := Aside0.mk (blk_kept (bT_ BK203) hkp (fun hs_ => (fun e_ => (Kd.R_ne HO_12.out BK203.out (by decide)) e_) hs_)); replace BK222 := Aside0.mk (blk_kept (bT_ BK222) hkp (fun hs_ => (fun e_ => (Kd.R_ne HO_12.out BK222.out (by decide)) e_) hs_)); replace BK231 := Aside0.mk (blk_kept (bT_ BK231) hkp (fun hs_ => (fun e_ => (Kd.R_ne HO_12.out BK231.out (by decide)) e_) hs_)); replace BK241 := Aside0.mk (blk_kept (bT_ BK241) hkp (fun hs_ => (fun e_ => (Kd.R_ne HO_12.out BK241.out (by decide)) e_) hs_)); replace HO_12 := Aside0.mk (Kd.R_reok rfl hy0 (fun k_ e_ => HO_12.out.1 k_ e_)); replace HO245 := Aside0.mk (rK_ (ok' := fun k_ => some k_ ≠ (.slice Ao50 t223.length co50 : Value).ownBlock ∧ some k_ ≠ (.slice Ao51 t232.length co51 : Value).ownBlock ∧ some k_ ≠ (.slice Ao35 t216.length co35 : Value).ownBlock ∧ some k_ ≠ (.slice Ao44 t226.length co44 : Value).ownBlock ∧ some k_ ≠ (.slice Ao54 t235.length co54 : Value).ownBlock ∧ some k_ ≠ (.slice Ao95 t247.length co95 : Value).ownBlock ∧ some k_ ≠ (.slice Ao98 t253.length co98 : Value).ownBlock) HO245 hkp); replace HO249 := Aside0.mk (rK_ (ok' := fun k_ => some k_ ≠ (.slice Ao50 t223.length co50 : Value).ownBlock ∧ some k_ ≠ (.slice Ao51 t232.length co51 : Value).ownBlock ∧ some k_ ≠ (.slice Ao35 t216.length co35 : Value).ownBlock ∧ some k_ ≠ (.slice Ao44 t226.length co44 : Value).ownBlock ∧ some k_ ≠ (.slice Ao54 t235.length co54 : Value).ownBlock ∧ some k_ ≠ (.slice Ao92 t243.length co92 : Value).ownBlock ∧ some k_ ≠ (.slice Ao98 t253.length co98 : Value).ownBlock) HO249 hkp); replace HO255 := Aside0.mk (rK_ (ok' := fun k_ => some k_ ≠ (.slice Ao50 t223.length co50 : Value).ownBlock ∧ some k_ ≠ (.slice Ao51 t232.length co51 : Value).ownBlock ∧ some k_ ≠ (.slice Ao35 t216.length co35 : Value).ownBlock ∧ some k_ ≠ (.slice Ao44 t226.length co44 : Value).ownBlock ∧ some k_ ≠ (.slice Ao54 t235.length co54 : Value).ownBlock ∧ some k_ ≠ (.slice Ao92 t243.length co92 : Value).ownBlock ∧ some k_ ≠ (.slice Ao95 t247.length co95 : Value).ownBlock) HO255 hkp); replace HB := Aside0.mk (hb); (try clear hb); (try clear hkp); (try clear hy0)))
          (try simp only [Act.put, List.setIfInBounds_toArray, List.set_cons_zero, List.set_cons_succ])
          go_cut [99] (fun v99 wc => ∃ (kq : Nat) (x99_89 : Bool), v99 = .bool x99_89 ∧ Aside0 (laws_FnExactFlowStep.j1 kq l0 l2 t221 x99_89 l1_0 a1_1 a1_2 t216 t219 t220 t235 t238 t239 = some true) ∧ Aside0 (kq ≤ kj20) ∧ Aside0 (Kd.R (Kd.int .i64) 2 wc w.heap.size (fun k_ => some k_ ≠ ((.slice Ao44 t226.length co44) : Value).ownBlock ∧ some k_ ≠ ((.slice Ao54 t235.length co54) : Value).ownBlock) (.slice Ao35 t216.length co35) t216) ∧ Aside0 (Kd.R (Kd.int .i64) 2 wc w.heap.size (fun k_ => some k_ ≠ ((.slice Ao35 t216.length co35) : Value).ownBlock ∧ some k_ ≠ ((.slice Ao54 t235.length co54) : Value).ownBlock) (.slice Ao44 t226.length co44) t260) ∧ Aside0 (Kd.R (Kd.int .i64) 2 wc w.heap.size (fun k_ => some k_ ≠ ((.slice Ao35 t216.length co35) : Value).ownBlock ∧ some k_ ≠ ((.slice Ao44 t226.length co44) : Value).ownBlock) (.slice Ao54 t235.length co54) t235) ∧ Aside0 (wc.heap[gb203]? = some (.cells #[(.slice A1_0 l1_0.length c1_0), .int .i64 a1_1, .int .i64 a1_2] 24 (0, 0))) ∧ Aside0 (wc.heap[gb222]? = some (.cells #[(.slice Ao35 t216.length co35), .int .i64 t219, .int .i64 t220] 26 (0, 0))) ∧ Aside0 (wc.heap[gb231]? = some (.cells #[(.slice Ao44 t226.length co44), .int .i64 t229, .int .i64 t230] 26 (0, 0))) ∧ Aside0 (wc.heap[gb241]? = some (.cells #[(.slice Ao54 t235.length co54), .int .i64 t238, .int .i64 t239] 26 (0, 0))) ∧ Aside0 (Below w.heap.size w wc))
          case first =>
           have H := HC90.out; clear HC90
           by_cases c106 : t261 < 0
           ·rw [if_pos c106] at H
            have c106b0 : decide (t261 < 0) = true := decide_eq_true c106
            clear c106
            (first | rw [c106b0] | (simp only [i64_w, i32_w]; rw [c106b0]) | skip)
            have H' := Aside0.mk H; clear H
            go_wp2
            go_meet
            case rel => exact ⟨_, (true), (by first | rfl | (simp; done) | (simp [*]; done)), H', ⟨by have := HJ20.out; first | omega | exact Nat.le_refl _⟩, ⟨by (with_reducible repeat (first | apply Kd.R_alloc | apply Kd.R_drewN | apply Kd.R_drew)); exact Kd.R_mono HO_223000.out (fun _ hk => ⟨hk.2.2.1, hk.2.2.2.1⟩)⟩, ⟨by (with_reducible repeat (first | apply Kd.R_alloc | apply Kd.R_drewN | apply Kd.R_drew)); exact Kd.R_mono HO_232000.out (fun _ hk => ⟨hk.2.2.1, hk.2.2.2.1⟩)⟩, ⟨by (with_reducible repeat (first | apply Kd.R_alloc | apply Kd.R_drewN | apply Kd.R_drew)); exact Kd.R_mono HO_242000.out (fun _ hk => ⟨hk.2.2.1, hk.2.2.2.1⟩)⟩, ⟨by (with_reducible repeat (first | refine blk_drewN ?_ _ | refine blk_drew ?_ | refine blk_alloc ?_ _)); exact BK203.out⟩, ⟨by (with_reducible repeat (first | refine blk_drewN ?_ _ | refine blk_drew ?_ | refine blk_alloc ?_ _)); exact BK222.out⟩, ⟨by (with_reducible repeat (first | refine blk_drewN ?_ _ | refine blk_drew ?_ | refine blk_alloc ?_ _)); exact BK231.out⟩, ⟨by (with_reducible repeat (first | refine blk_drewN ?_ _ | refine blk_drew ?_ | refine blk_alloc ?_ _)); exact BK241.out⟩, ⟨by repeat (first | (with_reducible first | exact HB.out | apply below_alloc | apply pw_below_drewN | apply below_drew1 | refine below_set ?_ GE203.out | refine below_set ?_ GE222.out | refine below_set ?_ GE231.out | refine below_set ?_ GE241.out) | exact HB.out)⟩⟩
           ·rw [if_neg c106] at H
            have c106b0 : decide (t261 < 0) = false := decide_eq_false c106
            clear c106
            (first | rw [c106b0] | (simp only [i64_w, i32_w]; rw [c106b0]) | skip)
            replace H := Option.bind_eq_some_iff.mp H
            obtain ⟨t263, A1070, H⟩ := H
            replace H : (if t263 = true then (laws_FnExactFlowStep.j1 kj20 l0 l2 t221 (t240 != t221) l1_0 a1_1 a1_2 t216 t219 t220 t235 t238 t239) else (laws_FnExactFlowStep.j1 kj20 l0 l2 t221 true l1_0 a1_1 a1_2 t216 t219 t220 t235 t238 t239)) = some true := H
            have A107 := Aside0.mk A1070; clear A1070
            by_cases c108 : t263 = true
            ·subst c108
             have H1 : (laws_FnExactFlowStep.j1 kj20 l0 l2 t221 (t240 != t221) l1_0 a1_1 a1_2 t216 t219 t220 t235 t238 t239) = some true := by rw [if_pos rfl] at H; exact H
             clear H; have H := H1; clear H1; have H' := Aside0.mk H; clear H; have hnb109 := NB241_203.out; have hnc109 := NB203_241.out; have hnb110 := NB241_222.out; have hnc110 := NB222_241.out; have hnb111 := NB241_231.out; have hnc111 := NB231_241.out
             have hcz112_0 : w105.cell? ⟨gb241, 0, none⟩ = some (.slice Ao54 t235.length co54) := (blk_cell BK241.out 0).trans rfl
             have hcz112_1 : w105.cell? ⟨gb241, 1, none⟩ = some (.int .i64 t238) := (blk_cell BK241.out 1).trans rfl
             have hcz112_2 : w105.cell? ⟨gb241, 2, none⟩ = some (.int .i64 t239) := (blk_cell BK241.out 2).trans rfl
             have hfz112_0 := blk_frozen BK241.out 0; have hfz112_1 := blk_frozen BK241.out 1; have hfz112_2 := blk_frozen BK241.out 2; have hnb113 := NB222_203.out; have hnc113 := NB203_222.out; have hnb114 := NB222_231.out; have hnc114 := NB231_222.out
             have hcz115_0 : w105.cell? ⟨gb222, 0, none⟩ = some (.slice Ao35 t216.length co35) := (blk_cell BK222.out 0).trans rfl
             have hcz115_1 : w105.cell? ⟨gb222, 1, none⟩ = some (.int .i64 t219) := (blk_cell BK222.out 1).trans rfl
             have hcz115_2 : w105.cell? ⟨gb222, 2, none⟩ = some (.int .i64 t220) := (blk_cell BK222.out 2).trans rfl
             have hfz115_0 := blk_frozen BK222.out 0; have hfz115_1 := blk_frozen BK222.out 1; have hfz115_2 := blk_frozen BK222.out 2
             go_wp2_with (first | (go_at_call 14; (with_reducible refine (laws_eqBook.calls kj20 _ _ t235 t238 t239 _ _ t216 t219 t220 true _ ?side1 ?side2 ?side3 ?side4 A107.out).mono ?_); (case side1 => exact rD_ HO_242000); (case side2 => exact (Kd.R_reads' HO_242000.out).2.1); (case side3 => exact rD_ HO_223000); (case side4 => exact (Kd.R_reads' HO_223000.out).2.1); rintro e w116 ⟨rfl, hb⟩; replace HO_10 := rB_ HO_10 hb; replace HO_12 := rB_ HO_12 hb; replace HO_223000 := rB_ HO_223000 hb; replace HO_232000 := rB_ HO_232000 hb; replace HO_242000 := rB_ HO_242000 hb; replace HO245 := rB_ HO245 hb; replace HO249 := rB_ HO249 hb; replace HO255 := rB_ HO255 hb; replace BK203 := bB_ BK203 hb; replace BK222 := bB_ BK222 hb; replace BK231 := bB_ BK231 hb; replace BK241 := bB_ BK241 hb; replace HB := bS_ HB hb; (try clear hb); (try clear hb2); (try clear hk); (try clear hi)))
             go_meet
             case rel => exact ⟨_, ((t240 != t221)), (by first | rfl | (simp; done) | (simp [*]; done)), H', ⟨by have := HJ20.out; first | omega | exact Nat.le_refl _⟩, ⟨by (with_reducible repeat (first | apply Kd.R_alloc | apply Kd.R_drewN | apply Kd.R_drew)); exact Kd.R_mono HO_223000.out (fun _ hk => ⟨hk.2.2.1, hk.2.2.2.1⟩)⟩, ⟨by (with_reducible repeat (first | apply Kd.R_alloc | apply Kd.R_drewN | apply Kd.R_drew)); exact Kd.R_mono HO_232000.out (fun _ hk => ⟨hk.2.2.1, hk.2.2.2.1⟩)⟩, ⟨by (with_reducible repeat (first | apply Kd.R_alloc | apply Kd.R_drewN | apply Kd.R_drew)); exact Kd.R_mono HO_242000.out (fun _ hk => ⟨hk.2.2.1, hk.2.2.2.1⟩)⟩, ⟨by (with_reducible repeat (first | refine blk_drewN ?_ _ | refine blk_drew ?_ | refine blk_alloc ?_ _)); exact BK203.out⟩, ⟨by (with_reducible repeat (first | refine blk_drewN ?_ _ | refine blk_drew ?_ | refine blk_alloc ?_ _)); exact BK222.out⟩, ⟨by (with_reducible repeat (first | refine blk_drewN ?_ _ | refine blk_drew ?_ | refine blk_alloc ?_ _)); exact BK231.out⟩, ⟨by (with_reducible repeat (first | refine blk_drewN ?_ _ | refine blk_drew ?_ | refine blk_alloc ?_ _)); exact BK241.out⟩, ⟨by repeat (first | (with_reducible first | exact HB.out | apply below_alloc | apply pw_below_drewN | apply below_drew1 | refine below_set ?_ GE203.out | refine below_set ?_ GE222.out | refine below_set ?_ GE231.out | refine below_set ?_ GE241.out) | exact HB.out)⟩⟩
            ·replace c108 := Bool.eq_false_iff.mpr c108
             subst c108
             have H1 : (laws_FnExactFlowStep.j1 kj20 l0 l2 t221 true l1_0 a1_1 a1_2 t216 t219 t220 t235 t238 t239) = some true := by rw [if_neg (show ¬ (false = true) by decide)] at H; exact H
             clear H; have H := H1; clear H1; have H' := Aside0.mk H; clear H; have hnb117 := NB241_203.out; have hnc117 := NB203_241.out; have hnb118 := NB241_222.out; have hnc118 := NB222_241.out; have hnb119 := NB241_231.out; have hnc119 := NB231_241.out
             have hcz120_0 : w105.cell? ⟨gb241, 0, none⟩ = some (.slice Ao54 t235.length co54) := (blk_cell BK241.out 0).trans rfl
             have hcz120_1 : w105.cell? ⟨gb241, 1, none⟩ = some (.int .i64 t238) := (blk_cell BK241.out 1).trans rfl
             have hcz120_2 : w105.cell? ⟨gb241, 2, none⟩ = some (.int .i64 t239) := (blk_cell BK241.out 2).trans rfl
             have hfz120_0 := blk_frozen BK241.out 0; have hfz120_1 := blk_frozen BK241.out 1; have hfz120_2 := blk_frozen BK241.out 2; have hnb121 := NB222_203.out; have hnc121 := NB203_222.out; have hnb122 := NB222_231.out; have hnc122 := NB231_222.out
             have hcz123_0 : w105.cell? ⟨gb222, 0, none⟩ = some (.slice Ao35 t216.length co35) := (blk_cell BK222.out 0).trans rfl
             have hcz123_1 : w105.cell? ⟨gb222, 1, none⟩ = some (.int .i64 t219) := (blk_cell BK222.out 1).trans rfl
             have hcz123_2 : w105.cell? ⟨gb222, 2, none⟩ = some (.int .i64 t220) := (blk_cell BK222.out 2).trans rfl
             have hfz123_0 := blk_frozen BK222.out 0; have hfz123_1 := blk_frozen BK222.out 1; have hfz123_2 := blk_frozen BK222.out 2
             go_wp2_with (first | (go_at_call 14; (with_reducible refine (laws_eqBook.calls kj20 _ _ t235 t238 t239 _ _ t216 t219 t220 false _ ?side1 ?side2 ?side3 ?side4 A107.out).mono ?_); (case side1 => exact rD_ HO_242000); (case side2 => exact (Kd.R_reads' HO_242000.out).2.1); (case side3 => exact rD_ HO_223000); (case side4 => exact (Kd.R_reads' HO_223000.out).2.1); rintro e w124 ⟨rfl, hb⟩; replace HO_10 := rB_ HO_10 hb; replace HO_12 := rB_ HO_12 hb; replace HO_223000 := rB_ HO_223000 hb; replace HO_232000 := rB_ HO_232000 hb; replace HO_242000 := rB_ HO_242000 hb; replace HO245 := rB_ HO245 hb; replace HO249 := rB_ HO249 hb; replace HO255 := rB_ HO255 hb; replace BK203 := bB_ BK203 hb; replace BK222 := bB_ BK222 hb; replace BK231 := bB_ BK231 hb; replace BK241 := bB_ BK241 hb; replace HB := bS_ HB hb; (try clear hb); (try clear hb2); (try clear hk); (try clear hi)))
             go_meet
             case rel => exact ⟨_, (true), (by first | rfl | (simp; done) | (simp [*]; done)), H', ⟨by have := HJ20.out; first | omega | exact Nat.le_refl _⟩, ⟨by (with_reducible repeat (first | apply Kd.R_alloc | apply Kd.R_drewN | apply Kd.R_drew)); exact Kd.R_mono HO_223000.out (fun _ hk => ⟨hk.2.2.1, hk.2.2.2.1⟩)⟩, ⟨by (with_reducible repeat (first | apply Kd.R_alloc | apply Kd.R_drewN | apply Kd.R_drew)); exact Kd.R_mono HO_232000.out (fun _ hk => ⟨hk.2.2.1, hk.2.2.2.1⟩)⟩, ⟨by (with_reducible repeat (first | apply Kd.R_alloc | apply Kd.R_drewN | apply Kd.R_drew)); exact Kd.R_mono HO_242000.out (fun _ hk => ⟨hk.2.2.1, hk.2.2.2.1⟩)⟩, ⟨by (with_reducible repeat (first | refine blk_drewN ?_ _ | refine blk_drew ?_ | refine blk_alloc ?_ _)); exact BK203.out⟩, ⟨by (with_reducible repeat (first | refine blk_drewN ?_ _ | refine blk_drew ?_ | refine blk_alloc ?_ _)); exact BK222.out⟩, ⟨by (with_reducible repeat (first | refine blk_drewN ?_ _ | refine blk_drew ?_ | refine blk_alloc ?_ _)); exact BK231.out⟩, ⟨by (with_reducible repeat (first | refine blk_drewN ?_ _ | refine blk_drew ?_ | refine blk_alloc ?_ _)); exact BK241.out⟩, ⟨by repeat (first | (with_reducible first | exact HB.out | apply below_alloc | apply pw_below_drewN | apply below_drew1 | refine below_set ?_ GE203.out | refine below_set ?_ GE222.out | refine below_set ?_ GE231.out | refine below_set ?_ GE241.out) | exact HB.out)⟩⟩
          case rest =>
           clear HC90; (try clear c1); (try clear c2); (try clear p2); (try clear c4); (try clear c5); (try clear c6); (try clear c7); (try clear c8); (try clear c10); (try clear c11); (try clear c12); (try clear c13); (try clear c14); (try clear c15); (try clear c16); (try clear c17); (try clear c40); (try clear c45); (try clear c46); (try clear c55); (try clear c56); (try clear c57); (try clear c60); (try clear c61); (try clear c62); (try clear c63); (try clear c65); (try clear c66); (try clear c69); (try clear c70); (try clear c71); (try clear c73); (try clear c74); (try clear c77); (try clear c80); (try clear c83); (try clear c86); (try clear c100); (try clear c101); (try clear c102); (try clear c106); (try clear c106b0); (try clear c108); (try clear c109); (try clear c110); (try clear c111); (try clear c113); (try clear c114); (try clear c117); (try clear c118); (try clear c119); (try clear c121); (try clear c122); (try clear hcz103_0); (try clear hcz103_1); (try clear hcz103_2); (try clear hcz112_0); (try clear hcz112_1); (try clear hcz112_2); (try clear hcz115_0); (try clear hcz115_1); (try clear hcz115_2); (try clear hcz120_0); (try clear hcz120_1); (try clear hcz120_2); (try clear hcz123_0); (try clear hcz123_1); (try clear hcz123_2); (try clear hcz41_0); (try clear hcz41_1); (try clear hcz41_2); (try clear hcz47_0); (try clear hcz47_1); (try clear hcz47_2); (try clear hcz49_0); (try clear hcz49_1); (try clear hcz49_2); (try clear hcz58_0); (try clear hcz58_1); (try clear hcz58_2); (try clear hcz64_0); (try clear hcz64_1); (try clear hcz64_2); (try clear hcz67_0); (try clear hcz67_1); (try clear hcz67_2); (try clear hcz72_0); (try clear hcz72_1); (try clear hcz72_2); (try clear hcz75_0); (try clear hcz75_1); (try clear hcz75_2); (try clear hfz103_0); (try clear hfz103_1); (try clear hfz103_2); (try clear hfz112_0); (try clear hfz112_1); (try clear hfz112_2); (try clear hfz115_0); (try clear hfz115_1); (try clear hfz115_2); (try clear hfz120_0); (try clear hfz120_1); (try clear hfz120_2); (try clear hfz123_0); (try clear hfz123_1); (try clear hfz123_2); (try clear hfz41_0); (try clear hfz41_1); (try clear hfz41_2); (try clear hfz47_0); (try clear hfz47_1); (try clear hfz47_2); (try clear hfz49_0); (try clear hfz49_1); (try clear hfz49_2); (try clear hfz58_0); (try clear hfz58_1); (try clear hfz58_2); (try clear hfz64_0); (try clear hfz64_1); (try clear hfz64_2); (try clear hfz67_0); (try clear hfz67_1); (try clear hfz67_2); (try clear hfz72_0); (try clear hfz72_1); (try clear hfz72_2); (try clear hfz75_0); (try clear hfz75_1); (try clear hfz75_2); (try clear p2)
           obtain ⟨kq, x99_89, rfl, HA, HJ89, HO_223000, HO_232000, HO_242000, BK203, BK222, BK231, BK241, HB⟩ := hcut
           have hl232000_89 := (Kd.R_reads' HO_232000.out).1
           rw [hl232000_89] at HO_232000
           (try simp only [hl232000_89])
           (try simp only [hl232000_89] at BK203)
           (try simp only [hl232000_89] at BK222)
           (try simp only [hl232000_89] at BK231)
           (try simp only [hl232000_89] at BK241)
           (try simp only [hl232000_89] at HO_223000)
           (try simp only [hl232000_89] at HO_242000)
           cases kq with
           | zero => exact absurd HA.out (by simp [laws_FnExactFlowStep.j1])
           | succ kj89 =>
            have H := HA.out; clear HA
            simp only [laws_FnExactFlowStep.j1] at H
            by_cases c125 : x99_89 = true
            ·subst c125
             have H1 : (some false) = some true := by rw [if_pos rfl] at H; exact H
             clear H; have H := H1; clear H1
             exact absurd H (by simp)
            ·replace c125 := Bool.eq_false_iff.mpr c125
             subst c125
             have H1 : ((laws_markBook.f kj89 t235 t238 t239 1).bind fun bt264 => ((laws_heldBook.f kj89 bt264.2 t238 t239 1).bind fun t266 => (if t266 < 0 then (some false) else (if t266 = bt264.1 then ((laws_toInt64S.f kj89 l0).bind fun t267 => ((laws_toBook.f kj89 l1_0 a1_1 a1_2).bind fun bt270 => ((laws_toInt64S.f kj89 l2).bind fun t275 => ((impl_FlowStep.f kj89 t267 bt270.1 bt270.2.1 bt270.2.2 t275).bind fun bt278 => ((laws_eqBook.f kj89 bt278.1 bt278.2.1 bt278.2.2.1 t216 t219 t220).bind fun t285 => (if t285 = true then (laws_FnExactFlowStep.j2 kj89 bt264.1 (bt278.2.2.2 != t221) bt264.2 t238 t239) else (laws_FnExactFlowStep.j2 kj89 bt264.1 true bt264.2 t238 t239))))))) else (some false))))) = some true := by rw [if_neg (show ¬ (false = true) by decide)] at H; exact H
             clear H; have H := H1; clear H1; replace H := Option.bind_eq_some_iff.mp H
             obtain ⟨⟨t264, t265⟩, A1260, H⟩ := H
             replace H : ((laws_heldBook.f kj89 t265 t238 t239 1).bind fun t266 => (if t266 < 0 then (some false) else (if t266 = t264 then ((laws_toInt64S.f kj89 l0).bind fun t267 => ((laws_toBook.f kj89 l1_0 a1_1 a1_2).bind fun bt270 => ((laws_toInt64S.f kj89 l2).bind fun t275 => ((impl_FlowStep.f kj89 t267 bt270.1 bt270.2.1 bt270.2.2 t275).bind fun bt278 => ((laws_eqBook.f kj89 bt278.1 bt278.2.1 bt278.2.2.1 t216 t219 t220).bind fun t285 => (if t285 = true then (laws_FnExactFlowStep.j2 kj89 t264 (bt278.2.2.2 != t221) t265 t238 t239) else (laws_FnExactFlowStep.j2 kj89 t264 true t265 t238 t239))))))) else (some false)))) = some true := H
             have A126 := Aside0.mk A1260; clear A1260; replace H := Option.bind_eq_some_iff.mp H
             obtain ⟨t266, A1270, H⟩ := H
             replace H : (if t266 < 0 then (some false) else (if t266 = t264 then ((laws_toInt64S.f kj89 l0).bind fun t267 => ((laws_toBook.f kj89 l1_0 a1_1 a1_2).bind fun bt270 => ((laws_toInt64S.f kj89 l2).bind fun t275 => ((impl_FlowStep.f kj89 t267 bt270.1 bt270.2.1 bt270.2.2 t275).bind fun bt278 => ((laws_eqBook.f kj89 bt278.1 bt278.2.1 bt278.2.2.1 t216 t219 t220).bind fun t285 => (if t285 = true then (laws_FnExactFlowStep.j2 kj89 t264 (bt278.2.2.2 != t221) t265 t238 t239) else (laws_FnExactFlowStep.j2 kj89 t264 true t265 t238 t239))))))) else (some false))) = some true := H
             have A127 := Aside0.mk A1270; clear A1270
             by_cases c128 : t266 < 0
             ·rw [if_pos c128] at H
              have c128b0 : decide (t266 < 0) = true := decide_eq_true c128
              clear c128
              exact absurd H (by simp)
             ·rw [if_neg c128] at H
              have c128b0 : decide (t266 < 0) = false := decide_eq_false c128
              clear c128
              by_cases c129 : t266 = t264
              ·rw [if_pos c129] at H
               have c129b0 : (t266 == t264) = true := beq_iff_eq.mpr c129
               have c129b1 : (t266 != t264) = false := bne_eq_false_iff_eq.mpr c129
               clear c129; replace H := Option.bind_eq_some_iff.mp H
               obtain ⟨t267, A1300, H⟩ := H
               replace H : ((laws_toBook.f kj89 l1_0 a1_1 a1_2).bind fun bt270 => ((laws_toInt64S.f kj89 l2).bind fun t275 => ((impl_FlowStep.f kj89 t267 bt270.1 bt270.2.1 bt270.2.2 t275).bind fun bt278 => ((laws_eqBook.f kj89 bt278.1 bt278.2.1 bt278.2.2.1 t216 t219 t220).bind fun t285 => (if t285 = true then (laws_FnExactFlowStep.j2 kj89 t264 (bt278.2.2.2 != t221) t265 t238 t239) else (laws_FnExactFlowStep.j2 kj89 t264 true t265 t238 t239)))))) = some true := H
               have A130 := Aside0.mk A1300; clear A1300; replace H := Option.bind_eq_some_iff.mp H
               obtain ⟨⟨t270, t273, t274⟩, A1310, H⟩ := H
               replace H : ((laws_toInt64S.f kj89 l2).bind fun t275 => ((impl_FlowStep.f kj89 t267 t270 t273 t274 t275).bind fun bt278 => ((laws_eqBook.f kj89 bt278.1 bt278.2.1 bt278.2.2.1 t216 t219 t220).bind fun t285 => (if t285 = true then (laws_FnExactFlowStep.j2 kj89 t264 (bt278.2.2.2 != t221) t265 t238 t239) else (laws_FnExactFlowStep.j2 kj89 t264 true t265 t238 t239))))) = some true := H
               have A131 := Aside0.mk A1310; clear A1310; replace H := Option.bind_eq_some_iff.mp H
               obtain ⟨t275, A1320, H⟩ := H
               replace H : ((impl_FlowStep.f kj89 t267 t270 t273 t274 t275).bind fun bt278 => ((laws_eqBook.f kj89 bt278.1 bt278.2.1 bt278.2.2.1 t216 t219 t220).bind fun t285 => (if t285 = true then (laws_FnExactFlowStep.j2 kj89 t264 (bt278.2.2.2 != t221) t265 t238 t239) else (laws_FnExactFlowStep.j2 kj89 t264 true t265 t238 t239)))) = some true := H
               have A132 := Aside0.mk A1320; clear A1320; replace H := Option.bind_eq_some_iff.mp H
               obtain ⟨⟨t278, t281, t282, t283⟩, A1330, H⟩ := H
               replace H : ((laws_eqBook.f kj89 t278 t281 t282 t216 t219 t220).bind fun t285 => (if t285 = true then (laws_FnExactFlowStep.j2 kj89 t264 (t283 != t221) t265 t238 t239) else (laws_FnExactFlowStep.j2 kj89 t264 true t265 t238 t239))) = some true := H
               have A133 := Aside0.mk A1330; clear A1330; have HC134 := Aside0.mk H; clear H; have hnb135 := NB241_203.out; have hnc135 := NB203_241.out; have hnb136 := NB241_222.out; have hnc136 := NB222_241.out; have hnb137 := NB241_231.out; have hnc137 := NB231_241.out
               have hcz138_0 : wc.cell? ⟨gb241, 0, none⟩ = some (.slice Ao54 t235.length co54) := (blk_cell BK241.out 0).trans rfl
               have hcz138_1 : wc.cell? ⟨gb241, 1, none⟩ = some (.int .i64 t238) := (blk_cell BK241.out 1).trans rfl
               have hcz138_2 : wc.cell? ⟨gb241, 2, none⟩ = some (.int .i64 t239) := (blk_cell BK241.out 2).trans rfl
               have hfz138_0 := blk_frozen BK241.out 0; have hfz138_1 := blk_frozen BK241.out 1; have hfz138_2 := blk_frozen BK241.out 2
               try go_wp2_with (first | ((with_reducible refine gate_callee (f := 17) rfl ?_); refine goesL_ (some 102) rfl rfl Try.func17 (by kernel_rfl) rfl #[.agg #[.slice Ao54 t235.length co54, .int .i64 t238, .int .i64 t239], .int .i64 1] rfl (by (try simp only [List.map_toArray, List.map_cons, List.map_nil]); first | done | rfl | (simp only [List.length_drop, List.length_take]; rfl)) ?_; (with_reducible refine (laws_markBook.calls kj89 (fun k_ => some k_ = (.slice Ao54 t235.length co54 : Value).ownBlock) (.slice Ao54 t235.length co54) t235 t238 t239 1 t264 t265 w _ ?side1 ?side2 A126.out).mono ?_); (case side1 => repeat (first | (with_reducible first | exact HB.out | apply below_alloc | apply pw_below_drewN | apply below_drew1 | refine below_set ?_ GE203.out | refine below_set ?_ GE222.out | refine below_set ?_ GE231.out | refine below_set ?_ GE241.out) | exact HB.out)); (case side2 => exact Kd.R_tight rfl (rT_ HO_242000)); rintro e w139 ⟨rfl, hy0, hb, hkp⟩; refine ⟨_, rfl, ?_⟩; replace HO_223000 := Aside0.mk (rK_ (ok' := fun k_ => some k_ ≠ (.slice Ao44 t260.length co44 : Value).ownBlock ∧ some k_ ≠ (.slice Ao54 t235.length co54 : Value).ownBlock) HO_223000 hkp); replace HO_232000 := Aside0.mk (rK_ (ok' := fun k_ => some k_ ≠ (.slice Ao35 t216.length co35 : Value).ownBlock ∧ some k_ ≠ (.slice Ao54 t235.length co54 : Value).ownBlock) HO_232000 hkp); replace BK203 := Aside0.mk (blk_kept (bT_ BK203) hkp (fun hs_ => (fun e_ => (Kd.R_ne HO_242000.out BK203.out (by decide)) e_) hs_)); replace BK222 := Aside0.mk (blk_kept (bT_ BK222) hkp (fun hs_ => (fun e_ => (Kd.R_ne HO_242000.out BK222.out (by decide)) e_) hs_)); replace BK231 := Aside0.mk (blk_kept (bT_ BK231) hkp (fun hs_ => (fun e_ => (Kd.R_ne HO_242000.out BK231.out (by decide)) e_) hs_)); replace BK241 := Aside0.mk (blk_kept (bT_ BK241) hkp (fun hs_ => (fun e_ => (Kd.R_ne HO_242000.out BK241.out (by decide)) e_) hs_)); replace HO_242000 := Aside0.mk (Kd.R_reok rfl hy0 (fun k_ e_ => HO_242000.out.1 k_ e_)); replace HB := Aside0.mk (hb); (try clear hb); (try clear hkp); (try clear hy0); have hcz140_0 : w139.cell? ⟨gb241, 0, none⟩ = some (.slice Ao54 t235.length co54) := (blk_cell BK241.out 0).trans rfl; have hcz140_1 : w139.cell? ⟨gb241, 1, none⟩ = some (.int .i64 t238) := (blk_cell BK241.out 1).trans rfl; have hcz140_2 : w139.cell? ⟨gb241, 2, none⟩ = some (.int .i64 t239) := (blk_cell BK241.out 2).trans rfl; have hfz140_0 := blk_frozen BK241.out 0; have hfz140_1 := blk_frozen BK241.out 1; have hfz140_2 := blk_frozen BK241.out 2) | ((with_reducible refine gate_callee (f := 18) rfl ?_); refine goesL_ (some 105) rfl rfl Try.func18 (by kernel_rfl) rfl #[.agg #[.slice Ao54 t265.length co54, .int .i64 t238, .int .i64 t239], .int .i64 1] rfl (by (try simp only [List.map_toArray, List.map_cons, List.map_nil]); first | done | (rw [show t265.length = t235.length from (Kd.R_reads' HO_242000.out).1.symm] <;> rfl) | rfl | (simp only [List.length_drop, List.length_take]; rfl)) ?_; (with_reducible refine (laws_heldBook.calls kj89 _ _ t265 t238 t239 1 t266 _ ?side1 ?side2 A127.out).mono ?_); (case side1 => exact rD_ HO_242000); (case side2 => rw [show t265.length = t235.length from (Kd.R_reads' HO_242000.out).1.symm]; exact (Kd.R_reads' HO_242000.out).2.1); rintro e w141 ⟨rfl, hb⟩; refine ⟨_, rfl, ?_⟩; replace HO_223000 := rB_ HO_223000 hb; replace HO_232000 := rB_ HO_232000 hb; replace HO_242000 := rB_ HO_242000 hb; replace BK203 := bB_ BK203 hb; replace BK222 := bB_ BK222 hb; replace BK231 := bB_ BK231 hb; replace BK241 := bB_ BK241 hb; replace HB := bS_ HB hb; (try clear hb); (try clear hb2); (try clear hk); (try clear hi)))
               replace HO_223000 := Aside0.mk (Kd.R_drew HO_223000.out)
               replace HO_232000 := Aside0.mk (Kd.R_drew HO_232000.out)
               replace HO_242000 := Aside0.mk (Kd.R_drew HO_242000.out)
               replace BK203 := Aside0.mk (blk_drew BK203.out)
               replace BK222 := Aside0.mk (blk_drew BK222.out)
               replace BK231 := Aside0.mk (blk_drew BK231.out)
               replace BK241 := Aside0.mk (blk_drew BK241.out)
               replace HB := Aside0.mk (below_drew1 HB.out)
               refine start_ (n := 13) (S := fun w' => w'.cell? ⟨gb203, 0, none⟩ = some (.slice A1_0 l1_0.length c1_0) ∧ w'.cell? ⟨gb203, 1, none⟩ = some (.int .i64 a1_1) ∧ w'.cell? ⟨gb203, 2, none⟩ = some (.int .i64 a1_2)) (ds := []) #[false, false, false, false, false, false, false, false, false, false, false, false, false] (by kernel_rfl) rfl rfl ⟨(blk_cell BK203.out 0).trans rfl, (blk_cell BK203.out 1).trans rfl, (blk_cell BK203.out 2).trans rfl⟩ (fun hHeld => ?_); refine with_tabW laws_FnExactFlowStep.tab36 laws_FnExactFlowStep.bits36 (fun HT_ HW_ => ?_)
               generalize w141.drew = w142 at HO_223000 HO_232000 HO_242000 BK203 BK222 BK231 BK241 HB hHeld ⊢
               refine pure_ (i := 0) (N := some 112) (v := ?_) (a' := ?_) #[true, false, false, false, false, false, false, false, false, false, false, false, false] rfl rfl (any_of HT_.out (by kernel_rfl)) (fun _ _ _ h => h) (Or.inl ⟨by rfl, ?_⟩) ?_ ?_
               rotate_left
               ·intro w'
                go_simp
                with_reducible rfl
               rotate_left
               ·simp only [Act.put, List.setIfInBounds_toArray, List.set_cons_zero, List.set_cons_succ, i64_w, i32_w]
                rfl
               refine pure_ (i := 4) (N := some 116) (v := ?_) (a' := ?_) #[true, false, false, false, true, false, false, false, false, false, false, false, false] rfl rfl (any_of HT_.out (by kernel_rfl)) (fun _ _ _ h => h) (Or.inl ⟨by rfl, ?_⟩) ?_ ?_
               rotate_left
               ·intro w'
                go_simp
                with_reducible rfl
               rotate_left
               ·simp only [Act.put, List.setIfInBounds_toArray, List.set_cons_zero, List.set_cons_succ, i64_w, i32_w]
                rfl
               refine take_ (i := 2) (N := some 114) (v := ?_) (a' := ?_) #[true, false, true, false, true, false, false, false, false, false, false, false, false] rfl rfl (take_ofW HT_.out HW_.out (by kernel_rfl)) (fun _ _ _ h => h) (Or.inl ⟨by rfl, ?_⟩) hHeld ?_ ?_
               rotate_left
               ·rintro w' ⟨s0, s1, s2⟩
                go_simp
                with_reducible rfl
               rotate_left
               ·simp only [Act.put, List.setIfInBounds_toArray, List.set_cons_zero, List.set_cons_succ, i64_w, i32_w]
                rfl
               refine join_ (σ := Value × Value × Value × Value × Nat) 2 #[true, true, true, true, true, true, true, true, true, true, true, false, false] (fun s_ => [(113, s_.1), (115, .agg #[s_.2.1, .int .i64 t273, .int .i64 t274]), (117, s_.2.2.1), (118, .tuple #[.agg #[s_.2.2.2.1, .int .i64 t281, .int .i64 t282], .bool t283]), (18, .pointer (some ⟨s_.2.2.2.2, 0, none⟩)), (111, .tuple #[.agg #[s_.2.2.2.1, .int .i64 t281, .int .i64 t282], .bool t283]), (119, .agg #[s_.2.2.2.1, .int .i64 t281, .int .i64 t282]), (120, .bool t283)]) (fun s_ w' => (w'.cell? ⟨gb203, 0, none⟩ = some (.slice A1_0 l1_0.length c1_0) ∧ w'.cell? ⟨gb203, 1, none⟩ = some (.int .i64 a1_1) ∧ w'.cell? ⟨gb203, 2, none⟩ = some (.int .i64 a1_2)) ∧ (Kd.R (Kd.int .i64) 2 w' w.heap.size (fun k_ => some k_ ≠ (s_.2.1 : Value).ownBlock ∧ some k_ ≠ (s_.2.2.1 : Value).ownBlock ∧ some k_ ≠ (s_.2.2.2.1 : Value).ownBlock ∧ some k_ ≠ (.slice Ao35 t216.length co35 : Value).ownBlock ∧ some k_ ≠ (.slice Ao44 t260.length co44 : Value).ownBlock ∧ some k_ ≠ (.slice Ao54 t235.length co54 : Value).ownBlock) s_.1 t267) ∧ (Kd.R (Kd.int .i64) 2 w' w.heap.size (fun k_ => some k_ ≠ (s_.1 : Value).ownBlock ∧ some k_ ≠ (s_.2.2.1 : Value).ownBlock ∧ some k_ ≠ (s_.2.2.2.1 : Value).ownBlock ∧ some k_ ≠ (.slice Ao35 t216.length co35 : Value).ownBlock ∧ some k_ ≠ (.slice Ao44 t260.length co44 : Value).ownBlock ∧ some k_ ≠ (.slice Ao54 t235.length co54 : Value).ownBlock) s_.2.1 t270) ∧ (Kd.R (Kd.int .i64) 2 w' w.heap.size (fun k_ => some k_ ≠ (s_.1 : Value).ownBlock ∧ some k_ ≠ (s_.2.1 : Value).ownBlock ∧ some k_ ≠ (s_.2.2.2.1 : Value).ownBlock ∧ some k_ ≠ (.slice Ao35 t216.length co35 : Value).ownBlock ∧ some k_ ≠ (.slice Ao44 t260.length co44 : Value).ownBlock ∧ some k_ ≠ (.slice Ao54 t235.length co54 : Value).ownBlock) s_.2.2.1 t275) ∧ (Kd.R (Kd.int .i64) 2 w' w.heap.size (fun k_ => some k_ ≠ (s_.1 : Value).ownBlock ∧ some k_ ≠ (s_.2.1 : Value).ownBlock ∧ some k_ ≠ (s_.2.2.1 : Value).ownBlock ∧ some k_ ≠ (.slice Ao35 t216.length co35 : Value).ownBlock ∧ some k_ ≠ (.slice Ao44 t260.length co44 : Value).ownBlock ∧ some k_ ≠ (.slice Ao54 t235.length co54 : Value).ownBlock) s_.2.2.2.1 t278) ∧ (Kd.R (Kd.int .i64) 2 w' w.heap.size (fun k_ => some k_ ≠ (s_.1 : Value).ownBlock ∧ some k_ ≠ (s_.2.1 : Value).ownBlock ∧ some k_ ≠ (s_.2.2.1 : Value).ownBlock ∧ some k_ ≠ (s_.2.2.2.1 : Value).ownBlock ∧ some k_ ≠ (.slice Ao44 t260.length co44 : Value).ownBlock ∧ some k_ ≠ (.slice Ao54 t235.length co54 : Value).ownBlock) (.slice Ao35 t216.length co35) t216) ∧ (Kd.R (Kd.int .i64) 2 w' w.heap.size (fun k_ => some k_ ≠ (s_.1 : Value).ownBlock ∧ some k_ ≠ (s_.2.1 : Value).ownBlock ∧ some k_ ≠ (s_.2.2.1 : Value).ownBlock ∧ some k_ ≠ (s_.2.2.2.1 : Value).ownBlock ∧ some k_ ≠ (.slice Ao35 t216.length co35 : Value).ownBlock ∧ some k_ ≠ (.slice Ao54 t235.length co54 : Value).ownBlock) (.slice Ao44 t260.length co44) t260) ∧ (Kd.R (Kd.int .i64) 2 w' w.heap.size (fun k_ => some k_ ≠ (s_.1 : Value).ownBlock ∧ some k_ ≠ (s_.2.1 : Value).ownBlock ∧ some k_ ≠ (s_.2.2.1 : Value).ownBlock ∧ some k_ ≠ (s_.2.2.2.1 : Value).ownBlock ∧ some k_ ≠ (.slice Ao35 t216.length co35 : Value).ownBlock ∧ some k_ ≠ (.slice Ao44 t260.length co44 : Value).ownBlock) (.slice Ao54 t235.length co54) t265) ∧ (w'.heap[gb203]? = some (.cells #[.slice A1_0 l1_0.length c1_0, .int .i64 a1_1, .int .i64 a1_2] 24 (0, 0))) ∧ (w'.heap[gb222]? = some (.cells #[.slice Ao35 t216.length co35, .int .i64 t219, .int .i64 t220] 26 (0, 0))) ∧ (w'.heap[gb231]? = some (.cells #[.slice Ao44 t260.length co44, .int .i64 t229, .int .i64 t230] 26 (0, 0))) ∧ (w'.heap[gb241]? = some (.cells #[.slice Ao54 t235.length co54, .int .i64 t238, .int .i64 t239] 26 (0, 0))) ∧ (w'.heap[s_.2.2.2.2]? = some (.cells #[.slice none 0 0, .int .i64 0, .int .i64 0] 26 (0, 0))) ∧ (w.heap.size ≤ s_.2.2.2.2) ∧ (w.heap.size ≤ s_.2.2.2.2) ∧ (gb203 ≠ s_.2.2.2.2) ∧ (s_.2.2.2.2 ≠ gb203) ∧ (gb222 ≠ s_.2.2.2.2) ∧ (s_.2.2.2.2 ≠ gb222) ∧ (gb231 ≠ s_.2.2.2.2) ∧ (s_.2.2.2.2 ≠ gb231) ∧ (gb241 ≠ s_.2.2.2.2) ∧ (s_.2.2.2.2 ≠ gb241) ∧ (Below w.heap.size w w')) ?_ ?_
               rotate_left
               ·intro hJ1_3_5_6_10
                refine join_ (σ := Value × Value × Value × Value) 3 #[true, true, true, true, true, true, true, true, true, true, false, false, false] (fun s_ => [(113, s_.1), (115, .agg #[s_.2.1, .int .i64 t273, .int .i64 t274]), (117, s_.2.2.1), (118, .tuple #[.agg #[s_.2.2.2, .int .i64 t281, .int .i64 t282], .bool t283]), (111, .tuple #[.agg #[s_.2.2.2, .int .i64 t281, .int .i64 t282], .bool t283]), (119, .agg #[s_.2.2.2, .int .i64 t281, .int .i64 t282]), (120, .bool t283)]) (fun s_ w' => (w'.cell? ⟨gb203, 0, none⟩ = some (.slice A1_0 l1_0.length c1_0) ∧ w'.cell? ⟨gb203, 1, none⟩ = some (.int .i64 a1_1) ∧ w'.cell? ⟨gb203, 2, none⟩ = some (.int .i64 a1_2)) ∧ (Kd.R (Kd.int .i64) 2 w' w.heap.size (fun k_ => some k_ ≠ (s_.2.1 : Value).ownBlock ∧ some k_ ≠ (s_.2.2.1 : Value).ownBlock ∧ some k_ ≠ (s_.2.2.2 : Value).ownBlock ∧ some k_ ≠ (.slice Ao35 t216.length co35 : Value).ownBlock ∧ some k_ ≠ (.slice Ao44 t260.length co44 : Value).ownBlock ∧ some k_ ≠ (.slice Ao54 t235.length co54 : Value).ownBlock) s_.1 t267) ∧ (Kd.R (Kd.int .i64) 2 w' w.heap.size (fun k_ => some k_ ≠ (s_.1 : Value).ownBlock ∧ some k_ ≠ (s_.2.2.1 : Value).ownBlock ∧ some k_ ≠ (s_.2.2.2 : Value).ownBlock ∧ some k_ ≠ (.slice Ao35 t216.length co35 : Value).ownBlock ∧ some k_ ≠ (.slice Ao44 t260.length co44 : Value).ownBlock ∧ some k_ ≠ (.slice Ao54 t235.length co54 : Value).ownBlock) s_.2.1 t270) ∧ (Kd.R (Kd.int .i64) 2 w' w.heap.size (fun k_ => some k_ ≠ (s_.1 : Value).ownBlock ∧ some k_ ≠ (s_.2.1 : Value).ownBlock ∧ some k_ ≠ (s_.2.2.2 : Value).ownBlock ∧ some k_ ≠ (.slice Ao35 t216.length co35 : Value).ownBlock ∧ some k_ ≠ (.slice Ao44 t260.length co44 : Value).ownBlock ∧ some k_ ≠ (.slice Ao54 t235.length co54 : Value).ownBlock) s_.2.2.1 t275) ∧ (Kd.R (Kd.int .i64) 2 w' w.heap.size (fun k_ => some k_ ≠ (s_.1 : Value).ownBlock ∧ some k_ ≠ (s_.2.1 : Value).ownBlock ∧ some k_ ≠ (s_.2.2.1 : Value).ownBlock ∧ some k_ ≠ (.slice Ao35 t216.length co35 : Value).ownBlock ∧ some k_ ≠ (.slice Ao44 t260.length co44 : Value).ownBlock ∧ some k_ ≠ (.slice Ao54 t235.length co54 : Value).ownBlock) s_.2.2.2 t278) ∧ (Kd.R (Kd.int .i64) 2 w' w.heap.size (fun k_ => some k_ ≠ (s_.1 : Value).ownBlock ∧ some k_ ≠ (s_.2.1 : Value).ownBlock ∧ some k_ ≠ (s_.2.2.1 : Value).ownBlock ∧ some k_ ≠ (s_.2.2.2 : Value).ownBlock ∧ some k_ ≠ (.slice Ao44 t260.length co44 : Value).ownBlock ∧ some k_ ≠ (.slice Ao54 t235.length co54 : Value).ownBlock) (.slice Ao35 t216.length co35) t216) ∧ (Kd.R (Kd.int .i64) 2 w' w.heap.size (fun k_ => some k_ ≠ (s_.1 : Value).ownBlock ∧ some k_ ≠ (s_.2.1 : Value).ownBlock ∧ some k_ ≠ (s_.2.2.1 : Value).ownBlock ∧ some k_ ≠ (s_.2.2.2 : Value).ownBlock ∧ some k_ ≠ (.slice Ao35 t216.length co35 : Value).ownBlock ∧ some k_ ≠ (.slice Ao54 t235.length co54 : Value).ownBlock) (.slice Ao44 t260.length co44) t260) ∧ (Kd.R (Kd.int .i64) 2 w' w.heap.size (fun k_ => some k_ ≠ (s_.1 : Value).ownBlock ∧ some k_ ≠ (s_.2.1 : Value).ownBlock ∧ some k_ ≠ (s_.2.2.1 : Value).ownBlock ∧ some k_ ≠ (s_.2.2.2 : Value).ownBlock ∧ some k_ ≠ (.slice Ao35 t216.length co35 : Value).ownBlock ∧ some k_ ≠ (.slice Ao44 t260.length co44 : Value).ownBlock) (.slice Ao54 t235.length co54) t265) ∧ (w'.heap[gb203]? = some (.cells #[.slice A1_0 l1_0.length c1_0, .int .i64 a1_1, .int .i64 a1_2] 24 (0, 0))) ∧ (w'.heap[gb222]? = some (.cells #[.slice Ao35 t216.length co35, .int .i64 t219, .int .i64 t220] 26 (0, 0))) ∧ (w'.heap[gb231]? = some (.cells #[.slice Ao44 t260.length co44, .int .i64 t229, .int .i64 t230] 26 (0, 0))) ∧ (w'.heap[gb241]? = some (.cells #[.slice Ao54 t235.length co54, .int .i64 t238, .int .i64 t239] 26 (0, 0))) ∧ (Below w.heap.size w w')) ?_ ?_
                rotate_left
                ·intro hJ1_3_5_6
                 refine join_ (σ := Value × Value × Value × Nat) 6 #[true, true, true, true, true, true, false, false, false, false, true, false, false] (fun s_ => [(113, s_.1), (115, .agg #[s_.2.1, .int .i64 t273, .int .i64 t274]), (117, s_.2.2.1), (18, .pointer (some ⟨s_.2.2.2, 0, none⟩))]) (fun s_ w' => (w'.cell? ⟨gb203, 0, none⟩ = some (.slice A1_0 l1_0.length c1_0) ∧ w'.cell? ⟨gb203, 1, none⟩ = some (.int .i64 a1_1) ∧ w'.cell? ⟨gb203, 2, none⟩ = some (.int .i64 a1_2)) ∧ (Kd.R (Kd.int .i64) 2 w' w.heap.size (fun k_ => some k_ ≠ (s_.2.1 : Value).ownBlock ∧ some k_ ≠ (s_.2.2.1 : Value).ownBlock ∧ some k_ ≠ (.slice Ao35 t216.length co35 : Value).ownBlock ∧ some k_ ≠ (.slice Ao44 t260.length co44 : Value).ownBlock ∧ some k_ ≠ (.slice Ao54 t235.length co54 : Value).ownBlock) s_.1 t267) ∧ (Kd.R (Kd.int .i64) 2 w' w.heap.size (fun k_ => some k_ ≠ (s_.1 : Value).ownBlock ∧ some k_ ≠ (s_.2.2.1 : Value).ownBlock ∧ some k_ ≠ (.slice Ao35 t216.length co35 : Value).ownBlock ∧ some k_ ≠ (.slice Ao44 t260.length co44 : Value).ownBlock ∧ some k_ ≠ (.slice Ao54 t235.length co54 : Value).ownBlock) s_.2.1 t270) ∧ (Kd.R (Kd.int .i64) 2 w' w.heap.size (fun k_ => some k_ ≠ (s_.1 : Value).ownBlock ∧ some k_ ≠ (s_.2.1 : Value).ownBlock ∧ some k_ ≠ (.slice Ao35 t216.length co35 : Value).ownBlock ∧ some k_ ≠ (.slice Ao44 t260.length co44 : Value).ownBlock ∧ some k_ ≠ (.slice Ao54 t235.length co54 : Value).ownBlock) s_.2.2.1 t275) ∧ (Kd.R (Kd.int .i64) 2 w' w.heap.size (fun k_ => some k_ ≠ (s_.1 : Value).ownBlock ∧ some k_ ≠ (s_.2.1 : Value).ownBlock ∧ some k_ ≠ (s_.2.2.1 : Value).ownBlock ∧ some k_ ≠ (.slice Ao44 t260.length co44 : Value).ownBlock ∧ some k_ ≠ (.slice Ao54 t235.length co54 : Value).ownBlock) (.slice Ao35 t216.length co35) t216) ∧ (Kd.R (Kd.int .i64) 2 w' w.heap.size (fun k_ => some k_ ≠ (s_.1 : Value).ownBlock ∧ some k_ ≠ (s_.2.1 : Value).ownBlock ∧ some k_ ≠ (s_.2.2.1 : Value).ownBlock ∧ some k_ ≠ (.slice Ao35 t216.length co35 : Value).ownBlock ∧ some k_ ≠ (.slice Ao54 t235.length co54 : Value).ownBlock) (.slice Ao44 t260.length co44) t260) ∧ (Kd.R (Kd.int .i64) 2 w' w.heap.size (fun k_ => some k_ ≠ (s_.1 : Value).ownBlock ∧ some k_ ≠ (s_.2.1 : Value).ownBlock ∧ some k_ ≠ (s_.2.2.1 : Value).ownBlock ∧ some k_ ≠ (.slice Ao35 t216.length co35 : Value).ownBlock ∧ some k_ ≠ (.slice Ao44 t260.length co44 : Value).ownBlock) (.slice Ao54 t235.length co54) t265) ∧ (w'.heap[gb203]? = some (.cells #[.slice A1_0 l1_0.length c1_0, .int .i64 a1_1, .int .i64 a1_2] 24 (0, 0))) ∧ (w'.heap[gb222]? = some (.cells #[.slice Ao35 t216.length co35, .int .i64 t219, .int .i64 t220] 26 (0, 0))) ∧ (w'.heap[gb231]? = some (.cells #[.slice Ao44 t260.length co44, .int .i64 t229, .int .i64 t230] 26 (0, 0))) ∧ (w'.heap[gb241]? = some (.cells #[.slice Ao54 t235.length co54, .int .i64 t238, .int .i64 t239] 26 (0, 0))) ∧ (w'.heap[s_.2.2.2]? = some (.cells #[.slice none 0 0, .int .i64 0, .int .i64 0] 26 (0, 0))) ∧ (w.heap.size ≤ s_.2.2.2) ∧ (w.heap.size ≤ s_.2.2.2) ∧ (gb203 ≠ s_.2.2.2) ∧ (s_.2.2.2 ≠ gb203) ∧ (gb222 ≠ s_.2.2.2) ∧ (s_.2.2.2 ≠ gb222) ∧ (gb231 ≠ s_.2.2.2) ∧ (s_.2.2.2 ≠ gb231) ∧ (gb241 ≠ s_.2.2.2) ∧ (s_.2.2.2 ≠ gb241) ∧ (Below w.heap.size w w')) ?_ ?_
                 rotate_left
                 ·intro hJ1_3_5_10
                  refine join_ (σ := Value × Value × Value) 7 #[true, true, true, true, true, true, false, false, false, false, false, false, false] (fun s_ => [(113, s_.1), (115, .agg #[s_.2.1, .int .i64 t273, .int .i64 t274]), (117, s_.2.2)]) (fun s_ w' => (w'.cell? ⟨gb203, 0, none⟩ = some (.slice A1_0 l1_0.length c1_0) ∧ w'.cell? ⟨gb203, 1, none⟩ = some (.int .i64 a1_1) ∧ w'.cell? ⟨gb203, 2, none⟩ = some (.int .i64 a1_2)) ∧ (Kd.R (Kd.int .i64) 2 w' w.heap.size (fun k_ => some k_ ≠ (s_.2.1 : Value).ownBlock ∧ some k_ ≠ (s_.2.2 : Value).ownBlock ∧ some k_ ≠ (.slice Ao35 t216.length co35 : Value).ownBlock ∧ some k_ ≠ (.slice Ao44 t260.length co44 : Value).ownBlock ∧ some k_ ≠ (.slice Ao54 t235.length co54 : Value).ownBlock) s_.1 t267) ∧ (Kd.R (Kd.int .i64) 2 w' w.heap.size (fun k_ => some k_ ≠ (s_.1 : Value).ownBlock ∧ some k_ ≠ (s_.2.2 : Value).ownBlock ∧ some k_ ≠ (.slice Ao35 t216.length co35 : Value).ownBlock ∧ some k_ ≠ (.slice Ao44 t260.length co44 : Value).ownBlock ∧ some k_ ≠ (.slice Ao54 t235.length co54 : Value).ownBlock) s_.2.1 t270) ∧ (Kd.R (Kd.int .i64) 2 w' w.heap.size (fun k_ => some k_ ≠ (s_.1 : Value).ownBlock ∧ some k_ ≠ (s_.2.1 : Value).ownBlock ∧ some k_ ≠ (.slice Ao35 t216.length co35 : Value).ownBlock ∧ some k_ ≠ (.slice Ao44 t260.length co44 : Value).ownBlock ∧ some k_ ≠ (.slice Ao54 t235.length co54 : Value).ownBlock) s_.2.2 t275) ∧ (Kd.R (Kd.int .i64) 2 w' w.heap.size (fun k_ => some k_ ≠ (s_.1 : Value).ownBlock ∧ some k_ ≠ (s_.2.1 : Value).ownBlock ∧ some k_ ≠ (s_.2.2 : Value).ownBlock ∧ some k_ ≠ (.slice Ao44 t260.length co44 : Value).ownBlock ∧ some k_ ≠ (.slice Ao54 t235.length co54 : Value).ownBlock) (.slice Ao35 t216.length co35) t216) ∧ (Kd.R (Kd.int .i64) 2 w' w.heap.size (fun k_ => some k_ ≠ (s_.1 : Value).ownBlock ∧ some k_ ≠ (s_.2.1 : Value).ownBlock ∧ some k_ ≠ (s_.2.2 : Value).ownBlock ∧ some k_ ≠ (.slice Ao35 t216.length co35 : Value).ownBlock ∧ some k_ ≠ (.slice Ao54 t235.length co54 : Value).ownBlock) (.slice Ao44 t260.length co44) t260) ∧ (Kd.R (Kd.int .i64) 2 w' w.heap.size (fun k_ => some k_ ≠ (s_.1 : Value).ownBlock ∧ some k_ ≠ (s_.2.1 : Value).ownBlock ∧ some k_ ≠ (s_.2.2 : Value).ownBlock ∧ some k_ ≠ (.slice Ao35 t216.length co35 : Value).ownBlock ∧ some k_ ≠ (.slice Ao44 t260.length co44 : Value).ownBlock) (.slice Ao54 t235.length co54) t265) ∧ (w'.heap[gb203]? = some (.cells #[.slice A1_0 l1_0.length c1_0, .int .i64 a1_1, .int .i64 a1_2] 24 (0, 0))) ∧ (w'.heap[gb222]? = some (.cells #[.slice Ao35 t216.length co35, .int .i64 t219, .int .i64 t220] 26 (0, 0))) ∧ (w'.heap[gb231]? = some (.cells #[.slice Ao44 t260.length co44, .int .i64 t229, .int .i64 t230] 26 (0, 0))) ∧ (w'.heap[gb241]? = some (.cells #[.slice Ao54 t235.length co54, .int .i64 t238, .int .i64 t239] 26 (0, 0))) ∧ (Below w.heap.size w w')) ?_ ?_
                  rotate_left
                  ·intro hJ1_3_5
                   refine join_ (σ := Value × Value × Nat) 7 #[true, true, true, true, true, false, false, false, false, false, true, false, false] (fun s_ => [(113, s_.1), (115, .agg #[s_.2.1, .int .i64 t273, .int .i64 t274]), (18, .pointer (some ⟨s_.2.2, 0, none⟩))]) (fun s_ w' => (w'.cell? ⟨gb203, 0, none⟩ = some (.slice A1_0 l1_0.length c1_0) ∧ w'.cell? ⟨gb203, 1, none⟩ = some (.int .i64 a1_1) ∧ w'.cell? ⟨gb203, 2, none⟩ = some (.int .i64 a1_2)) ∧ (Kd.R (Kd.int .i64) 2 w' w.heap.size (fun k_ => some k_ ≠ (s_.2.1 : Value).ownBlock ∧ some k_ ≠ (.slice Ao35 t216.length co35 : Value).ownBlock ∧ some k_ ≠ (.slice Ao44 t260.length co44 : Value).ownBlock ∧ some k_ ≠ (.slice Ao54 t235.length co54 : Value).ownBlock) s_.1 t267) ∧ (Kd.R (Kd.int .i64) 2 w' w.heap.size (fun k_ => some k_ ≠ (s_.1 : Value).ownBlock ∧ some k_ ≠ (.slice Ao35 t216.length co35 : Value).ownBlock ∧ some k_ ≠ (.slice Ao44 t260.length co44 : Value).ownBlock ∧ some k_ ≠ (.slice Ao54 t235.length co54 : Value).ownBlock) s_.2.1 t270) ∧ (Kd.R (Kd.int .i64) 2 w' w.heap.size (fun k_ => some k_ ≠ (s_.1 : Value).ownBlock ∧ some k_ ≠ (s_.2.1 : Value).ownBlock ∧ some k_ ≠ (.slice Ao44 t260.length co44 : Value).ownBlock ∧ some k_ ≠ (.slice Ao54 t235.length co54 : Value).ownBlock) (.slice Ao35 t216.length co35) t216) ∧ (Kd.R (Kd.int .i64) 2 w' w.heap.size (fun k_ => some k_ ≠ (s_.1 : Value).ownBlock ∧ some k_ ≠ (s_.2.1 : Value).ownBlock ∧ some k_ ≠ (.slice Ao35 t216.length co35 : Value).ownBlock ∧ some k_ ≠ (.slice Ao54 t235.length co54 : Value).ownBlock) (.slice Ao44 t260.length co44) t260) ∧ (Kd.R (Kd.int .i64) 2 w' w.heap.size (fun k_ => some k_ ≠ (s_.1 : Value).ownBlock ∧ some k_ ≠ (s_.2.1 : Value).ownBlock ∧ some k_ ≠ (.slice Ao35 t216.length co35 : Value).ownBlock ∧ some k_ ≠ (.slice Ao44 t260.length co44 : Value).ownBlock) (.slice Ao54 t235.length co54) t265) ∧ (w'.heap[gb203]? = some (.cells #[.slice A1_0 l1_0.length c1_0, .int .i64 a1_1, .int .i64 a1_2] 24 (0, 0))) ∧ (w'.heap[gb222]? = some (.cells #[.slice Ao35 t216.length co35, .int .i64 t219, .int .i64 t220] 26 (0, 0))) ∧ (w'.heap[gb231]? = some (.cells #[.slice Ao44 t260.length co44, .int .i64 t229, .int .i64 t230] 26 (0, 0))) ∧ (w'.heap[gb241]? = some (.cells #[.slice Ao54 t235.length co54, .int .i64 t238, .int .i64 t239] 26 (0, 0))) ∧ (w'.heap[s_.2.2]? = some (.cells #[.slice none 0 0, .int .i64 0, .int .i64 0] 26 (0, 0))) ∧ (w.heap.size ≤ s_.2.2) ∧ (w.heap.size ≤ s_.2.2) ∧ (gb203 ≠ s_.2.2) ∧ (s_.2.2 ≠ gb203) ∧ (gb222 ≠ s_.2.2) ∧ (s_.2.2 ≠ gb222) ∧ (gb231 ≠ s_.2.2) ∧ (s_.2.2 ≠ gb231) ∧ (gb241 ≠ s_.2.2) ∧ (s_.2.2 ≠ gb241) ∧ (Below w.heap.size w w')) ?_ ?_
                   rotate_left
                   ·intro hJ1_3_10
                    refine join_ (σ := Value × Value) 8 #[true, true, true, true, true, false, false, false, false, false, false, false, false] (fun s_ => [(113, s_.1), (115, .agg #[s_.2, .int .i64 t273, .int .i64 t274])]) (fun s_ w' => (w'.cell? ⟨gb203, 0, none⟩ = some (.slice A1_0 l1_0.length c1_0) ∧ w'.cell? ⟨gb203, 1, none⟩ = some (.int .i64 a1_1) ∧ w'.cell? ⟨gb203, 2, none⟩ = some (.int .i64 a1_2)) ∧ (Kd.R (Kd.int .i64) 2 w' w.heap.size (fun k_ => some k_ ≠ (s_.2 : Value).ownBlock ∧ some k_ ≠ (.slice Ao35 t216.length co35 : Value).ownBlock ∧ some k_ ≠ (.slice Ao44 t260.length co44 : Value).ownBlock ∧ some k_ ≠ (.slice Ao54 t235.length co54 : Value).ownBlock) s_.1 t267) ∧ (Kd.R (Kd.int .i64) 2 w' w.heap.size (fun k_ => some k_ ≠ (s_.1 : Value).ownBlock ∧ some k_ ≠ (.slice Ao35 t216.length co35 : Value).ownBlock ∧ some k_ ≠ (.slice Ao44 t260.length co44 : Value).ownBlock ∧ some k_ ≠ (.slice Ao54 t235.length co54 : Value).ownBlock) s_.2 t270) ∧ (Kd.R (Kd.int .i64) 2 w' w.heap.size (fun k_ => some k_ ≠ (s_.1 : Value).ownBlock ∧ some k_ ≠ (s_.2 : Value).ownBlock ∧ some k_ ≠ (.slice Ao44 t260.length co44 : Value).ownBlock ∧ some k_ ≠ (.slice Ao54 t235.length co54 : Value).ownBlock) (.slice Ao35 t216.length co35) t216) ∧ (Kd.R (Kd.int .i64) 2 w' w.heap.size (fun k_ => some k_ ≠ (s_.1 : Value).ownBlock ∧ some k_ ≠ (s_.2 : Value).ownBlock ∧ some k_ ≠ (.slice Ao35 t216.length co35 : Value).ownBlock ∧ some k_ ≠ (.slice Ao54 t235.length co54 : Value).ownBlock) (.slice Ao44 t260.length co44) t260) ∧ (Kd.R (Kd.int .i64) 2 w' w.heap.size (fun k_ => some k_ ≠ (s_.1 : Value).ownBlock ∧ some k_ ≠ (s_.2 : Value).ownBlock ∧ some k_ ≠ (.slice Ao35 t216.length co35 : Value).ownBlock ∧ some k_ ≠ (.slice Ao44 t260.length co44 : Value).ownBlock) (.slice Ao54 t235.length co54) t265) ∧ (w'.heap[gb203]? = some (.cells #[.slice A1_0 l1_0.length c1_0, .int .i64 a1_1, .int .i64 a1_2] 24 (0, 0))) ∧ (w'.heap[gb222]? = some (.cells #[.slice Ao35 t216.length co35, .int .i64 t219, .int .i64 t220] 26 (0, 0))) ∧ (w'.heap[gb231]? = some (.cells #[.slice Ao44 t260.length co44, .int .i64 t229, .int .i64 t230] 26 (0, 0))) ∧ (w'.heap[gb241]? = some (.cells #[.slice Ao54 t235.length co54, .int .i64 t238, .int .i64 t239] 26 (0, 0))) ∧ (Below w.heap.size w w')) ?_ ?_
                    rotate_left
                    ·intro hJ1_3
                     refine join_ (σ := Value × Nat) 8 #[true, true, true, false, true, false, false, false, false, false, true, false, false] (fun s_ => [(113, s_.1), (18, .pointer (some ⟨s_.2, 0, none⟩))]) (fun s_ w' => (w'.cell? ⟨gb203, 0, none⟩ = some (.slice A1_0 l1_0.length c1_0) ∧ w'.cell? ⟨gb203, 1, none⟩ = some (.int .i64 a1_1) ∧ w'.cell? ⟨gb203, 2, none⟩ = some (.int .i64 a1_2)) ∧ (Kd.R (Kd.int .i64) 2 w' w.heap.size (fun k_ => some k_ ≠ (.slice Ao35 t216.length co35 : Value).ownBlock ∧ some k_ ≠ (.slice Ao44 t260.length co44 : Value).ownBlock ∧ some k_ ≠ (.slice Ao54 t235.length co54 : Value).ownBlock) s_.1 t267) ∧ (Kd.R (Kd.int .i64) 2 w' w.heap.size (fun k_ => some k_ ≠ (s_.1 : Value).ownBlock ∧ some k_ ≠ (.slice Ao44 t260.length co44 : Value).ownBlock ∧ some k_ ≠ (.slice Ao54 t235.length co54 : Value).ownBlock) (.slice Ao35 t216.length co35) t216) ∧ (Kd.R (Kd.int .i64) 2 w' w.heap.size (fun k_ => some k_ ≠ (s_.1 : Value).ownBlock ∧ some k_ ≠ (.slice Ao35 t216.length co35 : Value).ownBlock ∧ some k_ ≠ (.slice Ao54 t235.length co54 : Value).ownBlock) (.slice Ao44 t260.length co44) t260) ∧ (Kd.R (Kd.int .i64) 2 w' w.heap.size (fun k_ => some k_ ≠ (s_.1 : Value).ownBlock ∧ some k_ ≠ (.slice Ao35 t216.length co35 : Value).ownBlock ∧ some k_ ≠ (.slice Ao44 t260.length co44 : Value).ownBlock) (.slice Ao54 t235.length co54) t265) ∧ (w'.heap[gb203]? = some (.cells #[.slice A1_0 l1_0.length c1_0, .int .i64 a1_1, .int .i64 a1_2] 24 (0, 0))) ∧ (w'.heap[gb222]? = some (.cells #[.slice Ao35 t216.length co35, .int .i64 t219, .int .i64 t220] 26 (0, 0))) ∧ (w'.heap[gb231]? = some (.cells #[.slice Ao44 t260.length co44, .int .i64 t229, .int .i64 t230] 26 (0, 0))) ∧ (w'.heap[gb241]? = some (.cells #[.slice Ao54 t235.length co54, .int .i64 t238, .int .i64 t239] 26 (0, 0))) ∧ (w'.heap[s_.2]? = some (.cells #[.slice none 0 0, .int .i64 0, .int .i64 0] 26 (0, 0))) ∧ (w.heap.size ≤ s_.2) ∧ (w.heap.size ≤ s_.2) ∧ (gb203 ≠ s_.2) ∧ (s_.2 ≠ gb203) ∧ (gb222 ≠ s_.2) ∧ (s_.2 ≠ gb222) ∧ (gb231 ≠ s_.2) ∧ (s_.2 ≠ gb231) ∧ (gb241 ≠ s_.2) ∧ (s_.2 ≠ gb241) ∧ (Below w.heap.size w w')) ?_ ?_
                     rotate_left
                     ·intro hJ1_10
                      refine join_ (σ := Value) 9 #[true, true, true, false, true, false, false, false, false, false, false, false, false] (fun s_ => [(113, s_)]) (fun s_ w' => (w'.cell? ⟨gb203, 0, none⟩ = some (.slice A1_0 l1_0.length c1_0) ∧ w'.cell? ⟨gb203, 1, none⟩ = some (.int .i64 a1_1) ∧ w'.cell? ⟨gb203, 2, none⟩ = some (.int .i64 a1_2)) ∧ (Kd.R (Kd.int .i64) 2 w' w.heap.size (fun k_ => some k_ ≠ (.slice Ao35 t216.length co35 : Value).ownBlock ∧ some k_ ≠ (.slice Ao44 t260.length co44 : Value).ownBlock ∧ some k_ ≠ (.slice Ao54 t235.length co54 : Value).ownBlock) s_ t267) ∧ (Kd.R (Kd.int .i64) 2 w' w.heap.size (fun k_ => some k_ ≠ (s_ : Value).ownBlock ∧ some k_ ≠ (.slice Ao44 t260.length co44 : Value).ownBlock ∧ some k_ ≠ (.slice Ao54 t235.length co54 : Value).ownBlock) (.slice Ao35 t216.length co35) t216) ∧ (Kd.R (Kd.int .i64) 2 w' w.heap.size (fun k_ => some k_ ≠ (s_ : Value).ownBlock ∧ some k_ ≠ (.slice Ao35 t216.length co35 : Value).ownBlock ∧ some k_ ≠ (.slice Ao54 t235.length co54 : Value).ownBlock) (.slice Ao44 t260.length co44) t260) ∧ (Kd.R (Kd.int .i64) 2 w' w.heap.size (fun k_ => some k_ ≠ (s_ : Value).ownBlock ∧ some k_ ≠ (.slice Ao35 t216.length co35 : Value).ownBlock ∧ some k_ ≠ (.slice Ao44 t260.length co44 : Value).ownBlock) (.slice Ao54 t235.length co54) t265) ∧ (w'.heap[gb203]? = some (.cells #[.slice A1_0 l1_0.length c1_0, .int .i64 a1_1, .int .i64 a1_2] 24 (0, 0))) ∧ (w'.heap[gb222]? = some (.cells #[.slice Ao35 t216.length co35, .int .i64 t219, .int .i64 t220] 26 (0, 0))) ∧ (w'.heap[gb231]? = some (.cells #[.slice Ao44 t260.length co44, .int .i64 t229, .int .i64 t230] 26 (0, 0))) ∧ (w'.heap[gb241]? = some (.cells #[.slice Ao54 t235.length co54, .int .i64 t238, .int .i64 t239] 26 (0, 0))) ∧ (Below w.heap.size w w')) ?_ ?_
                      rotate_left
                      ·intro hJ1
                       refine join_ (σ := Nat) 9 #[true, false, true, false, true, false, false, false, false, false, true, false, false] (fun s_ => [(18, .pointer (some ⟨s_, 0, none⟩))]) (fun s_ w' => (w'.cell? ⟨gb203, 0, none⟩ = some (.slice A1_0 l1_0.length c1_0) ∧ w'.cell? ⟨gb203, 1, none⟩ = some (.int .i64 a1_1) ∧ w'.cell? ⟨gb203, 2, none⟩ = some (.int .i64 a1_2)) ∧ (Kd.R (Kd.int .i64) 2 w' w.heap.size (fun k_ => some k_ ≠ (.slice Ao44 t260.length co44 : Value).ownBlock ∧ some k_ ≠ (.slice Ao54 t235.length co54 : Value).ownBlock) (.slice Ao35 t216.length co35) t216) ∧ (Kd.R (Kd.int .i64) 2 w' w.heap.size (fun k_ => some k_ ≠ (.slice Ao35 t216.length co35 : Value).ownBlock ∧ some k_ ≠ (.slice Ao54 t235.length co54 : Value).ownBlock) (.slice Ao44 t260.length co44) t260) ∧ (Kd.R (Kd.int .i64) 2 w' w.heap.size (fun k_ => some k_ ≠ (.slice Ao35 t216.length co35 : Value).ownBlock ∧ some k_ ≠ (.slice Ao44 t260.length co44 : Value).ownBlock) (.slice Ao54 t235.length co54) t265) ∧ (w'.heap[gb203]? = some (.cells #[.slice A1_0 l1_0.length c1_0, .int .i64 a1_1, .int .i64 a1_2] 24 (0, 0))) ∧ (w'.heap[gb222]? = some (.cells #[.slice Ao35 t216.length co35, .int .i64 t219, .int .i64 t220] 26 (0, 0))) ∧ (w'.heap[gb231]? = some (.cells #[.slice Ao44 t260.length co44, .int .i64 t229, .int .i64 t230] 26 (0, 0))) ∧ (w'.heap[gb241]? = some (.cells #[.slice Ao54 t235.length co54, .int .i64 t238, .int .i64 t239] 26 (0, 0))) ∧ (w'.heap[s_]? = some (.cells #[.slice none 0 0, .int .i64 0, .int .i64 0] 26 (0, 0))) ∧ (w.heap.size ≤ s_) ∧ (w.heap.size ≤ s_) ∧ (gb203 ≠ s_) ∧ (s_ ≠ gb203) ∧ (gb222 ≠ s_) ∧ (s_ ≠ gb222) ∧ (gb231 ≠ s_) ∧ (s_ ≠ gb231) ∧ (gb241 ≠ s_) ∧ (s_ ≠ gb241) ∧ (Below w.heap.size w w')) ?_ ?_
                       rotate_left
                       ·intro hJ10
                        refine two_ (i := 1) (j := 10) (Ni := some 113) (Nj := some 18) #[true, true, true, false, true, false, false, false, false, false, false, false, false] #[true, false, true, false, true, false, false, false, false, false, true, false, false] rfl rfl rfl rfl (two_of HT_.out (by kernel_rfl)) (by decide) (by decide) (fun K hK => ?_) (fun K hK => ?_)
                        ·skip
                         refine goes_ Try.func11 (by kernel_rfl) rfl #[.slice A0 l0.length c0] (by rfl) rfl rfl (by (try simp only [List.map_toArray, List.map_cons, List.map_nil]); first | done | rfl | (simp only [List.length_drop, List.length_take]; rfl)) ?_
                         with_reducible refine (laws_toInt64S.calls kj89 _ _ l0 t267 _ ?side1 ?side2 A130.out).mono ?_
                         (case side1 => exact cB_ HR0 HB)
                         (case side2 => exact HC0.out)
                         rintro e w143 ⟨v268, rfl, ho0, hb⟩
                         refine ⟨_, rfl, ?_⟩
                         have HO269 := rL_ (rN_ (rN_ (rN_ ho0 HO_223000) HO_232000) HO_242000) HB
                         replace HO_223000 := rE_ HO_223000 ho0 hb; replace HO_232000 := rE_ HO_232000 ho0 hb; replace HO_242000 := rE_ HO_242000 ho0 hb; replace BK203 := bB_ BK203 hb; replace BK222 := bB_ BK222 hb; replace BK231 := bB_ BK231 hb; replace BK241 := bB_ BK241 hb; replace HB := bS_ HB hb; (try clear hb); (try clear hb2); (try clear hk); (try clear hi); (try clear ho0)
                         refine hK.out _ _ ⟨(blk_cell BK203.out 0).trans rfl, (blk_cell BK203.out 1).trans rfl, (blk_cell BK203.out 2).trans rfl⟩ (fun hHeld => ?_)
                         clear hK K
                         refine norm_ (a' := ?_) ?_ ?_
                         rotate_left
                         ·show Act.put _ (some 113) _ = _
                          simp only [Act.put, List.setIfInBounds_toArray, List.set_cons_zero, List.set_cons_succ, i64_w, i32_w]
                          rfl
                         exact norm_ (by simp only [putAll, Act.put, List.setIfInBounds_toArray, List.set_cons_zero, List.set_cons_succ] <;> rfl) (hJ1 (v268) _ ⟨hHeld, (rM_ HO269), (rM_ HO_223000), (rM_ HO_232000), (rM_ HO_242000), (bT_ BK203), (bT_ BK222), (bT_ BK231), (bT_ BK241), (by repeat (first | (with_reducible first | exact HB.out | apply below_alloc | apply pw_below_drewN | apply below_drew1 | refine below_set ?_ GE203.out | refine below_set ?_ GE222.out | refine below_set ?_ GE231.out | refine below_set ?_ GE241.out) | exact HB.out))⟩)
                        ·skip
                         refine box_step ?hg (N := 18) ?hd (cs := #[.slice none 0 0, .int .i64 0, .int .i64 0]) (t := 26) ?hr ?_; (case hd => rfl); (case hg => rfl); (case hr => first | (go_simp; done) | (go_simp; rfl))
                         intro gb284 hg w143 hbox hb
                         replace HO_223000 := rB_ HO_223000 hb; replace HO_232000 := rB_ HO_232000 hb; replace HO_242000 := rB_ HO_242000 hb
                         have BK284 := Aside0.mk (hbox)
                         have GW284 := gE_ HB hg; have GE284 := gE_ HB hg; replace HB := bS_ HB hb; have NB203_284 := nL_ BK203 hg; have NB284_203 := nG_ BK203 hg; replace BK203 := bB_ BK203 hb; have NB222_284 := nL_ BK222 hg; have NB284_222 := nG_ BK222 hg; replace BK222 := bB_ BK222 hb; have NB231_284 := nL_ BK231 hg; have NB284_231 := nG_ BK231 hg; replace BK231 := bB_ BK231 hb; have NB241_284 := nL_ BK241 hg; have NB284_241 := nG_ BK241 hg; replace BK241 := bB_ BK241 hb; clear hb hbox hg
                         refine hK.out _ _ ⟨(blk_cell BK203.out 0).trans rfl, (blk_cell BK203.out 1).trans rfl, (blk_cell BK203.out 2).trans rfl⟩ (fun hHeld => ?_)
                         clear hK K
                         refine norm_ (a' := ?_) ?_ ?_
                         rotate_left
                         ·show Act.put _ (some 18) _ = _
                          simp only [Act.put, List.setIfInBounds_toArray, List.set_cons_zero, List.set_cons_succ, i64_w, i32_w]
                          rfl
                         exact norm_ (by simp only [putAll, Act.put, List.setIfInBounds_toArray, List.set_cons_zero, List.set_cons_succ] <;> rfl) (hJ10 (gb284) _ ⟨hHeld, (rT_ HO_223000), (rT_ HO_232000), (rT_ HO_242000), (bT_ BK203), (bT_ BK222), (bT_ BK231), (bT_ BK241), (bT_ BK284), GW284.out, GE284.out, NB203_284.out, NB284_203.out, NB222_284.out, NB284_222.out, NB231_284.out, NB284_231.out, NB241_284.out, NB284_241.out, (by repeat (first | (with_reducible first | exact HB.out | apply below_alloc | apply pw_below_drewN | apply below_drew1 | refine below_set ?_ GE203.out | refine below_set ?_ GE222.out | refine below_set ?_ GE231.out | refine below_set ?_ GE241.out | refine below_set ?_ GE284.out) | exact HB.out))⟩)
                       ·skip
                        rintro gb284 w144 ⟨hS_, h0_, h1_, h2_, h3_, h4_, h5_, h6_, h7_, h8_, h9_, h10_, h11_, h12_, h13_, h14_, h15_, h16_, h17_, h18_⟩
                        try dsimp only at h0_ h1_ h2_ h3_ h4_ h5_ h6_ h7_ h8_ h9_ h10_ h11_ h12_ h13_ h14_ h15_ h16_ h17_ h18_
                        replace HO_223000 := Aside0.mk h0_; replace HO_232000 := Aside0.mk h1_; replace HO_242000 := Aside0.mk h2_; replace BK203 := Aside0.mk h3_; replace BK222 := Aside0.mk h4_; replace BK231 := Aside0.mk h5_; replace BK241 := Aside0.mk h6_; have BK284 := Aside0.mk h7_; have GW284 := Aside0.mk h8_; have GE284 := Aside0.mk h9_; have NB203_284 := Aside0.mk h10_; have NB284_203 := Aside0.mk h11_; have NB222_284 := Aside0.mk h12_; have NB284_222 := Aside0.mk h13_; have NB231_284 := Aside0.mk h14_; have NB284_231 := Aside0.mk h15_; have NB241_284 := Aside0.mk h16_; have NB284_241 := Aside0.mk h17_; replace HB := Aside0.mk h18_; clear h0_ h1_ h2_ h3_ h4_ h5_ h6_ h7_ h8_ h9_ h10_ h11_ h12_ h13_ h14_ h15_ h16_ h17_ h18_
                        have hHeld : w144.cell? ⟨gb203, 0, none⟩ = some (.slice A1_0 l1_0.length c1_0) ∧ w144.cell? ⟨gb203, 1, none⟩ = some (.int .i64 a1_1) ∧ w144.cell? ⟨gb203, 2, none⟩ = some (.int .i64 a1_2) := hS_
                        refine norm_ (a' := ?_) ?_ ?_
                        rotate_left
                        ·simp only [putAll, Act.put, List.setIfInBounds_toArray, List.set_cons_zero, List.set_cons_succ]
                         rfl
                        refine one_ (i := 1) (N := some 113) #[true, true, true, false, true, false, false, false, false, false, true, false, false] rfl rfl (one_of HT_.out (by kernel_rfl)) (by decide) (fun K hK => ?_)
                        refine goes_ Try.func11 (by kernel_rfl) rfl #[.slice A0 l0.length c0] (by rfl) rfl rfl (by (try simp only [List.map_toArray, List.map_cons, List.map_nil]); first | done | rfl | (simp only [List.length_drop, List.length_take]; rfl)) ?_
                        with_reducible refine (laws_toInt64S.calls kj89 _ _ l0 t267 _ ?side1 ?side2 A130.out).mono ?_
                        (case side1 => exact cB_ HR0 HB)
                        (case side2 => exact HC0.out)
                        rintro e w145 ⟨v268, rfl, ho0, hb⟩
                        refine ⟨_, rfl, ?_⟩
                        have HO269 := rL_ (rN_ (rN_ (rN_ ho0 HO_223000) HO_232000) HO_242000) HB
                        replace HO_223000 := rE_ HO_223000 ho0 hb; replace HO_232000 := rE_ HO_232000 ho0 hb; replace HO_242000 := rE_ HO_242000 ho0 hb; replace BK203 := bB_ BK203 hb; replace BK222 := bB_ BK222 hb; replace BK231 := bB_ BK231 hb; replace BK241 := bB_ BK241 hb; replace BK284 := bB_ BK284 hb; replace HB := bS_ HB hb; (try clear hb); (try clear hb2); (try clear hk); (try clear hi); (try clear ho0)
                        refine hK.out _ _ ⟨(blk_cell BK203.out 0).trans rfl, (blk_cell BK203.out 1).trans rfl, (blk_cell BK203.out 2).trans rfl⟩ (fun hHeld => ?_)
                        clear hK K
                        refine norm_ (a' := ?_) ?_ ?_
                        rotate_left
                        ·show Act.put _ (some 113) _ = _
                         simp only [Act.put, List.setIfInBounds_toArray, List.set_cons_zero, List.set_cons_succ, i64_w, i32_w]
                         rfl
                        exact norm_ (by simp only [putAll, Act.put, List.setIfInBounds_toArray, List.set_cons_zero, List.set_cons_succ] <;> rfl) (hJ1_10 (v268, gb284) _ ⟨hHeld, (rM_ HO269), (rM_ HO_223000), (rM_ HO_232000), (rM_ HO_242000), (bT_ BK203), (bT_ BK222), (bT_ BK231), (bT_ BK241), (bT_ BK284), GW284.out, GE284.out, NB203_284.out, NB284_203.out, NB222_284.out, NB284_222.out, NB231_284.out, NB284_231.out, NB241_284.out, NB284_241.out, (by repeat (first | (with_reducible first | exact HB.out | apply below_alloc | apply pw_below_drewN | apply below_drew1 | refine below_set ?_ GE203.out | refine below_set ?_ GE222.out | refine below_set ?_ GE231.out | refine below_set ?_ GE241.out | refine below_set ?_ GE284.out) | exact HB.out))⟩)
                      ·skip
                       rintro v268 w144 ⟨hS_, h0_, h1_, h2_, h3_, h4_, h5_, h6_, h7_, h8_⟩
                       try dsimp only at h0_ h1_ h2_ h3_ h4_ h5_ h6_ h7_ h8_
                       have HO269 := Aside0.mk h0_; replace HO_223000 := Aside0.mk h1_; replace HO_232000 := Aside0.mk h2_; replace HO_242000 := Aside0.mk h3_; replace BK203 := Aside0.mk h4_; replace BK222 := Aside0.mk h5_; replace BK231 := Aside0.mk h6_; replace BK241 := Aside0.mk h7_; replace HB := Aside0.mk h8_; clear h0_ h1_ h2_ h3_ h4_ h5_ h6_ h7_ h8_
                       have hHeld : w144.cell? ⟨gb203, 0, none⟩ = some (.slice A1_0 l1_0.length c1_0) ∧ w144.cell? ⟨gb203, 1, none⟩ = some (.int .i64 a1_1) ∧ w144.cell? ⟨gb203, 2, none⟩ = some (.int .i64 a1_2) := hS_
                       refine norm_ (a' := ?_) ?_ ?_
                       rotate_left
                       ·simp only [putAll, Act.put, List.setIfInBounds_toArray, List.set_cons_zero, List.set_cons_succ]
                        rfl
                       refine two_ (i := 3) (j := 10) (Ni := some 115) (Nj := some 18) #[true, true, true, true, true, false, false, false, false, false, false, false, false] #[true, true, true, false, true, false, false, false, false, false, true, false, false] rfl rfl rfl rfl (two_of HT_.out (by kernel_rfl)) (by decide) (by decide) (fun K hK => ?_) (fun K hK => ?_)
                       ·skip
                        refine goes_ Try.func12 (by kernel_rfl) rfl #[.agg #[.slice A1_0 l1_0.length c1_0, .int .i64 a1_1, .int .i64 a1_2]] (by rfl) rfl rfl (by (try simp only [List.map_toArray, List.map_cons, List.map_nil]); first | done | rfl | (simp only [List.length_drop, List.length_take]; rfl)) ?_
                        with_reducible refine (laws_toBook.calls kj89 _ _ l1_0 a1_1 a1_2 t270 t273 t274 _ ?side1 ?side2 A131.out).mono ?_
                        (case side1 => exact cB_ HR1_0 HB)
                        (case side2 => exact HC1_0.out)
                        rintro e w145 ⟨v271, rfl, ho0, hb⟩
                        refine ⟨_, rfl, ?_⟩
                        have HO272 := rL_ (rN_ (rN_ (rN_ (rN_ ho0 HO_223000) HO_232000) HO_242000) HO269) HB
                        replace HO_223000 := rE_ HO_223000 ho0 hb; replace HO_232000 := rE_ HO_232000 ho0 hb; replace HO_242000 := rE_ HO_242000 ho0 hb; replace HO269 := rE_ HO269 ho0 hb; replace BK203 := bB_ BK203 hb; replace BK222 := bB_ BK222 hb; replace BK231 := bB_ BK231 hb; replace BK241 := bB_ BK241 hb; replace HB := bS_ HB hb; (try clear hb); (try clear hb2); (try clear hk); (try clear hi); (try clear ho0)
                        refine hK.out _ _ ⟨(blk_cell BK203.out 0).trans rfl, (blk_cell BK203.out 1).trans rfl, (blk_cell BK203.out 2).trans rfl⟩ (fun hHeld => ?_)
                        clear hK K
                        refine norm_ (a' := ?_) ?_ ?_
                        rotate_left
                        ·show Act.put _ (some 115) _ = _
                         simp only [Act.put, List.setIfInBounds_toArray, List.set_cons_zero, List.set_cons_succ, i64_w, i32_w]
                         rfl
                        exact norm_ (by simp only [putAll, Act.put, List.setIfInBounds_toArray, List.set_cons_zero, List.set_cons_succ] <;> rfl) (hJ1_3 (v268, v271) _ ⟨hHeld, (rM_ HO269), (rM_ HO272), (rM_ HO_223000), (rM_ HO_232000), (rM_ HO_242000), (bT_ BK203), (bT_ BK222), (bT_ BK231), (bT_ BK241), (by repeat (first | (with_reducible first | exact HB.out | apply below_alloc | apply pw_below_drewN | apply below_drew1 | refine below_set ?_ GE203.out | refine below_set ?_ GE222.out | refine below_set ?_ GE231.out | refine below_set ?_ GE241.out) | exact HB.out))⟩)
                       ·skip
                        refine box_step ?hg (N := 18) ?hd (cs := #[.slice none 0 0, .int .i64 0, .int .i64 0]) (t := 26) ?hr ?_; (case hd => rfl); (case hg => rfl); (case hr => first | (go_simp; done) | (go_simp; rfl))
                        intro gb284 hg w145 hbox hb
                        replace HO_223000 := rB_ HO_223000 hb; replace HO_232000 := rB_ HO_232000 hb; replace HO_242000 := rB_ HO_242000 hb; replace HO269 := rB_ HO269 hb
                        have BK284 := Aside0.mk (hbox)
                        have GW284 := gE_ HB hg; have GE284 := gE_ HB hg; replace HB := bS_ HB hb; have NB203_284 := nL_ BK203 hg; have NB284_203 := nG_ BK203 hg; replace BK203 := bB_ BK203 hb; have NB222_284 := nL_ BK222 hg; have NB284_222 := nG_ BK222 hg; replace BK222 := bB_ BK222 hb; have NB231_284 := nL_ BK231 hg; have NB284_231 := nG_ BK231 hg; replace BK231 := bB_ BK231 hb; have NB241_284 := nL_ BK241 hg; have NB284_241 := nG_ BK241 hg; replace BK241 := bB_ BK241 hb; clear hb hbox hg
                        refine hK.out _ _ ⟨(blk_cell BK203.out 0).trans rfl, (blk_cell BK203.out 1).trans rfl, (blk_cell BK203.out 2).trans rfl⟩ (fun hHeld => ?_)
                        clear hK K
                        refine norm_ (a' := ?_) ?_ ?_
                        rotate_left
                        ·show Act.put _ (some 18) _ = _
                         simp only [Act.put, List.setIfInBounds_toArray, List.set_cons_zero, List.set_cons_succ, i64_w, i32_w]
                         rfl
                        exact norm_ (by simp only [putAll, Act.put, List.setIfInBounds_toArray, List.set_cons_zero, List.set_cons_succ] <;> rfl) (hJ1_10 (v268, gb284) _ ⟨hHeld, (rT_ HO269), (rT_ HO_223000), (rT_ HO_232000), (rT_ HO_242000), (bT_ BK203), (bT_ BK222), (bT_ BK231), (bT_ BK241), (bT_ BK284), GW284.out, GE284.out, NB203_284.out, NB284_203.out, NB222_284.out, NB284_222.out, NB231_284.out, NB284_231.out, NB241_284.out, NB284_241.out, (by repeat (first | (with_reducible first | exact HB.out | apply below_alloc | apply pw_below_drewN | apply below_drew1 | refine below_set ?_ GE203.out | refine below_set ?_ GE222.out | refine below_set ?_ GE231.out | refine below_set ?_ GE241.out | refine below_set ?_ GE284.out) | exact HB.out))⟩)
                     ·skip
                      rintro ⟨v268, gb284⟩ w145 ⟨hS_, h0_, h1_, h2_, h3_, h4_, h5_, h6_, h7_, h8_, h9_, h10_, h11_, h12_, h13_, h14_, h15_, h16_, h17_, h18_, h19_⟩
                      try dsimp only at h0_ h1_ h2_ h3_ h4_ h5_ h6_ h7_ h8_ h9_ h10_ h11_ h12_ h13_ h14_ h15_ h16_ h17_ h18_ h19_
                      have HO269 := Aside0.mk h0_; replace HO_223000 := Aside0.mk h1_; replace HO_232000 := Aside0.mk h2_; replace HO_242000 := Aside0.mk h3_; replace BK203 := Aside0.mk h4_; replace BK222 := Aside0.mk h5_; replace BK231 := Aside0.mk h6_; replace BK241 := Aside0.mk h7_; have BK284 := Aside0.mk h8_; have GW284 := Aside0.mk h9_; have GE284 := Aside0.mk h10_; have NB203_284 := Aside0.mk h11_; have NB284_203 := Aside0.mk h12_; have NB222_284 := Aside0.mk h13_; have NB284_222 := Aside0.mk h14_; have NB231_284 := Aside0.mk h15_; have NB284_231 := Aside0.mk h16_; have NB241_284 := Aside0.mk h17_; have NB284_241 := Aside0.mk h18_; replace HB := Aside0.mk h19_; clear h0_ h1_ h2_ h3_ h4_ h5_ h6_ h7_ h8_ h9_ h10_ h11_ h12_ h13_ h14_ h15_ h16_ h17_ h18_ h19_
                      have hHeld : w145.cell? ⟨gb203, 0, none⟩ = some (.slice A1_0 l1_0.length c1_0) ∧ w145.cell? ⟨gb203, 1, none⟩ = some (.int .i64 a1_1) ∧ w145.cell? ⟨gb203, 2, none⟩ = some (.int .i64 a1_2) := hS_
                      refine norm_ (a' := ?_) ?_ ?_
                      rotate_left
                      ·simp only [putAll, Act.put, List.setIfInBounds_toArray, List.set_cons_zero, List.set_cons_succ]
                       rfl
                      refine one_ (i := 3) (N := some 115) #[true, true, true, true, true, false, false, false, false, false, true, false, false] rfl rfl (one_of HT_.out (by kernel_rfl)) (by decide) (fun K hK => ?_)
                      refine goes_ Try.func12 (by kernel_rfl) rfl #[.agg #[.slice A1_0 l1_0.length c1_0, .int .i64 a1_1, .int .i64 a1_2]] (by rfl) rfl rfl (by (try simp only [List.map_toArray, List.map_cons, List.map_nil]); first | done | rfl | (simp only [List.length_drop, List.length_take]; rfl)) ?_
                      with_reducible refine (laws_toBook.calls kj89 _ _ l1_0 a1_1 a1_2 t270 t273 t274 _ ?side1 ?side2 A131.out).mono ?_
                      (case side1 => exact cB_ HR1_0 HB)
                      (case side2 => exact HC1_0.out)
                      rintro e w146 ⟨v271, rfl, ho0, hb⟩
                      refine ⟨_, rfl, ?_⟩
                      have HO272 := rL_ (rN_ (rN_ (rN_ (rN_ ho0 HO_223000) HO_232000) HO_242000) HO269) HB
                      replace HO_223000 := rE_ HO_223000 ho0 hb; replace HO_232000 := rE_ HO_232000 ho0 hb; replace HO_242000 := rE_ HO_242000 ho0 hb; replace HO269 := rE_ HO269 ho0 hb; replace BK203 := bB_ BK203 hb; replace BK222 := bB_ BK222 hb; replace BK231 := bB_ BK231 hb; replace BK241 := bB_ BK241 hb; replace BK284 := bB_ BK284 hb; replace HB := bS_ HB hb; (try clear hb); (try clear hb2); (try clear hk); (try clear hi); (try clear ho0)
                      refine hK.out _ _ ⟨(blk_cell BK203.out 0).trans rfl, (blk_cell BK203.out 1).trans rfl, (blk_cell BK203.out 2).trans rfl⟩ (fun hHeld => ?_)
                      clear hK K
                      refine norm_ (a' := ?_) ?_ ?_
                      rotate_left
                      ·show Act.put _ (some 115) _ = _
                       simp only [Act.put, List.setIfInBounds_toArray, List.set_cons_zero, List.set_cons_succ, i64_w, i32_w]
                       rfl
                      exact norm_ (by simp only [putAll, Act.put, List.setIfInBounds_toArray, List.set_cons_zero, List.set_cons_succ] <;> rfl) (hJ1_3_10 (v268, v271, gb284) _ ⟨hHeld, (rM_ HO269), (rM_ HO272), (rM_ HO_223000), (rM_ HO_232000), (rM_ HO_242000), (bT_ BK203), (bT_ BK222), (bT_ BK231), (bT_ BK241), (bT_ BK284), GW284.out, GE284.out, NB203_284.out, NB284_203.out, NB222_284.out, NB284_222.out, NB231_284.out, NB284_231.out, NB241_284.out, NB284_241.out, (by repeat (first | (with_reducible first | exact HB.out | apply below_alloc | apply pw_below_drewN | apply below_drew1 | refine below_set ?_ GE203.out | refine below_set ?_ GE222.out | refine below_set ?_ GE231.out | refine below_set ?_ GE241.out | refine below_set ?_ GE284.out) | exact HB.out))⟩)
                    ·skip
                     rintro ⟨v268, v271⟩ w145 ⟨hS_, h0_, h1_, h2_, h3_, h4_, h5_, h6_, h7_, h8_, h9_⟩
                     try dsimp only at h0_ h1_ h2_ h3_ h4_ h5_ h6_ h7_ h8_ h9_
                     have HO269 := Aside0.mk h0_; have HO272 := Aside0.mk h1_; replace HO_223000 := Aside0.mk h2_; replace HO_232000 := Aside0.mk h3_; replace HO_242000 := Aside0.mk h4_; replace BK203 := Aside0.mk h5_; replace BK222 := Aside0.mk h6_; replace BK231 := Aside0.mk h7_; replace BK241 := Aside0.mk h8_; replace HB := Aside0.mk h9_; clear h0_ h1_ h2_ h3_ h4_ h5_ h6_ h7_ h8_ h9_
                     have hHeld : w145.cell? ⟨gb203, 0, none⟩ = some (.slice A1_0 l1_0.length c1_0) ∧ w145.cell? ⟨gb203, 1, none⟩ = some (.int .i64 a1_1) ∧ w145.cell? ⟨gb203, 2, none⟩ = some (.int .i64 a1_2) := hS_
                     refine norm_ (a' := ?_) ?_ ?_
                     rotate_left
                     ·simp only [putAll, Act.put, List.setIfInBounds_toArray, List.set_cons_zero, List.set_cons_succ]
                      rfl
                     refine two_ (i := 5) (j := 10) (Ni := some 117) (Nj := some 18) #[true, true, true, true, true, true, false, false, false, false, false, false, false] #[true, true, true, true, true, false, false, false, false, false, true, false, false] rfl rfl rfl rfl (two_of HT_.out (by kernel_rfl)) (by decide) (by decide) (fun K hK => ?_) (fun K hK => ?_)
                     ·skip
                      refine goes_ Try.func11 (by kernel_rfl) rfl #[.slice A2 l2.length c2] (by rfl) rfl rfl (by (try simp only [List.map_toArray, List.map_cons, List.map_nil]); first | done | rfl | (simp only [List.length_drop, List.length_take]; rfl)) ?_
                      with_reducible refine (laws_toInt64S.calls kj89 _ _ l2 t275 _ ?side1 ?side2 A132.out).mono ?_
                      (case side1 => exact cB_ HR2 HB)
                      (case side2 => exact HC2.out)
                      rintro e w146 ⟨v276, rfl, ho0, hb⟩
                      refine ⟨_, rfl, ?_⟩
                      have HO277 := rL_ (rN_ (rN_ (rN_ (rN_ (rN_ ho0 HO_223000) HO_232000) HO_242000) HO269) HO272) HB
                      replace HO_223000 := rE_ HO_223000 ho0 hb; replace HO_232000 := rE_ HO_232000 ho0 hb; replace HO_242000 := rE_ HO_242000 ho0 hb; replace HO269 := rE_ HO269 ho0 hb; replace HO272 := rE_ HO272 ho0 hb; replace BK203 := bB_ BK203 hb; replace BK222 := bB_ BK222 hb; replace BK231 := bB_ BK231 hb; replace BK241 := bB_ BK241 hb; replace HB := bS_ HB hb; (try clear hb); (try clear hb2); (try clear hk); (try clear hi); (try clear ho0)
                      refine hK.out _ _ ⟨(blk_cell BK203.out 0).trans rfl, (blk_cell BK203.out 1).trans rfl, (blk_cell BK203.out 2).trans rfl⟩ (fun hHeld => ?_)
                      clear hK K
                      refine norm_ (a' := ?_) ?_ ?_
                      rotate_left
                      ·show Act.put _ (some 117) _ = _
                       simp only [Act.put, List.setIfInBounds_toArray, List.set_cons_zero, List.set_cons_succ, i64_w, i32_w]
                       rfl
                      exact norm_ (by simp only [putAll, Act.put, List.setIfInBounds_toArray, List.set_cons_zero, List.set_cons_succ] <;> rfl) (hJ1_3_5 (v268, v271, v276) _ ⟨hHeld, (rM_ HO269), (rM_ HO272), (rM_ HO277), (rM_ HO_223000), (rM_ HO_232000), (rM_ HO_242000), (bT_ BK203), (bT_ BK222), (bT_ BK231), (bT_ BK241), (by repeat (first | (with_reducible first | exact HB.out | apply below_alloc | apply pw_below_drewN | apply below_drew1 | refine below_set ?_ GE203.out | refine below_set ?_ GE222.out | refine below_set ?_ GE231.out | refine below_set ?_ GE241.out) | exact HB.out))⟩)
                     ·skip
                      refine box_step ?hg (N := 18) ?hd (cs := #[.slice none 0 0, .int .i64 0, .int .i64 0]) (t := 26) ?hr ?_; (case hd => rfl); (case hg => rfl); (case hr => first | (go_simp; done) | (go_simp; rfl))
                      intro gb284 hg w146 hbox hb
                      replace HO_223000 := rB_ HO_223000 hb; replace HO_232000 := rB_ HO_232000 hb; replace HO_242000 := rB_ HO_242000 hb; replace HO269 := rB_ HO269 hb; replace HO272 := rB_ HO272 hb
                      have BK284 := Aside0.mk (hbox)
                      have GW284 := gE_ HB hg; have GE284 := gE_ HB hg; replace HB := bS_ HB hb; have NB203_284 := nL_ BK203 hg; have NB284_203 := nG_ BK203 hg; replace BK203 := bB_ BK203 hb; have NB222_284 := nL_ BK222 hg; have NB284_222 := nG_ BK222 hg; replace BK222 := bB_ BK222 hb; have NB231_284 := nL_ BK231 hg; have NB284_231 := nG_ BK231 hg; replace BK231 := bB_ BK231 hb; have NB241_284 := nL_ BK241 hg; have NB284_241 := nG_ BK241 hg; replace BK241 := bB_ BK241 hb; clear hb hbox hg
                      refine hK.out _ _ ⟨(blk_cell BK203.out 0).trans rfl, (blk_cell BK203.out 1).trans rfl, (blk_cell BK203.out 2).trans rfl⟩ (fun hHeld => ?_)
                      clear hK K
                      refine norm_ (a' := ?_) ?_ ?_
                      rotate_left
                      ·show Act.put _ (some 18) _ = _
                       simp only [Act.put, List.setIfInBounds_toArray, List.set_cons_zero, List.set_cons_succ, i64_w, i32_w]
                       rfl
                      exact norm_ (by simp only [putAll, Act.put, List.setIfInBounds_toArray, List.set_cons_zero, List.set_cons_succ] <;> rfl) (hJ1_3_10 (v268, v271, gb284) _ ⟨hHeld, (rT_ HO269), (rT_ HO272), (rT_ HO_223000), (rT_ HO_232000), (rT_ HO_242000), (bT_ BK203), (bT_ BK222), (bT_ BK231), (bT_ BK241), (bT_ BK284), GW284.out, GE284.out, NB203_284.out, NB284_203.out, NB222_284.out, NB284_222.out, NB231_284.out, NB284_231.out, NB241_284.out, NB284_241.out, (by repeat (first | (with_reducible first | exact HB.out | apply below_alloc | apply pw_below_drewN | apply below_drew1 | refine below_set ?_ GE203.out | refine below_set ?_ GE222.out | refine below_set ?_ GE231.out | refine below_set ?_ GE241.out | refine below_set ?_ GE284.out) | exact HB.out))⟩)
                   ·skip
                    rintro ⟨v268, v271, gb284⟩ w146 ⟨hS_, h0_, h1_, h2_, h3_, h4_, h5_, h6_, h7_, h8_, h9_, h10_, h11_, h12_, h13_, h14_, h15_, h16_, h17_, h18_, h19_, h20_⟩
                    try dsimp only at h0_ h1_ h2_ h3_ h4_ h5_ h6_ h7_ h8_ h9_ h10_ h11_ h12_ h13_ h14_ h15_ h16_ h17_ h18_ h19_ h20_
                    have HO269 := Aside0.mk h0_; have HO272 := Aside0.mk h1_; replace HO_223000 := Aside0.mk h2_; replace HO_232000 := Aside0.mk h3_; replace HO_242000 := Aside0.mk h4_; replace BK203 := Aside0.mk h5_; replace BK222 := Aside0.mk h6_; replace BK231 := Aside0.mk h7_; replace BK241 := Aside0.mk h8_; have BK284 := Aside0.mk h9_; have GW284 := Aside0.mk h10_; have GE284 := Aside0.mk h11_; have NB203_284 := Aside0.mk h12_; have NB284_203 := Aside0.mk h13_; have NB222_284 := Aside0.mk h14_; have NB284_222 := Aside0.mk h15_; have NB231_284 := Aside0.mk h16_; have NB284_231 := Aside0.mk h17_; have NB241_284 := Aside0.mk h18_; have NB284_241 := Aside0.mk h19_; replace HB := Aside0.mk h20_; clear h0_ h1_ h2_ h3_ h4_ h5_ h6_ h7_ h8_ h9_ h10_ h11_ h12_ h13_ h14_ h15_ h16_ h17_ h18_ h19_ h20_
                    have hHeld : w146.cell? ⟨gb203, 0, none⟩ = some (.slice A1_0 l1_0.length c1_0) ∧ w146.cell? ⟨gb203, 1, none⟩ = some (.int .i64 a1_1) ∧ w146.cell? ⟨gb203, 2, none⟩ = some (.int .i64 a1_2) := hS_
                    refine norm_ (a' := ?_) ?_ ?_
                    rotate_left
                    ·simp only [putAll, Act.put, List.setIfInBounds_toArray, List.set_cons_zero, List.set_cons_succ]
                     rfl
                    refine one_ (i := 5) (N := some 117) #[true, true, true, true, true, true, false, false, false, false, true, false, false] rfl rfl (one_of HT_.out (by kernel_rfl)) (by decide) (fun K hK => ?_)
                    refine goes_ Try.func11 (by kernel_rfl) rfl #[.slice A2 l2.length c2] (by rfl) rfl rfl (by (try simp only [List.map_toArray, List.map_cons, List.map_nil]); first | done | rfl | (simp only [List.length_drop, List.length_take]; rfl)) ?_
                    with_reducible refine (laws_toInt64S.calls kj89 _ _ l2 t275 _ ?side1 ?side2 A132.out).mono ?_
                    (case side1 => exact cB_ HR2 HB)
                    (case side2 => exact HC2.out)
                    rintro e w147 ⟨v276, rfl, ho0, hb⟩
                    refine ⟨_, rfl, ?_⟩
                    have HO277 := rL_ (rN_ (rN_ (rN_ (rN_ (rN_ ho0 HO_223000) HO_232000) HO_242000) HO269) HO272) HB
                    replace HO_223000 := rE_ HO_223000 ho0 hb; replace HO_232000 := rE_ HO_232000 ho0 hb; replace HO_242000 := rE_ HO_242000 ho0 hb; replace HO269 := rE_ HO269 ho0 hb; replace HO272 := rE_ HO272 ho0 hb; replace BK203 := bB_ BK203 hb; replace BK222 := bB_ BK222 hb; replace BK231 := bB_ BK231 hb; replace BK241 := bB_ BK241 hb; replace BK284 := bB_ BK284 hb; replace HB := bS_ HB hb; (try clear hb); (try clear hb2); (try clear hk); (try clear hi); (try clear ho0)
                    refine hK.out _ _ ⟨(blk_cell BK203.out 0).trans rfl, (blk_cell BK203.out 1).trans rfl, (blk_cell BK203.out 2).trans rfl⟩ (fun hHeld => ?_)
                    clear hK K
                    refine norm_ (a' := ?_) ?_ ?_
                    rotate_left
                    ·show Act.put _ (some 117) _ = _
                     simp only [Act.put, List.setIfInBounds_toArray, List.set_cons_zero, List.set_cons_succ, i64_w, i32_w]
                     rfl
                    exact norm_ (by simp only [putAll, Act.put, List.setIfInBounds_toArray, List.set_cons_zero, List.set_cons_succ] <;> rfl) (hJ1_3_5_10 (v268, v271, v276, gb284) _ ⟨hHeld, (rM_ HO269), (rM_ HO272), (rM_ HO277), (rM_ HO_223000), (rM_ HO_232000), (rM_ HO_242000), (bT_ BK203), (bT_ BK222), (bT_ BK231), (bT_ BK241), (bT_ BK284), GW284.out, GE284.out, NB203_284.out, NB284_203.out, NB222_284.out, NB284_222.out, NB231_284.out, NB284_231.out, NB241_284.out, NB284_241.out, (by repeat (first | (with_reducible first | exact HB.out | apply below_alloc | apply pw_below_drewN | apply below_drew1 | refine below_set ?_ GE203.out | refine below_set ?_ GE222.out | refine below_set ?_ GE231.out | refine below_set ?_ GE241.out | refine below_set ?_ GE284.out) | exact HB.out))⟩)
                  ·skip
                   rintro ⟨v268, v271, v276⟩ w146 ⟨hS_, h0_, h1_, h2_, h3_, h4_, h5_, h6_, h7_, h8_, h9_, h10_⟩
                   try dsimp only at h0_ h1_ h2_ h3_ h4_ h5_ h6_ h7_ h8_ h9_ h10_
                   have HO269 := Aside0.mk h0_; have HO272 := Aside0.mk h1_; have HO277 := Aside0.mk h2_; replace HO_223000 := Aside0.mk h3_; replace HO_232000 := Aside0.mk h4_; replace HO_242000 := Aside0.mk h5_; replace BK203 := Aside0.mk h6_; replace BK222 := Aside0.mk h7_; replace BK231 := Aside0.mk h8_; replace BK241 := Aside0.mk h9_; replace HB := Aside0.mk h10_; clear h0_ h1_ h2_ h3_ h4_ h5_ h6_ h7_ h8_ h9_ h10_
                   have hHeld : w146.cell? ⟨gb203, 0, none⟩ = some (.slice A1_0 l1_0.length c1_0) ∧ w146.cell? ⟨gb203, 1, none⟩ = some (.int .i64 a1_1) ∧ w146.cell? ⟨gb203, 2, none⟩ = some (.int .i64 a1_2) := hS_
                   obtain ⟨Ao147, co147, eo147⟩ := Kd.R_slice HO269.out
                   (first | subst eo147 | (injection eo147 with f1_ f2_ f3_; have f4_ := f1_.symm; have f5_ := f3_.symm; clear f1_ f2_ f3_; subst f4_; subst f5_))
                   obtain ⟨Ao148, co148, eo148⟩ := Kd.R_slice HO272.out
                   (first | subst eo148 | (injection eo148 with f1_ f2_ f3_; have f4_ := f1_.symm; have f5_ := f3_.symm; clear f1_ f2_ f3_; subst f4_; subst f5_))
                   obtain ⟨Ao149, co149, eo149⟩ := Kd.R_slice HO277.out
                   (first | subst eo149 | (injection eo149 with f1_ f2_ f3_; have f4_ := f1_.symm; have f5_ := f3_.symm; clear f1_ f2_ f3_; subst f4_; subst f5_))
                   refine norm_ (a' := ?_) ?_ ?_
                   rotate_left
                   ·simp only [putAll, Act.put, List.setIfInBounds_toArray, List.set_cons_zero, List.set_cons_succ]
                    rfl
                   refine two_ (i := 6) (j := 10) (Ni := some 118) (Nj := some 18) #[true, true, true, true, true, true, true, false, false, false, false, false, false] #[true, true, true, true, true, true, false, false, false, false, true, false, false] rfl rfl rfl rfl (two_of HT_.out (by kernel_rfl)) (by decide) (by decide) (fun K hK => ?_) (fun K hK => ?_)
                   ·skip
                    refine goes_ Try.func13 (by kernel_rfl) rfl #[.slice Ao147 t267.length co147, .agg #[.slice Ao148 t270.length co148, .int .i64 t273, .int .i64 t274], .slice Ao149 t275.length co149] (by rfl) rfl rfl (by (try simp only [List.map_toArray, List.map_cons, List.map_nil]); first | done | rfl | (simp only [List.length_drop, List.length_take]; rfl)) ?_
                    with_reducible refine (impl_FlowStep.calls kj89 _ _ t267 _ _ t270 t273 t274 _ _ t275 t278 t281 t282 t283 _ ?side1 ?side2 ?side3 ?side4 ?side5 ?side6 A133.out).mono ?_
                    (case side1 => exact rD_ HO269)
                    (case side2 => exact (Kd.R_reads' HO269.out).2.1)
                    (case side3 => exact rD_ HO272)
                    (case side4 => exact (Kd.R_reads' HO272.out).2.1)
                    (case side5 => exact rD_ HO277)
                    (case side6 => exact (Kd.R_reads' HO277.out).2.1)
                    rintro e w150 ⟨v279, rfl, ho0, hb⟩
                    refine ⟨_, rfl, ?_⟩
                    have HO280 := rL_ (rN_ (rN_ (rN_ (rN_ (rN_ (rN_ ho0 HO_223000) HO_232000) HO_242000) HO269) HO272) HO277) HB
                    replace HO_223000 := rE_ HO_223000 ho0 hb; replace HO_232000 := rE_ HO_232000 ho0 hb; replace HO_242000 := rE_ HO_242000 ho0 hb; replace HO269 := rE_ HO269 ho0 hb; replace HO272 := rE_ HO272 ho0 hb; replace HO277 := rE_ HO277 ho0 hb; replace BK203 := bB_ BK203 hb; replace BK222 := bB_ BK222 hb; replace BK231 := bB_ BK231 hb; replace BK241 := bB_ BK241 hb; replace HB := bS_ HB hb; (try clear hb); (try clear hb2); (try clear hk); (try clear hi); (try clear ho0)
                    refine hK.out _ _ ⟨(blk_cell BK203.out 0).trans rfl, (blk_cell BK203.out 1).trans rfl, (blk_cell BK203.out 2).trans rfl⟩ (fun hHeld => ?_)
                    clear hK K
                    refine norm_ (a' := ?_) ?_ ?_
                    rotate_left
                    ·show Act.put _ (some 118) _ = _
                     simp only [Act.put, List.setIfInBounds_toArray, List.set_cons_zero, List.set_cons_succ, i64_w, i32_w]
                     rfl
                    refine pure_ (i := 7) (N := some 111) (v := ?_) (a' := ?_) #[true, true, true, true, true, true, true, true, false, false, false, false, false] rfl rfl (any_of HT_.out (by kernel_rfl)) (fun _ _ _ h => h) (Or.inl ⟨by rfl, ?_⟩) ?_ ?_
                    rotate_left
                    ·intro w'
                     go_simp
                     with_reducible rfl
                    rotate_left
                    ·simp only [Act.put, List.setIfInBounds_toArray, List.set_cons_zero, List.set_cons_succ, i64_w, i32_w]
                     rfl
                    refine pure_ (i := 8) (N := some 119) (v := ?_) (a' := ?_) #[true, true, true, true, true, true, true, true, true, false, false, false, false] rfl rfl (any_of HT_.out (by kernel_rfl)) (fun _ _ _ h => h) (Or.inl ⟨by rfl, ?_⟩) ?_ ?_
                    rotate_left
                    ·intro w'
                     go_simp
                     with_reducible rfl
                    rotate_left
                    ·simp only [Act.put, List.setIfInBounds_toArray, List.set_cons_zero, List.set_cons_succ, i64_w, i32_w]
                     rfl
                    refine pure_ (i := 9) (N := some 120) (v := ?_) (a' := ?_) #[true, true, true, true, true, true, true, true, true, true, false, false, false] rfl rfl (any_of HT_.out (by kernel_rfl)) (fun _ _ _ h => h) (Or.inl ⟨by rfl, ?_⟩) ?_ ?_
                    rotate_left
                    ·intro w'
                     go_simp
                     with_reducible rfl
                    rotate_left
                    ·simp only [Act.put, List.setIfInBounds_toArray, List.set_cons_zero, List.set_cons_succ, i64_w, i32_w]
                     rfl
                    exact norm_ (by simp only [putAll, Act.put, List.setIfInBounds_toArray, List.set_cons_zero, List.set_cons_succ] <;> rfl) (hJ1_3_5_6 (.slice Ao147 t267.length co147, .slice Ao148 t270.length co148, .slice Ao149 t275.length co149, v279) _ ⟨hHeld, (rM_ HO269), (rM_ HO272), (rM_ HO277), (rM_ HO280), (rM_ HO_223000), (rM_ HO_232000), (rM_ HO_242000), (bT_ BK203), (bT_ BK222), (bT_ BK231), (bT_ BK241), (by repeat (first | (with_reducible first | exact HB.out | apply below_alloc | apply pw_below_drewN | apply below_drew1 | refine below_set ?_ GE203.out | refine below_set ?_ GE222.out | refine below_set ?_ GE231.out | refine below_set ?_ GE241.out) | exact HB.out))⟩)
                   ·skip
                    refine box_step ?hg (N := 18) ?hd (cs := #[.slice none 0 0, .int .i64 0, .int .i64 0]) (t := 26) ?hr ?_; (case hd => rfl); (case hg => rfl); (case hr => first | (go_simp; done) | (go_simp; rfl))
                    intro gb284 hg w147 hbox hb
                    replace HO_223000 := rB_ HO_223000 hb; replace HO_232000 := rB_ HO_232000 hb; replace HO_242000 := rB_ HO_242000 hb; replace HO269 := rB_ HO269 hb; replace HO272 := rB_ HO272 hb; replace HO277 := rB_ HO277 hb
                    have BK284 := Aside0.mk (hbox)
                    have GW284 := gE_ HB hg; have GE284 := gE_ HB hg; replace HB := bS_ HB hb; have NB203_284 := nL_ BK203 hg; have NB284_203 := nG_ BK203 hg; replace BK203 := bB_ BK203 hb; have NB222_284 := nL_ BK222 hg; have NB284_222 := nG_ BK222 hg; replace BK222 := bB_ BK222 hb; have NB231_284 := nL_ BK231 hg; have NB284_231 := nG_ BK231 hg; replace BK231 := bB_ BK231 hb; have NB241_284 := nL_ BK241 hg; have NB284_241 := nG_ BK241 hg; replace BK241 := bB_ BK241 hb; clear hb hbox hg
                    refine hK.out _ _ ⟨(blk_cell BK203.out 0).trans rfl, (blk_cell BK203.out 1).trans rfl, (blk_cell BK203.out 2).trans rfl⟩ (fun hHeld => ?_)
                    clear hK K
                    refine norm_ (a' := ?_) ?_ ?_
                    rotate_left
                    ·show Act.put _ (some 18) _ = _
                     simp only [Act.put, List.setIfInBounds_toArray, List.set_cons_zero, List.set_cons_succ, i64_w, i32_w]
                     rfl
                    exact norm_ (by simp only [putAll, Act.put, List.setIfInBounds_toArray, List.set_cons_zero, List.set_cons_succ] <;> rfl) (hJ1_3_5_10 ((.slice Ao147 t267.length co147), (.slice Ao148 t270.length co148), (.slice Ao149 t275.length co149), gb284) _ ⟨hHeld, (rT_ HO269), (rT_ HO272), (rT_ HO277), (rT_ HO_223000), (rT_ HO_232000), (rT_ HO_242000), (bT_ BK203), (bT_ BK222), (bT_ BK231), (bT_ BK241), (bT_ BK284), GW284.out, GE284.out, NB203_284.out, NB284_203.out, NB222_284.out, NB284_222.out, NB231_284.out, NB284_231.out, NB241_284.out, NB284_241.out, (by repeat (first | (with_reducible first | exact HB.out | apply below_alloc | apply pw_below_drewN | apply below_drew1 | refine below_set ?_ GE203.out | refine below_set ?_ GE222.out | refine below_set ?_ GE231.out | refine below_set ?_ GE241.out | refine below_set ?_ GE284.out) | exact HB.out))⟩)
                 ·skip
                  rintro ⟨v268, v271, v276, gb284⟩ w147 ⟨hS_, h0_, h1_, h2_, h3_, h4_, h5_, h6_, h7_, h8_, h9_, h10_, h11_, h12_, h13_, h14_, h15_, h16_, h17_, h18_, h19_, h20_, h21_⟩
                  try dsimp only at h0_ h1_ h2_ h3_ h4_ h5_ h6_ h7_ h8_ h9_ h10_ h11_ h12_ h13_ h14_ h15_ h16_ h17_ h18_ h19_ h20_ h21_
                  have HO269 := Aside0.mk h0_; have HO272 := Aside0.mk h1_; have HO277 := Aside0.mk h2_; replace HO_223000 := Aside0.mk h3_; replace HO_232000 := Aside0.mk h4_; replace HO_242000 := Aside0.mk h5_; replace BK203 := Aside0.mk h6_; replace BK222 := Aside0.mk h7_; replace BK231 := Aside0.mk h8_; replace BK241 := Aside0.mk h9_; have BK284 := Aside0.mk h10_; have GW284 := Aside0.mk h11_; have GE284 := Aside0.mk h12_; have NB203_284 := Aside0.mk h13_; have NB284_203 := Aside0.mk h14_; have NB222_284 := Aside0.mk h15_; have NB284_222 := Aside0.mk h16_; have NB231_284 := Aside0.mk h17_; have NB284_231 := Aside0.mk h18_; have NB241_284 := Aside0.mk h19_; have NB284_241 := Aside0.mk h20_; replace HB := Aside0.mk h21_; clear h0_ h1_ h2_ h3_ h4_ h5_ h6_ h7_ h8_ h9_ h10_ h11_ h12_ h13_ h14_ h15_ h16_ h17_ h18_ h19_ h20_ h21_
                  have hHeld : w147.cell? ⟨gb203, 0, none⟩ = some (.slice A1_0 l1_0.length c1_0) ∧ w147.cell? ⟨gb203, 1, none⟩ = some (.int .i64 a1_1) ∧ w147.cell? ⟨gb203, 2, none⟩ = some (.int .i64 a1_2) := hS_
                  obtain ⟨Ao148, co148, eo148⟩ := Kd.R_slice HO269.out
                  (first | subst eo148 | (injection eo148 with f1_ f2_ f3_; have f4_ := f1_.symm; have f5_ := f3_.symm; clear f1_ f2_ f3_; subst f4_; subst f5_))
                  obtain ⟨Ao149, co149, eo149⟩ := Kd.R_slice HO272.out
                  (first | subst eo149 | (injection eo149 with f1_ f2_ f3_; have f4_ := f1_.symm; have f5_ := f3_.symm; clear f1_ f2_ f3_; subst f4_; subst f5_))
                  obtain ⟨Ao150, co150, eo150⟩ := Kd.R_slice HO277.out
                  (first | subst eo150 | (injection eo150 with f1_ f2_ f3_; have f4_ := f1_.symm; have f5_ := f3_.symm; clear f1_ f2_ f3_; subst f4_; subst f5_))
                  refine norm_ (a' := ?_) ?_ ?_
                  rotate_left
                  ·simp only [putAll, Act.put, List.setIfInBounds_toArray, List.set_cons_zero, List.set_cons_succ]
                   rfl
                  refine one_ (i := 6) (N := some 118) #[true, true, true, true, true, true, true, false, false, false, true, false, false] rfl rfl (one_of HT_.out (by kernel_rfl)) (by decide) (fun K hK => ?_)
                  refine goes_ Try.func13 (by kernel_rfl) rfl #[.slice Ao148 t267.length co148, .agg #[.slice Ao149 t270.length co149, .int .i64 t273, .int .i64 t274], .slice Ao150 t275.length co150] (by rfl) rfl rfl (by (try simp only [List.map_toArray, List.map_cons, List.map_nil]); first | done | rfl | (simp only [List.length_drop, List.length_take]; rfl)) ?_
                  with_reducible refine (impl_FlowStep.calls kj89 _ _ t267 _ _ t270 t273 t274 _ _ t275 t278 t281 t282 t283 _ ?side1 ?side2 ?side3 ?side4 ?side5 ?side6 A133.out).mono ?_
                  (case side1 => exact rD_ HO269)
                  (case side2 => exact (Kd.R_reads' HO269.out).2.1)
                  (case side3 => exact rD_ HO272)
                  (case side4 => exact (Kd.R_reads' HO272.out).2.1)
                  (case side5 => exact rD_ HO277)
                  (case side6 => exact (Kd.R_reads' HO277.out).2.1)
                  rintro e w151 ⟨v279, rfl, ho0, hb⟩
                  refine ⟨_, rfl, ?_⟩
                  have HO280 := rL_ (rN_ (rN_ (rN_ (rN_ (rN_ (rN_ ho0 HO_223000) HO_232000) HO_242000) HO269) HO272) HO277) HB
                  replace HO_223000 := rE_ HO_223000 ho0 hb; replace HO_232000 := rE_ HO_232000 ho0 hb; replace HO_242000 := rE_ HO_242000 ho0 hb; replace HO269 := rE_ HO269 ho0 hb; replace HO272 := rE_ HO272 ho0 hb; replace HO277 := rE_ HO277 ho0 hb; replace BK203 := bB_ BK203 hb; replace BK222 := bB_ BK222 hb; replace BK231 := bB_ BK231 hb; replace BK241 := bB_ BK241 hb; replace BK284 := bB_ BK284 hb; replace HB := bS_ HB hb; (try clear hb); (try clear hb2); (try clear hk); (try clear hi); (try clear ho0)
                  refine hK.out _ _ ⟨(blk_cell BK203.out 0).trans rfl, (blk_cell BK203.out 1).trans rfl, (blk_cell BK203.out 2).trans rfl⟩ (fun hHeld => ?_)
                  clear hK K
                  refine norm_ (a' := ?_) ?_ ?_
                  rotate_left
                  ·show Act.put _ (some 118) _ = _
                   simp only [Act.put, List.setIfInBounds_toArray, List.set_cons_zero, List.set_cons_succ, i64_w, i32_w]
                   rfl
                  refine pure_ (i := 7) (N := some 111) (v := ?_) (a' := ?_) #[true, true, true, true, true, true, true, true, false, false, true, false, false] rfl rfl (any_of HT_.out (by kernel_rfl)) (fun _ _ _ h => h) (Or.inl ⟨by rfl, ?_⟩) ?_ ?_
                  rotate_left
                  ·intro w'
                   go_simp
                   with_reducible rfl
                  rotate_left
                  ·simp only [Act.put, List.setIfInBounds_toArray, List.set_cons_zero, List.set_cons_succ, i64_w, i32_w]
                   rfl
                  refine pure_ (i := 8) (N := some 119) (v := ?_) (a' := ?_) #[true, true, true, true, true, true, true, true, true, false, true, false, false] rfl rfl (any_of HT_.out (by kernel_rfl)) (fun _ _ _ h => h) (Or.inl ⟨by rfl, ?_⟩) ?_ ?_
                  rotate_left
                  ·intro w'
                   go_simp
                   with_reducible rfl
                  rotate_left
                  ·simp only [Act.put, List.setIfInBounds_toArray, List.set_cons_zero, List.set_cons_succ, i64_w, i32_w]
                   rfl
                  refine pure_ (i := 9) (N := some 120) (v := ?_) (a' := ?_) #[true, true, true, true, true, true, true, true, true, true, true, false, false] rfl rfl (any_of HT_.out (by kernel_rfl)) (fun _ _ _ h => h) (Or.inl ⟨by rfl, ?_⟩) ?_ ?_
                  rotate_left
                  ·intro w'
                   go_simp
                   with_reducible rfl
                  rotate_left
                  ·simp only [Act.put, List.setIfInBounds_toArray, List.set_cons_zero, List.set_cons_succ, i64_w, i32_w]
                   rfl
                  exact norm_ (by simp only [putAll, Act.put, List.setIfInBounds_toArray, List.set_cons_zero, List.set_cons_succ] <;> rfl) (hJ1_3_5_6_10 (.slice Ao148 t267.length co148, .slice Ao149 t270.length co149, .slice Ao150 t275.length co150, v279, gb284) _ ⟨hHeld, (rM_ HO269), (rM_ HO272), (rM_ HO277), (rM_ HO280), (rM_ HO_223000), (rM_ HO_232000), (rM_ HO_242000), (bT_ BK203), (bT_ BK222), (bT_ BK231), (bT_ BK241), (bT_ BK284), GW284.out, GE284.out, NB203_284.out, NB284_203.out, NB222_284.out, NB284_222.out, NB231_284.out, NB284_231.out, NB241_284.out, NB284_241.out, (by repeat (first | (with_reducible first | exact HB.out | apply below_alloc | apply pw_below_drewN | apply below_drew1 | refine below_set ?_ GE203.out | refine below_set ?_ GE222.out | refine below_set ?_ GE231.out | refine below_set ?_ GE241.out | refine below_set ?_ GE284.out) | exact HB.out))⟩)
                ·skip
                 rintro ⟨v268, v271, v276, v279⟩ w150 ⟨hS_, h0_, h1_, h2_, h3_, h4_, h5_, h6_, h7_, h8_, h9_, h10_, h11_⟩
                 try dsimp only at h0_ h1_ h2_ h3_ h4_ h5_ h6_ h7_ h8_ h9_ h10_ h11_
                 have HO269 := Aside0.mk h0_; have HO272 := Aside0.mk h1_; have HO277 := Aside0.mk h2_; have HO280 := Aside0.mk h3_; replace HO_223000 := Aside0.mk h4_; replace HO_232000 := Aside0.mk h5_; replace HO_242000 := Aside0.mk h6_; replace BK203 := Aside0.mk h7_; replace BK222 := Aside0.mk h8_; replace BK231 := Aside0.mk h9_; replace BK241 := Aside0.mk h10_; replace HB := Aside0.mk h11_; clear h0_ h1_ h2_ h3_ h4_ h5_ h6_ h7_ h8_ h9_ h10_ h11_
                 have hHeld : w150.cell? ⟨gb203, 0, none⟩ = some (.slice A1_0 l1_0.length c1_0) ∧ w150.cell? ⟨gb203, 1, none⟩ = some (.int .i64 a1_1) ∧ w150.cell? ⟨gb203, 2, none⟩ = some (.int .i64 a1_2) := hS_
                 refine norm_ (a' := ?_) ?_ ?_
                 rotate_left
                 ·simp only [putAll, Act.put, List.setIfInBounds_toArray, List.set_cons_zero, List.set_cons_succ]
                  rfl
                 refine one_ (i := 10) (N := some 18) #[true, true, true, true, true, true, true, true, true, true, true, false, false] rfl rfl (one_of HT_.out (by kernel_rfl)) (by decide) (fun K hK => ?_)
                 refine box_step ?hg (N := 18) ?hd (cs := #[.slice none 0 0, .int .i64 0, .int .i64 0]) (t := 26) ?hr ?_; (case hd => rfl); (case hg => rfl); (case hr => first | (go_simp; done) | (go_simp; rfl))
                 intro gb284 hg w151 hbox hb
                 replace HO_223000 := rB_ HO_223000 hb; replace HO_232000 := rB_ HO_232000 hb; replace HO_242000 := rB_ HO_242000 hb; replace HO269 := rB_ HO269 hb; replace HO272 := rB_ HO272 hb; replace HO277 := rB_ HO277 hb; replace HO280 := rB_ HO280 hb
                 have BK284 := Aside0.mk (hbox)
                 have GW284 := gE_ HB hg; have GE284 := gE_ HB hg; replace HB := bS_ HB hb; have NB203_284 := nL_ BK203 hg; have NB284_203 := nG_ BK203 hg; replace BK203 := bB_ BK203 hb; have NB222_284 := nL_ BK222 hg; have NB284_222 := nG_ BK222 hg; replace BK222 := bB_ BK222 hb; have NB231_284 := nL_ BK231 hg; have NB284_231 := nG_ BK231 hg; replace BK231 := bB_ BK231 hb; have NB241_284 := nL_ BK241 hg; have NB284_241 := nG_ BK241 hg; replace BK241 := bB_ BK241 hb; clear hb hbox hg
                 refine hK.out _ _ ⟨(blk_cell BK203.out 0).trans rfl, (blk_cell BK203.out 1).trans rfl, (blk_cell BK203.out 2).trans rfl⟩ (fun hHeld => ?_)
                 clear hK K
                 refine norm_ (a' := ?_) ?_ ?_
                 rotate_left
                 ·show Act.put _ (some 18) _ = _
                  simp only [Act.put, List.setIfInBounds_toArray, List.set_cons_zero, List.set_cons_succ, i64_w, i32_w]
                  rfl
                 exact norm_ (by simp only [putAll, Act.put, List.setIfInBounds_toArray, List.set_cons_zero, List.set_cons_succ] <;> rfl) (hJ1_3_5_6_10 (v268, v271, v276, v279, gb284) _ ⟨hHeld, (rT_ HO269), (rT_ HO272), (rT_ HO277), (rT_ HO280), (rT_ HO_223000), (rT_ HO_232000), (rT_ HO_242000), (bT_ BK203), (bT_ BK222), (bT_ BK231), (bT_ BK241), (bT_ BK284), GW284.out, GE284.out, NB203_284.out, NB284_203.out, NB222_284.out, NB284_222.out, NB231_284.out, NB284_231.out, NB241_284.out, NB284_241.out, (by repeat (first | (with_reducible first | exact HB.out | apply below_alloc | apply pw_below_drewN | apply below_drew1 | refine below_set ?_ GE203.out | refine below_set ?_ GE222.out | refine below_set ?_ GE231.out | refine below_set ?_ GE241.out | refine below_set ?_ GE284.out) | exact HB.out))⟩)
               rintro ⟨v268, v271, v276, v279, gb284⟩ w151 ⟨hS_, h0_, h1_, h2_, h3_, h4_, h5_, h6_, h7_, h8_, h9_, h10_, h11_, h12_, h13_, h14_, h15_, h16_, h17_, h18_, h19_, h20_, h21_, h22_⟩
               try dsimp only at h0_ h1_ h2_ h3_ h4_ h5_ h6_ h7_ h8_ h9_ h10_ h11_ h12_ h13_ h14_ h15_ h16_ h17_ h18_ h19_ h20_ h21_ h22_
               have HO269 := Aside0.mk h0_; have HO272 := Aside0.mk h1_; have HO277 := Aside0.mk h2_; have HO280 := Aside0.mk h3_; replace HO_223000 := Aside0.mk h4_; replace HO_232000 := Aside0.mk h5_; replace HO_242000 := Aside0.mk h6_; replace BK203 := Aside0.mk h7_; replace BK222 := Aside0.mk h8_; replace BK231 := Aside0.mk h9_; replace BK241 := Aside0.mk h10_; have BK284 := Aside0.mk h11_; have GW284 := Aside0.mk h12_; have GE284 := Aside0.mk h13_; have NB203_284 := Aside0.mk h14_; have NB284_203 := Aside0.mk h15_; have NB222_284 := Aside0.mk h16_; have NB284_222 := Aside0.mk h17_; have NB231_284 := Aside0.mk h18_; have NB284_231 := Aside0.mk h19_; have NB241_284 := Aside0.mk h20_; have NB284_241 := Aside0.mk h21_; replace HB := Aside0.mk h22_; clear h0_ h1_ h2_ h3_ h4_ h5_ h6_ h7_ h8_ h9_ h10_ h11_ h12_ h13_ h14_ h15_ h16_ h17_ h18_ h19_ h20_ h21_ h22_
               have hHeld : w151.cell? ⟨gb203, 0, none⟩ = some (.slice A1_0 l1_0.length c1_0) ∧ w151.cell? ⟨gb203, 1, none⟩ = some (.int .i64 a1_1) ∧ w151.cell? ⟨gb203, 2, none⟩ = some (.int .i64 a1_2) := hS_
               obtain ⟨Ao152, co152, eo152⟩ := Kd.R_slice HO280.out
               (first | subst eo152 | (injection eo152 with f1_ f2_ f3_; have f4_ := f1_.symm; have f5_ := f3_.symm; clear f1_ f2_ f3_; subst f4_; subst f5_))
               refine norm_ (a' := ?_) ?_ ?_
               rotate_left
               ·simp only [putAll, Act.put, List.setIfInBounds_toArray, List.set_cons_zero, List.set_cons_succ]
                rfl
               refine one_ (i := 11) (N := none) #[true, true, true, true, true, true, true, true, true, true, true, true, false] rfl rfl (one_of HT_.out (by kernel_rfl)) (by decide) (fun K hK => ?_)
               have hs153 : w151.cell? ⟨gb284, 0, none⟩ = some (.slice none 0 0) := (blk_cell BK284.out 0).trans rfl
               have hfs153 := blk_frozen BK284.out 0; have hns153_0 := NB203_284.out; have hns153_1 := NB222_284.out; have hns153_2 := NB231_284.out; have hns153_3 := NB241_284.out; have hms153_0 := NB284_203.out; have hms153_1 := NB284_222.out; have hms153_2 := NB284_231.out; have hms153_3 := NB284_241.out
               have hs154 : w151.cell? ⟨gb284, 1, none⟩ = some (.int .i64 0) := (blk_cell BK284.out 1).trans rfl
               have hfs154 := blk_frozen BK284.out 1; have hns154_0 := NB203_284.out; have hns154_1 := NB222_284.out; have hns154_2 := NB231_284.out; have hns154_3 := NB241_284.out; have hms154_0 := NB284_203.out; have hms154_1 := NB284_222.out; have hms154_2 := NB284_231.out; have hms154_3 := NB284_241.out
               have hs155 : w151.cell? ⟨gb284, 2, none⟩ = some (.int .i64 0) := (blk_cell BK284.out 2).trans rfl
               have hfs155 := blk_frozen BK284.out 2; have hns155_0 := NB203_284.out; have hns155_1 := NB222_284.out; have hns155_2 := NB231_284.out; have hns155_3 := NB241_284.out; have hms155_0 := NB284_203.out; have hms155_1 := NB284_222.out; have hms155_2 := NB284_231.out; have hms155_3 := NB284_241.out
               refine skip_ (w1 := ?_) (by rfl) rfl ?_ ?_
               rotate_left
               ·go_simp
                rfl
               refine hK.out _ _ ⟨((cell_far (p := ⟨gb284, _, none⟩) NB203_284.out _).trans (((cell_far (p := ⟨gb284, _, none⟩) NB203_284.out _).trans (((cell_far (p := ⟨gb284, _, none⟩) NB203_284.out _).trans (hHeld.1)))))), ((cell_far (p := ⟨gb284, _, none⟩) NB203_284.out _).trans (((cell_far (p := ⟨gb284, _, none⟩) NB203_284.out _).trans (((cell_far (p := ⟨gb284, _, none⟩) NB203_284.out _).trans (hHeld.2.1)))))), ((cell_far (p := ⟨gb284, _, none⟩) NB203_284.out _).trans (((cell_far (p := ⟨gb284, _, none⟩) NB203_284.out _).trans (((cell_far (p := ⟨gb284, _, none⟩) NB203_284.out _).trans (hHeld.2.2))))))⟩ (fun hHeld => ?_)
               clear hK K
               refine pure_ (i := 12) (N := some 19) (v := ?_) (a' := ?_) #[true, true, true, true, true, true, true, true, true, true, true, true, true] rfl rfl (any_of HT_.out (by kernel_rfl)) (fun _ _ _ h => h) (Or.inl ⟨by rfl, ?_⟩) ?_ ?_
               rotate_left
               ·intro w'
                go_simp
                with_reducible rfl
               rotate_left
               ·simp only [Act.put, List.setIfInBounds_toArray, List.set_cons_zero, List.set_cons_succ, i64_w, i32_w]
                rfl
               refine done_ (done_of HT_.out (by kernel_rfl)) ?_
               go_upto_region 37 with (fail)
               go_cut [129] (fun v129 wc => ∃ (kq : Nat) (x129_133 : Bool), v129 = .bool x129_133 ∧ Aside0 (laws_FnExactFlowStep.j2 kq t264 x129_133 t265 t238 t239 = some true) ∧ Aside0 (kq ≤ kj89) ∧ Aside0 (Kd.R (Kd.int .i64) 2 wc w.heap.size (fun k_ => some k_ ≠ ((.slice Ao44 t260.length co44) : Value).ownBlock ∧ some k_ ≠ ((.slice Ao54 t235.length co54) : Value).ownBlock ∧ some k_ ≠ ((.slice Ao152 t278.length co152) : Value).ownBlock) (.slice Ao35 t216.length co35) t216) ∧ Aside0 (Kd.R (Kd.int .i64) 2 wc w.heap.size (fun k_ => some k_ ≠ ((.slice Ao35 t216.length co35) : Value).ownBlock ∧ some k_ ≠ ((.slice Ao54 t235.length co54) : Value).ownBlock ∧ some k_ ≠ ((.slice Ao152 t278.length co152) : Value).ownBlock) (.slice Ao44 t260.length co44) t260) ∧ Aside0 (Kd.R (Kd.int .i64) 2 wc w.heap.size (fun k_ => some k_ ≠ ((.slice Ao35 t216.length co35) : Value).ownBlock ∧ some k_ ≠ ((.slice Ao44 t260.length co44) : Value).ownBlock ∧ some k_ ≠ ((.slice Ao152 t278.length co152) : Value).ownBlock) (.slice Ao54 t235.length co54) t265) ∧ Aside0 (Kd.R (Kd.int .i64) 2 wc w.heap.size (fun k_ => some k_ ≠ ((.slice Ao35 t216.length co35) : Value).ownBlock ∧ some k_ ≠ ((.slice Ao44 t260.length co44) : Value).ownBlock ∧ some k_ ≠ ((.slice Ao54 t235.length co54) : Value).ownBlock) (.slice Ao152 t278.length co152) t278) ∧ Aside0 (wc.heap[gb203]? = some (.cells #[(.slice A1_0 l1_0.length c1_0), .int .i64 a1_1, .int .i64 a1_2] 24 (0, 0))) ∧ Aside0 (wc.heap[gb222]? = some (.cells #[(.slice Ao35 t216.length co35), .int .i64 t219, .int .i64 t220] 26 (0, 0))) ∧ Aside0 (wc.heap[gb231]? = some (.cells #[(.slice Ao44 t260.length co44), .int .i64 t229, .int .i64 t230] 26 (0, 0))) ∧ Aside0 (wc.heap[gb241]? = some (.cells #[(.slice Ao54 t235.length co54), .int .i64 t238, .int .i64 t239] 26 (0, 0))) ∧ Aside0 (wc.heap[gb284]? = some (.cells #[(.slice Ao152 t278.length co152), .int .i64 t281, .int .i64 t282] 26 (0, 0))) ∧ Aside0 (Below w.heap.size w wc))
               case first =>
                have H := HC134.out; clear HC134; replace H := Option.bind_eq_some_iff.mp H
                obtain ⟨t285, A1560, H⟩ := H
                replace H : (if t285 = true then (laws_FnExactFlowStep.j2 kj89 t264 (t283 != t221) t265 t238 t239) else (laws_FnExactFlowStep.j2 kj89 t264 true t265 t238 t239)) = some true := H
                have A156 := Aside0.mk A1560; clear A1560
                by_cases c157 : t285 = true
                ·subst c157
                 have H1 : (laws_FnExactFlowStep.j2 kj89 t264 (t283 != t221) t265 t238 t239) = some true := by rw [if_pos rfl] at H; exact H
                 clear H; have H := H1; clear H1; have H' := Aside0.mk H; clear H; have hnb158 := NB284_203.out; have hnc158 := NB203_284.out; have hnb159 := NB284_222.out; have hnc159 := NB222_284.out; have hnb160 := NB284_231.out; have hnc160 := NB231_284.out; have hnb161 := NB284_241.out; have hnc161 := NB241_284.out
                 have hcz162_0 : w151.cell? ⟨gb284, 0, none⟩ = some (.slice none 0 0) := (blk_cell BK284.out 0).trans rfl
                 have hcz162_1 : w151.cell? ⟨gb284, 1, none⟩ = some (.int .i64 0) := (blk_cell BK284.out 1).trans rfl
                 have hcz162_2 : w151.cell? ⟨gb284, 2, none⟩ = some (.int .i64 0) := (blk_cell BK284.out 2).trans rfl
                 have hfz162_0 := blk_frozen BK284.out 0; have hfz162_1 := blk_frozen BK284.out 1; have hfz162_2 := blk_frozen BK284.out 2; have hnb163 := NB222_203.out; have hnc163 := NB203_222.out; have hnb164 := NB222_231.out; have hnc164 := NB231_222.out; have hnb165 := NB222_241.out; have hnc165 := NB241_222.out
                 have hcz166_0 : w151.cell? ⟨gb222, 0, none⟩ = some (.slice Ao35 t216.length co35) := (blk_cell BK222.out 0).trans rfl
                 have hcz166_1 : w151.cell? ⟨gb222, 1, none⟩ = some (.int .i64 t219) := (blk_cell BK222.out 1).trans rfl
                 have hcz166_2 : w151.cell? ⟨gb222, 2, none⟩ = some (.int .i64 t220) := (blk_cell BK222.out 2).trans rfl
                 have hfz166_0 := blk_frozen BK222.out 0; have hfz166_1 := blk_frozen BK222.out 1; have hfz166_2 := blk_frozen BK222.out 2
                 go_wp2_with (first | ((with_reducible refine gate_callee (f := 14) rfl ?_); refine goesL_ (some 123) rfl rfl Try.func14 (by kernel_rfl) rfl #[.agg #[.slice Ao152 t278.length co152, .int .i64 t281, .int .i64 t282], .agg #[.slice Ao35 t216.length co35, .int .i64 t219, .int .i64 t220]] rfl (by (try simp only [List.map_toArray, List.map_cons, List.map_nil]); first | done | rfl | (simp only [List.length_drop, List.length_take]; rfl)) ?_; (with_reducible refine (laws_eqBook.calls kj89 _ _ t278 t281 t282 _ _ t216 t219 t220 true _ ?side1 ?side2 ?side3 ?side4 A156.out).mono ?_); (case side1 => exact rDF_ HO280 BK284); (case side2 => exact (Kd.R_reads' HO280.out).2.1); (case side3 => exact rDF_ HO_223000 BK284); (case side4 => exact (Kd.R_reads' HO_223000.out).2.1); rintro e w167 ⟨rfl, hb⟩; refine ⟨_, rfl, ?_⟩; replace HO_223000 := rBF_ HO_223000 BK284 hb; replace HO_232000 := rBF_ HO_232000 BK284 hb; replace HO_242000 := rBF_ HO_242000 BK284 hb; replace HO269 := rBF_ HO269 BK284 hb; replace HO272 := rBF_ HO272 BK284 hb; replace HO277 := rBF_ HO277 BK284 hb; replace HO280 := rBF_ HO280 BK284 hb; replace BK203 := bBF_ BK203 NB203_284 hb; replace BK222 := bBF_ BK222 NB222_284 hb; replace BK231 := bBF_ BK231 NB231_284 hb; replace BK241 := bBF_ BK241 NB241_284 hb; replace BK284 := Aside0.mk (blk_below (g := gb284) (o := .cells #[.slice Ao152 t278.length co152, .int .i64 t281, .int .i64 t282] 26 (0, 0)) (by (with_reducible repeat (first | refine blk_drewN ?_ _ | refine blk_drew ?_ | refine blk_alloc ?_ _)); refine blk_put (cs := #[.slice Ao152 t278.length co152, .int .i64 t281, .int .i64 0]) ?_ 2 _ rfl; (with_reducible repeat (first | refine blk_drewN ?_ _ | refine blk_drew ?_ | refine blk_alloc ?_ _)); refine blk_put (cs := #[.slice Ao152 t278.length co152, .int .i64 0, .int .i64 0]) ?_ 1 _ rfl; (with_reducible repeat (first | refine blk_drewN ?_ _ | refine blk_drew ?_ | refine blk_alloc ?_ _)); refine blk_put (cs := #[.slice none 0 0, .int .i64 0, .int .i64 0]) ?_ 0 _ rfl; (with_reducible repeat (first | refine blk_drewN ?_ _ | refine blk_drew ?_ | refine blk_alloc ?_ _)); exact BK284.out) hb); replace HB := bSF_ HB GE284 hb; (try clear hb); (try clear hb2); (try clear hk); (try clear hi)))
                 go_meet
                 case rel => exact ⟨_, ((t283 != t221)), (by first | rfl | (simp; done) | (simp [*]; done)), H', ⟨by have := HJ20.out; have := HJ89.out; first | omega | exact Nat.le_refl _⟩, ⟨by (try simp only [hl232000_89]); (with_reducible repeat (first | apply Kd.R_alloc | apply Kd.R_drewN | apply Kd.R_drew)); exact Kd.R_mono HO_223000.out (fun _ hk => ⟨hk.2.2.2.2.1, ⟨hk.2.2.2.2.2, hk.2.2.2.1⟩⟩)⟩, ⟨by (try simp only [hl232000_89]); (with_reducible repeat (first | apply Kd.R_alloc | apply Kd.R_drewN | apply Kd.R_drew)); exact Kd.R_mono HO_232000.out (fun _ hk => ⟨hk.2.2.2.2.1, ⟨hk.2.2.2.2.2, hk.2.2.2.1⟩⟩)⟩, ⟨by (try simp only [hl232000_89]); (with_reducible repeat (first | apply Kd.R_alloc | apply Kd.R_drewN | apply Kd.R_drew)); exact Kd.R_mono HO_242000.out (fun _ hk => ⟨hk.2.2.2.2.1, ⟨hk.2.2.2.2.2, hk.2.2.2.1⟩⟩)⟩, ⟨by (try simp only [hl232000_89]); (with_reducible repeat (first | apply Kd.R_alloc | apply Kd.R_drewN | apply Kd.R_drew)); exact Kd.R_mono HO280.out (fun _ hk => ⟨hk.2.2.2.1, ⟨hk.2.2.2.2.1, hk.2.2.2.2.2⟩⟩)⟩, ⟨by (try simp only [hl232000_89]); (with_reducible repeat (first | refine blk_drewN ?_ _ | refine blk_drew ?_ | refine blk_alloc ?_ _)); exact BK203.out⟩, ⟨by (try simp only [hl232000_89]); (with_reducible repeat (first | refine blk_drewN ?_ _ | refine blk_drew ?_ | refine blk_alloc ?_ _)); exact BK222.out⟩, ⟨by (try simp only [hl232000_89]); (with_reducible repeat (first | refine blk_drewN ?_ _ | refine blk_drew ?_ | refine blk_alloc ?_ _)); exact BK231.out⟩, ⟨by (try simp only [hl232000_89]); (with_reducible repeat (first | refine blk_drewN ?_ _ | refine blk_drew ?_ | refine blk_alloc ?_ _)); exact BK241.out⟩, ⟨by (try simp only [hl232000_89]); (with_reducible repeat (first | refine blk_drewN ?_ _ | refine blk_drew ?_ | refine blk_alloc ?_ _)); exact BK284.out⟩, ⟨by repeat (first | (with_reducible first | exact HB.out | apply below_alloc | apply pw_below_drewN | apply below_drew1 | refine below_set ?_ GE203.out | refine below_set ?_ GE222.out | refine below_set ?_ GE231.out | refine below_set ?_ GE241.out | refine below_set ?_ GE284.out) | exact HB.out)⟩⟩
                ·replace c157 := Bool.eq_false_iff.mpr c157
                 subst c157
                 have H1 : (laws_FnExactFlowStep.j2 kj89 t264 true t265 t238 t239) = some true := by rw [if_neg (show ¬ (false = true) by decide)] at H; exact H
                 clear H; have H := H1; clear H1; have H' := Aside0.mk H; clear H; have hnb168 := NB284_203.out; have hnc168 := NB203_284.out; have hnb169 := NB284_222.out; have hnc169 := NB222_284.out; have hnb170 := NB284_231.out; have hnc170 := NB231_284.out; have hnb171 := NB284_241.out; have hnc171 := NB241_284.out
                 have hcz172_0 : w151.cell? ⟨gb284, 0, none⟩ = some (.slice none 0 0) := (blk_cell BK284.out 0).trans rfl
                 have hcz172_1 : w151.cell? ⟨gb284, 1, none⟩ = some (.int .i64 0) := (blk_cell BK284.out 1).trans rfl
                 have hcz172_2 : w151.cell? ⟨gb284, 2, none⟩ = some (.int .i64 0) := (blk_cell BK284.out 2).trans rfl
                 have hfz172_0 := blk_frozen BK284.out 0; have hfz172_1 := blk_frozen BK284.out 1; have hfz172_2 := blk_frozen BK284.out 2; have hnb173 := NB222_203.out; have hnc173 := NB203_222.out; have hnb174 := NB222_231.out; have hnc174 := NB231_222.out; have hnb175 := NB222_241.out; have hnc175 := NB241_222.out
                 have hcz176_0 : w151.cell? ⟨gb222, 0, none⟩ = some (.slice Ao35 t216.length co35) := (blk_cell BK222.out 0).trans rfl
                 have hcz176_1 : w151.cell? ⟨gb222, 1, none⟩ = some (.int .i64 t219) := (blk_cell BK222.out 1).trans rfl
                 have hcz176_2 : w151.cell? ⟨gb222, 2, none⟩ = some (.int .i64 t220) := (blk_cell BK222.out 2).trans rfl
                 have hfz176_0 := blk_frozen BK222.out 0; have hfz176_1 := blk_frozen BK222.out 1; have hfz176_2 := blk_frozen BK222.out 2
                 go_wp2_with (first | ((with_reducible refine gate_callee (f := 14) rfl ?_); refine goesL_ (some 123) rfl rfl Try.func14 (by kernel_rfl) rfl #[.agg #[.slice Ao152 t278.length co152, .int .i64 t281, .int .i64 t282], .agg #[.slice Ao35 t216.length co35, .int .i64 t219, .int .i64 t220]] rfl (by (try simp only [List.map_toArray, List.map_cons, List.map_nil]); first | done | rfl | (simp only [List.length_drop, List.length_take]; rfl)) ?_; (with_reducible refine (laws_eqBook.calls kj89 _ _ t278 t281 t282 _ _ t216 t219 t220 false _ ?side1 ?side2 ?side3 ?side4 A156.out).mono ?_); (case side1 => exact rDF_ HO280 BK284); (case side2 => exact (Kd.R_reads' HO280.out).2.1); (case side3 => exact rDF_ HO_223000 BK284); (case side4 => exact (Kd.R_reads' HO_223000.out).2.1); rintro e w177 ⟨rfl, hb⟩; refine ⟨_, rfl, ?_⟩; replace HO_223000 := rBF_ HO_223000 BK284 hb; replace HO_232000 := rBF_ HO_232000 BK284 hb; replace HO_242000 := rBF_ HO_242000 BK284 hb; replace HO269 := rBF_ HO269 BK284 hb; replace HO272 := rBF_ HO272 BK284 hb; replace HO277 := rBF_ HO277 BK284 hb; replace HO280 := rBF_ HO280 BK284 hb; replace BK203 := bBF_ BK203 NB203_284 hb; replace BK222 := bBF_ BK222 NB222_284 hb; replace BK231 := bBF_ BK231 NB231_284 hb; replace BK241 := bBF_ BK241 NB241_284 hb; replace BK284 := Aside0.mk (blk_below (g := gb284) (o := .cells #[.slice Ao152 t278.length co152, .int .i64 t281, .int .i64 t282] 26 (0, 0)) (by (with_reducible repeat (first | refine blk_drewN ?_ _ | refine blk_drew ?_ | refine blk_alloc ?_ _)); refine blk_put (cs := #[.slice Ao152 t278.length co152, .int .i64 t281, .int .i64 0]) ?_ 2 _ rfl; (with_reducible repeat (first | refine blk_drewN ?_ _ | refine blk_drew ?_ | refine blk_alloc ?_ _)); refine blk_put (cs := #[.slice Ao152 t278.length co152, .int .i64 0, .int .i64 0]) ?_ 1 _ rfl; (with_reducible repeat (first | refine blk_drewN ?_ _ | refine blk_drew ?_ | refine blk_alloc ?_ _)); refine blk_put (cs := #[.slice none 0 0, .int .i64 0, .int .i64 0]) ?_ 0 _ rfl; (with_reducible repeat (first | refine blk_drewN ?_ _ | refine blk_drew ?_ | refine blk_alloc ?_ _)); exact BK284.out) hb); replace HB := bSF_ HB GE284 hb; (try clear hb); (try clear hb2); (try clear hk); (try clear hi)))
                 go_meet
                 case rel => exact ⟨_, (true), (by first | rfl | (simp; done) | (simp [*]; done)), H', ⟨by have := HJ20.out; have := HJ89.out; first | omega | exact Nat.le_refl _⟩, ⟨by (try simp only [hl232000_89]); (with_reducible repeat (first | apply Kd.R_alloc | apply Kd.R_drewN | apply Kd.R_drew)); exact Kd.R_mono HO_223000.out (fun _ hk => ⟨hk.2.2.2.2.1, ⟨hk.2.2.2.2.2, hk.2.2.2.1⟩⟩)⟩, ⟨by (try simp only [hl232000_89]); (with_reducible repeat (first | apply Kd.R_alloc | apply Kd.R_drewN | apply Kd.R_drew)); exact Kd.R_mono HO_232000.out (fun _ hk => ⟨hk.2.2.2.2.1, ⟨hk.2.2.2.2.2, hk.2.2.2.1⟩⟩)⟩, ⟨by (try simp only [hl232000_89]); (with_reducible repeat (first | apply Kd.R_alloc | apply Kd.R_drewN | apply Kd.R_drew)); exact Kd.R_mono HO_242000.out (fun _ hk => ⟨hk.2.2.2.2.1, ⟨hk.2.2.2.2.2, hk.2.2.2.1⟩⟩)⟩, ⟨by (try simp only [hl232000_89]); (with_reducible repeat (first | apply Kd.R_alloc | apply Kd.R_drewN | apply Kd.R_drew)); exact Kd.R_mono HO280.out (fun _ hk => ⟨hk.2.2.2.1, ⟨hk.2.2.2.2.1, hk.2.2.2.2.2⟩⟩)⟩, ⟨by (try simp only [hl232000_89]); (with_reducible repeat (first | refine blk_drewN ?_ _ | refine blk_drew ?_ | refine blk_alloc ?_ _)); exact BK203.out⟩, ⟨by (try simp only [hl232000_89]); (with_reducible repeat (first | refine blk_drewN ?_ _ | refine blk_drew ?_ | refine blk_alloc ?_ _)); exact BK222.out⟩, ⟨by (try simp only [hl232000_89]); (with_reducible repeat (first | refine blk_drewN ?_ _ | refine blk_drew ?_ | refine blk_alloc ?_ _)); exact BK231.out⟩, ⟨by (try simp only [hl232000_89]); (with_reducible repeat (first | refine blk_drewN ?_ _ | refine blk_drew ?_ | refine blk_alloc ?_ _)); exact BK241.out⟩, ⟨by (try simp only [hl232000_89]); (with_reducible repeat (first | refine blk_drewN ?_ _ | refine blk_drew ?_ | refine blk_alloc ?_ _)); exact BK284.out⟩, ⟨by repeat (first | (with_reducible first | exact HB.out | apply below_alloc | apply pw_below_drewN | apply below_drew1 | refine below_set ?_ GE203.out | refine below_set ?_ GE222.out | refine below_set ?_ GE231.out | refine below_set ?_ GE241.out | refine below_set ?_ GE284.out) | exact HB.out)⟩⟩
               case rest =>
                clear HC134; (try clear c1); (try clear p2); (try clear c13); (try clear c14); (try clear c15); (try clear c16); (try clear c17); (try clear c157); (try clear c158); (try clear c159); (try clear c160); (try clear c161); (try clear c163); (try clear c164); (try clear c165); (try clear c168); (try clear c169); (try clear c170); (try clear c171); (try clear c173); (try clear c174); (try clear c175); (try clear hcz162_0); (try clear hcz162_1); (try clear hcz162_2); (try clear hcz166_0); (try clear hcz166_1); (try clear hcz166_2); (try clear hcz172_0); (try clear hcz172_1); (try clear hcz172_2); (try clear hcz176_0); (try clear hcz176_1); (try clear hcz176_2); (try clear hfz162_0); (try clear hfz162_1); (try clear hfz162_2); (try clear hfz166_0); (try clear hfz166_1); (try clear hfz166_2); (try clear hfz172_0); (try clear hfz172_1); (try clear hfz172_2); (try clear hfz176_0); (try clear hfz176_1); (try clear hfz176_2)
                obtain ⟨kq, x129_133, rfl, HA, HJ133, HO_223000, HO_232000, HO_242000, HO_285000, BK203, BK222, BK231, BK241, BK284, HB⟩ := hcut
                have hl242000_133 := (Kd.R_reads' HO_242000.out).1
                rw [hl242000_133] at HO_242000
                (try simp only [hl242000_133])
                (try simp only [hl242000_133] at BK203)
                (try simp only [hl242000_133] at BK222)
                (try simp only [hl242000_133] at BK231)
                (try simp only [hl242000_133] at BK241)
                (try simp only [hl242000_133] at BK284)
                (try simp only [hl242000_133] at HO_223000)
                (try simp only [hl242000_133] at HO_232000)
                (try simp only [hl242000_133] at HO_285000)
                cases kq with
                | zero => exact absurd HA.out (by simp [laws_FnExactFlowStep.j2])
                | succ kj133 =>
                 have H := HA.out; clear HA
                 simp only [laws_FnExactFlowStep.j2] at H
                 by_cases c178 : x129_133 = true
                 ·subst c178
                  have H1 : (some false) = some true := by rw [if_pos rfl] at H; exact H
                  clear H; have H := H1; clear H1
                  exact absurd H (by simp)
                 ·replace c178 := Bool.eq_false_iff.mpr c178
                  subst c178
                  have H1 : ((laws_heldBook.f kj133 t265 t238 t239 1).bind fun t286 => (if t286 < 0 then (some false) else (if t286 = t264 then (some true) else (some false)))) = some true := by rw [if_neg (show ¬ (false = true) by decide)] at H; exact H
                  clear H; have H := H1; clear H1; replace H := Option.bind_eq_some_iff.mp H
                  obtain ⟨t286, A1790, H⟩ := H
                  replace H : (if t286 < 0 then (some false) else (if t286 = t264 then (some true) else (some false))) = some true := H
                  have A179 := Aside0.mk A1790; clear A1790
                  by_cases c180 : t286 < 0
                  ·rw [if_pos c180] at H
                   have c180b0 : decide (t286 < 0) = true := decide_eq_true c180
                   clear c180
                   exact absurd H (by simp)
                  ·rw [if_neg c180] at H
                   have c180b0 : decide (t286 < 0) = false := decide_eq_false c180
                   clear c180
                   by_cases c181 : t286 = t264
                   ·rw [if_pos c181] at H
                    have c181b0 : (t286 == t264) = true := beq_iff_eq.mpr c181
                    have c181b1 : (t286 != t264) = false := bne_eq_false_iff_eq.mpr c181
                    clear c181 H; have hnb182 := NB241_203.out; have hnc182 := NB203_241.out; have hnb183 := NB241_222.out; have hnc183 := NB222_241.out; have hnb184 := NB241_231.out; have hnc184 := NB231_241.out; have hnb185 := NB241_284.out; have hnc185 := NB284_241.out
                    have hcz186_0 : wc.cell? ⟨gb241, 0, none⟩ = some (.slice Ao54 t265.length co54) := (blk_cell BK241.out 0).trans rfl
                    have hcz186_1 : wc.cell? ⟨gb241, 1, none⟩ = some (.int .i64 t238) := (blk_cell BK241.out 1).trans rfl
                    have hcz186_2 : wc.cell? ⟨gb241, 2, none⟩ = some (.int .i64 t239) := (blk_cell BK241.out 2).trans rfl
                    have hfz186_0 := blk_frozen BK241.out 0; have hfz186_1 := blk_frozen BK241.out 1; have hfz186_2 := blk_frozen BK241.out 2
                    go_wp2_with (first | ((with_reducible refine gate_callee (f := 18) rfl ?_); refine goesL_ (some 132) rfl rfl Try.func18 (by kernel_rfl) rfl #[.agg #[.slice Ao54 t265.length co54, .int .i64 t238, .int .i64 t239], .int .i64 1] rfl (by (try simp only [List.map_toArray, List.map_cons, List.map_nil]); first | done | rfl | (simp only [List.length_drop, List.length_take]; rfl)) ?_; (with_reducible refine (laws_heldBook.calls kj133 _ _ t265 t238 t239 1 t286 _ ?side1 ?side2 A179.out).mono ?_); (case side1 => exact rD_ HO_242000); (case side2 => exact (Kd.R_reads' HO_242000.out).2.1); rintro e w187 ⟨rfl, hb⟩; refine ⟨_, rfl, ?_⟩; replace HO_223000 := rB_ HO_223000 hb; replace HO_232000 := rB_ HO_232000 hb; replace HO_242000 := rB_ HO_242000 hb; replace HO_285000 := rB_ HO_285000 hb; replace BK203 := bB_ BK203 hb; replace BK222 := bB_ BK222 hb; replace BK231 := bB_ BK231 hb; replace BK241 := bB_ BK241 hb; replace BK284 := bB_ BK284 hb; replace HB := bS_ HB hb; (try clear hb); (try clear hb2); (try clear hk); (try clear hi)))
                    go_ret
                    exact ⟨by first | rfl | (simp [errW_none, errW_some] <;> rfl) | (simp [*, errW_none, errW_some] <;> rfl), by repeat (first | (with_reducible first | exact HB.out | apply below_alloc | apply pw_below_drewN | apply below_drew1 | refine below_set ?_ GE203.out | refine below_set ?_ GE222.out | refine below_set ?_ GE231.out | refine below_set ?_ GE241.out | refine below_set ?_ GE284.out) | exact HB.out)⟩
                   ·rw [if_neg c181] at H
                    have c181b0 : (t286 == t264) = false := beq_eq_false_iff_ne.mpr c181
                    have c181b1 : (t286 != t264) = true := bne_iff_ne.mpr c181
                    exact absurd H (by simp)
              ·rw [if_neg c129] at H
               have c129b0 : (t266 == t264) = false := beq_eq_false_iff_ne.mpr c129
               have c129b1 : (t266 != t264) = true := bne_iff_ne.mpr c129
               exact absurd H (by simp)
         ·replace c86 := Bool.eq_false_iff.mpr c86
          subst c86
          have H1 : (some false) = some true := by rw [if_neg (show ¬ (false = true) by decide)] at H; exact H
          clear H; have H := H1; clear H1
          exact absurd H (by simp)
        ·replace c83 := Bool.eq_false_iff.mpr c83
         subst c83
         have H1 : (some false) = some true := by rw [if_neg (show ¬ (false = true) by decide)] at H; exact H
         clear H; have H := H1; clear H1
         exact absurd H (by simp)
       ·replace c80 := Bool.eq_false_iff.mpr c80
        subst c80
        have H1 : (some false) = some true := by rw [if_neg (show ¬ (false = true) by decide)] at H; exact H
        clear H; have H := H1; clear H1
        exact absurd H (by simp)

end Go.Proofs.Ytopfdmodbhopiaa.QFnExactFlowStep
