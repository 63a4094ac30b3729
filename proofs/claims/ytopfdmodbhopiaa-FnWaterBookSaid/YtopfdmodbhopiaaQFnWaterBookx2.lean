-- Written by a program of this session out of the printer's texts and contracts of its own.
import Derived.Test.YtopfdmodbhopiaaSq
import Derived.Test.YtopfdmodbhopiaaQFnWaterBookx0
import Derived.Test.YtopfdmodbhopiaaQFnWaterBookx1
namespace Go.Proofs.Ytopfdmodbhopiaa.QFnWaterBook
open Go.RowKit Go.Proofs.YtopfdmodbhopiaaW.PrintWords Go.Proofs.YtopfdmodbhopiaaW.PrintLast Go.Proofs.YtopfdmodbhopiaaW.PrintMore Go.Proofs.Ytopfdmodbhopiaa.Sq
attribute [local go_sem] max2_int min2_int max_two min_two max_three min_three max_four min_four   -- for this text's walks alone
set_option linter.unusedVariables false
set_option linter.unusedSimpArgs false

/-! ### spec_FlowStep: function 10 -/
mutual
def spec_FlowStep.j0 : Nat → List Int → List Int → Bool → List Int → Int → Int → Option (List Int × Int × Int × Bool)
 | 0, _, _, _, _, _, _ => none
 | k + 1, x0, x2, x46, x111000, x111001, x111002 => if x46 = true then (some (([] : List Int), 0, 0, false)) else ((spec_l13Sum.f k x111000).bind fun bt115 => ((spec_l13Sum.f k x2).bind fun bt117 => (if bt115.2 = true then (if bt117.2 = true then (if (wrap64 (bt115.1 + x111001)) = x111002 then (spec_FlowStep.j1 k x0 x2 bt117.1 (decide (x111002 > (wrap64 (1000000000000 - bt117.1)))) x111000 x111001 x111002) else (spec_FlowStep.j1 k x0 x2 bt117.1 true x111000 x111001 x111002)) else (spec_FlowStep.j1 k x0 x2 bt117.1 true x111000 x111001 x111002)) else (spec_FlowStep.j1 k x0 x2 bt117.1 true x111000 x111001 x111002))))
def spec_FlowStep.j1 : Nat → List Int → List Int → Int → Bool → List Int → Int → Int → Option (List Int × Int × Int × Bool)
 | 0, _, _, _, _, _, _, _ => none
 | k + 1, x0, x2, x10, x80, x111000, x111001, x111002 => if x80 = true then (some (([] : List Int), 0, 0, false)) else (spec_FlowStep.l0 k x0 x2 0 x111000 x111001 x111002 ([] : List Int) x111001 (wrap64 (x111002 + x10)))
def spec_FlowStep.l0 : Nat → List Int → List Int → Int → List Int → Int → Int → List Int → Int → Int → Option (List Int × Int × Int × Bool)
 | 0, _, _, _, _, _, _, _, _, _ => none
 | k + 1, x0, x2, x13, x111000, x111001, x111002, x120000, x120001, x120002 => if x13 < (x0.length : Int) then (if 0 ≤ x13 then (if x13 < (x111000.length : Int) then (if x13 < (x2.length : Int) then (if x120000.length < 17592186044416 then (spec_FlowStep.l0 k x0 x2 (wrap64 (x13 + 1)) x111000 x111001 x111002 (x120000 ++ [wrap64 ((rd x111000 x13) + (rd x2 x13))]) x120001 x120002) else (none)) else (none)) else (none)) else (none)) else ((some (([] : List Int) : List Int)).bind fun y125 => (if y125.length + x120000.length < 17592186044416 then (spec_FlowStep.l1 k x0 (y125 ++ x120000) 0 x120000 x120001 x120002) else (none)))
def spec_FlowStep.l1 : Nat → List Int → List Int → Int → List Int → Int → Int → Option (List Int × Int × Int × Bool)
 | 0, _, _, _, _, _, _ => none
 | k + 1, x0, x14, x15, x120000, x120001, x120002 => if x15 < (x0.length : Int) then (if 0 ≤ x15 then (if x15 < (x14.length : Int) then (if x15 < (x120000.length : Int) then ((some (x120000.set (x15 : Int).toNat (wrap64 ((rd x120000 x15) - (wrap64 ((rd x14 x15) - (wrap64 (Int.tdiv (rd x14 x15) 2)))))) : List Int)).bind fun y134 => (if (rd x0 x15) < 0 then (spec_FlowStep.l1 k x0 x14 (wrap64 (x15 + 1)) y134 (wrap64 (x120001 + (wrap64 ((rd x14 x15) - (wrap64 (Int.tdiv (rd x14 x15) 2)))))) x120002) else (if 0 ≤ (rd x0 x15) then (if (rd x0 x15) < (x120000.length : Int) then (spec_FlowStep.l1 k x0 x14 (wrap64 (x15 + 1)) (y134.set ((rd x0 x15) : Int).toNat (wrap64 ((rd y134 (rd x0 x15)) + (wrap64 ((rd x14 x15) - (wrap64 (Int.tdiv (rd x14 x15) 2))))))) x120001 x120002) else (none)) else (none)))) else (none)) else (none)) else (none)) else (some (x120000, x120001, x120002, true))
end
def spec_FlowStep.f (k : Nat) (l0 : List Int) (l1_0 : List Int) (a1_1 : Int) (a1_2 : Int) (l2 : List Int) : Option (List Int × Int × Int × Bool) := (spec_l13Ok.f k l0).bind fun t112 => (if t112 = true then (if (l1_0.length : Int) = (l0.length : Int) then (if (l2.length : Int) = (l0.length : Int) then ((spec_l2In.f a1_1 0 1000000000000).bind fun t113 => (if t113 = true then ((spec_l2In.f a1_2 0 1000000000000).bind fun t114 => (spec_FlowStep.j0 k l0 l2 (!t114) l1_0 a1_1 a1_2)) else (spec_FlowStep.j0 k l0 l2 true l1_0 a1_1 a1_2))) else (spec_FlowStep.j0 k l0 l2 true l1_0 a1_1 a1_2)) else (spec_FlowStep.j0 k l0 l2 true l1_0 a1_1 a1_2)) else (spec_FlowStep.j0 k l0 l2 true l1_0 a1_1 a1_2))
theorem spec_FlowStep.mono_l : ∀ k, (∀ y0 y1 y2 y3 y4 y5, LeO (spec_FlowStep.j0 k y0 y1 y2 y3 y4 y5) (spec_FlowStep.j0 (k + 1) y0 y1 y2 y3 y4 y5)) ∧ (∀ y0 y1 y2 y3 y4 y5 y6, LeO (spec_FlowStep.j1 k y0 y1 y2 y3 y4 y5 y6) (spec_FlowStep.j1 (k + 1) y0 y1 y2 y3 y4 y5 y6)) ∧ (∀ y0 y1 y2 y3 y4 y5 y6 y7 y8, LeO (spec_FlowStep.l0 k y0 y1 y2 y3 y4 y5 y6 y7 y8) (spec_FlowStep.l0 (k + 1) y0 y1 y2 y3 y4 y5 y6 y7 y8)) ∧ (∀ y0 y1 y2 y3 y4 y5, LeO (spec_FlowStep.l1 k y0 y1 y2 y3 y4 y5) (spec_FlowStep.l1 (k + 1) y0 y1 y2 y3 y4 y5))
 | 0 => ⟨fun _ _ _ _ _ _ r h => by simp [spec_FlowStep.j0] at h, fun _ _ _ _ _ _ _ r h => by simp [spec_FlowStep.j1] at h, fun _ _ _ _ _ _ _ _ _ r h => by simp [spec_FlowStep.l0] at h, fun _ _ _ _ _ _ r h => by simp [spec_FlowStep.l1] at h⟩
 | k + 1 => by
  obtain ⟨ih0, ih1, ih2, ih3⟩ := spec_FlowStep.mono_l k
  refine ⟨?_, ?_, ?_, ?_⟩
  intro y0 y1 y2 y3 y4 y5; unfold spec_FlowStep.j0; rotate_left
  intro y0 y1 y2 y3 y4 y5 y6; unfold spec_FlowStep.j1; rotate_left
  intro y0 y1 y2 y3 y4 y5 y6 y7 y8; unfold spec_FlowStep.l0; rotate_left
  intro y0 y1 y2 y3 y4 y5; unfold spec_FlowStep.l1; rotate_left
  all_goals repeat' first
  | (with_reducible exact ih0 _ _ _ _ _ _)
  | (with_reducible exact ih1 _ _ _ _ _ _ _)
  | (with_reducible exact ih2 _ _ _ _ _ _ _ _ _)
  | (with_reducible exact ih3 _ _ _ _ _ _)
  | (with_reducible exact spec_l13Ok.mono _ _)
  | (with_reducible exact spec_l13Sum.mono _ _)
  | (with_reducible exact LeO.refl _)
  | (with_reducible exact LeO.none _)
  | (with_reducible refine LeO.ite ?_ ?_)
  | (with_reducible refine LeO.bind ?_ (fun _ => ?_))
  | exact ih0 _ _ _ _ _ _
  | exact ih1 _ _ _ _ _ _ _
  | exact ih2 _ _ _ _ _ _ _ _ _
  | exact ih3 _ _ _ _ _ _
  | exact spec_l13Ok.mono _ _
  | exact spec_l13Sum.mono _ _
  | exact LeO.none _
  | refine LeO.ite ?_ ?_
  | refine LeO.bind ?_ (fun _ => ?_)
theorem spec_FlowStep.mono : ∀ a0 a1 a2 a3 a4 k, LeO (spec_FlowStep.f k a0 a1 a2 a3 a4) (spec_FlowStep.f (k + 1) a0 a1 a2 a3 a4) := by
 intro a0 a1 a2 a3 a4 k
 obtain ⟨ih0, ih1, ih2, ih3⟩ := spec_FlowStep.mono_l k
 unfold spec_FlowStep.f
 repeat' first
   | (with_reducible exact ih0 _ _ _ _ _ _)
   | (with_reducible exact ih1 _ _ _ _ _ _ _)
   | (with_reducible exact ih2 _ _ _ _ _ _ _ _ _)
   | (with_reducible exact ih3 _ _ _ _ _ _)
   | (with_reducible exact spec_l13Ok.mono _ _)
   | (with_reducible exact spec_l13Sum.mono _ _)
   | (with_reducible exact LeO.refl _)
   | (with_reducible exact LeO.none _)
   | (with_reducible refine LeO.ite ?_ ?_)
   | (with_reducible refine LeO.bind ?_ (fun _ => ?_))
   | exact ih0 _ _ _ _ _ _
   | exact ih1 _ _ _ _ _ _ _
   | exact ih2 _ _ _ _ _ _ _ _ _
   | exact ih3 _ _ _ _ _ _
   | exact spec_l13Ok.mono _ _
   | exact spec_l13Sum.mono _ _
   | exact LeO.none _
   | refine LeO.ite ?_ ?_
   | refine LeO.bind ?_ (fun _ => ?_)
def spec_FlowStep.T11 : Bool × List (List Nat × List Nat) := (true, [([], []), ([0], [0]), ([], []), ([2], [2]), ([], []), ([3, 4], [3, 4]), ([5], [5]), ([], []), ([], []), ([7, 8], [7, 8]), ([9], [9]), ([6, 10], [6, 10]), ([11], [11]), ([1, 12], [1, 12]), ([0, 1, 2, 3, 4, 5, 6, 7, 8, 9, 10, 11, 12, 13], []), ([14, 13, 13, 0, 1, 2, 3, 4, 5, 6, 7, 8, 9, 10, 11, 12, 13], [13, 14])])
def spec_FlowStep.B11 : List Nat := [0, 1, 0, 4, 0, 28, 60, 0, 0, 384, 896, 2044, 4092, 8191, 16383, 32767]
theorem spec_FlowStep.tab11 : rtab .any (opsOf Try.f10 11) = spec_FlowStep.T11 := by kernel_rfl
theorem spec_FlowStep.bits11 : waitsOk spec_FlowStep.T11.2 spec_FlowStep.B11 = true := by kernel_rfl
def spec_FlowStep.T16 : Bool × List (List Nat × List Nat) := (true, [([], []), ([], []), ([0, 1], [0, 1]), ([2], [2]), ([], []), ([], []), ([4, 5], [4, 5]), ([6], [6]), ([7], [7]), ([3, 8], [3, 8]), ([9, 0, 1, 2, 3, 4, 5, 6, 7, 8, 9], [9])])
def spec_FlowStep.B16 : List Nat := [0, 0, 3, 7, 0, 0, 48, 112, 240, 511, 1023]
theorem spec_FlowStep.tab16 : rtab .any (opsOf Try.f10 16) = spec_FlowStep.T16 := by kernel_rfl
theorem spec_FlowStep.bits16 : waitsOk spec_FlowStep.T16.2 spec_FlowStep.B16 = true := by kernel_rfl
def spec_FlowStep.T17 : Bool × List (List Nat × List Nat) := (true, [([], []), ([0], [0]), ([], []), ([], []), ([3], [3]), ([], []), ([4, 5], [4, 5]), ([6], [6]), ([], []), ([7, 8], [7, 8]), ([1, 2, 0, 1, 2, 3, 4, 5, 6, 7, 8, 9], [1, 2]), ([10, 9, 0, 1, 2, 3, 4, 5, 6, 7, 8, 9], [9, 10])])
def spec_FlowStep.B17 : List Nat := [0, 1, 0, 0, 8, 0, 56, 120, 0, 504, 1023, 2047]
theorem spec_FlowStep.tab17 : rtab .any (opsOf Try.f10 17) = spec_FlowStep.T17 := by kernel_rfl
theorem spec_FlowStep.bits17 : waitsOk spec_FlowStep.T17.2 spec_FlowStep.B17 = true := by kernel_rfl
def spec_FlowStep.T20 : Bool × List (List Nat × List Nat) := (true, [([], []), ([0], [0]), ([], []), ([], []), ([2, 3], [2, 3]), ([4], [4]), ([], []), ([6], [6]), ([], []), ([], []), ([8, 9], [8, 9]), ([10], [10]), ([7, 11], [7, 11]), ([12], [12]), ([], []), ([13, 14], [13, 14]), ([1, 5, 0, 1, 2, 3, 4, 5, 6, 7, 8, 9, 10, 11, 12, 13, 14, 15], [1, 5]), ([16, 15, 0, 1, 2, 3, 4, 5, 6, 7, 8, 9, 10, 11, 12, 13, 14, 15], [15, 16])])
def spec_FlowStep.B20 : List Nat := [0, 1, 0, 0, 12, 28, 0, 64, 0, 0, 768, 1792, 4032, 8128, 0, 32704, 65535, 131071]
theorem spec_FlowStep.tab20 : rtab .any (opsOf Try.f10 20) = spec_FlowStep.T20 := by kernel_rfl
theorem spec_FlowStep.bits20 : waitsOk spec_FlowStep.T20.2 spec_FlowStep.B20 = true := by kernel_rfl
set_option maxHeartbeats 8000000 in
set_option maxRecDepth 100000 in
theorem spec_FlowStep.calls (k : Nat) (A0 : Option Addr) (c0 : Nat) (l0 : List Int) (A1_0 : Option Addr) (c1_0 : Nat) (l1_0 : List Int) (a1_1 : Int) (a1_2 : Int) (A2 : Option Addr) (c2 : Nat) (l2 : List Int) (r1 : List Int) (r2 : Int) (r3 : Int) (r4 : Bool) (w : World) (hr0 : Kd.C (Kd.int .i64) w A0 l0.length l0) (hc0 : l0.length ≤ c0) (hr1_0 : Kd.C (Kd.int .i64) w A1_0 l1_0.length l1_0) (hc1_0 : l1_0.length ≤ c1_0) (hr2 : Kd.C (Kd.int .i64) w A2 l2.length l2) (hc2 : l2.length ≤ c2) (h : spec_FlowStep.f k l0 l1_0 a1_1 a1_2 l2 = some (r1, r2, r3, r4)) :
  Calls Try.prog 10 #[.slice A0 l0.length c0, .agg #[.slice A1_0 l1_0.length c1_0, .int .i64 a1_1, .int .i64 a1_2], .slice A2 l2.length c2] w fun e w' => ∃ v0_ : Value, e = .returned (.tuple #[.agg #[v0_, .int .i64 r2, .int .i64 r3], .bool r4]) ∧ Kd.R (Kd.int .i64) 2 w' w.heap.size (fun _ => True) v0_ r1 ∧ Below w.heap.size w w' := by
 have hu26 := Try.underlying26; have HR0 := Aside0.mk hr0; have HC0 := Aside0.mk hc0; clear hr0 hc0; have HR1_0 := Aside0.mk hr1_0; have HC1_0 := Aside0.mk hc1_0; clear hr1_0 hc1_0; have HR2 := Aside0.mk hr2; have HC2 := Aside0.mk hc2; clear hr2 hc2
 have HB := Aside0.mk (Below.refl w.heap.size w)
 have H : ((spec_l13Ok.f k l0).bind fun t112 => (if t112 = true then (if (l1_0.length : Int) = (l0.length : Int) then (if (l2.length : Int) = (l0.length : Int) then ((spec_l2In.f a1_1 0 1000000000000).bind fun t113 => (if t113 = true then ((spec_l2In.f a1_2 0 1000000000000).bind fun t114 => (spec_FlowStep.j0 k l0 l2 (!t114) l1_0 a1_1 a1_2)) else (spec_FlowStep.j0 k l0 l2 true l1_0 a1_1 a1_2))) else (spec_FlowStep.j0 k l0 l2 true l1_0 a1_1 a1_2)) else (spec_FlowStep.j0 k l0 l2 true l1_0 a1_1 a1_2)) else (spec_FlowStep.j0 k l0 l2 true l1_0 a1_1 a1_2))) = some (r1, r2, r3, r4) := h
 clear h; have HC4 := Aside0.mk H; clear H
 go_enter Try.func10, Try.ntmps10
 go_upto_region 1 with (first | ((with_reducible refine gate_dst (N := 4) rfl ?_); (try (refine gate_guard (by rfl) ?_; dsimp only)); refine box_event ?hg (N := 4) ?hd (cs := #[.slice A1_0 l1_0.length c1_0, .int .i64 a1_1, .int .i64 a1_2]) (t := 26) ?hr ?_; (case hd => rfl); (case hg => rfl); (case hr => first | (go_simp; done) | (go_simp; rfl)); intro gb110 hg w5 hbox hb; have BK110 := Aside0.mk (hbox); have GW110 := gE_ HB hg; have GE110 := gE_ HB hg; replace HB := bS_ HB hb; clear hb hbox hg) | ((with_reducible refine gate_dst (N := 6) rfl ?_); (try (refine gate_guard (by rfl) ?_; dsimp only)); refine box_event ?hg (N := 6) ?hd (cs := #[.slice none 0 0, .int .i64 0, .int .i64 0]) (t := 26) ?hr ?_; (case hd => rfl); (case hg => rfl); (case hr => first | (go_simp; done) | (go_simp; rfl)); intro gb111 hg w6 hbox hb; have BK111 := Aside0.mk (hbox); have GW111 := gE_ HB hg; have GE111 := gE_ HB hg; replace HB := bS_ HB hb; have NB110_111 := nL_ BK110 hg; have NB111_110 := nG_ BK110 hg; replace BK110 := bB_ BK110 hb; clear hb hbox hg))
 (try simp only [Act.put, List.setIfInBounds_toArray, List.set_cons_zero, List.set_cons_succ])
 go_cut [46] (fun v46 wc => ∃ (kq : Nat) (x46_3 : Bool), v46 = .bool x46_3 ∧ Aside0 (spec_FlowStep.j0 kq l0 l2 x46_3 l1_0 a1_1 a1_2 = some (r1, r2, r3, r4)) ∧ Aside0 (kq ≤ k) ∧ Aside0 (wc.heap[gb110]? = some (.cells #[(.slice A1_0 l1_0.length c1_0), .int .i64 a1_1, .int .i64 a1_2] 26 (0, 0))) ∧ Aside0 (wc.heap[gb111]? = some (.cells #[(.slice none 0 0), .int .i64 0, .int .i64 0] 26 (0, 0))) ∧ Aside0 (Below w.heap.size w wc))
 case first =>
  have H := HC4.out; clear HC4; replace H := Option.bind_eq_some_iff.mp H
  obtain ⟨t112, A70, H⟩ := H
  replace H : (if t112 = true then (if (l1_0.length : Int) = (l0.length : Int) then (if (l2.length : Int) = (l0.length : Int) then ((spec_l2In.f a1_1 0 1000000000000).bind fun t113 => (if t113 = true then ((spec_l2In.f a1_2 0 1000000000000).bind fun t114 => (spec_FlowStep.j0 k l0 l2 (!t114) l1_0 a1_1 a1_2)) else (spec_FlowStep.j0 k l0 l2 true l1_0 a1_1 a1_2))) else (spec_FlowStep.j0 k l0 l2 true l1_0 a1_1 a1_2)) else (spec_FlowStep.j0 k l0 l2 true l1_0 a1_1 a1_2)) else (spec_FlowStep.j0 k l0 l2 true l1_0 a1_1 a1_2)) = some (r1, r2, r3, r4) := H
  have A7 := Aside0.mk A70; clear A70
  by_cases c8 : t112 = true
  ·subst c8
   have H1 : (if (l1_0.length : Int) = (l0.length : Int) then (if (l2.length : Int) = (l0.length : Int) then ((spec_l2In.f a1_1 0 1000000000000).bind fun t113 => (if t113 = true then ((spec_l2In.f a1_2 0 1000000000000).bind fun t114 => (spec_FlowStep.j0 k l0 l2 (!t114) l1_0 a1_1 a1_2)) else (spec_FlowStep.j0 k l0 l2 true l1_0 a1_1 a1_2))) else (spec_FlowStep.j0 k l0 l2 true l1_0 a1_1 a1_2)) else (spec_FlowStep.j0 k l0 l2 true l1_0 a1_1 a1_2)) = some (r1, r2, r3, r4) := by rw [if_pos rfl] at H; exact H
   clear H; have H := H1; clear H1
   by_cases c9 : (l1_0.length : Int) = (l0.length : Int)
   ·rw [if_pos c9] at H
    have c9b0 : ((l1_0.length : Int) == (l0.length : Int)) = true := beq_iff_eq.mpr c9
    have c9b1 : ((l1_0.length : Int) != (l0.length : Int)) = false := bne_eq_false_iff_eq.mpr c9
    have c9b2 : (l1_0.length == l0.length) = true := by first | simpa using c9 | (simp at c9 ⊢; omega)
    clear c9
    (first | rw [c9b0] | (simp only [i64_w, i32_w]; rw [c9b0]) | skip)
    by_cases c10 : (l2.length : Int) = (l0.length : Int)
    ·rw [if_pos c10] at H
     have c10b0 : ((l2.length : Int) == (l0.length : Int)) = true := beq_iff_eq.mpr c10
     have c10b1 : ((l2.length : Int) != (l0.length : Int)) = false := bne_eq_false_iff_eq.mpr c10
     have c10b2 : (l2.length == l0.length) = true := by first | simpa using c10 | (simp at c10 ⊢; omega)
     clear c10; replace H := Option.bind_eq_some_iff.mp H
     obtain ⟨t113, A110, H⟩ := H
     replace H : (if t113 = true then ((spec_l2In.f a1_2 0 1000000000000).bind fun t114 => (spec_FlowStep.j0 k l0 l2 (!t114) l1_0 a1_1 a1_2)) else (spec_FlowStep.j0 k l0 l2 true l1_0 a1_1 a1_2)) = some (r1, r2, r3, r4) := H
     have A11 := Aside0.mk A110; clear A110
     by_cases c12 : t113 = true
     ·subst c12
      have H1 : ((spec_l2In.f a1_2 0 1000000000000).bind fun t114 => (spec_FlowStep.j0 k l0 l2 (!t114) l1_0 a1_1 a1_2)) = some (r1, r2, r3, r4) := by rw [if_pos rfl] at H; exact H
      clear H; have H := H1; clear H1; replace H := Option.bind_eq_some_iff.mp H
      obtain ⟨t114, A130, H⟩ := H
      replace H : (spec_FlowStep.j0 k l0 l2 (!t114) l1_0 a1_1 a1_2) = some (r1, r2, r3, r4) := H
      have A13 := Aside0.mk A130; clear A130; have H' := Aside0.mk H; clear H
      go_wp2_with (first | ((with_reducible refine gate_callee (f := 43) rfl ?_); refine gL_ (some 18) Try.func43 #[.slice A0 l0.length c0] ?_; (with_reducible refine (spec_l13Ok.calls k _ _ l0 true _ ?side1 ?side2 A7.out).mono ?_); (case side1 => exact cB_ HR0 HB); (case side2 => exact HC0.out); rintro e w' ⟨rfl, ⟨nd, rfl⟩⟩; refine ⟨_, rfl, ?_⟩; have hnb14 := NB110_111.out; have hnc14 := NB111_110.out; have hcz15_0 : w6.cell? ⟨gb110, 0, none⟩ = some (.slice A1_0 l1_0.length c1_0) := (blk_cell BK110.out 0).trans rfl; have hcz15_1 : w6.cell? ⟨gb110, 1, none⟩ = some (.int .i64 a1_1) := (blk_cell BK110.out 1).trans rfl; have hcz15_2 : w6.cell? ⟨gb110, 2, none⟩ = some (.int .i64 a1_2) := (blk_cell BK110.out 2).trans rfl; have hfz15_0 := blk_frozen BK110.out 0; have hfz15_1 := blk_frozen BK110.out 1; have hfz15_2 := blk_frozen BK110.out 2) | (go_at_call 44; (with_reducible refine (spec_l2In.calls a1_1 0 1000000000000 true _ A11.out).mono ?_); rintro e w' ⟨rfl, ⟨nd, rfl⟩⟩) | (go_at_call 44; (with_reducible refine (spec_l2In.calls a1_2 0 1000000000000 t114 _ A13.out).mono ?_); rintro e w' ⟨rfl, ⟨nd, rfl⟩⟩))
      go_meet
      case rel => exact ⟨_, (!t114), (by first | rfl | (simp; done) | (simp [*]; done)), H', ⟨by first | omega | exact Nat.le_refl _⟩, ⟨by exact bT_ BK110⟩, ⟨by exact bT_ BK111⟩, ⟨by repeat (first | (with_reducible first | exact HB.out | apply below_alloc | apply pw_below_drewN | apply below_drew1 | refine below_set ?_ GE110.out | refine below_set ?_ GE111.out) | exact HB.out)⟩⟩
     ·replace c12 := Bool.eq_false_iff.mpr c12
      subst c12
      have H1 : (spec_FlowStep.j0 k l0 l2 true l1_0 a1_1 a1_2) = some (r1, r2, r3, r4) := by rw [if_neg (show ¬ (false = true) by decide)] at H; exact H
      clear H; have H := H1; clear H1; have H' := Aside0.mk H; clear H
      go_wp2_with (first | ((with_reducible refine gate_callee (f := 43) rfl ?_); refine gL_ (some 18) Try.func43 #[.slice A0 l0.length c0] ?_; (with_reducible refine (spec_l13Ok.calls k _ _ l0 true _ ?side1 ?side2 A7.out).mono ?_); (case side1 => exact cB_ HR0 HB); (case side2 => exact HC0.out); rintro e w' ⟨rfl, ⟨nd, rfl⟩⟩; refine ⟨_, rfl, ?_⟩; have hnb16 := NB110_111.out; have hnc16 := NB111_110.out; have hcz17_0 : w6.cell? ⟨gb110, 0, none⟩ = some (.slice A1_0 l1_0.length c1_0) := (blk_cell BK110.out 0).trans rfl; have hcz17_1 : w6.cell? ⟨gb110, 1, none⟩ = some (.int .i64 a1_1) := (blk_cell BK110.out 1).trans rfl; have hcz17_2 : w6.cell? ⟨gb110, 2, none⟩ = some (.int .i64 a1_2) := (blk_cell BK110.out 2).trans rfl; have hfz17_0 := blk_frozen BK110.out 0; have hfz17_1 := blk_frozen BK110.out 1; have hfz17_2 := blk_frozen BK110.out 2) | (go_at_call 44; (with_reducible refine (spec_l2In.calls a1_1 0 1000000000000 false _ A11.out).mono ?_); rintro e w' ⟨rfl, ⟨nd, rfl⟩⟩))
      go_meet
      case rel => exact ⟨_, (true), (by first | rfl | (simp; done) | (simp [*]; done)), H', ⟨by first | omega | exact Nat.le_refl _⟩, ⟨by exact bT_ BK110⟩, ⟨by exact bT_ BK111⟩, ⟨by repeat (first | (with_reducible first | exact HB.out | apply below_alloc | apply pw_below_drewN | apply below_drew1 | refine below_set ?_ GE110.out | refine below_set ?_ GE111.out) | exact HB.out)⟩⟩
    ·rw [if_neg c10] at H
     have c10b0 : ((l2.length : Int) == (l0.length : Int)) = false := beq_eq_false_iff_ne.mpr c10
     have c10b1 : ((l2.length : Int) != (l0.length : Int)) = true := bne_iff_ne.mpr c10
     have c10b2 : (l2.length == l0.length) = false := by first | simpa using c10 | (simp at c10 ⊢; omega)
     have H' := Aside0.mk H; clear H
     go_wp2_with (first | ((with_reducible refine gate_callee (f := 43) rfl ?_); refine gL_ (some 18) Try.func43 #[.slice A0 l0.length c0] ?_; (with_reducible refine (spec_l13Ok.calls k _ _ l0 true _ ?side1 ?side2 A7.out).mono ?_); (case side1 => exact cB_ HR0 HB); (case side2 => exact HC0.out); rintro e w' ⟨rfl, ⟨nd, rfl⟩⟩; refine ⟨_, rfl, ?_⟩; have hnb18 := NB110_111.out; have hnc18 := NB111_110.out; have hcz19_0 : w6.cell? ⟨gb110, 0, none⟩ = some (.slice A1_0 l1_0.length c1_0) := (blk_cell BK110.out 0).trans rfl; have hcz19_1 : w6.cell? ⟨gb110, 1, none⟩ = some (.int .i64 a1_1) := (blk_cell BK110.out 1).trans rfl; have hcz19_2 : w6.cell? ⟨gb110, 2, none⟩ = some (.int .i64 a1_2) := (blk_cell BK110.out 2).trans rfl; have hfz19_0 := blk_frozen BK110.out 0; have hfz19_1 := blk_frozen BK110.out 1; have hfz19_2 := blk_frozen BK110.out 2))
     go_meet
     case rel => exact ⟨_, (true), (by first | rfl | (simp; done) | (simp [*]; done)), H', ⟨by first | omega | exact Nat.le_refl _⟩, ⟨by exact bT_ BK110⟩, ⟨by exact bT_ BK111⟩, ⟨by repeat (first | (with_reducible first | exact HB.out | apply below_alloc | apply pw_below_drewN | apply below_drew1 | refine below_set ?_ GE110.out | refine below_set ?_ GE111.out) | exact HB.out)⟩⟩
   ·rw [if_neg c9] at H
    have c9b0 : ((l1_0.length : Int) == (l0.length : Int)) = false := beq_eq_false_iff_ne.mpr c9
    have c9b1 : ((l1_0.length : Int) != (l0.length : Int)) = true := bne_iff_ne.mpr c9
    have c9b2 : (l1_0.length == l0.length) = false := by first | simpa using c9 | (simp at c9 ⊢; omega)
    (first | rw [c9b0] | (simp only [i64_w, i32_w]; rw [c9b0]) | skip)
    have H' := Aside0.mk H; clear H
    go_wp2_with (first | ((with_reducible refine gate_callee (f := 43) rfl ?_); refine gL_ (some 18) Try.func43 #[.slice A0 l0.length c0] ?_; (with_reducible refine (spec_l13Ok.calls k _ _ l0 true _ ?side1 ?side2 A7.out).mono ?_); (case side1 => exact cB_ HR0 HB); (case side2 => exact HC0.out); rintro e w' ⟨rfl, ⟨nd, rfl⟩⟩; refine ⟨_, rfl, ?_⟩; have hnb20 := NB110_111.out; have hnc20 := NB111_110.out; have hcz21_0 : w6.cell? ⟨gb110, 0, none⟩ = some (.slice A1_0 l1_0.length c1_0) := (blk_cell BK110.out 0).trans rfl; have hcz21_1 : w6.cell? ⟨gb110, 1, none⟩ = some (.int .i64 a1_1) := (blk_cell BK110.out 1).trans rfl; have hcz21_2 : w6.cell? ⟨gb110, 2, none⟩ = some (.int .i64 a1_2) := (blk_cell BK110.out 2).trans rfl; have hfz21_0 := blk_frozen BK110.out 0; have hfz21_1 := blk_frozen BK110.out 1; have hfz21_2 := blk_frozen BK110.out 2))
    go_meet
    case rel => exact ⟨_, (true), (by first | rfl | (simp; done) | (simp [*]; done)), H', ⟨by first | omega | exact Nat.le_refl _⟩, ⟨by exact bT_ BK110⟩, ⟨by exact bT_ BK111⟩, ⟨by repeat (first | (with_reducible first | exact HB.out | apply below_alloc | apply pw_below_drewN | apply below_drew1 | refine below_set ?_ GE110.out | refine below_set ?_ GE111.out) | exact HB.out)⟩⟩
  ·replace c8 := Bool.eq_false_iff.mpr c8
   subst c8
   have H1 : (spec_FlowStep.j0 k l0 l2 true l1_0 a1_1 a1_2) = some (r1, r2, r3, r4) := by rw [if_neg (show ¬ (false = true) by decide)] at H; exact H
   clear H; have H := H1; clear H1; have H' := Aside0.mk H; clear H
   go_wp2_with (first | ((with_reducible refine gate_callee (f := 43) rfl ?_); refine gL_ (some 18) Try.func43 #[.slice A0 l0.length c0] ?_; (with_reducible refine (spec_l13Ok.calls k _ _ l0 false _ ?side1 ?side2 A7.out).mono ?_); (case side1 => exact cB_ HR0 HB); (case side2 => exact HC0.out); rintro e w' ⟨rfl, ⟨nd, rfl⟩⟩; refine ⟨_, rfl, ?_⟩))
   go_meet
   case rel => exact ⟨_, (true), (by first | rfl | (simp; done) | (simp [*]; done)), H', ⟨by first | omega | exact Nat.le_refl _⟩, ⟨by exact bT_ BK110⟩, ⟨by exact bT_ BK111⟩, ⟨by repeat (first | (with_reducible first | exact HB.out | apply below_alloc | apply pw_below_drewN | apply below_drew1 | refine below_set ?_ GE110.out | refine below_set ?_ GE111.out) | exact HB.out)⟩⟩
 case rest =>
  clear HC4; (try clear c1); (try clear c2); (try clear p2); (try clear c4); (try clear c8); (try clear c9); (try clear c9b0); (try clear c9b1); (try clear c9b2); (try clear c10); (try clear c10b0); (try clear c10b1); (try clear c10b2); (try clear c12); (try clear c14); (try clear c16); (try clear c18); (try clear c20); (try clear hcz15_0); (try clear hcz15_1); (try clear hcz15_2); (try clear hcz17_0); (try clear hcz17_1); (try clear hcz17_2); (try clear hcz19_0); (try clear hcz19_1); (try clear hcz19_2); (try clear hcz21_0); (try clear hcz21_1); (try clear hcz21_2); (try clear hfz15_0); (try clear hfz15_1); (try clear hfz15_2); (try clear hfz17_0); (try clear hfz17_1); (try clear hfz17_2); (try clear hfz19_0); (try clear hfz19_1); (try clear hfz19_2); (try clear hfz21_0); (try clear hfz21_1); (try clear hfz21_2)
  obtain ⟨kq, x46_3, rfl, HA, HJ3, BK110, BK111, HB⟩ := hcut
  cases kq with
  | zero => exact absurd HA.out (by simp [spec_FlowStep.j0])
  | succ kj3 =>
   have H := HA.out; clear HA
   simp only [spec_FlowStep.j0] at H
   by_cases c22 : x46_3 = true
   ·subst c22
    have H1 : (some (([] : List Int), 0, 0, false)) = some (r1, r2, r3, r4) := by rw [if_pos rfl] at H; exact H
    clear H; have H := H1; clear H1
    simp only [Option.some.injEq, Prod.mk.injEq] at H
    obtain ⟨rfl, rfl, rfl, rfl⟩ := H
    have hnb23 := NB111_110.out; have hnc23 := NB110_111.out
    have hcz24_0 : wc.cell? ⟨gb111, 0, none⟩ = some (.slice none 0 0) := (blk_cell BK111.out 0).trans rfl
    have hcz24_1 : wc.cell? ⟨gb111, 1, none⟩ = some (.int .i64 0) := (blk_cell BK111.out 1).trans rfl
    have hcz24_2 : wc.cell? ⟨gb111, 2, none⟩ = some (.int .i64 0) := (blk_cell BK111.out 2).trans rfl
    have hfz24_0 := blk_frozen BK111.out 0; have hfz24_1 := blk_frozen BK111.out 1; have hfz24_2 := blk_frozen BK111.out 2
    go_wp2
    refine bodyPost_ret (results_ct rfl _ _ gb111 26 #[.slice none 0 0, .int .i64 0, .int .i64 0] (0, 0) _ rfl (by (with_reducible repeat (first | refine blk_drewN ?_ _ | refine blk_drew ?_ | refine blk_alloc ?_ _)); refine blk_put (cs := #[.slice none 0 0, .int .i64 0, .int .i64 0]) ?_ 2 _ rfl; (with_reducible repeat (first | refine blk_drewN ?_ _ | refine blk_drew ?_ | refine blk_alloc ?_ _)); refine blk_put (cs := #[.slice none 0 0, .int .i64 0, .int .i64 0]) ?_ 1 _ rfl; (with_reducible repeat (first | refine blk_drewN ?_ _ | refine blk_drew ?_ | refine blk_alloc ?_ _)); refine blk_put (cs := #[.slice none 0 0, .int .i64 0, .int .i64 0]) ?_ 0 _ rfl; exact bT_ BK111) Try.underlying26 rfl (by kernel_rfl)) rfl ?_
    exact ⟨_, by first | rfl | (simp [errW_none, errW_some] <;> rfl) | (simp [*, errW_none, errW_some] <;> rfl), by first | exact Kd.R_nil _ _ _ _ _ | exact Kd.N_nil _ _ _ _ _ | exact Kd.V_nil _ _ _ _ _ | exact Kd.Q_nil _ _ _ _ _ | exact Kd.S_nil _ _ _ _ _, by repeat (first | (with_reducible first | exact HB.out | apply below_alloc | apply pw_below_drewN | apply below_drew1 | refine below_set ?_ GE110.out | refine below_set ?_ GE111.out) | exact HB.out)⟩
   ·replace c22 := Bool.eq_false_iff.mpr c22
    subst c22
    have H1 : ((spec_l13Sum.f kj3 l1_0).bind fun bt115 => ((spec_l13Sum.f kj3 l2).bind fun bt117 => (if bt115.2 = true then (if bt117.2 = true then (if (wrap64 (bt115.1 + a1_1)) = a1_2 then (spec_FlowStep.j1 kj3 l0 l2 bt117.1 (decide (a1_2 > (wrap64 (1000000000000 - bt117.1)))) l1_0 a1_1 a1_2) else (spec_FlowStep.j1 kj3 l0 l2 bt117.1 true l1_0 a1_1 a1_2)) else (spec_FlowStep.j1 kj3 l0 l2 bt117.1 true l1_0 a1_1 a1_2)) else (spec_FlowStep.j1 kj3 l0 l2 bt117.1 true l1_0 a1_1 a1_2)))) = some (r1, r2, r3, r4) := by rw [if_neg (show ¬ (false = true) by decide)] at H; exact H
    clear H; have H := H1; clear H1; replace H := Option.bind_eq_some_iff.mp H
    obtain ⟨⟨t115, t116⟩, A250, H⟩ := H
    replace H : ((spec_l13Sum.f kj3 l2).bind fun bt117 => (if t116 = true then (if bt117.2 = true then (if (wrap64 (t115 + a1_1)) = a1_2 then (spec_FlowStep.j1 kj3 l0 l2 bt117.1 (decide (a1_2 > (wrap64 (1000000000000 - bt117.1)))) l1_0 a1_1 a1_2) else (spec_FlowStep.j1 kj3 l0 l2 bt117.1 true l1_0 a1_1 a1_2)) else (spec_FlowStep.j1 kj3 l0 l2 bt117.1 true l1_0 a1_1 a1_2)) else (spec_FlowStep.j1 kj3 l0 l2 bt117.1 true l1_0 a1_1 a1_2))) = some (r1, r2, r3, r4) := H
    have A25 := Aside0.mk A250; clear A250; replace H := Option.bind_eq_some_iff.mp H
    obtain ⟨⟨t117, t118⟩, A260, H⟩ := H
    replace H : (if t116 = true then (if t118 = true then (if (wrap64 (t115 + a1_1)) = a1_2 then (spec_FlowStep.j1 kj3 l0 l2 t117 (decide (a1_2 > (wrap64 (1000000000000 - t117)))) l1_0 a1_1 a1_2) else (spec_FlowStep.j1 kj3 l0 l2 t117 true l1_0 a1_1 a1_2)) else (spec_FlowStep.j1 kj3 l0 l2 t117 true l1_0 a1_1 a1_2)) else (spec_FlowStep.j1 kj3 l0 l2 t117 true l1_0 a1_1 a1_2)) = some (r1, r2, r3, r4) := H
    have A26 := Aside0.mk A260; clear A260; have HC27 := Aside0.mk H; clear H; have hnb28 := NB110_111.out; have hnc28 := NB111_110.out
    have hcz29_0 : wc.cell? ⟨gb110, 0, none⟩ = some (.slice A1_0 l1_0.length c1_0) := (blk_cell BK110.out 0).trans rfl
    have hcz29_1 : wc.cell? ⟨gb110, 1, none⟩ = some (.int .i64 a1_1) := (blk_cell BK110.out 1).trans rfl
    have hcz29_2 : wc.cell? ⟨gb110, 2, none⟩ = some (.int .i64 a1_2) := (blk_cell BK110.out 2).trans rfl
    have hfz29_0 := blk_frozen BK110.out 0; have hfz29_1 := blk_frozen BK110.out 1; have hfz29_2 := blk_frozen BK110.out 2
    go_upto_region 5 with (first | ((with_reducible refine gate_callee (f := 45) rfl ?_); refine gL_ (some 51) Try.func45 #[.slice A1_0 l1_0.length c1_0] ?_; (with_reducible refine (spec_l13Sum.calls kj3 _ _ l1_0 t115 t116 _ ?side1 ?side2 A25.out).mono ?_); (case side1 => exact cB_ HR1_0 HB); (case side2 => exact HC1_0.out); rintro e w' ⟨rfl, ⟨nd, rfl⟩⟩; refine ⟨_, rfl, ?_⟩) | ((with_reducible refine gate_callee (f := 45) rfl ?_); refine gL_ (some 56) Try.func45 #[.slice A2 l2.length c2] ?_; (with_reducible refine (spec_l13Sum.calls kj3 _ _ l2 t117 t118 _ ?side1 ?side2 A26.out).mono ?_); (case side1 => repeat (first | exact (Kd.C_below HR2.out (by repeat (first | (with_reducible first | exact HB.out | apply below_alloc | apply pw_below_drewN | apply below_drew1 | refine below_set ?_ GE110.out | refine below_set ?_ GE111.out) | exact HB.out))) | (with_reducible refine Kd.C_alloc ?_ _) | (with_reducible refine Kd.C_drewN ?_ _) | (with_reducible refine Kd.C_drew ?_))); (case side2 => exact HC2.out); rintro e w' ⟨rfl, ⟨nd, rfl⟩⟩; refine ⟨_, rfl, ?_⟩))
    (try simp only [Act.put, List.setIfInBounds_toArray, List.set_cons_zero, List.set_cons_succ])
    go_cut [80] (fun v80 wc => ∃ (kq : Nat) (x80_26 : Bool), v80 = .bool x80_26 ∧ Aside0 (spec_FlowStep.j1 kq l0 l2 t117 x80_26 l1_0 a1_1 a1_2 = some (r1, r2, r3, r4)) ∧ Aside0 (kq ≤ kj3) ∧ Aside0 (wc.heap[gb110]? = some (.cells #[(.slice A1_0 l1_0.length c1_0), .int .i64 a1_1, .int .i64 a1_2] 26 (0, 0))) ∧ Aside0 (wc.heap[gb111]? = some (.cells #[(.slice none 0 0), .int .i64 0, .int .i64 0] 26 (0, 0))) ∧ Aside0 (Below w.heap.size w wc))
    case first =>
     have H := HC27.out; clear HC27
     by_cases c30 : t116 = true
     ·subst c30
      have H1 : (if t118 = true then (if (wrap64 (t115 + a1_1)) = a1_2 then (spec_FlowStep.j1 kj3 l0 l2 t117 (decide (a1_2 > (wrap64 (1000000000000 - t117)))) l1_0 a1_1 a1_2) else (spec_FlowStep.j1 kj3 l0 l2 t117 true l1_0 a1_1 a1_2)) else (spec_FlowStep.j1 kj3 l0 l2 t117 true l1_0 a1_1 a1_2)) = some (r1, r2, r3, r4) := by rw [if_pos rfl] at H; exact H
      clear H; have H := H1; clear H1
      by_cases c31 : t118 = true
      ·subst c31
       have H1 : (if (wrap64 (t115 + a1_1)) = a1_2 then (spec_FlowStep.j1 kj3 l0 l2 t117 (decide (a1_2 > (wrap64 (1000000000000 - t117)))) l1_0 a1_1 a1_2) else (spec_FlowStep.j1 kj3 l0 l2 t117 true l1_0 a1_1 a1_2)) = some (r1, r2, r3, r4) := by rw [if_pos rfl] at H; exact H
       clear H; have H := H1; clear H1
       by_cases c32 : (wrap64 (t115 + a1_1)) = a1_2
       ·rw [if_pos c32] at H
        have c32b0 : ((wrap64 (t115 + a1_1)) == a1_2) = true := beq_iff_eq.mpr c32
        have c32b1 : ((wrap64 (t115 + a1_1)) != a1_2) = false := bne_eq_false_iff_eq.mpr c32
        clear c32
        (first | rw [c32b0] | (simp only [i64_w, i32_w]; rw [c32b0]) | skip)
        have H' := Aside0.mk H; clear H; have hnb33 := NB110_111.out; have hnc33 := NB111_110.out
        have hcz34_0 : wc.cell? ⟨gb110, 0, none⟩ = some (.slice A1_0 l1_0.length c1_0) := (blk_cell BK110.out 0).trans rfl
        have hcz34_1 : wc.cell? ⟨gb110, 1, none⟩ = some (.int .i64 a1_1) := (blk_cell BK110.out 1).trans rfl
        have hcz34_2 : wc.cell? ⟨gb110, 2, none⟩ = some (.int .i64 a1_2) := (blk_cell BK110.out 2).trans rfl
        have hfz34_0 := blk_frozen BK110.out 0; have hfz34_1 := blk_frozen BK110.out 1; have hfz34_2 := blk_frozen BK110.out 2
        go_wp2
        go_meet
        case rel => exact ⟨_, (decide (a1_2 > (wrap64 (1000000000000 - t117)))), (by first | rfl | (simp; done) | (simp [*]; done)), H', ⟨by have := HJ3.out; first | omega | exact Nat.le_refl _⟩, ⟨by exact bT_ BK110⟩, ⟨by exact bT_ BK111⟩, ⟨by repeat (first | (with_reducible first | exact HB.out | apply below_alloc | apply pw_below_drewN | apply below_drew1 | refine below_set ?_ GE110.out | refine below_set ?_ GE111.out) | exact HB.out)⟩⟩
       ·rw [if_neg c32] at H
        have c32b0 : ((wrap64 (t115 + a1_1)) == a1_2) = false := beq_eq_false_iff_ne.mpr c32
        have c32b1 : ((wrap64 (t115 + a1_1)) != a1_2) = true := bne_iff_ne.mpr c32
        (first | rw [c32b0] | (simp only [i64_w, i32_w]; rw [c32b0]) | skip)
        have H' := Aside0.mk H; clear H; have hnb35 := NB110_111.out; have hnc35 := NB111_110.out
        have hcz36_0 : wc.cell? ⟨gb110, 0, none⟩ = some (.slice A1_0 l1_0.length c1_0) := (blk_cell BK110.out 0).trans rfl
        have hcz36_1 : wc.cell? ⟨gb110, 1, none⟩ = some (.int .i64 a1_1) := (blk_cell BK110.out 1).trans rfl
        have hcz36_2 : wc.cell? ⟨gb110, 2, none⟩ = some (.int .i64 a1_2) := (blk_cell BK110.out 2).trans rfl
        have hfz36_0 := blk_frozen BK110.out 0; have hfz36_1 := blk_frozen BK110.out 1; have hfz36_2 := blk_frozen BK110.out 2
        go_wp2
        go_meet
        case rel => exact ⟨_, (true), (by first | rfl | (simp; done) | (simp [*]; done)), H', ⟨by have := HJ3.out; first | omega | exact Nat.le_refl _⟩, ⟨by exact bT_ BK110⟩, ⟨by exact bT_ BK111⟩, ⟨by repeat (first | (with_reducible first | exact HB.out | apply below_alloc | apply pw_below_drewN | apply below_drew1 | refine below_set ?_ GE110.out | refine below_set ?_ GE111.out) | exact HB.out)⟩⟩
      ·replace c31 := Bool.eq_false_iff.mpr c31
       subst c31
       have H1 : (spec_FlowStep.j1 kj3 l0 l2 t117 true l1_0 a1_1 a1_2) = some (r1, r2, r3, r4) := by rw [if_neg (show ¬ (false = true) by decide)] at H; exact H
       clear H; have H := H1; clear H1; have H' := Aside0.mk H; clear H
       go_wp2
       go_meet
       case rel => exact ⟨_, (true), (by first | rfl | (simp; done) | (simp [*]; done)), H', ⟨by have := HJ3.out; first | omega | exact Nat.le_refl _⟩, ⟨by exact bT_ BK110⟩, ⟨by exact bT_ BK111⟩, ⟨by repeat (first | (with_reducible first | exact HB.out | apply below_alloc | apply pw_below_drewN | apply below_drew1 | refine below_set ?_ GE110.out | refine below_set ?_ GE111.out) | exact HB.out)⟩⟩
     ·replace c30 := Bool.eq_false_iff.mpr c30
      subst c30
      have H1 : (spec_FlowStep.j1 kj3 l0 l2 t117 true l1_0 a1_1 a1_2) = some (r1, r2, r3, r4) := by rw [if_neg (show ¬ (false = true) by decide)] at H; exact H
      clear H; have H := H1; clear H1; have H' := Aside0.mk H; clear H
      go_wp2
      go_meet
      case rel => exact ⟨_, (true), (by first | rfl | (simp; done) | (simp [*]; done)), H', ⟨by have := HJ3.out; first | omega | exact Nat.le_refl _⟩, ⟨by exact bT_ BK110⟩, ⟨by exact bT_ BK111⟩, ⟨by repeat (first | (with_reducible first | exact HB.out | apply below_alloc | apply pw_below_drewN | apply below_drew1 | refine below_set ?_ GE110.out | refine below_set ?_ GE111.out) | exact HB.out)⟩⟩
    case rest =>
     clear HC27; (try clear c1); (try clear c2); (try clear p2); (try clear c3); (try clear c4); (try clear p6); (try clear c8); (try clear c9); (try clear c9b0); (try clear c9b1); (try clear c9b2); (try clear c10); (try clear c10b0); (try clear c10b1); (try clear c10b2); (try clear c12); (try clear c14); (try clear c16); (try clear c18); (try clear c20); (try clear c22); (try clear c23); (try clear c28); (try clear c30); (try clear c31); (try clear c32); (try clear c32b0); (try clear c32b1); (try clear c33); (try clear c35); (try clear hcz15_0); (try clear hcz15_1); (try clear hcz15_2); (try clear hcz17_0); (try clear hcz17_1); (try clear hcz17_2); (try clear hcz19_0); (try clear hcz19_1); (try clear hcz19_2); (try clear hcz21_0); (try clear hcz21_1); (try clear hcz21_2); (try clear hcz24_0); (try clear hcz24_1); (try clear hcz24_2); (try clear hcz29_0); (try clear hcz29_1); (try clear hcz29_2); (try clear hcz34_0); (try clear hcz34_1); (try clear hcz34_2); (try clear hcz36_0); (try clear hcz36_1); (try clear hcz36_2); (try clear hfz15_0); (try clear hfz15_1); (try clear hfz15_2); (try clear hfz17_0); (try clear hfz17_1); (try clear hfz17_2); (try clear hfz19_0); (try clear hfz19_1); (try clear hfz19_2); (try clear hfz21_0); (try clear hfz21_1); (try clear hfz21_2); (try clear hfz24_0); (try clear hfz24_1); (try clear hfz24_2); (try clear hfz29_0); (try clear hfz29_1); (try clear hfz29_2); (try clear hfz34_0); (try clear hfz34_1); (try clear hfz34_2); (try clear hfz36_0); (try clear hfz36_1); (try clear hfz36_2); (try clear p2)
     obtain ⟨kq, x80_26, rfl, HA, HJ26, BK110, BK111, HB⟩ := hcut
     cases kq with
     | zero => exact absurd HA.out (by simp [spec_FlowStep.j1])
     | succ kj26 =>
      have H := HA.out; clear HA
      simp only [spec_FlowStep.j1] at H
      by_cases c37 : x80_26 = true
      ·subst c37
       have H1 : (some (([] : List Int), 0, 0, false)) = some (r1, r2, r3, r4) := by rw [if_pos rfl] at H; exact H
       clear H; have H := H1; clear H1
       simp only [Option.some.injEq, Prod.mk.injEq] at H
       obtain ⟨rfl, rfl, rfl, rfl⟩ := H
       have hnb38 := NB111_110.out; have hnc38 := NB110_111.out
       have hcz39_0 : wc.cell? ⟨gb111, 0, none⟩ = some (.slice none 0 0) := (blk_cell BK111.out 0).trans rfl
       have hcz39_1 : wc.cell? ⟨gb111, 1, none⟩ = some (.int .i64 0) := (blk_cell BK111.out 1).trans rfl
       have hcz39_2 : wc.cell? ⟨gb111, 2, none⟩ = some (.int .i64 0) := (blk_cell BK111.out 2).trans rfl
       have hfz39_0 := blk_frozen BK111.out 0; have hfz39_1 := blk_frozen BK111.out 1; have hfz39_2 := blk_frozen BK111.out 2
       go_wp2
       refine bodyPost_ret (results_ct rfl _ _ gb111 26 #[.slice none 0 0, .int .i64 0, .int .i64 0] (0, 0) _ rfl (by (with_reducible repeat (first | refine blk_drewN ?_ _ | refine blk_drew ?_ | refine blk_alloc ?_ _)); refine blk_put (cs := #[.slice none 0 0, .int .i64 0, .int .i64 0]) ?_ 2 _ rfl; (with_reducible repeat (first | refine blk_drewN ?_ _ | refine blk_drew ?_ | refine blk_alloc ?_ _)); refine blk_put (cs := #[.slice none 0 0, .int .i64 0, .int .i64 0]) ?_ 1 _ rfl; (with_reducible repeat (first | refine blk_drewN ?_ _ | refine blk_drew ?_ | refine blk_alloc ?_ _)); refine blk_put (cs := #[.slice none 0 0, .int .i64 0, .int .i64 0]) ?_ 0 _ rfl; exact bT_ BK111) Try.underlying26 rfl (by kernel_rfl)) rfl ?_
       exact ⟨_, by first | rfl | (simp [errW_none, errW_some] <;> rfl) | (simp [*, errW_none, errW_some] <;> rfl), by first | exact Kd.R_nil _ _ _ _ _ | exact Kd.N_nil _ _ _ _ _ | exact Kd.V_nil _ _ _ _ _ | exact Kd.Q_nil _ _ _ _ _ | exact Kd.S_nil _ _ _ _ _, by repeat (first | (with_reducible first | exact HB.out | apply below_alloc | apply pw_below_drewN | apply below_drew1 | refine below_set ?_ GE110.out | refine below_set ?_ GE111.out) | exact HB.out)⟩
      ·replace c37 := Bool.eq_false_iff.mpr c37
       subst c37
       have H1 : (spec_FlowStep.l0 kj26 l0 l2 0 l1_0 a1_1 a1_2 ([] : List Int) a1_1 (wrap64 (a1_2 + t117))) = some (r1, r2, r3, r4) := by rw [if_neg (show ¬ (false = true) by decide)] at H; exact H
       clear H; have H := H1; clear H1; have H' := Aside0.mk H; clear H; have hnb40 := NB110_111.out; have hnc40 := NB111_110.out
       have hcz41_0 : wc.cell? ⟨gb110, 0, none⟩ = some (.slice A1_0 l1_0.length c1_0) := (blk_cell BK110.out 0).trans rfl
       have hcz41_1 : wc.cell? ⟨gb110, 1, none⟩ = some (.int .i64 a1_1) := (blk_cell BK110.out 1).trans rfl
       have hcz41_2 : wc.cell? ⟨gb110, 2, none⟩ = some (.int .i64 a1_2) := (blk_cell BK110.out 2).trans rfl
       have hfz41_0 := blk_frozen BK110.out 0; have hfz41_1 := blk_frozen BK110.out 1; have hfz41_2 := blk_frozen BK110.out 2
       go_wp2_with (first | ((with_reducible refine gate_dst (N := 12) rfl ?_); (try (refine gate_guard (by rfl) ?_; dsimp only)); refine box_event ?hg (N := 12) ?hd (cs := #[.slice none 0 0, .int .i64 0, .int .i64 0]) (t := 26) ?hr ?_; (case hd => rfl); (case hg => rfl); (case hr => first | (go_simp; done) | (go_simp; rfl)); intro gb119 hg w42 hbox hb; have BK119 := Aside0.mk (hbox); have GW119 := gE_ HB hg; have GE119 := gE_ HB hg; replace HB := bS_ HB hb; have NB110_119 := nL_ BK110 hg; have NB119_110 := nG_ BK110 hg; replace BK110 := bB_ BK110 hb; have NB111_119 := nL_ BK111 hg; have NB119_111 := nG_ BK111 hg; replace BK111 := bB_ BK111 hb; clear hb hbox hg; have hnb43 := NB119_110.out; have hnc43 := NB110_119.out; have hnb44 := NB119_111.out; have hnc44 := NB111_119.out; have hcz45_0 : w42.cell? ⟨gb119, 0, none⟩ = some (.slice none 0 0) := (blk_cell BK119.out 0).trans rfl; have hcz45_1 : w42.cell? ⟨gb119, 1, none⟩ = some (.int .i64 0) := (blk_cell BK119.out 1).trans rfl; have hcz45_2 : w42.cell? ⟨gb119, 2, none⟩ = some (.int .i64 0) := (blk_cell BK119.out 2).trans rfl; have hfz45_0 := blk_frozen BK119.out 0; have hfz45_1 := blk_frozen BK119.out 1; have hfz45_2 := blk_frozen BK119.out 2))
       go_loopg [13] kj26 (fun kq v13 w' => ∃ (x13_3 : Int) (x120000_3 : List Int) (u120000 : Value), v13 = .int .i64 x13_3 ∧ Aside0 (spec_FlowStep.l0 kq l0 l2 x13_3 l1_0 a1_1 a1_2 x120000_3 a1_1 (wrap64 (a1_2 + t117)) = some (r1, r2, r3, r4)) ∧ Aside0 (kq ≤ kj26) ∧ Aside0 (Kd.R (Kd.int .i64) 2 w' w.heap.size (fun _ => True) u120000 x120000_3) ∧ Aside0 (w'.heap[gb110]? = some (.cells #[(.slice A1_0 l1_0.length c1_0), .int .i64 a1_1, .int .i64 a1_2] 26 (0, 0))) ∧ Aside0 (w'.heap[gb111]? = some (.cells #[(.slice none 0 0), .int .i64 0, .int .i64 0] 26 (0, 0))) ∧ Aside0 (w'.heap[gb119]? = some (.cells #[u120000, .int .i64 a1_1, .int .i64 (wrap64 (a1_2 + t117))] 26 (0, 0))) ∧ Aside0 (Below w.heap.size w w'))
       case atStart => exact ⟨(0), (([] : List Int)), (.slice none 0 0), (by first | rfl | (simp; done) | (simp [*]; done)), H', ⟨Nat.le_refl _⟩, ⟨by first | exact Kd.R_nil _ _ _ _ _ | exact Kd.N_nil _ _ _ _ _ | exact Kd.V_nil _ _ _ _ _ | exact Kd.Q_nil _ _ _ _ _ | exact Kd.S_nil _ _ _ _ _⟩, ⟨by (with_reducible repeat (first | refine blk_drewN ?_ _ | refine blk_drew ?_ | refine blk_alloc ?_ _)); refine blk_far ?_ NB110_119.out _; (with_reducible repeat (first | refine blk_drewN ?_ _ | refine blk_drew ?_ | refine blk_alloc ?_ _)); refine blk_far ?_ NB110_119.out _; (with_reducible repeat (first | refine blk_drewN ?_ _ | refine blk_drew ?_ | refine blk_alloc ?_ _)); refine blk_far ?_ NB110_119.out _; exact bT_ BK110⟩, ⟨by (with_reducible repeat (first | refine blk_drewN ?_ _ | refine blk_drew ?_ | refine blk_alloc ?_ _)); refine blk_far ?_ NB111_119.out _; (with_reducible repeat (first | refine blk_drewN ?_ _ | refine blk_drew ?_ | refine blk_alloc ?_ _)); refine blk_far ?_ NB111_119.out _; (with_reducible repeat (first | refine blk_drewN ?_ _ | refine blk_drew ?_ | refine blk_alloc ?_ _)); refine blk_far ?_ NB111_119.out _; exact bT_ BK111⟩, ⟨by (with_reducible repeat (first | refine blk_drewN ?_ _ | refine blk_drew ?_ | refine blk_alloc ?_ _)); refine blk_put (cs := #[.slice none 0 0, .int .i64 a1_1, .int .i64 0]) ?_ 2 _ rfl; (with_reducible repeat (first | refine blk_drewN ?_ _ | refine blk_drew ?_ | refine blk_alloc ?_ _)); refine blk_put (cs := #[.slice none 0 0, .int .i64 0, .int .i64 0]) ?_ 1 _ rfl; (with_reducible repeat (first | refine blk_drewN ?_ _ | refine blk_drew ?_ | refine blk_alloc ?_ _)); refine blk_put (cs := #[.slice none 0 0, .int .i64 0, .int .i64 0]) ?_ 0 _ rfl; exact bT_ BK119⟩, ⟨by repeat (first | (with_reducible first | exact HB.out | apply below_alloc | apply pw_below_drewN | apply below_drew1 | refine below_set ?_ GE110.out | refine below_set ?_ GE111.out | refine below_set ?_ GE119.out) | exact HB.out)⟩⟩
       case round =>
        clear H'; (try clear c1); (try clear c2); (try clear p2); (try clear c3); (try clear c4); (try clear p6); (try clear c8); (try clear c9); (try clear c9b0); (try clear c9b1); (try clear c9b2); (try clear c10); (try clear c10b0); (try clear c10b1); (try clear c10b2); (try clear c12); (try clear c14); (try clear c16); (try clear c18); (try clear c20); (try clear c22); (try clear c23); (try clear c28); (try clear c30); (try clear c31); (try clear c32); (try clear c32b0); (try clear c32b1); (try clear c33); (try clear c35); (try clear c37); (try clear c38); (try clear c40); (try clear c43); (try clear c44); (try clear c45); (try clear hcz15_0); (try clear hcz15_1); (try clear hcz15_2); (try clear hcz17_0); (try clear hcz17_1); (try clear hcz17_2); (try clear hcz19_0); (try clear hcz19_1); (try clear hcz19_2); (try clear hcz21_0); (try clear hcz21_1); (try clear hcz21_2); (try clear hcz24_0); (try clear hcz24_1); (try clear hcz24_2); (try clear hcz29_0); (try clear hcz29_1); (try clear hcz29_2); (try clear hcz34_0); (try clear hcz34_1); (try clear hcz34_2); (try clear hcz36_0); (try clear hcz36_1); (try clear hcz36_2); (try clear hcz39_0); (try clear hcz39_1); (try clear hcz39_2); (try clear hcz41_0); (try clear hcz41_1); (try clear hcz41_2); (try clear hcz45_0); (try clear hcz45_1); (try clear hcz45_2); (try clear hfz15_0); (try clear hfz15_1); (try clear hfz15_2); (try clear hfz17_0); (try clear hfz17_1); (try clear hfz17_2); (try clear hfz19_0); (try clear hfz19_1); (try clear hfz19_2); (try clear hfz21_0); (try clear hfz21_1); (try clear hfz21_2); (try clear hfz24_0); (try clear hfz24_1); (try clear hfz24_2); (try clear hfz29_0); (try clear hfz29_1); (try clear hfz29_2); (try clear hfz34_0); (try clear hfz34_1); (try clear hfz34_2); (try clear hfz36_0); (try clear hfz36_1); (try clear hfz36_2); (try clear hfz39_0); (try clear hfz39_1); (try clear hfz39_2); (try clear hfz41_0); (try clear hfz41_1); (try clear hfz41_2); (try clear hfz45_0); (try clear hfz45_1); (try clear hfz45_2); (try clear p2); (try clear p6)
        obtain ⟨x13_3, x120000_3, u120000, rfl, HA, HK3, HO_120000, BK110, BK111, BK119, HB⟩ := hrel
        cases gk with
        | zero => exact absurd HA.out (by simp [spec_FlowStep.l0])
        | succ k3 =>
         have H := HA.out; clear HA
         simp only [spec_FlowStep.l0] at H
         by_cases c46 : x13_3 < (l0.length : Int)
         ·rw [if_pos c46] at H
          have c46b0 : decide (x13_3 < (l0.length : Int)) = true := decide_eq_true c46
          clear c46
          by_cases c47 : 0 ≤ x13_3
          ·rw [if_pos c47] at H
           have c47b0 : decide (0 ≤ x13_3) = true := decide_eq_true c47
           clear c47
           by_cases c48 : x13_3 < (l1_0.length : Int)
           ·rw [if_pos c48] at H
            have c48b0 : decide (x13_3 < (l1_0.length : Int)) = true := decide_eq_true c48
            clear c48
            by_cases c49 : x13_3 < (l2.length : Int)
            ·rw [if_pos c49] at H
             have c49b0 : decide (x13_3 < (l2.length : Int)) = true := decide_eq_true c49
             clear c49
             by_cases c50 : x120000_3.length < 17592186044416
             ·rw [if_pos c50] at H
              have LMc50 := Aside0.mk c50; clear c50
              obtain ⟨y122, hy122⟩ : ∃ y_ : List Int, y_ = (x120000_3 ++ [wrap64 ((rd l1_0 x13_3) + (rd l2 x13_3))]) := ⟨_, rfl⟩
              replace H : (spec_FlowStep.l0 k3 l0 l2 (wrap64 (x13_3 + 1)) l1_0 a1_1 a1_2 y122 a1_1 (wrap64 (a1_2 + t117))) = some (r1, r2, r3, r4) := by first | (rw [hy122]; with_reducible exact H) | (have H2_ := (Option.bind_some _ _).symm.trans H; rw [hy122]; with_reducible exact H2_) | (have H2_ := (Option.bind_some _ _).symm.trans H; with_reducible exact H2_) | with_reducible exact H | (rw [hy122]; exact H) | exact H
              have Ny122 := Aside0.mk hy122; clear hy122; have H' := Aside0.mk H; clear H
              try go_wp2
              replace HO_120000 := Aside0.mk (Kd.R_drew HO_120000.out)
              replace BK110 := Aside0.mk (blk_drew BK110.out)
              replace BK111 := Aside0.mk (blk_drew BK111.out)
              replace BK119 := Aside0.mk (blk_drew BK119.out)
              replace HB := Aside0.mk (below_drew1 HB.out)
              have p120 : 0 ≤ (x13_3 : Int) := of_decide_eq_true (by first | (with_reducible assumption) | assumption)
              have q120 : x13_3 < (l1_0.length : Int) := of_decide_eq_true (by first | (with_reducible assumption) | assumption)
              obtain ⟨ad120, e120, hx120_0⟩ := Kd.at_int HR1_0.out x13_3 p120 q120
              have hw120_0 := hx120_0
              cases e120
              replace hx120_0 := (HB.out.cell (World.block_lt_of_cell? w _ hx120_0)).trans hx120_0
              replace p120 := eq_true p120; replace q120 := eq_true q120
              have p121 : 0 ≤ (x13_3 : Int) := of_decide_eq_true (by first | (with_reducible assumption) | assumption)
              have q121 : x13_3 < (l2.length : Int) := of_decide_eq_true (by first | (with_reducible assumption) | assumption)
              obtain ⟨ad121, e121, hx121_0⟩ := Kd.at_int HR2.out x13_3 p121 q121
              have hw121_0 := hx121_0
              cases e121
              replace hx121_0 := (HB.out.cell (World.block_lt_of_cell? w _ hx121_0)).trans hx121_0
              replace p121 := eq_true p121; replace q121 := eq_true q121
              refine start_ (n := 16) (S := fun w' => w'.cell? ⟨gb119, 0, none⟩ = some (u120000) ∧ w'.cell? ⟨gb119, 1, none⟩ = some (.int .i64 a1_1) ∧ w'.cell? ⟨gb119, 2, none⟩ = some (.int .i64 (wrap64 (a1_2 + t117))) ∧ w'.cell? ⟨gb110, 0, none⟩ = some (.slice (some ad120) l1_0.length c1_0) ∧ w'.cell? ⟨gb110, 1, none⟩ = some (.int .i64 a1_1) ∧ w'.cell? ⟨gb110, 2, none⟩ = some (.int .i64 a1_2) ∧ w'.cell? (ad120.add (x13_3).toNat) = some (.int .i64 (rd l1_0 x13_3)) ∧ w'.cell? (ad121.add (x13_3).toNat) = some (.int .i64 (rd l2 x13_3))) (ds := [15]) #[false, false, false, false, false, false, false, false, false, false, false, false, false, false, false, false] (by kernel_rfl) rfl rfl ⟨(blk_cell BK119.out 0).trans rfl, (blk_cell BK119.out 1).trans rfl, (blk_cell BK119.out 2).trans rfl, (blk_cell BK110.out 0).trans rfl, (blk_cell BK110.out 1).trans rfl, (blk_cell BK110.out 2).trans rfl, ((HB.out.cell (World.block_lt_of_cell? w _ hw120_0)).trans hw120_0), ((HB.out.cell (World.block_lt_of_cell? w _ hw121_0)).trans hw121_0)⟩ (fun hHeld => ?_); refine with_tabW spec_FlowStep.tab11 spec_FlowStep.bits11 (fun HT_ HW_ => ?_)
              generalize wr.drew = w51 at HO_120000 BK110 BK111 BK119 HB hx120_0 hx121_0 hHeld ⊢
              refine pT_ 0 (some 95) #[true, false, false, false, false, false, false, false, false, false, false, false, false, false, false, false] HT_ ?_
              refine pT_ 2 (some 97) #[true, false, true, false, false, false, false, false, false, false, false, false, false, false, false, false] HT_ ?_
              refine pT_ 4 (some 99) #[true, false, true, false, true, false, false, false, false, false, false, false, false, false, false, false] HT_ ?_
              refine pT_ 7 (some 102) #[true, false, true, false, true, false, false, true, false, false, false, false, false, false, false, false] HT_ ?_
              refine pT_ 8 (some 103) #[true, false, true, false, true, false, false, true, true, false, false, false, false, false, false, false] HT_ ?_
              refine pT_ 9 (some 104) #[true, false, true, false, true, false, false, true, true, true, false, false, false, false, false, false] HT_ ?_
              refine tT_ 1 (some 96) #[true, true, true, false, true, false, false, true, true, true, false, false, false, false, false, false] HT_ HW_ hHeld ?_ (hy := by rintro w' ⟨s0, s1, s2, s3, s4, s5, s6, s7⟩; go_simp; with_reducible rfl)
              refine tT_ 3 (some 98) #[true, true, true, true, true, false, false, true, true, true, false, false, false, false, false, false] HT_ HW_ hHeld ?_ (hy := by rintro w' ⟨s0, s1, s2, s3, s4, s5, s6, s7⟩; go_simp; with_reducible rfl)
              refine pT_ 5 (some 100) #[true, true, true, true, true, true, false, true, true, true, false, false, false, false, false, false] HT_ ?_
              refine tT_ 6 (some 101) #[true, true, true, true, true, true, true, true, true, true, false, false, false, false, false, false] HT_ HW_ hHeld ?_ (hy := by rintro w' ⟨s0, s1, s2, s3, s4, s5, s6, s7⟩; go_simp; with_reducible rfl)
              refine tT_ 10 (some 105) #[true, true, true, true, true, true, true, true, true, true, true, false, false, false, false, false] HT_ HW_ hHeld ?_ (hy := by rintro w' ⟨s0, s1, s2, s3, s4, s5, s6, s7⟩; go_simp; with_reducible rfl)
              refine pT_ 11 (some 106) #[true, true, true, true, true, true, true, true, true, true, true, true, false, false, false, false] HT_ ?_
              refine one_ (i := 12) (N := some 107) #[true, true, true, true, true, true, true, true, true, true, true, true, true, false, false, false] rfl rfl (one_of HT_.out (by kernel_rfl)) (by decide) (fun K hK => ?_)
              refine value_ (w1 := ?_) (v := ?_) (by rfl) rfl ?_ ?_
              rotate_left 2
              ·go_simp
               constructor
               ·rfl
               ·rfl
              refine hK.out _ _ ⟨(blk_cell (blk_alloc BK119.out _) 0).trans rfl, (blk_cell (blk_alloc BK119.out _) 1).trans rfl, (blk_cell (blk_alloc BK119.out _) 2).trans rfl, (blk_cell (blk_alloc BK110.out _) 0).trans rfl, (blk_cell (blk_alloc BK110.out _) 1).trans rfl, (blk_cell (blk_alloc BK110.out _) 2).trans rfl, (World.cell?_alloc_lt _ _ _ (World.block_lt_of_cell? _ _ (((HB.out.cell (World.block_lt_of_cell? w _ hw120_0)).trans hw120_0)))).trans (((HB.out.cell (World.block_lt_of_cell? w _ hw120_0)).trans hw120_0)), (World.cell?_alloc_lt _ _ _ (World.block_lt_of_cell? _ _ (((HB.out.cell (World.block_lt_of_cell? w _ hw121_0)).trans hw121_0)))).trans (((HB.out.cell (World.block_lt_of_cell? w _ hw121_0)).trans hw121_0))⟩ (fun hHeld => ?_)
              clear hK K
              refine nS_ (some 107) ?_
              refine one_ (i := 13) (N := some 108) #[true, true, true, true, true, true, true, true, true, true, true, true, true, true, false, false] rfl rfl (one_of HT_.out (by kernel_rfl)) (by decide) (fun K hK => ?_)
              refine Kd.R_append_step (Kd.int .i64) (w0 := w) w.heap.size (by rfl) (.tmp 96) (.tmp 107) 22 2 (.int .i64 0) 8 rfl Try.underlying22 info2 rfl (by decide) (by omega) u120000 x120000_3 (wrap64 ((rd l1_0 x13_3) + (rd l2 x13_3))) [.int .i64 (wrap64 ((rd l1_0 x13_3) + (rd l2 x13_3)))] (fun _ => True) (fun _ => False) rfl rfl ?aP (fun _ hk => hk.elim) ?aF ?aO ?aB ?aS ?aL ?_
              (case aP => exact rfl)
              (case aB => exact (by repeat (first | (with_reducible first | exact HB.out | apply below_alloc | apply pw_below_drewN | apply below_drew1 | refine below_set ?_ GE110.out | refine below_set ?_ GE111.out | refine below_set ?_ GE119.out) | exact HB.out)))
              (case aF => exact (fun _ _ => trivial))
              (case aO => exact (rT_ HO_120000))
              (case aS => exact (below_size (by repeat (first | (with_reducible first | exact HB.out | apply below_alloc | apply pw_below_drewN | apply below_drew1 | refine below_set ?_ GE110.out | refine below_set ?_ GE111.out | refine below_set ?_ GE119.out) | exact HB.out))))
              (case aL => have := LMc50.out; omega)
              intro v123 w52 ho hb hg hat
              rw [← Ny122.out] at ho
              replace BK110 := Aside0.mk (blk_grown (g := gb110) (o := .cells #[.slice (some ad120) l1_0.length c1_0, .int .i64 a1_1, .int .i64 a1_2] 26 (0, 0)) (bT_ BK110) hg (Kd.R_ne HO_120000.out BK110.out (by decide)))
              replace BK111 := Aside0.mk (blk_grown (g := gb111) (o := .cells #[.slice none 0 0, .int .i64 0, .int .i64 0] 26 (0, 0)) (bT_ BK111) hg (Kd.R_ne HO_120000.out BK111.out (by decide)))
              replace BK119 := Aside0.mk (blk_grown (g := gb119) (o := .cells #[u120000, .int .i64 a1_1, .int .i64 (wrap64 (a1_2 + t117))] 26 (0, 0)) (bT_ BK119) hg (Kd.R_ne HO_120000.out BK119.out (by decide)))
              replace HB := Aside0.mk (hb)
              have HO124 := Aside0.mk (ho)
              clear HO_120000 ho hb hg hat
              obtain ⟨Ao53, co53, eo53⟩ := Kd.R_slice HO124.out
              (first | subst eo53 | (injection eo53 with f1_ f2_ f3_; have f4_ := f1_.symm; have f5_ := f3_.symm; clear f1_ f2_ f3_; subst f4_; subst f5_))
              refine hK.out _ _ ⟨(blk_cell BK119.out 0).trans rfl, (blk_cell BK119.out 1).trans rfl, (blk_cell BK119.out 2).trans rfl, (blk_cell BK110.out 0).trans rfl, (blk_cell BK110.out 1).trans rfl, (blk_cell BK110.out 2).trans rfl, ((HB.out.cell (World.block_lt_of_cell? w _ hw120_0)).trans hw120_0), ((HB.out.cell (World.block_lt_of_cell? w _ hw121_0)).trans hw121_0)⟩ (fun hHeld => ?_)
              clear hK K
              refine nS_ (some 108) ?_
              refine pT_ 14 (some 109) #[true, true, true, true, true, true, true, true, true, true, true, true, true, true, true, false] HT_ ?_
              refine last_ (i := 15) (N := none) #[true, true, true, true, true, true, true, true, true, true, true, true, true, true, true, true] rfl rfl (one_of HT_.out (by kernel_rfl)) (by decide) (fun K hK => ?_)
              have hs54 : w52.cell? ⟨gb119, 0, none⟩ = some (u120000) := (blk_cell BK119.out 0).trans rfl
              have hfs54 := blk_frozen BK119.out 0; have hns54_0 := NB110_119.out; have hns54_1 := NB111_119.out; have hms54_0 := NB119_110.out; have hms54_1 := NB119_111.out
              refine skip_ (w1 := ?_) (by rfl) rfl ?_ ?_
              rotate_left
              ·go_simp
               rfl
              refine hK.out _ _ ?_
              clear hK K
              refine done_ (done_of HT_.out (by kernel_rfl)) ?_
              try go_wp2
              go_roundg k3
              case measure => have := HJ3.out; have := HJ26.out; have := HK3.out; omega
              case rel => exact ⟨(wrap64 (x13_3 + 1)), (y122), (.slice Ao53 y122.length co53), (by first | rfl | (simp; done) | (simp [*]; done)), H', ⟨by have := HJ3.out; have := HJ26.out; have := HK3.out; omega⟩, ⟨by (with_reducible repeat (first | apply Kd.R_alloc | apply Kd.R_drewN | apply Kd.R_drew)); exact Kd.R_mono (Kd.R_far (p := ⟨gb119, 0, none⟩) (Kd.R_types HO124.out BK119.out (by decide)) (fun _ hk => hk.2) (.slice Ao53 y122.length co53)) (fun _ hk => trivial)⟩, ⟨by (with_reducible repeat (first | refine blk_drewN ?_ _ | refine blk_drew ?_ | refine blk_alloc ?_ _)); refine blk_far ?_ NB110_119.out _; exact bT_ BK110⟩, ⟨by (with_reducible repeat (first | refine blk_drewN ?_ _ | refine blk_drew ?_ | refine blk_alloc ?_ _)); refine blk_far ?_ NB111_119.out _; exact bT_ BK111⟩, ⟨by (with_reducible repeat (first | refine blk_drewN ?_ _ | refine blk_drew ?_ | refine blk_alloc ?_ _)); refine blk_put (cs := #[u120000, .int .i64 a1_1, .int .i64 (wrap64 (a1_2 + t117))]) ?_ 0 _ rfl; exact bT_ BK119⟩, ⟨by repeat (first | (with_reducible first | exact HB.out | apply below_alloc | apply pw_below_drewN | apply below_drew1 | refine below_set ?_ GE110.out | refine below_set ?_ GE111.out | refine below_set ?_ GE119.out) | exact HB.out)⟩⟩
             ·rw [if_neg c50] at H
              exact absurd H (by simp)
            ·rw [if_neg c49] at H
             exact absurd H (by simp)
           ·rw [if_neg c48] at H
            exact absurd H (by simp)
          ·rw [if_neg c47] at H
           exact absurd H (by simp)
         ·rw [if_neg c46] at H
          have c46b0 : decide (x13_3 < (l0.length : Int)) = false := decide_eq_false c46
          clear c46
          obtain ⟨y125, hy125⟩ : ∃ y_ : List Int, y_ = (([] : List Int)) := ⟨_, rfl⟩
          replace H : (if y125.length + x120000_3.length < 17592186044416 then (spec_FlowStep.l1 k3 l0 (y125 ++ x120000_3) 0 x120000_3 a1_1 (wrap64 (a1_2 + t117))) else (none)) = some (r1, r2, r3, r4) := by first | (rw [hy125]; with_reducible exact H) | (have H2_ := (Option.bind_some _ _).symm.trans H; rw [hy125]; with_reducible exact H2_) | (have H2_ := (Option.bind_some _ _).symm.trans H; with_reducible exact H2_) | with_reducible exact H | (rw [hy125]; exact H) | exact H
          have Ny125 := Aside0.mk hy125; clear hy125
          by_cases c55 : y125.length + x120000_3.length < 17592186044416
          ·rw [if_pos c55] at H
           have LMc55 := Aside0.mk c55; clear c55
           obtain ⟨y128, hy128⟩ : ∃ y_ : List Int, y_ = (y125 ++ x120000_3) := ⟨_, rfl⟩
           replace H : (spec_FlowStep.l1 k3 l0 y128 0 x120000_3 a1_1 (wrap64 (a1_2 + t117))) = some (r1, r2, r3, r4) := by first | (rw [hy128]; with_reducible exact H) | (have H2_ := (Option.bind_some _ _).symm.trans H; rw [hy128]; with_reducible exact H2_) | (have H2_ := (Option.bind_some _ _).symm.trans H; with_reducible exact H2_) | with_reducible exact H | (rw [hy128]; exact H) | exact H
           have Ny128 := Aside0.mk hy128; clear hy128; have H' := Aside0.mk H; clear H
           go_wp2_with (first | ((with_reducible refine gate_dst (N := 110) rfl ?_); (try (refine gate_guard (by rfl) ?_; dsimp only)); refine Kd.R_lit (Kd.int .i64) _ 2 ?hg (N := 110) ?hd (xs := ([] : List Int)) (inner := []) (ok := fun _ => True) (okp := fun _ => True) ?hr ?hp (fun _ hk => hk) trivial (Below.refl _ _) (Nat.le_refl _) (by simp) ?_; (case hd => rfl); (case hg => rfl); (case hr => first | (go_simp; done) | (go_simp; rfl)); (case hp => exact (Reps.none _ _)); intro v126 w56 ho57 hb hg_ hnew_; clear hg_ hnew_; (first | rw [← Ny125.out] at ho57 | (simp only [Int.reduceToNat] at ho57; rw [← Ny125.out] at ho57)); have HO127 := rL_ (rN_ ho57 HO_120000) HB; replace HO_120000 := rE_ HO_120000 ho57 hb; replace BK110 := bB_ BK110 hb; replace BK111 := bB_ BK111 hb; replace BK119 := bB_ BK119 hb; replace HB := bS_ HB hb; clear hb ho57; have hnb58 := NB119_110.out; have hnc58 := NB110_119.out; have hnb59 := NB119_111.out; have hnc59 := NB111_119.out; have hcz60_0 : w56.cell? ⟨gb119, 0, none⟩ = some (u120000) := (blk_cell BK119.out 0).trans rfl; have hcz60_1 : w56.cell? ⟨gb119, 1, none⟩ = some (.int .i64 a1_1) := (blk_cell BK119.out 1).trans rfl; have hcz60_2 : w56.cell? ⟨gb119, 2, none⟩ = some (.int .i64 (wrap64 (a1_2 + t117))) := (blk_cell BK119.out 2).trans rfl; have hfz60_0 := blk_frozen BK119.out 0; have hfz60_1 := blk_frozen BK119.out 1; have hfz60_2 := blk_frozen BK119.out 2; obtain ⟨Ao62, co62, eo62⟩ := Kd.R_slice HO_120000.out; subst eo62) | ((with_reducible refine gate_builtin (b := .append) (xs := #[.tmp 110, .tmp 112]) rfl ?_); (try (refine gate_guard (by rfl) ?_; dsimp only)); at_builtin; refine Kd.R_append_rows (Kd.int .i64) (w0 := w) w.heap.size rfl (.tmp 110) (.tmp 112) 22 2 (.int .i64 0) 8 rfl Try.underlying22 info2 rfl (by decide) (by omega) v126 y125 x120000_3 _ _ _ (fun k_ => some k_ ≠ (.slice Ao62 x120000_3.length co62 : Value).ownBlock) (fun _ => False) rfl rfl ?aO ?aR (fun _ _ h => h) (fun _ h => h.elim) ?aF ?aB ?aS ?aL ?_; (case aR => repeat (first | exact (Kd.R_reads' HO_120000.out).2.2 | (with_reducible refine Kd.C_alloc ?_ _) | (with_reducible refine Kd.C_drewN ?_ _) | (with_reducible refine Kd.C_drew ?_))); (case aB => exact (by repeat (first | (with_reducible first | exact HB.out | apply below_alloc | apply pw_below_drewN | apply below_drew1 | refine below_set ?_ GE110.out | refine below_set ?_ GE111.out | refine below_set ?_ GE119.out) | exact HB.out))); (case aF => exact (fun k_ hk => Kd.fresh' (rLt_ HO_120000) k_ hk)); (case aO => exact (rM_ HO127)); (case aS => exact (below_size (by repeat (first | (with_reducible first | exact HB.out | apply below_alloc | apply pw_below_drewN | apply below_drew1 | refine below_set ?_ GE110.out | refine below_set ?_ GE111.out | refine below_set ?_ GE119.out) | exact HB.out)))); (case aL => have := LMc55.out; omega); intro v129 w61 ho hb hg hat; rw [← Ny128.out] at ho; replace HO_120000 := Aside0.mk (Kd.R_after (ok := (fun _ => True)) (rT_ HO_120000) hg hat); replace BK110 := Aside0.mk (blk_grown (g := gb110) (o := .cells #[.slice A1_0 l1_0.length c1_0, .int .i64 a1_1, .int .i64 a1_2] 26 (0, 0)) (bT_ BK110) hg (Kd.R_ne HO127.out BK110.out (by decide))); replace BK111 := Aside0.mk (blk_grown (g := gb111) (o := .cells #[.slice none 0 0, .int .i64 0, .int .i64 0] 26 (0, 0)) (bT_ BK111) hg (Kd.R_ne HO127.out BK111.out (by decide))); replace BK119 := Aside0.mk (blk_grown (g := gb119) (o := .cells #[.slice Ao62 x120000_3.length co62, .int .i64 a1_1, .int .i64 (wrap64 (a1_2 + t117))] 26 (0, 0)) (bT_ BK119) hg (Kd.R_ne HO127.out BK119.out (by decide))); replace HB := Aside0.mk (hb); have HO130 := Aside0.mk (ho); clear HO127; clear ho hb hg hat))
           go_loopg [15] k3 (fun kq v15 w' => ∃ (x14_4 : List Int) (x15_4 : Int) (x120000_4 : List Int) (x120001_4 : Int) (u120000 : Value), v15 = .int .i64 x15_4 ∧ Aside0 (spec_FlowStep.l1 kq l0 x14_4 x15_4 x120000_4 x120001_4 (wrap64 (a1_2 + t117)) = some (r1, r2, r3, r4)) ∧ Aside0 (kq ≤ k3) ∧ Aside0 (Kd.R (Kd.int .i64) 2 w' w.heap.size (fun k_ => some k_ ≠ (u120000 : Value).ownBlock) v129 x14_4) ∧ Aside0 (Kd.R (Kd.int .i64) 2 w' w.heap.size (fun k_ => some k_ ≠ (v129 : Value).ownBlock) u120000 x120000_4) ∧ Aside0 (w'.heap[gb110]? = some (.cells #[(.slice A1_0 l1_0.length c1_0), .int .i64 a1_1, .int .i64 a1_2] 26 (0, 0))) ∧ Aside0 (w'.heap[gb111]? = some (.cells #[(.slice none 0 0), .int .i64 0, .int .i64 0] 26 (0, 0))) ∧ Aside0 (w'.heap[gb119]? = some (.cells #[u120000, .int .i64 x120001_4, .int .i64 (wrap64 (a1_2 + t117))] 26 (0, 0))) ∧ Aside0 (Below w.heap.size w w'))
           case atStart => exact ⟨(y128), (0), (x120000_3), (a1_1), (.slice Ao62 x120000_3.length co62), (by first | rfl | (simp; done) | (simp [*]; done)), H', ⟨Nat.le_refl _⟩, ⟨by (with_reducible repeat (first | apply Kd.R_alloc | apply Kd.R_drewN | apply Kd.R_drew)); exact HO130.out⟩, ⟨by (with_reducible repeat (first | apply Kd.R_alloc | apply Kd.R_drewN | apply Kd.R_drew)); exact Kd.R_mono HO_120000.out (fun _ hk => hk.2)⟩, ⟨by exact bT_ BK110⟩, ⟨by exact bT_ BK111⟩, ⟨by exact bT_ BK119⟩, ⟨by repeat (first | (with_reducible first | exact HB.out | apply below_alloc | apply pw_below_drewN | apply below_drew1 | refine below_set ?_ GE110.out | refine below_set ?_ GE111.out | refine below_set ?_ GE119.out) | exact HB.out)⟩⟩
           case round =>
            clear H'; (try clear c1); (try clear p1); (try clear q1); (try clear hx1); (try clear c2); (try clear p2); (try clear c3); (try clear c4); (try clear c5); (try clear p6); (try clear c8); (try clear c9); (try clear c9b0); (try clear c9b1); (try clear c9b2); (try clear c10); (try clear c10b0); (try clear c10b1); (try clear c10b2); (try clear c12); (try clear p12); (try clear q12); (try clear hx12); (try clear c14); (try clear c16); (try clear c18); (try clear c20); (try clear c22); (try clear c23); (try clear c28); (try clear c30); (try clear c31); (try clear c32); (try clear c32b0); (try clear c32b1); (try clear c33); (try clear c35); (try clear c37); (try clear c38); (try clear c40); (try clear c43); (try clear c44); (try clear c45); (try clear c46); (try clear c46b0); (try clear c47); (try clear c47b0); (try clear c48); (try clear c48b0); (try clear c49); (try clear c49b0); (try clear c50); (try clear c55); (try clear c58); (try clear c59); (try clear hcz15_0); (try clear hcz15_1); (try clear hcz15_2); (try clear hcz17_0); (try clear hcz17_1); (try clear hcz17_2); (try clear hcz19_0); (try clear hcz19_1); (try clear hcz19_2); (try clear hcz21_0); (try clear hcz21_1); (try clear hcz21_2); (try clear hcz24_0); (try clear hcz24_1); (try clear hcz24_2); (try clear hcz29_0); (try clear hcz29_1); (try clear hcz29_2); (try clear hcz34_0); (try clear hcz34_1); (try clear hcz34_2); (try clear hcz36_0); (try clear hcz36_1); (try clear hcz36_2); (try clear hcz39_0); (try clear hcz39_1); (try clear hcz39_2); (try clear hcz41_0); (try clear hcz41_1); (try clear hcz41_2); (try clear hcz45_0); (try clear hcz45_1); (try clear hcz45_2); (try clear hcz60_0); (try clear hcz60_1); (try clear hcz60_2); (try clear hfz15_0); (try clear hfz15_1); (try clear hfz15_2); (try clear hfz17_0); (try clear hfz17_1); (try clear hfz17_2); (try clear hfz19_0); (try clear hfz19_1); (try clear hfz19_2); (try clear hfz21_0); (try clear hfz21_1); (try clear hfz21_2); (try clear hfz24_0); (try clear hfz24_1); (try clear hfz24_2); (try clear hfz29_0); (try clear hfz29_1); (try clear hfz29_2); (try clear hfz34_0); (try clear hfz34_1); (try clear hfz34_2); (try clear hfz36_0); (try clear hfz36_1); (try clear hfz36_2); (try clear hfz39_0); (try clear hfz39_1); (try clear hfz39_2); (try clear hfz41_0); (try clear hfz41_1); (try clear hfz41_2); (try clear hfz45_0); (try clear hfz45_1); (try clear hfz45_2); (try clear hfz60_0); (try clear hfz60_1); (try clear hfz60_2); (try clear hx120_0); (try clear hx121_0); (try clear p120); (try clear p121); (try clear p2); (try clear p6); (try clear q120); (try clear q121)
            obtain ⟨x14_4, x15_4, x120000_4, x120001_4, u120000, rfl, HA, HK4, HO_14, HO_120000, BK110, BK111, BK119, HB⟩ := hrel
            cases gk with
            | zero => exact absurd HA.out (by simp [spec_FlowStep.l1])
            | succ k4 =>
             have H := HA.out; clear HA
             simp only [spec_FlowStep.l1] at H
             by_cases c63 : x15_4 < (l0.length : Int)
             ·rw [if_pos c63] at H
              have c63b0 : decide (x15_4 < (l0.length : Int)) = true := decide_eq_true c63
              clear c63
              by_cases c64 : 0 ≤ x15_4
              ·rw [if_pos c64] at H
               have c64b0 : decide (0 ≤ x15_4) = true := decide_eq_true c64
               clear c64
               by_cases c65 : x15_4 < (x14_4.length : Int)
               ·rw [if_pos c65] at H
                have c65b0 : decide (x15_4 < (x14_4.length : Int)) = true := decide_eq_true c65
                clear c65
                by_cases c66 : x15_4 < (x120000_4.length : Int)
                ·rw [if_pos c66] at H
                 have c66b0 : decide (x15_4 < (x120000_4.length : Int)) = true := decide_eq_true c66
                 clear c66
                 obtain ⟨y134, hy134⟩ : ∃ y_ : List Int, y_ = (x120000_4.set (x15_4 : Int).toNat (wrap64 ((rd x120000_4 x15_4) - (wrap64 ((rd x14_4 x15_4) - (wrap64 (Int.tdiv (rd x14_4 x15_4) 2))))))) := ⟨_, rfl⟩
                 replace H : (if (rd l0 x15_4) < 0 then (spec_FlowStep.l1 k4 l0 x14_4 (wrap64 (x15_4 + 1)) y134 (wrap64 (x120001_4 + (wrap64 ((rd x14_4 x15_4) - (wrap64 (Int.tdiv (rd x14_4 x15_4) 2)))))) (wrap64 (a1_2 + t117))) else (if 0 ≤ (rd l0 x15_4) then (if (rd l0 x15_4) < (x120000_4.length : Int) then (spec_FlowStep.l1 k4 l0 x14_4 (wrap64 (x15_4 + 1)) (y134.set ((rd l0 x15_4) : Int).toNat (wrap64 ((rd y134 (rd l0 x15_4)) + (wrap64 ((rd x14_4 x15_4) - (wrap64 (Int.tdiv (rd x14_4 x15_4) 2))))))) x120001_4 (wrap64 (a1_2 + t117))) else (none)) else (none))) = some (r1, r2, r3, r4) := by first | (rw [hy134]; with_reducible exact H) | (have H2_ := (Option.bind_some _ _).symm.trans H; rw [hy134]; with_reducible exact H2_) | (have H2_ := (Option.bind_some _ _).symm.trans H; with_reducible exact H2_) | with_reducible exact H | (rw [hy134]; exact H) | exact H
                 have Ny134 := Aside0.mk hy134; clear hy134
                 by_cases c68 : (rd l0 x15_4) < 0
                 ·rw [if_pos c68] at H
                  have c68b0 : decide ((rd l0 x15_4) < 0) = true := decide_eq_true c68
                  clear c68; have H' := Aside0.mk H; clear H
                  try go_wp2
                  replace HO_14 := Aside0.mk (Kd.R_drew HO_14.out)
                  replace HO_120000 := Aside0.mk (Kd.R_drew HO_120000.out)
                  replace BK110 := Aside0.mk (blk_drew BK110.out)
                  replace BK111 := Aside0.mk (blk_drew BK111.out)
                  replace BK119 := Aside0.mk (blk_drew BK119.out)
                  replace HB := Aside0.mk (below_drew1 HB.out)
                  obtain ⟨Ao70, co70, eo70⟩ := Kd.R_slice HO_14.out
                  (first | subst eo70 | (injection eo70 with f1_ f2_ f3_; have f4_ := f1_.symm; have f5_ := f3_.symm; clear f1_ f2_ f3_; subst f4_; subst f5_))
                  have p131 : 0 ≤ (x15_4 : Int) := of_decide_eq_true (by first | (with_reducible assumption) | assumption)
                  have q131 : x15_4 < (x14_4.length : Int) := of_decide_eq_true (by first | (with_reducible assumption) | assumption)
                  obtain ⟨ad131, e131, hx131_0⟩ := Kd.at_int (Kd.R_reads' HO_14.out).2.2 x15_4 p131 q131
                  cases e131
                  replace p131 := eq_true p131; replace q131 := eq_true q131
                  have p132 : 0 ≤ (x15_4 : Int) := of_decide_eq_true (by first | (with_reducible assumption) | assumption)
                  have q132 : x15_4 < (x14_4.length : Int) := of_decide_eq_true (by first | (with_reducible assumption) | assumption)
                  obtain ⟨ad132, e132, hx132_0⟩ := Kd.at_int (Kd.R_reads' HO_14.out).2.2 x15_4 p132 q132
                  obtain rfl : ad131 = ad132 := (by injection e132)
                  replace p132 := eq_true p132; replace q132 := eq_true q132
                  refine start_ (n := 11) (S := fun w' => w'.cell? (ad131.add (x15_4).toNat) = some (.int .i64 (rd x14_4 x15_4)) ∧ w'.cell? (ad131.add (x15_4).toNat) = some (.int .i64 (rd x14_4 x15_4))) (ds := []) #[false, false, false, false, false, false, false, false, false, false, false] (by kernel_rfl) rfl rfl ⟨hx131_0, hx132_0⟩ (fun hHeld => ?_); refine with_tabW spec_FlowStep.tab16 spec_FlowStep.bits16 (fun HT_ HW_ => ?_)
                  generalize wr.drew = w69 at HO_14 HO_120000 BK110 BK111 BK119 HB hx131_0 hx132_0 hHeld ⊢
                  refine pT_ 0 (some 120) #[true, false, false, false, false, false, false, false, false, false, false] HT_ ?_
                  refine pT_ 1 (some 121) #[true, true, false, false, false, false, false, false, false, false, false] HT_ ?_
                  refine pT_ 2 (some 122) #[true, true, true, false, false, false, false, false, false, false, false] HT_ ?_
                  refine pT_ 4 (some 124) #[true, true, true, false, true, false, false, false, false, false, false] HT_ ?_
                  refine pT_ 5 (some 125) #[true, true, true, false, true, true, false, false, false, false, false] HT_ ?_
                  refine pT_ 6 (some 126) #[true, true, true, false, true, true, true, false, false, false, false] HT_ ?_
                  refine tT_ 3 (some 123) #[true, true, true, true, true, true, true, false, false, false, false] HT_ HW_ hHeld ?_ (hy := by rintro w' ⟨s0, s1⟩; go_simp; with_reducible rfl)
                  refine tT_ 7 (some 127) #[true, true, true, true, true, true, true, true, false, false, false] HT_ HW_ hHeld ?_ (hy := by rintro w' ⟨s0, s1⟩; go_simp; with_reducible rfl)
                  refine pT_ 8 (some 128) #[true, true, true, true, true, true, true, true, true, false, false] HT_ ?_
                  refine pT_ 9 (some 129) #[true, true, true, true, true, true, true, true, true, true, false] HT_ ?_
                  refine pT_ 10 (some 16) #[true, true, true, true, true, true, true, true, true, true, true] HT_ ?_
                  refine done_ (done_of HT_.out (by kernel_rfl)) ?_
                  try go_wp2
                  replace HO_14 := Aside0.mk (Kd.R_drew HO_14.out)
                  replace HO_120000 := Aside0.mk (Kd.R_drew HO_120000.out)
                  replace BK110 := Aside0.mk (blk_drew BK110.out)
                  replace BK111 := Aside0.mk (blk_drew BK111.out)
                  replace BK119 := Aside0.mk (blk_drew BK119.out)
                  replace HB := Aside0.mk (below_drew1 HB.out)
                  obtain ⟨Ao72, co72, eo72⟩ := Kd.R_slice HO_120000.out
                  (first | subst eo72 | (injection eo72 with f1_ f2_ f3_; have f4_ := f1_.symm; have f5_ := f3_.symm; clear f1_ f2_ f3_; subst f4_; subst f5_))
                  have p133 : 0 ≤ (x15_4 : Int) := of_decide_eq_true (by first | (with_reducible assumption) | assumption)
                  have q133 : x15_4 < (x120000_4.length : Int) := of_decide_eq_true (by first | (with_reducible assumption) | assumption)
                  obtain ⟨ad133, e133, hx133_0⟩ := Kd.at_int (Kd.R_reads' HO_120000.out).2.2 x15_4 p133 q133
                  cases e133
                  replace p133 := eq_true p133; replace q133 := eq_true q133
                  have p67 : 0 ≤ (x15_4 : Int) := of_decide_eq_true (by first | (with_reducible assumption) | assumption)
                  have q67 : (x15_4 : Int) < ((x120000_4.length : Int) : Int) := of_decide_eq_true (by first | (with_reducible assumption) | assumption)
                  obtain ⟨go67, co67, eo67, gb67, gl67, cl67, HG67⟩ := Kd.R_form HO_120000.out (by omega)
                  (first | cases eo67 | (injection eo67 with ea_ en_ ec_; (first | subst ea_ | (injection ea_ with ea_; subst ea_)); subst ec_; clear en_))
                  have GB67 := Aside0.mk gb67; have GG67 := Aside0.mk HG67; clear gb67 gl67 HG67
                  (first | simp only [add_plain] at hx133_0 | skip)
                  obtain ⟨hx67_0, hf67_0⟩ := Kd.R_celln 0 HO_120000.out (x15_4 : Int) p67 q67
                  replace p67 := eq_true p67; replace q67 := eq_true q67
                  have HP73 := Kd.R_putn HO_120000.out (x15_4 : Int) (wrap64 ((rd x120000_4 x15_4) - (wrap64 ((rd x14_4 x15_4) - (wrap64 (Int.tdiv (rd x14_4 x15_4) 2))))))
                  rw [← Ny134.out] at HP73
                  have HQ73 := Aside0.mk HP73; clear HP73
                  refine start_ (n := 12) (S := fun w' => w'.cell? ⟨gb119, 0, none⟩ = some (.slice (some ⟨go67, 0, none⟩) x120000_4.length co72) ∧ w'.cell? ⟨gb119, 1, none⟩ = some (.int .i64 x120001_4) ∧ w'.cell? ⟨gb119, 2, none⟩ = some (.int .i64 (wrap64 (a1_2 + t117))) ∧ w'.cell? ⟨go67, (x15_4).toNat, none⟩ = some (.int .i64 (rd x120000_4 x15_4))) (ds := [11]) #[false, false, false, false, false, false, false, false, false, false, false, false] (by kernel_rfl) rfl rfl ⟨(blk_cell BK119.out 0).trans rfl, (blk_cell BK119.out 1).trans rfl, (blk_cell BK119.out 2).trans rfl, hx133_0⟩ (fun hHeld => ?_); refine with_tabW spec_FlowStep.tab17 spec_FlowStep.bits17 (fun HT_ HW_ => ?_)
                  generalize w69.drew = w71 at HO_14 HO_120000 BK110 BK111 BK119 HB GG67 HQ73 hf67_0 hx133_0 hx67_0 hHeld ⊢
                  refine pT_ 0 (some 130) #[true, false, false, false, false, false, false, false, false, false, false, false] HT_ ?_
                  refine pT_ 2 (some 132) #[true, false, true, false, false, false, false, false, false, false, false, false] HT_ ?_
                  refine pT_ 3 (some 133) #[true, false, true, true, false, false, false, false, false, false, false, false] HT_ ?_
                  refine pT_ 5 (some 135) #[true, false, true, true, false, true, false, false, false, false, false, false] HT_ ?_
                  refine pT_ 8 (some 138) #[true, false, true, true, false, true, false, false, true, false, false, false] HT_ ?_
                  refine tT_ 1 (some 131) #[true, true, true, true, false, true, false, false, true, false, false, false] HT_ HW_ hHeld ?_ (hy := by rintro w' ⟨s0, s1, s2, s3⟩; go_simp; with_reducible rfl)
                  refine tT_ 4 (some 134) #[true, true, true, true, true, true, false, false, true, false, false, false] HT_ HW_ hHeld ?_ (hy := by rintro w' ⟨s0, s1, s2, s3⟩; go_simp; with_reducible rfl)
                  refine pT_ 6 (some 136) #[true, true, true, true, true, true, true, false, true, false, false, false] HT_ ?_
                  refine tT_ 7 (some 137) #[true, true, true, true, true, true, true, true, true, false, false, false] HT_ HW_ hHeld ?_ (hy := by rintro w' ⟨s0, s1, s2, s3⟩; go_simp; with_reducible rfl)
                  refine pT_ 9 (some 139) #[true, true, true, true, true, true, true, true, true, true, false, false] HT_ ?_
                  refine pT_ 10 (some 140) #[true, true, true, true, true, true, true, true, true, true, true, false] HT_ ?_
                  refine last_ (i := 11) (N := none) #[true, true, true, true, true, true, true, true, true, true, true, true] rfl rfl (one_of HT_.out (by kernel_rfl)) (by decide) (fun K hK => ?_)
                  refine skip_ (w1 := ?_) (by rfl) rfl ?_ ?_
                  rotate_left
                  ·go_simp
                   rfl
                  refine hK.out _ _ ?_
                  clear hK K
                  refine done_ (done_of HT_.out (by kernel_rfl)) ?_
                  have n0_ : Aside0 (Kd.R (Kd.int .i64) 2 (w71.setCell ⟨go67, (x15_4 : Int).toNat, none⟩ (.int .i64 (wrap64 ((rd x120000_4 x15_4) - (wrap64 ((rd x14_4 x15_4) - (wrap64 (Int.tdiv (rd x14_4 x15_4) 2)))))))) w.heap.size (fun k_ => some k_ ≠ (.slice (some ⟨go67, 0, none⟩) x120000_4.length co72 : Value).ownBlock) (.slice (some ad131) x14_4.length co70) x14_4) := ⟨by (with_reducible repeat (first | apply Kd.R_alloc | apply Kd.R_drewN | apply Kd.R_drew)); exact Kd.R_mono (Kd.R_far (p := ⟨go67, (x15_4 : Int).toNat, none⟩) (Kd.R_mono HO_14.out (fun k_ hk => (⟨hk, fun e_ => hk (by rw [e_]; rfl)⟩ : _ ∧ k_ ≠ go67))) (fun _ hk => hk.2) (.int .i64 (wrap64 ((rd x120000_4 x15_4) - (wrap64 ((rd x14_4 x15_4) - (wrap64 (Int.tdiv (rd x14_4 x15_4) 2)))))))) (fun _ hk => hk.1)⟩
                  have n1_ : Aside0 (Kd.R (Kd.int .i64) 2 (w71.setCell ⟨go67, (x15_4 : Int).toNat, none⟩ (.int .i64 (wrap64 ((rd x120000_4 x15_4) - (wrap64 ((rd x14_4 x15_4) - (wrap64 (Int.tdiv (rd x14_4 x15_4) 2)))))))) w.heap.size (fun k_ => some k_ ≠ (.slice (some ad131) x14_4.length co70 : Value).ownBlock) (.slice (some ⟨go67, 0, none⟩) x120000_4.length co72) y134) := ⟨by (with_reducible repeat (first | apply Kd.R_alloc | apply Kd.R_drewN | apply Kd.R_drew)); exact HQ73.out⟩
                  have n2_ : Aside0 ((w71.setCell ⟨go67, (x15_4 : Int).toNat, none⟩ (.int .i64 (wrap64 ((rd x120000_4 x15_4) - (wrap64 ((rd x14_4 x15_4) - (wrap64 (Int.tdiv (rd x14_4 x15_4) 2)))))))).heap[gb110]? = some (.cells #[.slice A1_0 l1_0.length c1_0, .int .i64 a1_1, .int .i64 a1_2] 26 (0, 0))) := ⟨by (with_reducible repeat (first | refine blk_drewN ?_ _ | refine blk_drew ?_ | refine blk_alloc ?_ _)); refine blk_far ?_ (by have h_ := Kd.R_ne HO_120000.out BK110.out (by decide); intro e_; exact h_ (by rw [e_]; rfl)) _; exact bT_ BK110⟩
                  have n3_ : Aside0 ((w71.setCell ⟨go67, (x15_4 : Int).toNat, none⟩ (.int .i64 (wrap64 ((rd x120000_4 x15_4) - (wrap64 ((rd x14_4 x15_4) - (wrap64 (Int.tdiv (rd x14_4 x15_4) 2)))))))).heap[gb111]? = some (.cells #[.slice none 0 0, .int .i64 0, .int .i64 0] 26 (0, 0))) := ⟨by (with_reducible repeat (first | refine blk_drewN ?_ _ | refine blk_drew ?_ | refine blk_alloc ?_ _)); refine blk_far ?_ (by have h_ := Kd.R_ne HO_120000.out BK111.out (by decide); intro e_; exact h_ (by rw [e_]; rfl)) _; exact bT_ BK111⟩
                  have n4_ : Aside0 ((w71.setCell ⟨go67, (x15_4 : Int).toNat, none⟩ (.int .i64 (wrap64 ((rd x120000_4 x15_4) - (wrap64 ((rd x14_4 x15_4) - (wrap64 (Int.tdiv (rd x14_4 x15_4) 2)))))))).heap[gb119]? = some (.cells #[.slice (some ⟨go67, 0, none⟩) x120000_4.length co72, .int .i64 x120001_4, .int .i64 (wrap64 (a1_2 + t117))] 26 (0, 0))) := ⟨by (with_reducible repeat (first | refine blk_drewN ?_ _ | refine blk_drew ?_ | refine blk_alloc ?_ _)); refine blk_far ?_ (by have h_ := Kd.R_ne HO_120000.out BK119.out (by decide); intro e_; exact h_ (by rw [e_]; rfl)) _; exact bT_ BK119⟩
                  have n5_ : Aside0 (Below w.heap.size w (w71.setCell ⟨go67, (x15_4 : Int).toNat, none⟩ (.int .i64 (wrap64 ((rd x120000_4 x15_4) - (wrap64 ((rd x14_4 x15_4) - (wrap64 (Int.tdiv (rd x14_4 x15_4) 2))))))))) := ⟨by repeat (first | (with_reducible first | exact HB.out | apply below_alloc | apply pw_below_drewN | apply below_drew1 | refine below_set ?_ GB67.out | refine below_set ?_ GE110.out | refine below_set ?_ GE111.out | refine below_set ?_ GE119.out) | exact HB.out)⟩
                  (try clear HO_14); (try clear HO_120000); (try clear BK110); (try clear BK111); (try clear BK119); (try clear HB)
                  generalize (w71.setCell ⟨go67, (x15_4 : Int).toNat, none⟩ (.int .i64 (wrap64 ((rd x120000_4 x15_4) - (wrap64 ((rd x14_4 x15_4) - (wrap64 (Int.tdiv (rd x14_4 x15_4) 2)))))))) = w74 at n0_ n1_ n2_ n3_ n4_ n5_ ⊢
                  have HO_14 := n0_; have HO_120000 := n1_; have BK110 := n2_; have BK111 := n3_; have BK119 := n4_; have HB := n5_; clear n0_ n1_ n2_ n3_ n4_ n5_
                  have p135 : 0 ≤ (x15_4 : Int) := of_decide_eq_true (by first | (with_reducible assumption) | assumption)
                  have q135 : x15_4 < (l0.length : Int) := of_decide_eq_true (by first | (with_reducible assumption) | assumption)
                  obtain ⟨ad135, e135, hx135_0⟩ := Kd.at_int HR0.out x15_4 p135 q135
                  cases e135
                  replace hx135_0 := (HB.out.cell (World.block_lt_of_cell? w _ hx135_0)).trans hx135_0
                  replace p135 := eq_true p135; replace q135 := eq_true q135; have hnb75 := NB119_110.out; have hnc75 := NB110_119.out; have hnb76 := NB119_111.out; have hnc76 := NB111_119.out
                  have hcz77_0 : w74.cell? ⟨gb119, 0, none⟩ = some (.slice (some ⟨go67, 0, none⟩) x120000_4.length co72) := (blk_cell BK119.out 0).trans rfl
                  have hcz77_1 : w74.cell? ⟨gb119, 1, none⟩ = some (.int .i64 x120001_4) := (blk_cell BK119.out 1).trans rfl
                  have hcz77_2 : w74.cell? ⟨gb119, 2, none⟩ = some (.int .i64 (wrap64 (a1_2 + t117))) := (blk_cell BK119.out 2).trans rfl
                  have hfz77_0 := blk_frozen BK119.out 0; have hfz77_1 := blk_frozen BK119.out 1; have hfz77_2 := blk_frozen BK119.out 2
                  try go_wp2
                  go_roundg k4
                  case measure => have := HJ3.out; have := HJ26.out; have := HK3.out; have := HK4.out; omega
                  case rel => exact ⟨(x14_4), (wrap64 (x15_4 + 1)), (y134), (wrap64 (x120001_4 + (wrap64 ((rd x14_4 x15_4) - (wrap64 (Int.tdiv (rd x14_4 x15_4) 2)))))), (.slice (some ⟨go67, 0, none⟩) x120000_4.length co72), (by first | rfl | (simp; done) | (simp [*]; done)), H', ⟨by have := HJ3.out; have := HJ26.out; have := HK3.out; have := HK4.out; omega⟩, ⟨by (with_reducible repeat (first | apply Kd.R_alloc | apply Kd.R_drewN | apply Kd.R_drew)); exact Kd.R_mono (Kd.R_far (p := ⟨gb119, 1, none⟩) (Kd.R_types HO_14.out BK119.out (by decide)) (fun _ hk => hk.2) (.int .i64 (wrap64 (x120001_4 + (wrap64 ((rd x14_4 x15_4) - (wrap64 (Int.tdiv (rd x14_4 x15_4) 2)))))))) (fun _ hk => hk.1)⟩, ⟨by (with_reducible repeat (first | apply Kd.R_alloc | apply Kd.R_drewN | apply Kd.R_drew)); exact Kd.R_mono (Kd.R_far (p := ⟨gb119, 1, none⟩) (Kd.R_types HO_120000.out BK119.out (by decide)) (fun _ hk => hk.2) (.int .i64 (wrap64 (x120001_4 + (wrap64 ((rd x14_4 x15_4) - (wrap64 (Int.tdiv (rd x14_4 x15_4) 2)))))))) (fun _ hk => hk.1)⟩, ⟨by (with_reducible repeat (first | refine blk_drewN ?_ _ | refine blk_drew ?_ | refine blk_alloc ?_ _)); refine blk_far ?_ NB110_119.out _; exact bT_ BK110⟩, ⟨by (with_reducible repeat (first | refine blk_drewN ?_ _ | refine blk_drew ?_ | refine blk_alloc ?_ _)); refine blk_far ?_ NB111_119.out _; exact bT_ BK111⟩, ⟨by (with_reducible repeat (first | refine blk_drewN ?_ _ | refine blk_drew ?_ | refine blk_alloc ?_ _)); refine blk_put (cs := #[.slice (some ⟨go67, 0, none⟩) x120000_4.length co72, .int .i64 x120001_4, .int .i64 (wrap64 (a1_2 + t117))]) ?_ 1 _ rfl; exact bT_ BK119⟩, ⟨by repeat (first | (with_reducible first | exact HB.out | apply below_alloc | apply pw_below_drewN | apply below_drew1 | refine below_set ?_ GE110.out | refine below_set ?_ GE111.out | refine below_set ?_ GE119.out) | exact HB.out)⟩⟩
                 ·rw [if_neg c68] at H
                  have c68b0 : decide ((rd l0 x15_4) < 0) = false := decide_eq_false c68
                  clear c68
                  by_cases c78 : 0 ≤ (rd l0 x15_4)
                  ·rw [if_pos c78] at H
                   have c78b0 : decide (0 ≤ (rd l0 x15_4)) = true := decide_eq_true c78
                   clear c78
                   by_cases c79 : (rd l0 x15_4) < (x120000_4.length : Int)
                   ·rw [if_pos c79] at H
                    have c79b0 : decide ((rd l0 x15_4) < (x120000_4.length : Int)) = true := decide_eq_true c79
                    clear c79
                    obtain ⟨y139, hy139⟩ : ∃ y_ : List Int, y_ = (y134.set ((rd l0 x15_4) : Int).toNat (wrap64 ((rd y134 (rd l0 x15_4)) + (wrap64 ((rd x14_4 x15_4) - (wrap64 (Int.tdiv (rd x14_4 x15_4) 2))))))) := ⟨_, rfl⟩
                    replace H : (spec_FlowStep.l1 k4 l0 x14_4 (wrap64 (x15_4 + 1)) y139 x120001_4 (wrap64 (a1_2 + t117))) = some (r1, r2, r3, r4) := by first | (rw [hy139]; with_reducible exact H) | (have H2_ := (Option.bind_some _ _).symm.trans H; rw [hy139]; with_reducible exact H2_) | (have H2_ := (Option.bind_some _ _).symm.trans H; with_reducible exact H2_) | with_reducible exact H | (rw [hy139]; exact H) | exact H
                    have Ny139 := Aside0.mk hy139; clear hy139; have H' := Aside0.mk H; clear H
                    try go_wp2
                    replace HO_14 := Aside0.mk (Kd.R_drew HO_14.out)
                    replace HO_120000 := Aside0.mk (Kd.R_drew HO_120000.out)
                    replace BK110 := Aside0.mk (blk_drew BK110.out)
                    replace BK111 := Aside0.mk (blk_drew BK111.out)
                    replace BK119 := Aside0.mk (blk_drew BK119.out)
                    replace HB := Aside0.mk (below_drew1 HB.out)
                    obtain ⟨Ao82, co82, eo82⟩ := Kd.R_slice HO_14.out
                    (first | subst eo82 | (injection eo82 with f1_ f2_ f3_; have f4_ := f1_.symm; have f5_ := f3_.symm; clear f1_ f2_ f3_; subst f4_; subst f5_))
                    have p131 : 0 ≤ (x15_4 : Int) := of_decide_eq_true (by first | (with_reducible assumption) | assumption)
                    have q131 : x15_4 < (x14_4.length : Int) := of_decide_eq_true (by first | (with_reducible assumption) | assumption)
                    obtain ⟨ad131, e131, hx131_0⟩ := Kd.at_int (Kd.R_reads' HO_14.out).2.2 x15_4 p131 q131
                    cases e131
                    replace p131 := eq_true p131; replace q131 := eq_true q131
                    have p132 : 0 ≤ (x15_4 : Int) := of_decide_eq_true (by first | (with_reducible assumption) | assumption)
                    have q132 : x15_4 < (x14_4.length : Int) := of_decide_eq_true (by first | (with_reducible assumption) | assumption)
                    obtain ⟨ad132, e132, hx132_0⟩ := Kd.at_int (Kd.R_reads' HO_14.out).2.2 x15_4 p132 q132
                    obtain rfl : ad131 = ad132 := (by injection e132)
                    replace p132 := eq_true p132; replace q132 := eq_true q132
                    refine start_ (n := 11) (S := fun w' => w'.cell? (ad131.add (x15_4).toNat) = some (.int .i64 (rd x14_4 x15_4)) ∧ w'.cell? (ad131.add (x15_4).toNat) = some (.int .i64 (rd x14_4 x15_4))) (ds := []) #[false, false, false, false, false, false, false, false, false, false, false] (by kernel_rfl) rfl rfl ⟨hx131_0, hx132_0⟩ (fun hHeld => ?_); refine with_tabW spec_FlowStep.tab16 spec_FlowStep.bits16 (fun HT_ HW_ => ?_)
                    generalize wr.drew = w81 at HO_14 HO_120000 BK110 BK111 BK119 HB hx131_0 hx132_0 hHeld ⊢
                    refine pT_ 0 (some 120) #[true, false, false, false, false, false, false, false, false, false, false] HT_ ?_
                    refine pT_ 1 (some 121) #[true, true, false, false, false, false, false, false, false, false, false] HT_ ?_
                    refine pT_ 2 (some 122) #[true, true, true, false, false, false, false, false, false, false, false] HT_ ?_
                    refine pT_ 4 (some 124) #[true, true, true, false, true, false, false, false, false, false, false] HT_ ?_
                    refine pT_ 5 (some 125) #[true, true, true, false, true, true, false, false, false, false, false] HT_ ?_
                    refine pT_ 6 (some 126) #[true, true, true, false, true, true, true, false, false, false, false] HT_ ?_
                    refine tT_ 3 (some 123) #[true, true, true, true, true, true, true, false, false, false, false] HT_ HW_ hHeld ?_ (hy := by rintro w' ⟨s0, s1⟩; go_simp; with_reducible rfl)
                    refine tT_ 7 (some 127) #[true, true, true, true, true, true, true, true, false, false, false] HT_ HW_ hHeld ?_ (hy := by rintro w' ⟨s0, s1⟩; go_simp; with_reducible rfl)
                    refine pT_ 8 (some 128) #[true, true, true, true, true, true, true, true, true, false, false] HT_ ?_
                    refine pT_ 9 (some 129) #[true, true, true, true, true, true, true, true, true, true, false] HT_ ?_
                    refine pT_ 10 (some 16) #[true, true, true, true, true, true, true, true, true, true, true] HT_ ?_
                    refine done_ (done_of HT_.out (by kernel_rfl)) ?_
                    try go_wp2
                    replace HO_14 := Aside0.mk (Kd.R_drew HO_14.out)
                    replace HO_120000 := Aside0.mk (Kd.R_drew HO_120000.out)
                    replace BK110 := Aside0.mk (blk_drew BK110.out)
                    replace BK111 := Aside0.mk (blk_drew BK111.out)
                    replace BK119 := Aside0.mk (blk_drew BK119.out)
                    replace HB := Aside0.mk (below_drew1 HB.out)
                    obtain ⟨Ao84, co84, eo84⟩ := Kd.R_slice HO_120000.out
                    (first | subst eo84 | (injection eo84 with f1_ f2_ f3_; have f4_ := f1_.symm; have f5_ := f3_.symm; clear f1_ f2_ f3_; subst f4_; subst f5_))
                    have p133 : 0 ≤ (x15_4 : Int) := of_decide_eq_true (by first | (with_reducible assumption) | assumption)
                    have q133 : x15_4 < (x120000_4.length : Int) := of_decide_eq_true (by first | (with_reducible assumption) | assumption)
                    obtain ⟨ad133, e133, hx133_0⟩ := Kd.at_int (Kd.R_reads' HO_120000.out).2.2 x15_4 p133 q133
                    cases e133
                    replace p133 := eq_true p133; replace q133 := eq_true q133
                    have p67 : 0 ≤ (x15_4 : Int) := of_decide_eq_true (by first | (with_reducible assumption) | assumption)
                    have q67 : (x15_4 : Int) < ((x120000_4.length : Int) : Int) := of_decide_eq_true (by first | (with_reducible assumption) | assumption)
                    obtain ⟨go67, co67, eo67, gb67, gl67, cl67, HG67⟩ := Kd.R_form HO_120000.out (by omega)
                    (first | cases eo67 | (injection eo67 with ea_ en_ ec_; (first | subst ea_ | (injection ea_ with ea_; subst ea_)); subst ec_; clear en_))
                    have GB67 := Aside0.mk gb67; have GG67 := Aside0.mk HG67; clear gb67 gl67 HG67
                    (first | simp only [add_plain] at hx133_0 | skip)
                    obtain ⟨hx67_0, hf67_0⟩ := Kd.R_celln 0 HO_120000.out (x15_4 : Int) p67 q67
                    replace p67 := eq_true p67; replace q67 := eq_true q67
                    have HP85 := Kd.R_putn HO_120000.out (x15_4 : Int) (wrap64 ((rd x120000_4 x15_4) - (wrap64 ((rd x14_4 x15_4) - (wrap64 (Int.tdiv (rd x14_4 x15_4) 2))))))
                    rw [← Ny134.out] at HP85
                    have HQ85 := Aside0.mk HP85; clear HP85
                    refine start_ (n := 12) (S := fun w' => w'.cell? ⟨gb119, 0, none⟩ = some (.slice (some ⟨go67, 0, none⟩) x120000_4.length co84) ∧ w'.cell? ⟨gb119, 1, none⟩ = some (.int .i64 x120001_4) ∧ w'.cell? ⟨gb119, 2, none⟩ = some (.int .i64 (wrap64 (a1_2 + t117))) ∧ w'.cell? ⟨go67, (x15_4).toNat, none⟩ = some (.int .i64 (rd x120000_4 x15_4))) (ds := [11]) #[false, false, false, false, false, false, false, false, false, false, false, false] (by kernel_rfl) rfl rfl ⟨(blk_cell BK119.out 0).trans rfl, (blk_cell BK119.out 1).trans rfl, (blk_cell BK119.out 2).trans rfl, hx133_0⟩ (fun hHeld => ?_); refine with_tabW spec_FlowStep.tab17 spec_FlowStep.bits17 (fun HT_ HW_ => ?_)
                    generalize w81.drew = w83 at HO_14 HO_120000 BK110 BK111 BK119 HB GG67 HQ85 hf67_0 hx133_0 hx67_0 hHeld ⊢
                    refine pT_ 0 (some 130) #[true, false, false, false, false, false, false, false, false, false, false, false] HT_ ?_
                    refine pT_ 2 (some 132) #[true, false, true, false, false, false, false, false, false, false, false, false] HT_ ?_
                    refine pT_ 3 (some 133) #[true, false, true, true, false, false, false, false, false, false, false, false] HT_ ?_
                    refine pT_ 5 (some 135) #[true, false, true, true, false, true, false, false, false, false, false, false] HT_ ?_
                    refine pT_ 8 (some 138) #[true, false, true, true, false, true, false, false, true, false, false, false] HT_ ?_
                    refine tT_ 1 (some 131) #[true, true, true, true, false, true, false, false, true, false, false, false] HT_ HW_ hHeld ?_ (hy := by rintro w' ⟨s0, s1, s2, s3⟩; go_simp; with_reducible rfl)
                    refine tT_ 4 (some 134) #[true, true, true, true, true, true, false, false, true, false, false, false] HT_ HW_ hHeld ?_ (hy := by rintro w' ⟨s0, s1, s2, s3⟩; go_simp; with_reducible rfl)
                    refine pT_ 6 (some 136) #[true, true, true, true, true, true, true, false, true, false, false, false] HT_ ?_
                    refine tT_ 7 (some 137) #[true, true, true, true, true, true, true, true, true, false, false, false] HT_ HW_ hHeld ?_ (hy := by rintro w' ⟨s0, s1, s2, s3⟩; go_simp; with_reducible rfl)
                    refine pT_ 9 (some 139) #[true, true, true, true, true, true, true, true, true, true, false, false] HT_ ?_
                    refine pT_ 10 (some 140) #[true, true, true, true, true, true, true, true, true, true, true, false] HT_ ?_
                    refine last_ (i := 11) (N := none) #[true, true, true, true, true, true, true, true, true, true, true, true] rfl rfl (one_of HT_.out (by kernel_rfl)) (by decide) (fun K hK => ?_)
                    refine skip_ (w1 := ?_) (by rfl) rfl ?_ ?_
                    rotate_left
                    ·go_simp
                     rfl
                    refine hK.out _ _ ?_
                    clear hK K
                    refine done_ (done_of HT_.out (by kernel_rfl)) ?_
                    have p135 : 0 ≤ (x15_4 : Int) := of_decide_eq_true (by first | (with_reducible assumption) | assumption)
                    have q135 : x15_4 < (l0.length : Int) := of_decide_eq_true (by first | (with_reducible assumption) | assumption)
                    obtain ⟨ad135, e135, hx135_0⟩ := Kd.at_int HR0.out x15_4 p135 q135
                    cases e135
                    have hn135_0 : ad135.block ≠ go67 := Nat.ne_of_lt (Nat.lt_of_lt_of_le (by have := World.block_lt_of_cell? _ _ hx135_0; first | rwa [add_block] at this | exact this) GB67.out)
                    replace hx135_0 := (HB.out.cell (World.block_lt_of_cell? w _ hx135_0)).trans hx135_0
                    replace hx135_0 := (cell_far (p := ⟨go67, (x15_4 : Int).toNat, none⟩) (by first | (rw [add_block]; exact hn135_0) | (show (Addr.add _ _).block ≠ _; rw [add_block]; exact hn135_0) | exact hn135_0) (.int .i64 (wrap64 ((rd x120000_4 x15_4) - (wrap64 ((rd x14_4 x15_4) - (wrap64 (Int.tdiv (rd x14_4 x15_4) 2)))))))).trans hx135_0
                    clear hn135_0; replace p135 := eq_true p135; replace q135 := eq_true q135
                    try go_wp2
                    have n0_ : Aside0 (Kd.R (Kd.int .i64) 2 (w83.setCell ⟨go67, (x15_4 : Int).toNat, none⟩ (.int .i64 (wrap64 ((rd x120000_4 x15_4) - (wrap64 ((rd x14_4 x15_4) - (wrap64 (Int.tdiv (rd x14_4 x15_4) 2)))))))) w.heap.size (fun k_ => some k_ ≠ (.slice (some ⟨go67, 0, none⟩) x120000_4.length co84 : Value).ownBlock) (.slice (some ad131) x14_4.length co82) x14_4) := ⟨by (with_reducible repeat (first | apply Kd.R_alloc | apply Kd.R_drewN | apply Kd.R_drew)); exact Kd.R_mono (Kd.R_far (p := ⟨go67, (x15_4 : Int).toNat, none⟩) (Kd.R_mono HO_14.out (fun k_ hk => (⟨hk, fun e_ => hk (by rw [e_]; rfl)⟩ : _ ∧ k_ ≠ go67))) (fun _ hk => hk.2) (.int .i64 (wrap64 ((rd x120000_4 x15_4) - (wrap64 ((rd x14_4 x15_4) - (wrap64 (Int.tdiv (rd x14_4 x15_4) 2)))))))) (fun _ hk => hk.1)⟩
                    have n1_ : Aside0 (Kd.R (Kd.int .i64) 2 (w83.setCell ⟨go67, (x15_4 : Int).toNat, none⟩ (.int .i64 (wrap64 ((rd x120000_4 x15_4) - (wrap64 ((rd x14_4 x15_4) - (wrap64 (Int.tdiv (rd x14_4 x15_4) 2)))))))) w.heap.size (fun k_ => some k_ ≠ (.slice (some ad131) x14_4.length co82 : Value).ownBlock) (.slice (some ⟨go67, 0, none⟩) x120000_4.length co84) y134) := ⟨by (with_reducible repeat (first | apply Kd.R_alloc | apply Kd.R_drewN | apply Kd.R_drew)); exact HQ85.out⟩
                    have n2_ : Aside0 ((w83.setCell ⟨go67, (x15_4 : Int).toNat, none⟩ (.int .i64 (wrap64 ((rd x120000_4 x15_4) - (wrap64 ((rd x14_4 x15_4) - (wrap64 (Int.tdiv (rd x14_4 x15_4) 2)))))))).heap[gb110]? = some (.cells #[.slice A1_0 l1_0.length c1_0, .int .i64 a1_1, .int .i64 a1_2] 26 (0, 0))) := ⟨by (with_reducible repeat (first | refine blk_drewN ?_ _ | refine blk_drew ?_ | refine blk_alloc ?_ _)); refine blk_far ?_ (by have h_ := Kd.R_ne HO_120000.out BK110.out (by decide); intro e_; exact h_ (by rw [e_]; rfl)) _; exact bT_ BK110⟩
                    have n3_ : Aside0 ((w83.setCell ⟨go67, (x15_4 : Int).toNat, none⟩ (.int .i64 (wrap64 ((rd x120000_4 x15_4) - (wrap64 ((rd x14_4 x15_4) - (wrap64 (Int.tdiv (rd x14_4 x15_4) 2)))))))).heap[gb111]? = some (.cells #[.slice none 0 0, .int .i64 0, .int .i64 0] 26 (0, 0))) := ⟨by (with_reducible repeat (first | refine blk_drewN ?_ _ | refine blk_drew ?_ | refine blk_alloc ?_ _)); refine blk_far ?_ (by have h_ := Kd.R_ne HO_120000.out BK111.out (by decide); intro e_; exact h_ (by rw [e_]; rfl)) _; exact bT_ BK111⟩
                    have n4_ : Aside0 ((w83.setCell ⟨go67, (x15_4 : Int).toNat, none⟩ (.int .i64 (wrap64 ((rd x120000_4 x15_4) - (wrap64 ((rd x14_4 x15_4) - (wrap64 (Int.tdiv (rd x14_4 x15_4) 2)))))))).heap[gb119]? = some (.cells #[.slice (some ⟨go67, 0, none⟩) x120000_4.length co84, .int .i64 x120001_4, .int .i64 (wrap64 (a1_2 + t117))] 26 (0, 0))) := ⟨by (with_reducible repeat (first | refine blk_drewN ?_ _ | refine blk_drew ?_ | refine blk_alloc ?_ _)); refine blk_far ?_ (by have h_ := Kd.R_ne HO_120000.out BK119.out (by decide); intro e_; exact h_ (by rw [e_]; rfl)) _; exact bT_ BK119⟩
                    have n5_ : Aside0 (Below w.heap.size w (w83.setCell ⟨go67, (x15_4 : Int).toNat, none⟩ (.int .i64 (wrap64 ((rd x120000_4 x15_4) - (wrap64 ((rd x14_4 x15_4) - (wrap64 (Int.tdiv (rd x14_4 x15_4) 2))))))))) := ⟨by repeat (first | (with_reducible first | exact HB.out | apply below_alloc | apply pw_below_drewN | apply below_drew1 | refine below_set ?_ GB67.out | refine below_set ?_ GE110.out | refine below_set ?_ GE111.out | refine below_set ?_ GE119.out) | exact HB.out)⟩
                    (try clear HO_14); (try clear HO_120000); (try clear BK110); (try clear BK111); (try clear BK119); (try clear HB)
                    generalize (w83.setCell ⟨go67, (x15_4 : Int).toNat, none⟩ (.int .i64 (wrap64 ((rd x120000_4 x15_4) - (wrap64 ((rd x14_4 x15_4) - (wrap64 (Int.tdiv (rd x14_4 x15_4) 2)))))))) = w86 at n0_ n1_ n2_ n3_ n4_ n5_ ⊢
                    have HO_14 := n0_; have HO_120000 := n1_; have BK110 := n2_; have BK111 := n3_; have BK119 := n4_; have HB := n5_; clear n0_ n1_ n2_ n3_ n4_ n5_
                    replace HO_14 := Aside0.mk (Kd.R_drew HO_14.out)
                    replace HO_120000 := Aside0.mk (Kd.R_drew HO_120000.out)
                    replace BK110 := Aside0.mk (blk_drew BK110.out)
                    replace BK111 := Aside0.mk (blk_drew BK111.out)
                    replace BK119 := Aside0.mk (blk_drew BK119.out)
                    replace HB := Aside0.mk (below_drew1 HB.out)
                    have p136 : 0 ≤ (x15_4 : Int) := of_decide_eq_true (by first | (with_reducible assumption) | assumption)
                    have q136 : x15_4 < (l0.length : Int) := of_decide_eq_true (by first | (with_reducible assumption) | assumption)
                    obtain ⟨ad136, e136, hx136_0⟩ := Kd.at_int HR0.out x15_4 p136 q136
                    have hw136_0 := hx136_0
                    obtain rfl : ad135 = ad136 := (by injection e136)
                    replace hx136_0 := (HB.out.cell (World.block_lt_of_cell? w _ hx136_0)).trans hx136_0
                    replace p136 := eq_true p136; replace q136 := eq_true q136
                    have p137 : 0 ≤ (x15_4 : Int) := of_decide_eq_true (by first | (with_reducible assumption) | assumption)
                    have q137 : x15_4 < (l0.length : Int) := of_decide_eq_true (by first | (with_reducible assumption) | assumption)
                    obtain ⟨ad137, e137, hx137_0⟩ := Kd.at_int HR0.out x15_4 p137 q137
                    have hw137_0 := hx137_0
                    obtain rfl : ad135 = ad137 := (by injection e137)
                    replace hx137_0 := (HB.out.cell (World.block_lt_of_cell? w _ hx137_0)).trans hx137_0
                    replace p137 := eq_true p137; replace q137 := eq_true q137
                    have p138 : 0 ≤ ((rd l0 x15_4) : Int) := of_decide_eq_true (by first | (with_reducible assumption) | assumption)
                    have q138 : (rd l0 x15_4) < (y134.length : Int) := (by have h_ : ((rd l0 x15_4) : Int) < ((x120000_4.length : Int) : Int) := of_decide_eq_true (by first | (with_reducible assumption) | assumption); first | (have e_ := (Kd.R_reads' HO_120000.out).1; omega) | simpa only [Ny134.out, List.length_set] using h_)
                    have ql138 : (((rd l0 x15_4) : Int) < ((x120000_4.length : Int) : Int)) = True := eq_true (of_decide_eq_true (by first | (with_reducible assumption) | assumption))
                    obtain ⟨ad138, e138, hx138_0⟩ := Kd.at_int (Kd.R_reads' HO_120000.out).2.2 (rd l0 x15_4) p138 q138
                    obtain rfl : (⟨go67, 0, none⟩ : Addr) = ad138 := (by injection e138)
                    (first | simp only [add_plain] at hx138_0 | simp only [add_at] at hx138_0 | simp only [Addr.add, Nat.zero_add] at hx138_0 | skip)
                    replace p138 := eq_true p138; replace q138 := eq_true q138
                    have p80 : 0 ≤ ((rd l0 x15_4) : Int) := of_decide_eq_true (by first | (with_reducible assumption) | assumption)
                    have q80 : ((rd l0 x15_4) : Int) < ((x120000_4.length : Int) : Int) := of_decide_eq_true (by first | (with_reducible assumption) | assumption)
                    obtain ⟨hx80_0, hf80_0⟩ := Kd.R_celln 0 HO_120000.out ((rd l0 x15_4) : Int) p80 q80
                    replace p80 := eq_true p80; replace q80 := eq_true q80
                    have HP88 := Kd.R_putn HO_120000.out ((rd l0 x15_4) : Int) (wrap64 ((rd y134 (rd l0 x15_4)) + (wrap64 ((rd x14_4 x15_4) - (wrap64 (Int.tdiv (rd x14_4 x15_4) 2))))))
                    rw [← Ny139.out] at HP88
                    have HQ88 := Aside0.mk HP88; clear HP88
                    refine start_ (n := 18) (S := fun w' => w'.cell? ⟨gb119, 0, none⟩ = some (.slice (some ⟨go67, 0, none⟩) x120000_4.length co84) ∧ w'.cell? ⟨gb119, 1, none⟩ = some (.int .i64 x120001_4) ∧ w'.cell? ⟨gb119, 2, none⟩ = some (.int .i64 (wrap64 (a1_2 + t117))) ∧ w'.cell? (ad135.add (x15_4).toNat) = some (.int .i64 (rd l0 x15_4)) ∧ w'.cell? (ad135.add (x15_4).toNat) = some (.int .i64 (rd l0 x15_4)) ∧ w'.cell? ⟨go67, ((rd l0 x15_4)).toNat, none⟩ = some (.int .i64 (rd y134 (rd l0 x15_4)))) (ds := [17]) #[false, false, false, false, false, false, false, false, false, false, false, false, false, false, false, false, false, false] (by kernel_rfl) rfl rfl ⟨(blk_cell BK119.out 0).trans rfl, (blk_cell BK119.out 1).trans rfl, (blk_cell BK119.out 2).trans rfl, ((HB.out.cell (World.block_lt_of_cell? w _ hw136_0)).trans hw136_0), ((HB.out.cell (World.block_lt_of_cell? w _ hw137_0)).trans hw137_0), hx138_0⟩ (fun hHeld => ?_); refine with_tabW spec_FlowStep.tab20 spec_FlowStep.bits20 (fun HT_ HW_ => ?_)
                    generalize w86.drew = w87 at HO_14 HO_120000 BK110 BK111 BK119 HB HQ85 HQ88 hf80_0 hx136_0 hx137_0 hx138_0 hx80_0 hHeld ⊢
                    refine pT_ 0 (some 151) #[true, false, false, false, false, false, false, false, false, false, false, false, false, false, false, false, false, false] HT_ ?_
                    refine pT_ 2 (some 153) #[true, false, true, false, false, false, false, false, false, false, false, false, false, false, false, false, false, false] HT_ ?_
                    refine pT_ 3 (some 154) #[true, false, true, true, false, false, false, false, false, false, false, false, false, false, false, false, false, false] HT_ ?_
                    refine pT_ 4 (some 155) #[true, false, true, true, true, false, false, false, false, false, false, false, false, false, false, false, false, false] HT_ ?_
                    refine pT_ 6 (some 157) #[true, false, true, true, true, false, true, false, false, false, false, false, false, false, false, false, false, false] HT_ ?_
                    refine pT_ 8 (some 159) #[true, false, true, true, true, false, true, false, true, false, false, false, false, false, false, false, false, false] HT_ ?_
                    refine pT_ 9 (some 160) #[true, false, true, true, true, false, true, false, true, true, false, false, false, false, false, false, false, false] HT_ ?_
                    refine pT_ 10 (some 161) #[true, false, true, true, true, false, true, false, true, true, true, false, false, false, false, false, false, false] HT_ ?_
                    refine pT_ 14 (some 165) #[true, false, true, true, true, false, true, false, true, true, true, false, false, false, true, false, false, false] HT_ ?_
                    refine tT_ 1 (some 152) #[true, true, true, true, true, false, true, false, true, true, true, false, false, false, true, false, false, false] HT_ HW_ hHeld ?_ (hy := by rintro w' ⟨s0, s1, s2, s3, s4, s5⟩; go_simp; with_reducible rfl)
                    refine tT_ 5 (some 156) #[true, true, true, true, true, true, true, false, true, true, true, false, false, false, true, false, false, false] HT_ HW_ hHeld ?_ (hy := by rintro w' ⟨s0, s1, s2, s3, s4, s5⟩; go_simp; with_reducible rfl)
                    refine tT_ 7 (some 158) #[true, true, true, true, true, true, true, true, true, true, true, false, false, false, true, false, false, false] HT_ HW_ hHeld ?_ (hy := by rintro w' ⟨s0, s1, s2, s3, s4, s5⟩; go_simp; with_reducible rfl)
                    refine tT_ 11 (some 162) #[true, true, true, true, true, true, true, true, true, true, true, true, false, false, true, false, false, false] HT_ HW_ hHeld ?_ (hy := by rintro w' ⟨s0, s1, s2, s3, s4, s5⟩; go_simp; with_reducible rfl)
                    refine pT_ 12 (some 163) #[true, true, true, true, true, true, true, true, true, true, true, true, true, false, true, false, false, false] HT_ ?_
                    refine tT_ 13 (some 164) #[true, true, true, true, true, true, true, true, true, true, true, true, true, true, true, false, false, false] HT_ HW_ hHeld ?_ (hy := by rintro w' ⟨s0, s1, s2, s3, s4, s5⟩; go_simp; with_reducible rfl)
                    refine pT_ 15 (some 166) #[true, true, true, true, true, true, true, true, true, true, true, true, true, true, true, true, false, false] HT_ ?_
                    refine pT_ 16 (some 167) #[true, true, true, true, true, true, true, true, true, true, true, true, true, true, true, true, true, false] HT_ ?_
                    refine last_ (i := 17) (N := none) #[true, true, true, true, true, true, true, true, true, true, true, true, true, true, true, true, true, true] rfl rfl (one_of HT_.out (by kernel_rfl)) (by decide) (fun K hK => ?_)
                    refine skip_ (w1 := ?_) (by rfl) rfl ?_ ?_
                    rotate_left
                    ·go_simp
                     rfl
                    refine hK.out _ _ ?_
                    clear hK K
                    refine done_ (done_of HT_.out (by kernel_rfl)) ?_
                    try go_wp2
                    go_roundg k4
                    case measure => have := HJ3.out; have := HJ26.out; have := HK3.out; have := HK4.out; omega
                    case rel => exact ⟨(x14_4), (wrap64 (x15_4 + 1)), (y139), (x120001_4), (.slice (some ⟨go67, 0, none⟩) x120000_4.length co84), (by first | rfl | (simp; done) | (simp [*]; done)), H', ⟨by have := HJ3.out; have := HJ26.out; have := HK3.out; have := HK4.out; omega⟩, ⟨by (with_reducible repeat (first | apply Kd.R_alloc | apply Kd.R_drewN | apply Kd.R_drew)); exact Kd.R_mono (Kd.R_far (p := ⟨go67, ((rd l0 x15_4) : Int).toNat, none⟩) (Kd.R_mono HO_14.out (fun k_ hk => (⟨hk, fun e_ => hk (by rw [e_]; rfl)⟩ : _ ∧ k_ ≠ go67))) (fun _ hk => hk.2) (.int .i64 (wrap64 ((rd y134 (rd l0 x15_4)) + (wrap64 ((rd x14_4 x15_4) - (wrap64 (Int.tdiv (rd x14_4 x15_4) 2)))))))) (fun _ hk => hk.1)⟩, ⟨by (with_reducible repeat (first | apply Kd.R_alloc | apply Kd.R_drewN | apply Kd.R_drew)); exact HQ88.out⟩, ⟨by (with_reducible repeat (first | refine blk_drewN ?_ _ | refine blk_drew ?_ | refine blk_alloc ?_ _)); refine blk_far ?_ (by have h_ := Kd.R_ne HO_120000.out BK110.out (by decide); intro e_; exact h_ (by rw [e_]; rfl)) _; exact bT_ BK110⟩, ⟨by (with_reducible repeat (first | refine blk_drewN ?_ _ | refine blk_drew ?_ | refine blk_alloc ?_ _)); refine blk_far ?_ (by have h_ := Kd.R_ne HO_120000.out BK111.out (by decide); intro e_; exact h_ (by rw [e_]; rfl)) _; exact bT_ BK111⟩, ⟨by (with_reducible repeat (first | refine blk_drewN ?_ _ | refine blk_drew ?_ | refine blk_alloc ?_ _)); refine blk_far ?_ (by have h_ := Kd.R_ne HO_120000.out BK119.out (by decide); intro e_; exact h_ (by rw [e_]; rfl)) _; exact bT_ BK119⟩, ⟨by repeat (first | (with_reducible first | exact HB.out | apply below_alloc | apply pw_below_drewN | apply below_drew1 | refine below_set ?_ GB67.out | refine below_set ?_ GE110.out | refine below_set ?_ GE111.out | refine below_set ?_ GE119.out) | exact HB.out)⟩⟩
                   ·rw [if_neg c79] at H
                    exact absurd H (by simp)
                  ·rw [if_neg c78] at H
                   exact absurd H (by simp)
                ·rw [if_neg c66] at H
                 exact absurd H (by simp)
               ·rw [if_neg c65] at H
                exact absurd H (by simp)
              ·rw [if_neg c64] at H
               exact absurd H (by simp)
             ·rw [if_neg c63] at H
              have c63b0 : decide (x15_4 < (l0.length : Int)) = false := decide_eq_false c63
              clear c63
              simp only [Option.some.injEq, Prod.mk.injEq] at H
              obtain ⟨rfl, rfl, rfl, rfl⟩ := H
              have hnb89 := NB119_110.out; have hnc89 := NB110_119.out; have hnb90 := NB119_111.out; have hnc90 := NB111_119.out
              have hcz91_0 : wr.cell? ⟨gb119, 0, none⟩ = some (u120000) := (blk_cell BK119.out 0).trans rfl
              have hcz91_1 : wr.cell? ⟨gb119, 1, none⟩ = some (.int .i64 x120001_4) := (blk_cell BK119.out 1).trans rfl
              have hcz91_2 : wr.cell? ⟨gb119, 2, none⟩ = some (.int .i64 (wrap64 (a1_2 + t117))) := (blk_cell BK119.out 2).trans rfl
              have hfz91_0 := blk_frozen BK119.out 0; have hfz91_1 := blk_frozen BK119.out 1; have hfz91_2 := blk_frozen BK119.out 2
              obtain ⟨Ao92, co92, eo92⟩ := Kd.R_slice HO_120000.out
              subst eo92
              have hnb93 := NB111_110.out; have hnc93 := NB110_111.out
              have hcz94_0 : wr.cell? ⟨gb111, 0, none⟩ = some (.slice none 0 0) := (blk_cell BK111.out 0).trans rfl
              have hcz94_1 : wr.cell? ⟨gb111, 1, none⟩ = some (.int .i64 0) := (blk_cell BK111.out 1).trans rfl
              have hcz94_2 : wr.cell? ⟨gb111, 2, none⟩ = some (.int .i64 0) := (blk_cell BK111.out 2).trans rfl
              have hfz94_0 := blk_frozen BK111.out 0; have hfz94_1 := blk_frozen BK111.out 1; have hfz94_2 := blk_frozen BK111.out 2
              go_wp2
              refine bodyPost_ret (results_ct rfl _ _ gb111 26 #[.slice Ao92 x120000_4.length co92, .int .i64 x120001_4, .int .i64 (wrap64 (a1_2 + t117))] (0, 0) _ rfl (by (with_reducible repeat (first | refine blk_drewN ?_ _ | refine blk_drew ?_ | refine blk_alloc ?_ _)); refine blk_put (cs := #[.slice Ao92 x120000_4.length co92, .int .i64 x120001_4, .int .i64 0]) ?_ 2 _ rfl; (with_reducible repeat (first | refine blk_drewN ?_ _ | refine blk_drew ?_ | refine blk_alloc ?_ _)); refine blk_put (cs := #[.slice Ao92 x120000_4.length co92, .int .i64 0, .int .i64 0]) ?_ 1 _ rfl; (with_reducible repeat (first | refine blk_drewN ?_ _ | refine blk_drew ?_ | refine blk_alloc ?_ _)); refine blk_put (cs := #[.slice none 0 0, .int .i64 0, .int .i64 0]) ?_ 0 _ rfl; exact bT_ BK111) Try.underlying26 rfl (by kernel_rfl)) rfl ?_
              exact ⟨_, by first | rfl | (simp [errW_none, errW_some] <;> rfl) | (simp [*, errW_none, errW_some] <;> rfl), by (with_reducible repeat (first | apply Kd.R_alloc | apply Kd.R_drewN | apply Kd.R_drew)); exact Kd.R_mono (Kd.R_far (p := ⟨gb111, 2, none⟩) (Kd.R_far (p := ⟨gb111, 1, none⟩) (Kd.R_far (p := ⟨gb111, 0, none⟩) (Kd.R_types HO_120000.out BK111.out (by decide)) (fun _ hk => hk.2) (.slice Ao92 x120000_4.length co92)) (fun _ hk => hk.2) (.int .i64 x120001_4)) (fun _ hk => hk.2) (.int .i64 (wrap64 (a1_2 + t117)))) (fun _ hk => trivial), by repeat (first | (with_reducible first | exact HB.out | apply below_alloc | apply pw_below_drewN | apply below_drew1 | refine below_set ?_ GE110.out | refine below_set ?_ GE111.out | refine below_set ?_ GE119.out) | exact HB.out)⟩
          ·rw [if_neg c55] at H
           exact absurd H (by simp)

end Go.Proofs.Ytopfdmodbhopiaa.QFnWaterBook
