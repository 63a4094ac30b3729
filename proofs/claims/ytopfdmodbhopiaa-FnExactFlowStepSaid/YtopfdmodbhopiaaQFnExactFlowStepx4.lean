-- Written by a program of this session out of the printer's texts and contracts of its own.
import Derived.Test.YtopfdmodbhopiaaQFnExactFlowStepx0
import Derived.Test.YtopfdmodbhopiaaQFnExactFlowStepx3
namespace Go.Proofs.Ytopfdmodbhopiaa.QFnExactFlowStep
open Go.RowKit Go.Proofs.YtopfdmodbhopiaaW.PrintWords Go.Proofs.YtopfdmodbhopiaaW.PrintLast Go.Proofs.YtopfdmodbhopiaaW.PrintMore
attribute [local go_sem] max2_int min2_int max_two min_two max_three min_three max_four min_four   -- for this text's walks alone
set_option linter.unusedVariables false
set_option linter.unusedSimpArgs false

/-! ### impl_FlowStep: function 13 -/
mutual
def impl_FlowStep.j0 : Nat → List Int → List Int → Bool → List Int → Int → Int → Option (List Int × Int × Int × Bool)
  | 0, _, _, _, _, _, _ => none
  | k + 1, x0, x2, x54, x162000, x162001, x162002 => if x54 = true then (some (([] : List Int), 0, 0, false)) else (impl_FlowStep.l0 k x0 x2 x162001 0 x162000 (x162000.length : Int) 0 x162000 x162001 x162002)
def impl_FlowStep.l0 : Nat → List Int → List Int → Int → Int → List Int → Int → Int → List Int → Int → Int → Option (List Int × Int × Int × Bool)
  | 0, _, _, _, _, _, _, _, _, _, _ => none
  | k + 1, x0, x2, x10, x11, x59, x60, x61, x162000, x162001, x162002 => if x61 < x60 then (if 0 ≤ x61 then (if x61 < (x59.length : Int) then ((impl_in.f (rd x59 x61) 0 1000000000000).bind fun t170 => (if t170 = true then (if x61 < (x2.length : Int) then ((impl_in.f (rd x2 x61) 0 1000000000000).bind fun t172 => (if t172 = true then (impl_FlowStep.l0 k x0 x2 (wrap64 (x10 + (rd x59 x61))) (wrap64 (x11 + (rd x2 x61))) x59 x60 (wrap64 (x61 + 1)) x162000 x162001 x162002) else (some (([] : List Int), 0, 0, false)))) else (none)) else (some (([] : List Int), 0, 0, false)))) else (none)) else (none)) else (if x162002 > (wrap64 (1000000000000 - x11)) then (impl_FlowStep.j2 k x0 x2 x11 true x162000 x162001 x162002) else (impl_FlowStep.j2 k x0 x2 x11 (x10 != x162002) x162000 x162001 x162002))
def impl_FlowStep.j2 : Nat → List Int → List Int → Int → Bool → List Int → Int → Int → Option (List Int × Int × Int × Bool)
  | 0, _, _, _, _, _, _, _ => none
  | k + 1, x0, x2, x11, x98, x162000, x162001, x162002 => if x98 = true then (some (([] : List Int), 0, 0, false)) else ((slices_Clone_int64_int64.f x162000).bind fun t174 => (impl_FlowStep.l1 k x0 x2 (x2.length : Int) 0 t174 x162001 (wrap64 (x162002 + x11))))
def impl_FlowStep.l1 : Nat → List Int → List Int → Int → Int → List Int → Int → Int → Option (List Int × Int × Int × Bool)
  | 0, _, _, _, _, _, _, _ => none
  | k + 1, x0, x110, x111, x112, x178000, x178001, x178002 => if x112 < x111 then (if 0 ≤ x112 then (if x112 < (x110.length : Int) then (if x112 < (x178000.length : Int) then (impl_FlowStep.l1 k x0 x110 x111 (wrap64 (x112 + 1)) (x178000.set (x112 : Int).toNat (wrap64 ((rd x178000 x112) + (rd x110 x112)))) x178001 x178002) else (none)) else (none)) else (none)) else ((slices_Clone_int64_int64.f x178000).bind fun t181 => (impl_FlowStep.l2 k x0 t181 (t181.length : Int) 0 x178000 x178001 x178002))
def impl_FlowStep.l2 : Nat → List Int → List Int → Int → Int → List Int → Int → Int → Option (List Int × Int × Int × Bool)
  | 0, _, _, _, _, _, _, _ => none
  | k + 1, x0, x129, x130, x131, x178000, x178001, x178002 => if x131 < x130 then (if 0 ≤ x131 then (if x131 < (x129.length : Int) then (if x131 < (x178000.length : Int) then ((some (x178000.set (x131 : Int).toNat (wrap64 ((rd x178000 x131) - (wrap64 (Int.tdiv (wrap64 ((rd x129 x131) + 1)) 2)))) : List Int)).bind fun y186 => (if x131 < (x0.length : Int) then (if (rd x0 x131) < 0 then (impl_FlowStep.l2 k x0 x129 x130 (wrap64 (x131 + 1)) y186 (wrap64 (x178001 + (wrap64 (Int.tdiv (wrap64 ((rd x129 x131) + 1)) 2)))) x178002) else (if 0 ≤ (rd x0 x131) then (if (rd x0 x131) < (x178000.length : Int) then (impl_FlowStep.l2 k x0 x129 x130 (wrap64 (x131 + 1)) (y186.set ((rd x0 x131) : Int).toNat (wrap64 ((rd y186 (rd x0 x131)) + (wrap64 (Int.tdiv (wrap64 ((rd x129 x131) + 1)) 2))))) x178001 x178002) else (none)) else (none))) else (none))) else (none)) else (none)) else (none)) else (some (x178000, x178001, x178002, true))
end
def impl_FlowStep.f (k : Nat) (l0 : List Int) (l1_0 : List Int) (a1_1 : Int) (a1_2 : Int) (l2 : List Int) : Option (List Int × Int × Int × Bool) := (impl_Catch.f k l0).bind fun bt163 => (if bt163.2 = true then (if (l1_0.length : Int) = (l0.length : Int) then (if (l2.length : Int) = (l0.length : Int) then ((impl_in.f a1_1 0 1000000000000).bind fun t167 => (if t167 = true then ((impl_in.f a1_2 0 1000000000000).bind fun t168 => (impl_FlowStep.j0 k l0 l2 (!t168) l1_0 a1_1 a1_2)) else (impl_FlowStep.j0 k l0 l2 true l1_0 a1_1 a1_2))) else (impl_FlowStep.j0 k l0 l2 true l1_0 a1_1 a1_2)) else (impl_FlowStep.j0 k l0 l2 true l1_0 a1_1 a1_2)) else (impl_FlowStep.j0 k l0 l2 true l1_0 a1_1 a1_2))
theorem impl_FlowStep.mono_l : ∀ k, (∀ y0 y1 y2 y3 y4 y5, LeO (impl_FlowStep.j0 k y0 y1 y2 y3 y4 y5) (impl_FlowStep.j0 (k + 1) y0 y1 y2 y3 y4 y5)) ∧ (∀ y0 y1 y2 y3 y4 y5 y6 y7 y8 y9, LeO (impl_FlowStep.l0 k y0 y1 y2 y3 y4 y5 y6 y7 y8 y9) (impl_FlowStep.l0 (k + 1) y0 y1 y2 y3 y4 y5 y6 y7 y8 y9)) ∧ (∀ y0 y1 y2 y3 y4 y5 y6, LeO (impl_FlowStep.j2 k y0 y1 y2 y3 y4 y5 y6) (impl_FlowStep.j2 (k + 1) y0 y1 y2 y3 y4 y5 y6)) ∧ (∀ y0 y1 y2 y3 y4 y5 y6, LeO (impl_FlowStep.l1 k y0 y1 y2 y3 y4 y5 y6) (impl_FlowStep.l1 (k + 1) y0 y1 y2 y3 y4 y5 y6)) ∧ (∀ y0 y1 y2 y3 y4 y5 y6, LeO (impl_FlowStep.l2 k y0 y1 y2 y3 y4 y5 y6) (impl_FlowStep.l2 (k + 1) y0 y1 y2 y3 y4 y5 y6))
  | 0 => ⟨fun _ _ _ _ _ _ r h => by simp [impl_FlowStep.j0] at h, fun _ _ _ _ _ _ _ _ _ _ r h => by simp [impl_FlowStep.l0] at h, fun _ _ _ _ _ _ _ r h => by simp [impl_FlowStep.j2] at h, fun _ _ _ _ _ _ _ r h => by simp [impl_FlowStep.l1] at h, fun _ _ _ _ _ _ _ r h => by simp [impl_FlowStep.l2] at h⟩
  | k + 1 => by
    obtain ⟨ih0, ih1, ih2, ih3, ih4⟩ := impl_FlowStep.mono_l k
    refine ⟨?_, ?_, ?_, ?_, ?_⟩
    · intro y0 y1 y2 y3 y4 y5
      unfold impl_FlowStep.j0
      repeat' first
      | (with_reducible exact ih0 _ _ _ _ _ _)
      | (with_reducible exact ih1 _ _ _ _ _ _ _ _ _ _)
      | (with_reducible exact ih2 _ _ _ _ _ _ _)
      | (with_reducible exact ih3 _ _ _ _ _ _ _)
      | (with_reducible exact ih4 _ _ _ _ _ _ _)
      | (with_reducible exact impl_Catch.mono _ _)
      | (with_reducible exact LeO.refl _)
      | (with_reducible exact LeO.none _)
      | (with_reducible refine LeO.ite ?_ ?_)
      | (with_reducible refine LeO.bind ?_ (fun _ => ?_))
      | exact ih0 _ _ _ _ _ _
      | exact ih1 _ _ _ _ _ _ _ _ _ _
      | exact ih2 _ _ _ _ _ _ _
      | exact ih3 _ _ _ _ _ _ _
      | exact ih4 _ _ _ _ _ _ _
      | exact impl_Catch.mono _ _
      | exact LeO.none _
      | refine LeO.ite ?_ ?_
      | refine LeO.bind ?_ (fun _ => ?_)
    · intro y0 y1 y2 y3 y4 y5 y6 y7 y8 y9
      unfold impl_FlowStep.l0
      repeat' first
      | (with_reducible exact ih0 _ _ _ _ _ _)
      | (with_reducible exact ih1 _ _ _ _ _ _ _ _ _ _)
      | (with_reducible exact ih2 _ _ _ _ _ _ _)
      | (with_reducible exact ih3 _ _ _ _ _ _ _)
      | (with_reducible exact ih4 _ _ _ _ _ _ _)
      | (with_reducible exact impl_Catch.mono _ _)
      | (with_reducible exact LeO.refl _)
      | (with_reducible exact LeO.none _)
      | (with_reducible refine LeO.ite ?_ ?_)
      | (with_reducible refine LeO.bind ?_ (fun _ => ?_))
      | exact ih0 _ _ _ _ _ _
      | exact ih1 _ _ _ _ _ _ _ _ _ _
      | exact ih2 _ _ _ _ _ _ _
      | exact ih3 _ _ _ _ _ _ _
      | exact ih4 _ _ _ _ _ _ _
      | exact impl_Catch.mono _ _
      | exact LeO.none _
      | refine LeO.ite ?_ ?_
      | refine LeO.bind ?_ (fun _ => ?_)
    · intro y0 y1 y2 y3 y4 y5 y6
      unfold impl_FlowStep.j2
      repeat' first
      | (with_reducible exact ih0 _ _ _ _ _ _)
      | (with_reducible exact ih1 _ _ _ _ _ _ _ _ _ _)
      | (with_reducible exact ih2 _ _ _ _ _ _ _)
      | (with_reducible exact ih3 _ _ _ _ _ _ _)
      | (with_reducible exact ih4 _ _ _ _ _ _ _)
      | (with_reducible exact impl_Catch.mono _ _)
      | (with_reducible exact LeO.refl _)
      | (with_reducible exact LeO.none _)
      | (with_reducible refine LeO.ite ?_ ?_)
      | (with_reducible refine LeO.bind ?_ (fun _ => ?_))
      | exact ih0 _ _ _ _ _ _
      | exact ih1 _ _ _ _ _ _ _ _ _ _
      | exact ih2 _ _ _ _ _ _ _
      | exact ih3 _ _ _ _ _ _ _
      | exact ih4 _ _ _ _ _ _ _
      | exact impl_Catch.mono _ _
      | exact LeO.none _
      | refine LeO.ite ?_ ?_
      | refine LeO.bind ?_ (fun _ => ?_)
    · intro y0 y1 y2 y3 y4 y5 y6
      unfold impl_FlowStep.l1
      repeat' first
      | (with_reducible exact ih0 _ _ _ _ _ _)
      | (with_reducible exact ih1 _ _ _ _ _ _ _ _ _ _)
      | (with_reducible exact ih2 _ _ _ _ _ _ _)
      | (with_reducible exact ih3 _ _ _ _ _ _ _)
      | (with_reducible exact ih4 _ _ _ _ _ _ _)
      | (with_reducible exact impl_Catch.mono _ _)
      | (with_reducible exact LeO.refl _)
      | (with_reducible exact LeO.none _)
      | (with_reducible refine LeO.ite ?_ ?_)
      | (with_reducible refine LeO.bind ?_ (fun _ => ?_))
      | exact ih0 _ _ _ _ _ _
      | exact ih1 _ _ _ _ _ _ _ _ _ _
      | exact ih2 _ _ _ _ _ _ _
      | exact ih3 _ _ _ _ _ _ _
      | exact ih4 _ _ _ _ _ _ _
      | exact impl_Catch.mono _ _
      | exact LeO.none _
      | refine LeO.ite ?_ ?_
      | refine LeO.bind ?_ (fun _ => ?_)
    · intro y0 y1 y2 y3 y4 y5 y6
      unfold impl_FlowStep.l2
      repeat' first
      | (with_reducible exact ih0 _ _ _ _ _ _)
      | (with_reducible exact ih1 _ _ _ _ _ _ _ _ _ _)
      | (with_reducible exact ih2 _ _ _ _ _ _ _)
      | (with_reducible exact ih3 _ _ _ _ _ _ _)
      | (with_reducible exact ih4 _ _ _ _ _ _ _)
      | (with_reducible exact impl_Catch.mono _ _)
      | (with_reducible exact LeO.refl _)
      | (with_reducible exact LeO.none _)
      | (with_reducible refine LeO.ite ?_ ?_)
      | (with_reducible refine LeO.bind ?_ (fun _ => ?_))
      | exact ih0 _ _ _ _ _ _
      | exact ih1 _ _ _ _ _ _ _ _ _ _
      | exact ih2 _ _ _ _ _ _ _
      | exact ih3 _ _ _ _ _ _ _
      | exact ih4 _ _ _ _ _ _ _
      | exact impl_Catch.mono _ _
      | exact LeO.none _
      | refine LeO.ite ?_ ?_
      | refine LeO.bind ?_ (fun _ => ?_)
theorem impl_FlowStep.mono : ∀ a0 a1 a2 a3 a4 k, LeO (impl_FlowStep.f k a0 a1 a2 a3 a4) (impl_FlowStep.f (k + 1) a0 a1 a2 a3 a4) := by
  intro a0 a1 a2 a3 a4 k
  obtain ⟨ih0, ih1, ih2, ih3, ih4⟩ := impl_FlowStep.mono_l k
  unfold impl_FlowStep.f
  repeat' first
      | (with_reducible exact ih0 _ _ _ _ _ _)
      | (with_reducible exact ih1 _ _ _ _ _ _ _ _ _ _)
      | (with_reducible exact ih2 _ _ _ _ _ _ _)
      | (with_reducible exact ih3 _ _ _ _ _ _ _)
      | (with_reducible exact ih4 _ _ _ _ _ _ _)
      | (with_reducible exact impl_Catch.mono _ _)
      | (with_reducible exact LeO.refl _)
      | (with_reducible exact LeO.none _)
      | (with_reducible refine LeO.ite ?_ ?_)
      | (with_reducible refine LeO.bind ?_ (fun _ => ?_))
      | exact ih0 _ _ _ _ _ _
      | exact ih1 _ _ _ _ _ _ _ _ _ _
      | exact ih2 _ _ _ _ _ _ _
      | exact ih3 _ _ _ _ _ _ _
      | exact ih4 _ _ _ _ _ _ _
      | exact impl_Catch.mono _ _
      | exact LeO.none _
      | refine LeO.ite ?_ ?_
      | refine LeO.bind ?_ (fun _ => ?_)
def impl_FlowStep.T15 : Bool × List (List Nat × List Nat) := (true, [([], []), ([0], [0]), ([1], [1]), ([], []), ([3], [3]), ([], []), ([5], [5]), ([], []), ([6, 7], [6, 7]), ([2, 4, 8], [2, 4, 8]), ([], []), ([10, 9, 2, 0, 1, 2, 3, 4, 5, 6, 7, 8, 9, 10], [9, 10])])
def impl_FlowStep.B15 : List Nat := [0, 1, 3, 0, 8, 0, 32, 0, 224, 511, 0, 2047]
theorem impl_FlowStep.tab15 : rtab .any (opsOf Try.f13 15) = impl_FlowStep.T15 := by kernel_rfl
theorem impl_FlowStep.bits15 : waitsOk impl_FlowStep.T15.2 impl_FlowStep.B15 = true := by kernel_rfl
def impl_FlowStep.T29 : Bool × List (List Nat × List Nat) := (true, [([], []), ([0], [0]), ([], []), ([], []), ([2, 3], [2, 3]), ([4], [4]), ([1, 5], [1, 5]), ([6], [6]), ([], []), ([7, 8], [7, 8]), ([1, 5, 0, 1, 2, 3, 4, 5, 6, 7, 8, 9], [1, 5]), ([10, 9, 0, 1, 2, 3, 4, 5, 6, 7, 8, 9], [9, 10])])
def impl_FlowStep.B29 : List Nat := [0, 1, 0, 0, 12, 28, 63, 127, 0, 511, 1023, 2047]
theorem impl_FlowStep.tab29 : rtab .any (opsOf Try.f13 29) = impl_FlowStep.T29 := by kernel_rfl
theorem impl_FlowStep.bits29 : waitsOk impl_FlowStep.T29.2 impl_FlowStep.B29 = true := by kernel_rfl
set_option maxHeartbeats 8000000 in
set_option maxRecDepth 100000 in
theorem impl_FlowStep.calls (k : Nat) (A0 : Option Addr) (c0 : Nat) (l0 : List Int) (A1_0 : Option Addr) (c1_0 : Nat) (l1_0 : List Int) (a1_1 : Int) (a1_2 : Int) (A2 : Option Addr) (c2 : Nat) (l2 : List Int) (r1 : List Int) (r2 : Int) (r3 : Int) (r4 : Bool) (w : World) (hr0 : Kd.C (Kd.int .i64) w A0 l0.length l0) (hc0 : l0.length ≤ c0) (hr1_0 : Kd.C (Kd.int .i64) w A1_0 l1_0.length l1_0) (hc1_0 : l1_0.length ≤ c1_0) (hr2 : Kd.C (Kd.int .i64) w A2 l2.length l2) (hc2 : l2.length ≤ c2) (h : impl_FlowStep.f k l0 l1_0 a1_1 a1_2 l2 = some (r1, r2, r3, r4)) :
    Calls Try.prog 13 #[.slice A0 l0.length c0, .agg #[.slice A1_0 l1_0.length c1_0, .int .i64 a1_1, .int .i64 a1_2], .slice A2 l2.length c2] w fun e w' => ∃ v0_ : Value, e = .returned (.tuple #[.agg #[v0_, .int .i64 r2, .int .i64 r3], .bool r4]) ∧ Kd.R (Kd.int .i64) 2 w' w.heap.size (fun _ => True) v0_ r1 ∧ Below w.heap.size w w' := by
  have hu26 := Try.underlying26
  have HR0 := Aside0.mk hr0
  have HC0 := Aside0.mk hc0
  clear hr0 hc0
  have HR1_0 := Aside0.mk hr1_0
  have HC1_0 := Aside0.mk hc1_0
  clear hr1_0 hc1_0
  have HR2 := Aside0.mk hr2
  have HC2 := Aside0.mk hc2
  clear hr2 hc2
  have HB := Aside0.mk (Below.refl w.heap.size w)
  have H : ((impl_Catch.f k l0).bind fun bt163 => (if bt163.2 = true then (if (l1_0.length : Int) = (l0.length : Int) then (if (l2.length : Int) = (l0.length : Int) then ((impl_in.f a1_1 0 1000000000000).bind fun t167 => (if t167 = true then ((impl_in.f a1_2 0 1000000000000).bind fun t168 => (impl_FlowStep.j0 k l0 l2 (!t168) l1_0 a1_1 a1_2)) else (impl_FlowStep.j0 k l0 l2 true l1_0 a1_1 a1_2))) else (impl_FlowStep.j0 k l0 l2 true l1_0 a1_1 a1_2)) else (impl_FlowStep.j0 k l0 l2 true l1_0 a1_1 a1_2)) else (impl_FlowStep.j0 k l0 l2 true l1_0 a1_1 a1_2))) = some (r1, r2, r3, r4) := h
  clear h
  replace H := Option.bind_eq_some_iff.mp H
  obtain ⟨⟨t163, t164⟩, A40, H⟩ := H
  replace H : (if t164 = true then (if (l1_0.length : Int) = (l0.length : Int) then (if (l2.length : Int) = (l0.length : Int) then ((impl_in.f a1_1 0 1000000000000).bind fun t167 => (if t167 = true then ((impl_in.f a1_2 0 1000000000000).bind fun t168 => (impl_FlowStep.j0 k l0 l2 (!t168) l1_0 a1_1 a1_2)) else (impl_FlowStep.j0 k l0 l2 true l1_0 a1_1 a1_2))) else (impl_FlowStep.j0 k l0 l2 true l1_0 a1_1 a1_2)) else (impl_FlowStep.j0 k l0 l2 true l1_0 a1_1 a1_2)) else (impl_FlowStep.j0 k l0 l2 true l1_0 a1_1 a1_2)) = some (r1, r2, r3, r4) := H
  have A4 := Aside0.mk A40
  clear A40
  have HC5 := Aside0.mk H
  clear H
  go_enter Try.func13, Try.ntmps13
  go_upto_region 2 with (first | ((with_reducible refine gate_dst (N := 4) rfl ?_); (try (refine gate_guard (by rfl) ?_; dsimp only)); refine box_event ?hg (N := 4) ?hd (cs := #[.slice A1_0 l1_0.length c1_0, .int .i64 a1_1, .int .i64 a1_2]) (t := 26) ?hr ?_; (case hd => rfl); (case hg => rfl); (case hr => first | (go_simp; done) | (go_simp; rfl)); intro gb161 hg w6 hbox hb; have n0_ := Aside0.mk (below_step (by repeat (first | (with_reducible first | exact HB.out | apply below_alloc | apply pw_below_drewN | apply below_drew1) | exact HB.out)) hb); have n1_ := Aside0.mk (hbox); have n2_ := Aside0.mk ((by rw [hg]; exact (below_size (by repeat (first | (with_reducible first | exact HB.out | apply below_alloc | apply pw_below_drewN | apply below_drew1) | exact HB.out))) : w.heap.size ≤ gb161)); have n3_ := Aside0.mk ((by rw [hg]; exact (below_size (by repeat (first | (with_reducible first | exact HB.out | apply below_alloc | apply pw_below_drewN | apply below_drew1) | exact HB.out))) : w.heap.size ≤ gb161)); clear HB; have HB := n0_; have BK161 := n1_; have GW161 := n2_; have GE161 := n3_; clear n0_ n1_ n2_ n3_; clear hb hbox hg) | ((with_reducible refine gate_dst (N := 6) rfl ?_); (try (refine gate_guard (by rfl) ?_; dsimp only)); refine box_event ?hg (N := 6) ?hd (cs := #[.slice none 0 0, .int .i64 0, .int .i64 0]) (t := 26) ?hr ?_; (case hd => rfl); (case hg => rfl); (case hr => first | (go_simp; done) | (go_simp; rfl)); intro gb162 hg w7 hbox hb; have n0_ := Aside0.mk (blk_below (g := gb161) (o := .cells #[.slice A1_0 l1_0.length c1_0, .int .i64 a1_1, .int .i64 a1_2] 26 (0, 0)) (by (with_reducible repeat (first | refine blk_drewN ?_ _ | refine blk_drew ?_ | refine blk_alloc ?_ _)); exact BK161.out) hb); have n1_ := Aside0.mk (below_step (by repeat (first | (with_reducible first | exact HB.out | apply below_alloc | apply pw_below_drewN | apply below_drew1 | refine below_set ?_ GE161.out) | exact HB.out)) hb); have n2_ := Aside0.mk (hbox); have n3_ := Aside0.mk ((by rw [hg]; exact (below_size (by repeat (first | (with_reducible first | exact HB.out | apply below_alloc | apply pw_below_drewN | apply below_drew1 | refine below_set ?_ GE161.out) | exact HB.out))) : w.heap.size ≤ gb162)); have n4_ := Aside0.mk ((by rw [hg]; exact (below_size (by repeat (first | (with_reducible first | exact HB.out | apply below_alloc | apply pw_below_drewN | apply below_drew1 | refine below_set ?_ GE161.out) | exact HB.out))) : w.heap.size ≤ gb162)); have n5_ := Aside0.mk ((by rw [hg]; exact Nat.ne_of_lt (blk_lt (g := gb161) (o := .cells #[.slice A1_0 l1_0.length c1_0, .int .i64 a1_1, .int .i64 a1_2] 26 (0, 0)) (by (with_reducible repeat (first | refine blk_drewN ?_ _ | refine blk_drew ?_ | refine blk_alloc ?_ _)); exact BK161.out)) : gb161 ≠ gb162)); have n6_ := Aside0.mk ((by rw [hg]; exact Nat.ne_of_gt (blk_lt (g := gb161) (o := .cells #[.slice A1_0 l1_0.length c1_0, .int .i64 a1_1, .int .i64 a1_2] 26 (0, 0)) (by (with_reducible repeat (first | refine blk_drewN ?_ _ | refine blk_drew ?_ | refine blk_alloc ?_ _)); exact BK161.out)) : gb162 ≠ gb161)); clear BK161; clear HB; have BK161 := n0_; have HB := n1_; have BK162 := n2_; have GW162 := n3_; have GE162 := n4_; have NB161_162 := n5_; have NB162_161 := n6_; clear n0_ n1_ n2_ n3_ n4_ n5_ n6_; clear hb hbox hg) | ((with_reducible refine gate_callee (f := 46) rfl ?_); refine goesL_ (some 23) rfl rfl Try.func46 (by kernel_rfl) rfl #[.slice A0 l0.length c0] rfl (by (try simp only [List.map_toArray, List.map_cons, List.map_nil]); first | done | rfl | (simp only [List.length_drop, List.length_take]; rfl)) ?_; (with_reducible refine (impl_Catch.calls k _ _ l0 t163 t164 _ ?side1 ?side2 A4.out).mono ?_); (case side1 => repeat (first | exact (Kd.C_below HR0.out HB.out) | (with_reducible refine Kd.C_alloc ?_ _) | (with_reducible refine Kd.C_drewN ?_ _) | (with_reducible refine Kd.C_drew ?_))); (case side2 => exact HC0.out); rintro e w8 ⟨v165, rfl, ho0, hb⟩; refine ⟨_, rfl, ?_⟩; have n0_ := Aside0.mk (Kd.R_lower ho0 (below_size (by repeat (first | (with_reducible first | exact HB.out | apply below_alloc | apply pw_below_drewN | apply below_drew1 | refine below_set ?_ GE161.out | refine below_set ?_ GE162.out) | exact HB.out)))); have n1_ := Aside0.mk (blk_below (g := gb161) (o := .cells #[.slice A1_0 l1_0.length c1_0, .int .i64 a1_1, .int .i64 a1_2] 26 (0, 0)) (by (with_reducible repeat (first | refine blk_drewN ?_ _ | refine blk_drew ?_ | refine blk_alloc ?_ _)); exact BK161.out) hb); have n2_ := Aside0.mk (blk_below (g := gb162) (o := .cells #[.slice none 0 0, .int .i64 0, .int .i64 0] 26 (0, 0)) (by (with_reducible repeat (first | refine blk_drewN ?_ _ | refine blk_drew ?_ | refine blk_alloc ?_ _)); exact BK162.out) hb); have n3_ := Aside0.mk (below_step (by repeat (first | (with_reducible first | exact HB.out | apply below_alloc | apply pw_below_drewN | apply below_drew1 | refine below_set ?_ GE161.out | refine below_set ?_ GE162.out) | exact HB.out)) hb); clear BK161; clear BK162; clear HB; have HO166 := n0_; have BK161 := n1_; have BK162 := n2_; have HB := n3_; clear n0_ n1_ n2_ n3_; (try clear hb); (try clear hb2); (try clear hk); (try clear hi); (try clear ho0)))
  (try simp only [Act.put, List.setIfInBounds_toArray, List.set_cons_zero, List.set_cons_succ])
  go_cut [54] (fun v54 wc => ∃ (kq : Nat) (x54_4 : Bool), v54 = .bool x54_4 ∧ Aside0 (impl_FlowStep.j0 kq l0 l2 x54_4 l1_0 a1_1 a1_2 = some (r1, r2, r3, r4)) ∧ Aside0 (kq ≤ k) ∧ Aside0 (wc.heap[gb161]? = some (.cells #[(.slice A1_0 l1_0.length c1_0), .int .i64 a1_1, .int .i64 a1_2] 26 (0, 0))) ∧ Aside0 (wc.heap[gb162]? = some (.cells #[(.slice none 0 0), .int .i64 0, .int .i64 0] 26 (0, 0))) ∧ Aside0 (Below w.heap.size w wc))
  case first =>
    have H := HC5.out
    clear HC5
    by_cases c9 : t164 = true
    · subst c9
      have H1 : (if (l1_0.length : Int) = (l0.length : Int) then (if (l2.length : Int) = (l0.length : Int) then ((impl_in.f a1_1 0 1000000000000).bind fun t167 => (if t167 = true then ((impl_in.f a1_2 0 1000000000000).bind fun t168 => (impl_FlowStep.j0 k l0 l2 (!t168) l1_0 a1_1 a1_2)) else (impl_FlowStep.j0 k l0 l2 true l1_0 a1_1 a1_2))) else (impl_FlowStep.j0 k l0 l2 true l1_0 a1_1 a1_2)) else (impl_FlowStep.j0 k l0 l2 true l1_0 a1_1 a1_2)) = some (r1, r2, r3, r4) := by rw [if_pos rfl] at H; exact H
      clear H
      have H := H1
      clear H1
      by_cases c10 : (l1_0.length : Int) = (l0.length : Int)
      · rw [if_pos c10] at H
        have c10b0 : ((l1_0.length : Int) == (l0.length : Int)) = true := beq_iff_eq.mpr c10
        have c10b1 : ((l1_0.length : Int) != (l0.length : Int)) = false := bne_eq_false_iff_eq.mpr c10
        have c10b2 : (l1_0.length == l0.length) = true := by first | simpa using c10 | (simp at c10 ⊢; omega)
        clear c10
        (first | rw [c10b0] | (simp only [i64_w, i32_w]; rw [c10b0]) | skip)
        by_cases c11 : (l2.length : Int) = (l0.length : Int)
        · rw [if_pos c11] at H
          have c11b0 : ((l2.length : Int) == (l0.length : Int)) = true := beq_iff_eq.mpr c11
          have c11b1 : ((l2.length : Int) != (l0.length : Int)) = false := bne_eq_false_iff_eq.mpr c11
          have c11b2 : (l2.length == l0.length) = true := by first | simpa using c11 | (simp at c11 ⊢; omega)
          clear c11
          replace H := Option.bind_eq_some_iff.mp H
          obtain ⟨t167, A120, H⟩ := H
          replace H : (if t167 = true then ((impl_in.f a1_2 0 1000000000000).bind fun t168 => (impl_FlowStep.j0 k l0 l2 (!t168) l1_0 a1_1 a1_2)) else (impl_FlowStep.j0 k l0 l2 true l1_0 a1_1 a1_2)) = some (r1, r2, r3, r4) := H
          have A12 := Aside0.mk A120
          clear A120
          by_cases c13 : t167 = true
          · subst c13
            have H1 : ((impl_in.f a1_2 0 1000000000000).bind fun t168 => (impl_FlowStep.j0 k l0 l2 (!t168) l1_0 a1_1 a1_2)) = some (r1, r2, r3, r4) := by rw [if_pos rfl] at H; exact H
            clear H
            have H := H1
            clear H1
            replace H := Option.bind_eq_some_iff.mp H
            obtain ⟨t168, A140, H⟩ := H
            replace H : (impl_FlowStep.j0 k l0 l2 (!t168) l1_0 a1_1 a1_2) = some (r1, r2, r3, r4) := H
            have A14 := Aside0.mk A140
            clear A140
            have H' := Aside0.mk H
            clear H
            have hnb15 := NB161_162.out
            have hnc15 := NB162_161.out
            have hcz16_0 : w8.cell? ⟨gb161, 0, none⟩ = some (.slice A1_0 l1_0.length c1_0) := (blk_cell BK161.out 0).trans rfl
            have hcz16_1 : w8.cell? ⟨gb161, 1, none⟩ = some (.int .i64 a1_1) := (blk_cell BK161.out 1).trans rfl
            have hcz16_2 : w8.cell? ⟨gb161, 2, none⟩ = some (.int .i64 a1_2) := (blk_cell BK161.out 2).trans rfl
            have hfz16_0 := blk_frozen BK161.out 0
            have hfz16_1 := blk_frozen BK161.out 1
            have hfz16_2 := blk_frozen BK161.out 2
            go_wp2_with (first | (go_at_call 47; (with_reducible refine (impl_in.calls a1_1 0 1000000000000 true _ A12.out).mono ?_); rintro e w' ⟨rfl, ⟨nd, rfl⟩⟩) | (go_at_call 47; (with_reducible refine (impl_in.calls a1_2 0 1000000000000 t168 _ A14.out).mono ?_); rintro e w' ⟨rfl, ⟨nd, rfl⟩⟩))
            go_meet
            case rel => exact ⟨_, (!t168), (by first | rfl | (simp; done) | (simp [*]; done)), H', ⟨by first | omega | exact Nat.le_refl _⟩, ⟨by (with_reducible repeat (first | refine blk_drewN ?_ _ | refine blk_drew ?_ | refine blk_alloc ?_ _)); exact BK161.out⟩, ⟨by (with_reducible repeat (first | refine blk_drewN ?_ _ | refine blk_drew ?_ | refine blk_alloc ?_ _)); exact BK162.out⟩, ⟨by repeat (first | (with_reducible first | exact HB.out | apply below_alloc | apply pw_below_drewN | apply below_drew1 | refine below_set ?_ GE161.out | refine below_set ?_ GE162.out) | exact HB.out)⟩⟩
          · replace c13 := Bool.eq_false_iff.mpr c13
            subst c13
            have H1 : (impl_FlowStep.j0 k l0 l2 true l1_0 a1_1 a1_2) = some (r1, r2, r3, r4) := by rw [if_neg (show ¬ (false = true) by decide)] at H; exact H
            clear H
            have H := H1
            clear H1
            have H' := Aside0.mk H
            clear H
            have hnb17 := NB161_162.out
            have hnc17 := NB162_161.out
            have hcz18_0 : w8.cell? ⟨gb161, 0, none⟩ = some (.slice A1_0 l1_0.length c1_0) := (blk_cell BK161.out 0).trans rfl
            have hcz18_1 : w8.cell? ⟨gb161, 1, none⟩ = some (.int .i64 a1_1) := (blk_cell BK161.out 1).trans rfl
            have hcz18_2 : w8.cell? ⟨gb161, 2, none⟩ = some (.int .i64 a1_2) := (blk_cell BK161.out 2).trans rfl
            have hfz18_0 := blk_frozen BK161.out 0
            have hfz18_1 := blk_frozen BK161.out 1
            have hfz18_2 := blk_frozen BK161.out 2
            go_wp2_with (first | (go_at_call 47; (with_reducible refine (impl_in.calls a1_1 0 1000000000000 false _ A12.out).mono ?_); rintro e w' ⟨rfl, ⟨nd, rfl⟩⟩))
            go_meet
            case rel => exact ⟨_, (true), (by first | rfl | (simp; done) | (simp [*]; done)), H', ⟨by first | omega | exact Nat.le_refl _⟩, ⟨by (with_reducible repeat (first | refine blk_drewN ?_ _ | refine blk_drew ?_ | refine blk_alloc ?_ _)); exact BK161.out⟩, ⟨by (with_reducible repeat (first | refine blk_drewN ?_ _ | refine blk_drew ?_ | refine blk_alloc ?_ _)); exact BK162.out⟩, ⟨by repeat (first | (with_reducible first | exact HB.out | apply below_alloc | apply pw_below_drewN | apply below_drew1 | refine below_set ?_ GE161.out | refine below_set ?_ GE162.out) | exact HB.out)⟩⟩
        · rw [if_neg c11] at H
          have c11b0 : ((l2.length : Int) == (l0.length : Int)) = false := beq_eq_false_iff_ne.mpr c11
          have c11b1 : ((l2.length : Int) != (l0.length : Int)) = true := bne_iff_ne.mpr c11
          have c11b2 : (l2.length == l0.length) = false := by first | simpa using c11 | (simp at c11 ⊢; omega)
          have H' := Aside0.mk H
          clear H
          have hnb19 := NB161_162.out
          have hnc19 := NB162_161.out
          have hcz20_0 : w8.cell? ⟨gb161, 0, none⟩ = some (.slice A1_0 l1_0.length c1_0) := (blk_cell BK161.out 0).trans rfl
          have hcz20_1 : w8.cell? ⟨gb161, 1, none⟩ = some (.int .i64 a1_1) := (blk_cell BK161.out 1).trans rfl
          have hcz20_2 : w8.cell? ⟨gb161, 2, none⟩ = some (.int .i64 a1_2) := (blk_cell BK161.out 2).trans rfl
          have hfz20_0 := blk_frozen BK161.out 0
          have hfz20_1 := blk_frozen BK161.out 1
          have hfz20_2 := blk_frozen BK161.out 2
          go_wp2
          go_meet
          case rel => exact ⟨_, (true), (by first | rfl | (simp; done) | (simp [*]; done)), H', ⟨by first | omega | exact Nat.le_refl _⟩, ⟨by (with_reducible repeat (first | refine blk_drewN ?_ _ | refine blk_drew ?_ | refine blk_alloc ?_ _)); exact BK161.out⟩, ⟨by (with_reducible repeat (first | refine blk_drewN ?_ _ | refine blk_drew ?_ | refine blk_alloc ?_ _)); exact BK162.out⟩, ⟨by repeat (first | (with_reducible first | exact HB.out | apply below_alloc | apply pw_below_drewN | apply below_drew1 | refine below_set ?_ GE161.out | refine below_set ?_ GE162.out) | exact HB.out)⟩⟩
      · rw [if_neg c10] at H
        have c10b0 : ((l1_0.length : Int) == (l0.length : Int)) = false := beq_eq_false_iff_ne.mpr c10
        have c10b1 : ((l1_0.length : Int) != (l0.length : Int)) = true := bne_iff_ne.mpr c10
        have c10b2 : (l1_0.length == l0.length) = false := by first | simpa using c10 | (simp at c10 ⊢; omega)
        (first | rw [c10b0] | (simp only [i64_w, i32_w]; rw [c10b0]) | skip)
        have H' := Aside0.mk H
        clear H
        have hnb21 := NB161_162.out
        have hnc21 := NB162_161.out
        have hcz22_0 : w8.cell? ⟨gb161, 0, none⟩ = some (.slice A1_0 l1_0.length c1_0) := (blk_cell BK161.out 0).trans rfl
        have hcz22_1 : w8.cell? ⟨gb161, 1, none⟩ = some (.int .i64 a1_1) := (blk_cell BK161.out 1).trans rfl
        have hcz22_2 : w8.cell? ⟨gb161, 2, none⟩ = some (.int .i64 a1_2) := (blk_cell BK161.out 2).trans rfl
        have hfz22_0 := blk_frozen BK161.out 0
        have hfz22_1 := blk_frozen BK161.out 1
        have hfz22_2 := blk_frozen BK161.out 2
        go_wp2
        go_meet
        case rel => exact ⟨_, (true), (by first | rfl | (simp; done) | (simp [*]; done)), H', ⟨by first | omega | exact Nat.le_refl _⟩, ⟨by (with_reducible repeat (first | refine blk_drewN ?_ _ | refine blk_drew ?_ | refine blk_alloc ?_ _)); exact BK161.out⟩, ⟨by (with_reducible repeat (first | refine blk_drewN ?_ _ | refine blk_drew ?_ | refine blk_alloc ?_ _)); exact BK162.out⟩, ⟨by repeat (first | (with_reducible first | exact HB.out | apply below_alloc | apply pw_below_drewN | apply below_drew1 | refine below_set ?_ GE161.out | refine below_set ?_ GE162.out) | exact HB.out)⟩⟩
    · replace c9 := Bool.eq_false_iff.mpr c9
      subst c9
      have H1 : (impl_FlowStep.j0 k l0 l2 true l1_0 a1_1 a1_2) = some (r1, r2, r3, r4) := by rw [if_neg (show ¬ (false = true) by decide)] at H; exact H
      clear H
      have H := H1
      clear H1
      have H' := Aside0.mk H
      clear H
      go_wp2
      go_meet
      case rel => exact ⟨_, (true), (by first | rfl | (simp; done) | (simp [*]; done)), H', ⟨by first | omega | exact Nat.le_refl _⟩, ⟨by (with_reducible repeat (first | refine blk_drewN ?_ _ | refine blk_drew ?_ | refine blk_alloc ?_ _)); exact BK161.out⟩, ⟨by (with_reducible repeat (first | refine blk_drewN ?_ _ | refine blk_drew ?_ | refine blk_alloc ?_ _)); exact BK162.out⟩, ⟨by repeat (first | (with_reducible first | exact HB.out | apply below_alloc | apply pw_below_drewN | apply below_drew1 | refine below_set ?_ GE161.out | refine below_set ?_ GE162.out) | exact HB.out)⟩⟩
  case rest =>
    clear HC5
    try clear c1
    try clear c2
    try clear p2
    try clear c4
    try clear c9
    try clear c10
    try clear c10b0
    try clear c10b1
    try clear c10b2
    try clear c11
    try clear c11b0
    try clear c11b1
    try clear c11b2
    try clear c13
    try clear c15
    try clear c17
    try clear c19
    try clear c21
    try clear hcz16_0
    try clear hcz16_1
    try clear hcz16_2
    try clear hcz18_0
    try clear hcz18_1
    try clear hcz18_2
    try clear hcz20_0
    try clear hcz20_1
    try clear hcz20_2
    try clear hcz22_0
    try clear hcz22_1
    try clear hcz22_2
    try clear hfz16_0
    try clear hfz16_1
    try clear hfz16_2
    try clear hfz18_0
    try clear hfz18_1
    try clear hfz18_2
    try clear hfz20_0
    try clear hfz20_1
    try clear hfz20_2
    try clear hfz22_0
    try clear hfz22_1
    try clear hfz22_2
    obtain ⟨kq, x54_4, rfl, HA, HJ4, BK161, BK162, HB⟩ := hcut
    cases kq with
    | zero => exact absurd HA.out (by simp [impl_FlowStep.j0])
    | succ kj4 =>
      have H := HA.out
      clear HA
      simp only [impl_FlowStep.j0] at H
      by_cases c23 : x54_4 = true
      · subst c23
        have H1 : (some (([] : List Int), 0, 0, false)) = some (r1, r2, r3, r4) := by rw [if_pos rfl] at H; exact H
        clear H
        have H := H1
        clear H1
        simp only [Option.some.injEq, Prod.mk.injEq] at H
        obtain ⟨rfl, rfl, rfl, rfl⟩ := H
        have hnb24 := NB162_161.out
        have hnc24 := NB161_162.out
        have hcz25_0 : wc.cell? ⟨gb162, 0, none⟩ = some (.slice none 0 0) := (blk_cell BK162.out 0).trans rfl
        have hcz25_1 : wc.cell? ⟨gb162, 1, none⟩ = some (.int .i64 0) := (blk_cell BK162.out 1).trans rfl
        have hcz25_2 : wc.cell? ⟨gb162, 2, none⟩ = some (.int .i64 0) := (blk_cell BK162.out 2).trans rfl
        have hfz25_0 := blk_frozen BK162.out 0
        have hfz25_1 := blk_frozen BK162.out 1
        have hfz25_2 := blk_frozen BK162.out 2
        go_wp2
        refine bodyPost_ret (results_ct rfl _ _ gb162 26 #[.slice none 0 0, .int .i64 0, .int .i64 0] (0, 0) _ rfl (by (with_reducible repeat (first | refine blk_drewN ?_ _ | refine blk_drew ?_ | refine blk_alloc ?_ _)); refine blk_put (cs := #[.slice none 0 0, .int .i64 0, .int .i64 0]) ?_ 2 _ rfl; (with_reducible repeat (first | refine blk_drewN ?_ _ | refine blk_drew ?_ | refine blk_alloc ?_ _)); refine blk_put (cs := #[.slice none 0 0, .int .i64 0, .int .i64 0]) ?_ 1 _ rfl; (with_reducible repeat (first | refine blk_drewN ?_ _ | refine blk_drew ?_ | refine blk_alloc ?_ _)); refine blk_put (cs := #[.slice none 0 0, .int .i64 0, .int .i64 0]) ?_ 0 _ rfl; (with_reducible repeat (first | refine blk_drewN ?_ _ | refine blk_drew ?_ | refine blk_alloc ?_ _)); exact BK162.out) Try.underlying26 rfl (by kernel_rfl)) rfl ?_
        exact ⟨_, by first | rfl | (simp [errW_none, errW_some] <;> rfl) | (simp [*, errW_none, errW_some] <;> rfl), by first | exact Kd.R_nil _ _ _ _ _ | exact Kd.N_nil _ _ _ _ _ | exact Kd.V_nil _ _ _ _ _ | exact Kd.Q_nil _ _ _ _ _ | exact Kd.S_nil _ _ _ _ _, by repeat (first | (with_reducible first | exact HB.out | apply below_alloc | apply pw_below_drewN | apply below_drew1 | refine below_set ?_ GE161.out | refine below_set ?_ GE162.out) | exact HB.out)⟩
      · replace c23 := Bool.eq_false_iff.mpr c23
        subst c23
        have H1 : (impl_FlowStep.l0 kj4 l0 l2 a1_1 0 l1_0 (l1_0.length : Int) 0 l1_0 a1_1 a1_2) = some (r1, r2, r3, r4) := by rw [if_neg (show ¬ (false = true) by decide)] at H; exact H
        clear H
        have H := H1
        clear H1
        have H' := Aside0.mk H
        clear H
        have hnb26 := NB161_162.out
        have hnc26 := NB162_161.out
        have hcz27_0 : wc.cell? ⟨gb161, 0, none⟩ = some (.slice A1_0 l1_0.length c1_0) := (blk_cell BK161.out 0).trans rfl
        have hcz27_1 : wc.cell? ⟨gb161, 1, none⟩ = some (.int .i64 a1_1) := (blk_cell BK161.out 1).trans rfl
        have hcz27_2 : wc.cell? ⟨gb161, 2, none⟩ = some (.int .i64 a1_2) := (blk_cell BK161.out 2).trans rfl
        have hfz27_0 := blk_frozen BK161.out 0
        have hfz27_1 := blk_frozen BK161.out 1
        have hfz27_2 := blk_frozen BK161.out 2
        go_wp2
        go_loopg [10, 11, 61] kj4 (fun kq v10 v11 v61 w' => ∃ (x10_2 : Int) (x11_2 : Int) (x61_2 : Int) (x163001_2 : Int) (x163002_2 : Int), v10 = .int .i64 x10_2 ∧ v11 = .int .i64 x11_2 ∧ v61 = .int .i64 x61_2 ∧ Aside0 (impl_FlowStep.l0 kq l0 l2 x10_2 x11_2 l1_0 (l1_0.length : Int) x61_2 l1_0 a1_1 a1_2 = some (r1, r2, r3, r4)) ∧ Aside0 (kq ≤ kj4) ∧ Aside0 (w'.heap[gb161]? = some (.cells #[(.slice A1_0 l1_0.length c1_0), .int .i64 a1_1, .int .i64 a1_2] 26 (0, 0))) ∧ Aside0 (w'.heap[gb162]? = some (.cells #[(.slice none 0 0), .int .i64 x163001_2, .int .i64 x163002_2] 26 (0, 0))) ∧ Aside0 (Below w.heap.size w w'))
        case atStart => exact ⟨(a1_1), (0), (0), (0), (0), (by first | rfl | (simp; done) | (simp [*]; done)), (by first | rfl | (simp; done) | (simp [*]; done)), (by first | rfl | (simp; done) | (simp [*]; done)), H', ⟨Nat.le_refl _⟩, ⟨by (with_reducible repeat (first | refine blk_drewN ?_ _ | refine blk_drew ?_ | refine blk_alloc ?_ _)); exact BK161.out⟩, ⟨by (with_reducible repeat (first | refine blk_drewN ?_ _ | refine blk_drew ?_ | refine blk_alloc ?_ _)); exact BK162.out⟩, ⟨by repeat (first | (with_reducible first | exact HB.out | apply below_alloc | apply pw_below_drewN | apply below_drew1 | refine below_set ?_ GE161.out | refine below_set ?_ GE162.out) | exact HB.out)⟩⟩
        case round =>
          clear H'
          try clear c1
          try clear c2
          try clear p2
          try clear c4
          try clear c9
          try clear c10
          try clear c10b0
          try clear c10b1
          try clear c10b2
          try clear c11
          try clear c11b0
          try clear c11b1
          try clear c11b2
          try clear c13
          try clear c15
          try clear c17
          try clear c19
          try clear c21
          try clear c23
          try clear c24
          try clear c26
          try clear hcz16_0
          try clear hcz16_1
          try clear hcz16_2
          try clear hcz18_0
          try clear hcz18_1
          try clear hcz18_2
          try clear hcz20_0
          try clear hcz20_1
          try clear hcz20_2
          try clear hcz22_0
          try clear hcz22_1
          try clear hcz22_2
          try clear hcz25_0
          try clear hcz25_1
          try clear hcz25_2
          try clear hcz27_0
          try clear hcz27_1
          try clear hcz27_2
          try clear hfz16_0
          try clear hfz16_1
          try clear hfz16_2
          try clear hfz18_0
          try clear hfz18_1
          try clear hfz18_2
          try clear hfz20_0
          try clear hfz20_1
          try clear hfz20_2
          try clear hfz22_0
          try clear hfz22_1
          try clear hfz22_2
          try clear hfz25_0
          try clear hfz25_1
          try clear hfz25_2
          try clear hfz27_0
          try clear hfz27_1
          try clear hfz27_2
          try clear p2
          obtain ⟨x10_2, x11_2, x61_2, x163001_2, x163002_2, rfl, rfl, rfl, HA, HK2, BK161, BK162, HB⟩ := hrel
          cases gk with
          | zero => exact absurd HA.out (by simp [impl_FlowStep.l0])
          | succ k2 =>
            have H := HA.out
            clear HA
            simp only [impl_FlowStep.l0] at H
            by_cases c28 : x61_2 < (l1_0.length : Int)
            · rw [if_pos c28] at H
              have c28b0 : decide (x61_2 < (l1_0.length : Int)) = true := decide_eq_true c28
              clear c28
              by_cases c29 : 0 ≤ x61_2
              · rw [if_pos c29] at H
                have c29b0 : decide (0 ≤ x61_2) = true := decide_eq_true c29
                clear c29
                by_cases c30 : x61_2 < (l1_0.length : Int)
                · rw [if_pos c30] at H
                  have c30b0 : decide (x61_2 < (l1_0.length : Int)) = true := decide_eq_true c30
                  clear c30
                  replace H := Option.bind_eq_some_iff.mp H
                  obtain ⟨t170, A310, H⟩ := H
                  replace H : (if t170 = true then (if x61_2 < (l2.length : Int) then ((impl_in.f (rd l2 x61_2) 0 1000000000000).bind fun t172 => (if t172 = true then (impl_FlowStep.l0 k2 l0 l2 (wrap64 (x10_2 + (rd l1_0 x61_2))) (wrap64 (x11_2 + (rd l2 x61_2))) l1_0 (l1_0.length : Int) (wrap64 (x61_2 + 1)) l1_0 a1_1 a1_2) else (some (([] : List Int), 0, 0, false)))) else (none)) else (some (([] : List Int), 0, 0, false))) = some (r1, r2, r3, r4) := H
                  have A31 := Aside0.mk A310
                  clear A310
                  by_cases c32 : t170 = true
                  · subst c32
                    have H1 : (if x61_2 < (l2.length : Int) then ((impl_in.f (rd l2 x61_2) 0 1000000000000).bind fun t172 => (if t172 = true then (impl_FlowStep.l0 k2 l0 l2 (wrap64 (x10_2 + (rd l1_0 x61_2))) (wrap64 (x11_2 + (rd l2 x61_2))) l1_0 (l1_0.length : Int) (wrap64 (x61_2 + 1)) l1_0 a1_1 a1_2) else (some (([] : List Int), 0, 0, false)))) else (none)) = some (r1, r2, r3, r4) := by rw [if_pos rfl] at H; exact H
                    clear H
                    have H := H1
                    clear H1
                    by_cases c33 : x61_2 < (l2.length : Int)
                    · rw [if_pos c33] at H
                      have c33b0 : decide (x61_2 < (l2.length : Int)) = true := decide_eq_true c33
                      clear c33
                      replace H := Option.bind_eq_some_iff.mp H
                      obtain ⟨t172, A340, H⟩ := H
                      replace H : (if t172 = true then (impl_FlowStep.l0 k2 l0 l2 (wrap64 (x10_2 + (rd l1_0 x61_2))) (wrap64 (x11_2 + (rd l2 x61_2))) l1_0 (l1_0.length : Int) (wrap64 (x61_2 + 1)) l1_0 a1_1 a1_2) else (some (([] : List Int), 0, 0, false))) = some (r1, r2, r3, r4) := H
                      have A34 := Aside0.mk A340
                      clear A340
                      by_cases c35 : t172 = true
                      · subst c35
                        have H1 : (impl_FlowStep.l0 k2 l0 l2 (wrap64 (x10_2 + (rd l1_0 x61_2))) (wrap64 (x11_2 + (rd l2 x61_2))) l1_0 (l1_0.length : Int) (wrap64 (x61_2 + 1)) l1_0 a1_1 a1_2) = some (r1, r2, r3, r4) := by rw [if_pos rfl] at H; exact H
                        clear H
                        have H := H1
                        clear H1
                        have H' := Aside0.mk H
                        clear H
                        have p169 : 0 ≤ (x61_2 : Int) := of_decide_eq_true (by first | (with_reducible assumption) | assumption)
                        have q169 : x61_2 < (l1_0.length : Int) := of_decide_eq_true (by first | (with_reducible assumption) | assumption)
                        obtain ⟨ad169, e169, hx169_0⟩ := Kd.at_int HR1_0.out x61_2 p169 q169
                        cases e169
                        replace hx169_0 := (HB.out.cell (World.block_lt_of_cell? w _ hx169_0)).trans hx169_0
                        replace p169 := eq_true p169
                        replace q169 := eq_true q169
                        go_wp2_with (first | ((with_reducible refine gate_callee (f := 47) rfl ?_); refine goesL_ (some 67) rfl rfl Try.func47 (by kernel_rfl) rfl #[.int .i64 (rd l1_0 x61_2), .int .i64 0, .int .i64 1000000000000] rfl (by (try simp only [List.map_toArray, List.map_cons, List.map_nil]); first | done | rfl | (simp only [List.length_drop, List.length_take]; rfl)) ?_; (with_reducible refine (impl_in.calls (rd l1_0 x61_2) 0 1000000000000 true _ A31.out).mono ?_); rintro e w' ⟨rfl, ⟨nd, rfl⟩⟩; refine ⟨_, rfl, ?_⟩; have p171 : 0 ≤ (x61_2 : Int) := of_decide_eq_true (by first | (with_reducible assumption) | assumption); have q171 : x61_2 < (l2.length : Int) := of_decide_eq_true (by first | (with_reducible assumption) | assumption); obtain ⟨ad171, e171, hx171_0⟩ := Kd.at_int HR2.out x61_2 p171 q171; cases e171; replace hx171_0 := (HB.out.cell (World.block_lt_of_cell? w _ hx171_0)).trans hx171_0; replace p171 := eq_true p171; replace q171 := eq_true q171) | (go_at_call 47; (with_reducible refine (impl_in.calls (rd l2 x61_2) 0 1000000000000 true _ A34.out).mono ?_); rintro e w' ⟨rfl, ⟨nd, rfl⟩⟩; have p173 : 0 ≤ (x61_2 : Int) := of_decide_eq_true (by first | (with_reducible assumption) | assumption); have q173 : x61_2 < (l2.length : Int) := of_decide_eq_true (by first | (with_reducible assumption) | assumption); obtain ⟨ad173, e173, hx173_0⟩ := Kd.at_int HR2.out x61_2 p173 q173; obtain rfl : ad171 = ad173 := (by injection e173); replace hx173_0 := (HB.out.cell (World.block_lt_of_cell? w _ hx173_0)).trans hx173_0; replace p173 := eq_true p173; replace q173 := eq_true q173))
                        go_roundg k2
                        case measure => have := HJ4.out; have := HK2.out; omega
                        case rel => exact ⟨(wrap64 (x10_2 + (rd l1_0 x61_2))), (wrap64 (x11_2 + (rd l2 x61_2))), (wrap64 (x61_2 + 1)), (x163001_2), (x163002_2), (by first | rfl | (simp; done) | (simp [*]; done)), (by first | rfl | (simp; done) | (simp [*]; done)), (by first | rfl | (simp; done) | (simp [*]; done)), H', ⟨by have := HJ4.out; have := HK2.out; omega⟩, ⟨by (with_reducible repeat (first | refine blk_drewN ?_ _ | refine blk_drew ?_ | refine blk_alloc ?_ _)); exact BK161.out⟩, ⟨by (with_reducible repeat (first | refine blk_drewN ?_ _ | refine blk_drew ?_ | refine blk_alloc ?_ _)); exact BK162.out⟩, ⟨by repeat (first | (with_reducible first | exact HB.out | apply below_alloc | apply pw_below_drewN | apply below_drew1 | refine below_set ?_ GE161.out | refine below_set ?_ GE162.out) | exact HB.out)⟩⟩
                      · replace c35 := Bool.eq_false_iff.mpr c35
                        subst c35
                        have H1 : (some (([] : List Int), 0, 0, false)) = some (r1, r2, r3, r4) := by rw [if_neg (show ¬ (false = true) by decide)] at H; exact H
                        clear H
                        have H := H1
                        clear H1
                        simp only [Option.some.injEq, Prod.mk.injEq] at H
                        obtain ⟨rfl, rfl, rfl, rfl⟩ := H
                        have p169 : 0 ≤ (x61_2 : Int) := of_decide_eq_true (by first | (with_reducible assumption) | assumption)
                        have q169 : x61_2 < (l1_0.length : Int) := of_decide_eq_true (by first | (with_reducible assumption) | assumption)
                        obtain ⟨ad169, e169, hx169_0⟩ := Kd.at_int HR1_0.out x61_2 p169 q169
                        cases e169
                        replace hx169_0 := (HB.out.cell (World.block_lt_of_cell? w _ hx169_0)).trans hx169_0
                        replace p169 := eq_true p169
                        replace q169 := eq_true q169
                        go_wp2_with (first | ((with_reducible refine gate_callee (f := 47) rfl ?_); refine goesL_ (some 67) rfl rfl Try.func47 (by kernel_rfl) rfl #[.int .i64 (rd l1_0 x61_2), .int .i64 0, .int .i64 1000000000000] rfl (by (try simp only [List.map_toArray, List.map_cons, List.map_nil]); first | done | rfl | (simp only [List.length_drop, List.length_take]; rfl)) ?_; (with_reducible refine (impl_in.calls (rd l1_0 x61_2) 0 1000000000000 true _ A31.out).mono ?_); rintro e w' ⟨rfl, ⟨nd, rfl⟩⟩; refine ⟨_, rfl, ?_⟩; (try (rw [drewN_self wr]; generalize hq_ : World.drewN wr _ = wr; have n0_ : Aside0 (wr.heap[gb161]? = some (.cells #[.slice (some ad169) l1_0.length c1_0, .int .i64 a1_1, .int .i64 a1_2] 26 (0, 0))) := ⟨by rw [← hq_]; exact (by (with_reducible repeat (first | refine blk_drewN ?_ _ | refine blk_drew ?_ | refine blk_alloc ?_ _)); exact BK161.out)⟩; have n1_ : Aside0 (wr.heap[gb162]? = some (.cells #[.slice none 0 0, .int .i64 x163001_2, .int .i64 x163002_2] 26 (0, 0))) := ⟨by rw [← hq_]; exact (by (with_reducible repeat (first | refine blk_drewN ?_ _ | refine blk_drew ?_ | refine blk_alloc ?_ _)); exact BK162.out)⟩; have n2_ : Aside0 (Below w.heap.size w wr) := ⟨by rw [← hq_]; exact (by repeat (first | (with_reducible first | exact HB.out | apply below_alloc | apply pw_below_drewN | apply below_drew1 | refine below_set ?_ GE161.out | refine below_set ?_ GE162.out) | exact HB.out))⟩; clear BK161 BK162 HB hq_; have BK161 := n0_; have BK162 := n1_; have HB := n2_; clear n0_ n1_ n2_)); have p171 : 0 ≤ (x61_2 : Int) := of_decide_eq_true (by first | (with_reducible assumption) | assumption); have q171 : x61_2 < (l2.length : Int) := of_decide_eq_true (by first | (with_reducible assumption) | assumption); obtain ⟨ad171, e171, hx171_0⟩ := Kd.at_int HR2.out x61_2 p171 q171; cases e171; replace hx171_0 := (HB.out.cell (World.block_lt_of_cell? w _ hx171_0)).trans hx171_0; replace p171 := eq_true p171; replace q171 := eq_true q171) | (go_at_call 47; (with_reducible refine (impl_in.calls (rd l2 x61_2) 0 1000000000000 false _ A34.out).mono ?_); rintro e w' ⟨rfl, ⟨nd, rfl⟩⟩; (try (rw [drewN_self wr]; generalize hq_ : World.drewN wr _ = wr; have n0_ : Aside0 (wr.heap[gb161]? = some (.cells #[.slice (some ad169) l1_0.length c1_0, .int .i64 a1_1, .int .i64 a1_2] 26 (0, 0))) := ⟨by rw [← hq_]; exact (by (with_reducible repeat (first | refine blk_drewN ?_ _ | refine blk_drew ?_ | refine blk_alloc ?_ _)); exact BK161.out)⟩; have n1_ : Aside0 (wr.heap[gb162]? = some (.cells #[.slice none 0 0, .int .i64 x163001_2, .int .i64 x163002_2] 26 (0, 0))) := ⟨by rw [← hq_]; exact (by (with_reducible repeat (first | refine blk_drewN ?_ _ | refine blk_drew ?_ | refine blk_alloc ?_ _)); exact BK162.out)⟩; have n2_ : Aside0 (Below w.heap.size w wr) := ⟨by rw [← hq_]; exact (by repeat (first | (with_reducible first | exact HB.out | apply below_alloc | apply pw_below_drewN | apply below_drew1 | refine below_set ?_ GE161.out | refine below_set ?_ GE162.out) | exact HB.out))⟩; clear BK161 BK162 HB hq_; have BK161 := n0_; have BK162 := n1_; have HB := n2_; clear n0_ n1_ n2_)); have hnb36 := NB162_161.out; have hnc36 := NB161_162.out; have hcz37_0 : wr.cell? ⟨gb162, 0, none⟩ = some (.slice none 0 0) := (blk_cell BK162.out 0).trans rfl; have hcz37_1 : wr.cell? ⟨gb162, 1, none⟩ = some (.int .i64 x163001_2) := (blk_cell BK162.out 1).trans rfl; have hcz37_2 : wr.cell? ⟨gb162, 2, none⟩ = some (.int .i64 x163002_2) := (blk_cell BK162.out 2).trans rfl; have hfz37_0 := blk_frozen BK162.out 0; have hfz37_1 := blk_frozen BK162.out 1; have hfz37_2 := blk_frozen BK162.out 2))
                        refine bodyPost_ret (results_ct rfl _ _ gb162 26 #[.slice none 0 0, .int .i64 0, .int .i64 0] (0, 0) _ rfl (by (with_reducible repeat (first | refine blk_drewN ?_ _ | refine blk_drew ?_ | refine blk_alloc ?_ _)); refine blk_put (cs := #[.slice none 0 0, .int .i64 0, .int .i64 x163002_2]) ?_ 2 _ rfl; (with_reducible repeat (first | refine blk_drewN ?_ _ | refine blk_drew ?_ | refine blk_alloc ?_ _)); refine blk_put (cs := #[.slice none 0 0, .int .i64 x163001_2, .int .i64 x163002_2]) ?_ 1 _ rfl; (with_reducible repeat (first | refine blk_drewN ?_ _ | refine blk_drew ?_ | refine blk_alloc ?_ _)); refine blk_put (cs := #[.slice none 0 0, .int .i64 x163001_2, .int .i64 x163002_2]) ?_ 0 _ rfl; (with_reducible repeat (first | refine blk_drewN ?_ _ | refine blk_drew ?_ | refine blk_alloc ?_ _)); exact BK162.out) Try.underlying26 rfl (by kernel_rfl)) rfl ?_
                        exact ⟨_, by first | rfl | (simp [errW_none, errW_some] <;> rfl) | (simp [*, errW_none, errW_some] <;> rfl), by first | exact Kd.R_nil _ _ _ _ _ | exact Kd.N_nil _ _ _ _ _ | exact Kd.V_nil _ _ _ _ _ | exact Kd.Q_nil _ _ _ _ _ | exact Kd.S_nil _ _ _ _ _, by repeat (first | (with_reducible first | exact HB.out | apply below_alloc | apply pw_below_drewN | apply below_drew1 | refine below_set ?_ GE161.out | refine below_set ?_ GE162.out) | exact HB.out)⟩
                    · rw [if_neg c33] at H
                      exact absurd H (by simp)
                  · replace c32 := Bool.eq_false_iff.mpr c32
                    subst c32
                    have H1 : (some (([] : List Int), 0, 0, false)) = some (r1, r2, r3, r4) := by rw [if_neg (show ¬ (false = true) by decide)] at H; exact H
                    clear H
                    have H := H1
                    clear H1
                    simp only [Option.some.injEq, Prod.mk.injEq] at H
                    obtain ⟨rfl, rfl, rfl, rfl⟩ := H
                    have p169 : 0 ≤ (x61_2 : Int) := of_decide_eq_true (by first | (with_reducible assumption) | assumption)
                    have q169 : x61_2 < (l1_0.length : Int) := of_decide_eq_true (by first | (with_reducible assumption) | assumption)
                    obtain ⟨ad169, e169, hx169_0⟩ := Kd.at_int HR1_0.out x61_2 p169 q169
                    cases e169
                    replace hx169_0 := (HB.out.cell (World.block_lt_of_cell? w _ hx169_0)).trans hx169_0
                    replace p169 := eq_true p169
                    replace q169 := eq_true q169
                    go_wp2_with (first | ((with_reducible refine gate_callee (f := 47) rfl ?_); refine goesL_ (some 67) rfl rfl Try.func47 (by kernel_rfl) rfl #[.int .i64 (rd l1_0 x61_2), .int .i64 0, .int .i64 1000000000000] rfl (by (try simp only [List.map_toArray, List.map_cons, List.map_nil]); first | done | rfl | (simp only [List.length_drop, List.length_take]; rfl)) ?_; (with_reducible refine (impl_in.calls (rd l1_0 x61_2) 0 1000000000000 false _ A31.out).mono ?_); rintro e w' ⟨rfl, ⟨nd, rfl⟩⟩; refine ⟨_, rfl, ?_⟩; (try (rw [drewN_self wr]; generalize hq_ : World.drewN wr _ = wr; have n0_ : Aside0 (wr.heap[gb161]? = some (.cells #[.slice (some ad169) l1_0.length c1_0, .int .i64 a1_1, .int .i64 a1_2] 26 (0, 0))) := ⟨by rw [← hq_]; exact (by (with_reducible repeat (first | refine blk_drewN ?_ _ | refine blk_drew ?_ | refine blk_alloc ?_ _)); exact BK161.out)⟩; have n1_ : Aside0 (wr.heap[gb162]? = some (.cells #[.slice none 0 0, .int .i64 x163001_2, .int .i64 x163002_2] 26 (0, 0))) := ⟨by rw [← hq_]; exact (by (with_reducible repeat (first | refine blk_drewN ?_ _ | refine blk_drew ?_ | refine blk_alloc ?_ _)); exact BK162.out)⟩; have n2_ : Aside0 (Below w.heap.size w wr) := ⟨by rw [← hq_]; exact (by repeat (first | (with_reducible first | exact HB.out | apply below_alloc | apply pw_below_drewN | apply below_drew1 | refine below_set ?_ GE161.out | refine below_set ?_ GE162.out) | exact HB.out))⟩; clear BK161 BK162 HB hq_; have BK161 := n0_; have BK162 := n1_; have HB := n2_; clear n0_ n1_ n2_)); have hnb38 := NB162_161.out; have hnc38 := NB161_162.out; have hcz39_0 : wr.cell? ⟨gb162, 0, none⟩ = some (.slice none 0 0) := (blk_cell BK162.out 0).trans rfl; have hcz39_1 : wr.cell? ⟨gb162, 1, none⟩ = some (.int .i64 x163001_2) := (blk_cell BK162.out 1).trans rfl; have hcz39_2 : wr.cell? ⟨gb162, 2, none⟩ = some (.int .i64 x163002_2) := (blk_cell BK162.out 2).trans rfl; have hfz39_0 := blk_frozen BK162.out 0; have hfz39_1 := blk_frozen BK162.out 1; have hfz39_2 := blk_frozen BK162.out 2))
                    refine bodyPost_ret (results_ct rfl _ _ gb162 26 #[.slice none 0 0, .int .i64 0, .int .i64 0] (0, 0) _ rfl (by (with_reducible repeat (first | refine blk_drewN ?_ _ | refine blk_drew ?_ | refine blk_alloc ?_ _)); refine blk_put (cs := #[.slice none 0 0, .int .i64 0, .int .i64 x163002_2]) ?_ 2 _ rfl; (with_reducible repeat (first | refine blk_drewN ?_ _ | refine blk_drew ?_ | refine blk_alloc ?_ _)); refine blk_put (cs := #[.slice none 0 0, .int .i64 x163001_2, .int .i64 x163002_2]) ?_ 1 _ rfl; (with_reducible repeat (first | refine blk_drewN ?_ _ | refine blk_drew ?_ | refine blk_alloc ?_ _)); refine blk_put (cs := #[.slice none 0 0, .int .i64 x163001_2, .int .i64 x163002_2]) ?_ 0 _ rfl; (with_reducible repeat (first | refine blk_drewN ?_ _ | refine blk_drew ?_ | refine blk_alloc ?_ _)); exact BK162.out) Try.underlying26 rfl (by kernel_rfl)) rfl ?_
                    exact ⟨_, by first | rfl | (simp [errW_none, errW_some] <;> rfl) | (simp [*, errW_none, errW_some] <;> rfl), by first | exact Kd.R_nil _ _ _ _ _ | exact Kd.N_nil _ _ _ _ _ | exact Kd.V_nil _ _ _ _ _ | exact Kd.Q_nil _ _ _ _ _ | exact Kd.S_nil _ _ _ _ _, by repeat (first | (with_reducible first | exact HB.out | apply below_alloc | apply pw_below_drewN | apply below_drew1 | refine below_set ?_ GE161.out | refine below_set ?_ GE162.out) | exact HB.out)⟩
                · rw [if_neg c30] at H
                  exact absurd H (by simp)
              · rw [if_neg c29] at H
                exact absurd H (by simp)
            · rw [if_neg c28] at H
              have c28b0 : decide (x61_2 < (l1_0.length : Int)) = false := decide_eq_false c28
              clear c28
              have HC40 := Aside0.mk H
              clear H
              go_upto_region 13 with (fail)
              go_cut [98] (fun v98 wc => ∃ (kq : Nat) (x98_39 : Bool), v98 = .bool x98_39 ∧ Aside0 (impl_FlowStep.j2 kq l0 l2 x11_2 x98_39 l1_0 a1_1 a1_2 = some (r1, r2, r3, r4)) ∧ Aside0 (kq ≤ k2) ∧ Aside0 (wc.heap[gb161]? = some (.cells #[(.slice A1_0 l1_0.length c1_0), .int .i64 a1_1, .int .i64 a1_2] 26 (0, 0))) ∧ Aside0 (wc.heap[gb162]? = some (.cells #[(.slice none 0 0), .int .i64 x163001_2, .int .i64 x163002_2] 26 (0, 0))) ∧ Aside0 (Below w.heap.size w wc))
              case first =>
                have H := HC40.out
                clear HC40
                by_cases c41 : a1_2 > (wrap64 (1000000000000 - x11_2))
                · rw [if_pos c41] at H
                  have c41b0 : decide ((wrap64 (1000000000000 - x11_2)) < a1_2) = true := decide_eq_true c41
                  clear c41
                  (first | rw [c41b0] | (simp only [i64_w, i32_w]; rw [c41b0]) | skip)
                  have H' := Aside0.mk H
                  clear H
                  have hnb42 := NB161_162.out
                  have hnc42 := NB162_161.out
                  have hcz43_0 : wr.cell? ⟨gb161, 0, none⟩ = some (.slice A1_0 l1_0.length c1_0) := (blk_cell BK161.out 0).trans rfl
                  have hcz43_1 : wr.cell? ⟨gb161, 1, none⟩ = some (.int .i64 a1_1) := (blk_cell BK161.out 1).trans rfl
                  have hcz43_2 : wr.cell? ⟨gb161, 2, none⟩ = some (.int .i64 a1_2) := (blk_cell BK161.out 2).trans rfl
                  have hfz43_0 := blk_frozen BK161.out 0
                  have hfz43_1 := blk_frozen BK161.out 1
                  have hfz43_2 := blk_frozen BK161.out 2
                  go_wp2
                  go_meet
                  case rel => exact ⟨_, (true), (by first | rfl | (simp; done) | (simp [*]; done)), H', ⟨by have := HJ4.out; have := HK2.out; first | omega | exact Nat.le_refl _⟩, ⟨by (with_reducible repeat (first | refine blk_drewN ?_ _ | refine blk_drew ?_ | refine blk_alloc ?_ _)); exact BK161.out⟩, ⟨by (with_reducible repeat (first | refine blk_drewN ?_ _ | refine blk_drew ?_ | refine blk_alloc ?_ _)); exact BK162.out⟩, ⟨by repeat (first | (with_reducible first | exact HB.out | apply below_alloc | apply pw_below_drewN | apply below_drew1 | refine below_set ?_ GE161.out | refine below_set ?_ GE162.out) | exact HB.out)⟩⟩
                · rw [if_neg c41] at H
                  have c41b0 : decide ((wrap64 (1000000000000 - x11_2)) < a1_2) = false := decide_eq_false c41
                  clear c41
                  (first | rw [c41b0] | (simp only [i64_w, i32_w]; rw [c41b0]) | skip)
                  have H' := Aside0.mk H
                  clear H
                  have hnb44 := NB161_162.out
                  have hnc44 := NB162_161.out
                  have hcz45_0 : wr.cell? ⟨gb161, 0, none⟩ = some (.slice A1_0 l1_0.length c1_0) := (blk_cell BK161.out 0).trans rfl
                  have hcz45_1 : wr.cell? ⟨gb161, 1, none⟩ = some (.int .i64 a1_1) := (blk_cell BK161.out 1).trans rfl
                  have hcz45_2 : wr.cell? ⟨gb161, 2, none⟩ = some (.int .i64 a1_2) := (blk_cell BK161.out 2).trans rfl
                  have hfz45_0 := blk_frozen BK161.out 0
                  have hfz45_1 := blk_frozen BK161.out 1
                  have hfz45_2 := blk_frozen BK161.out 2
                  go_wp2
                  go_meet
                  case rel => exact ⟨_, ((x10_2 != a1_2)), (by first | rfl | (simp; done) | (simp [*]; done)), H', ⟨by have := HJ4.out; have := HK2.out; first | omega | exact Nat.le_refl _⟩, ⟨by (with_reducible repeat (first | refine blk_drewN ?_ _ | refine blk_drew ?_ | refine blk_alloc ?_ _)); exact BK161.out⟩, ⟨by (with_reducible repeat (first | refine blk_drewN ?_ _ | refine blk_drew ?_ | refine blk_alloc ?_ _)); exact BK162.out⟩, ⟨by repeat (first | (with_reducible first | exact HB.out | apply below_alloc | apply pw_below_drewN | apply below_drew1 | refine below_set ?_ GE161.out | refine below_set ?_ GE162.out) | exact HB.out)⟩⟩
              case rest =>
                clear HC40
                try clear c1
                try clear p1
                try clear q1
                try clear hx1
                try clear c2
                try clear p2
                try clear c3
                try clear c4
                try clear p6
                try clear c9
                try clear c10
                try clear c10b0
                try clear c10b1
                try clear c10b2
                try clear c11
                try clear c11b0
                try clear c11b1
                try clear c11b2
                try clear c13
                try clear c15
                try clear p16
                try clear q16
                try clear hx16
                try clear c17
                try clear p17
                try clear q17
                try clear hx17
                try clear c19
                try clear c21
                try clear c23
                try clear c24
                try clear c26
                try clear c28
                try clear c28b0
                try clear c29
                try clear c29b0
                try clear c30
                try clear c30b0
                try clear c32
                try clear c33
                try clear c33b0
                try clear c35
                try clear c36
                try clear c38
                try clear c41
                try clear c41b0
                try clear c42
                try clear c44
                try clear hcz16_0
                try clear hcz16_1
                try clear hcz16_2
                try clear hcz18_0
                try clear hcz18_1
                try clear hcz18_2
                try clear hcz20_0
                try clear hcz20_1
                try clear hcz20_2
                try clear hcz22_0
                try clear hcz22_1
                try clear hcz22_2
                try clear hcz25_0
                try clear hcz25_1
                try clear hcz25_2
                try clear hcz27_0
                try clear hcz27_1
                try clear hcz27_2
                try clear hcz37_0
                try clear hcz37_1
                try clear hcz37_2
                try clear hcz39_0
                try clear hcz39_1
                try clear hcz39_2
                try clear hcz43_0
                try clear hcz43_1
                try clear hcz43_2
                try clear hcz45_0
                try clear hcz45_1
                try clear hcz45_2
                try clear hfz16_0
                try clear hfz16_1
                try clear hfz16_2
                try clear hfz18_0
                try clear hfz18_1
                try clear hfz18_2
                try clear hfz20_0
                try clear hfz20_1
                try clear hfz20_2
                try clear hfz22_0
                try clear hfz22_1
                try clear hfz22_2
                try clear hfz25_0
                try clear hfz25_1
                try clear hfz25_2
                try clear hfz27_0
                try clear hfz27_1
                try clear hfz27_2
                try clear hfz37_0
                try clear hfz37_1
                try clear hfz37_2
                try clear hfz39_0
                try clear hfz39_1
                try clear hfz39_2
                try clear hfz43_0
                try clear hfz43_1
                try clear hfz43_2
                try clear hfz45_0
                try clear hfz45_1
                try clear hfz45_2
                try clear hx169_0
                try clear hx171_0
                try clear hx173_0
                try clear p169
                try clear p171
                try clear p173
                try clear p2
                try clear q169
                try clear q171
                try clear q173
                obtain ⟨kq, x98_39, rfl, HA, HJ39, BK161, BK162, HB⟩ := hcut
                cases kq with
                | zero => exact absurd HA.out (by simp [impl_FlowStep.j2])
                | succ kj39 =>
                  have H := HA.out
                  clear HA
                  simp only [impl_FlowStep.j2] at H
                  by_cases c46 : x98_39 = true
                  · subst c46
                    have H1 : (some (([] : List Int), 0, 0, false)) = some (r1, r2, r3, r4) := by rw [if_pos rfl] at H; exact H
                    clear H
                    have H := H1
                    clear H1
                    simp only [Option.some.injEq, Prod.mk.injEq] at H
                    obtain ⟨rfl, rfl, rfl, rfl⟩ := H
                    have hnb47 := NB162_161.out
                    have hnc47 := NB161_162.out
                    have hcz48_0 : wc.cell? ⟨gb162, 0, none⟩ = some (.slice none 0 0) := (blk_cell BK162.out 0).trans rfl
                    have hcz48_1 : wc.cell? ⟨gb162, 1, none⟩ = some (.int .i64 x163001_2) := (blk_cell BK162.out 1).trans rfl
                    have hcz48_2 : wc.cell? ⟨gb162, 2, none⟩ = some (.int .i64 x163002_2) := (blk_cell BK162.out 2).trans rfl
                    have hfz48_0 := blk_frozen BK162.out 0
                    have hfz48_1 := blk_frozen BK162.out 1
                    have hfz48_2 := blk_frozen BK162.out 2
                    go_wp2
                    refine bodyPost_ret (results_ct rfl _ _ gb162 26 #[.slice none 0 0, .int .i64 0, .int .i64 0] (0, 0) _ rfl (by (with_reducible repeat (first | refine blk_drewN ?_ _ | refine blk_drew ?_ | refine blk_alloc ?_ _)); refine blk_put (cs := #[.slice none 0 0, .int .i64 0, .int .i64 x163002_2]) ?_ 2 _ rfl; (with_reducible repeat (first | refine blk_drewN ?_ _ | refine blk_drew ?_ | refine blk_alloc ?_ _)); refine blk_put (cs := #[.slice none 0 0, .int .i64 x163001_2, .int .i64 x163002_2]) ?_ 1 _ rfl; (with_reducible repeat (first | refine blk_drewN ?_ _ | refine blk_drew ?_ | refine blk_alloc ?_ _)); refine blk_put (cs := #[.slice none 0 0, .int .i64 x163001_2, .int .i64 x163002_2]) ?_ 0 _ rfl; (with_reducible repeat (first | refine blk_drewN ?_ _ | refine blk_drew ?_ | refine blk_alloc ?_ _)); exact BK162.out) Try.underlying26 rfl (by kernel_rfl)) rfl ?_
                    exact ⟨_, by first | rfl | (simp [errW_none, errW_some] <;> rfl) | (simp [*, errW_none, errW_some] <;> rfl), by first | exact Kd.R_nil _ _ _ _ _ | exact Kd.N_nil _ _ _ _ _ | exact Kd.V_nil _ _ _ _ _ | exact Kd.Q_nil _ _ _ _ _ | exact Kd.S_nil _ _ _ _ _, by repeat (first | (with_reducible first | exact HB.out | apply below_alloc | apply pw_below_drewN | apply below_drew1 | refine below_set ?_ GE161.out | refine below_set ?_ GE162.out) | exact HB.out)⟩
                  · replace c46 := Bool.eq_false_iff.mpr c46
                    subst c46
                    have H1 : ((slices_Clone_int64_int64.f l1_0).bind fun t174 => (impl_FlowStep.l1 kj39 l0 l2 (l2.length : Int) 0 t174 a1_1 (wrap64 (a1_2 + x11_2)))) = some (r1, r2, r3, r4) := by rw [if_neg (show ¬ (false = true) by decide)] at H; exact H
                    clear H
                    have H := H1
                    clear H1
                    replace H := Option.bind_eq_some_iff.mp H
                    obtain ⟨t174, A490, H⟩ := H
                    replace H : (impl_FlowStep.l1 kj39 l0 l2 (l2.length : Int) 0 t174 a1_1 (wrap64 (a1_2 + x11_2))) = some (r1, r2, r3, r4) := H
                    have A49 := Aside0.mk A490
                    clear A490
                    have H' := Aside0.mk H
                    clear H
                    try go_wp2
                    have n0_ := Aside0.mk (blk_drew BK161.out)
                    have n1_ := Aside0.mk (blk_drew BK162.out)
                    have n2_ := Aside0.mk (below_drew1 HB.out)
                    clear BK161
                    clear BK162
                    clear HB
                    have BK161 := n0_
                    have BK162 := n1_
                    have HB := n2_
                    clear n0_ n1_ n2_
                    refine start_ (n := 12) (S := fun w' => w'.cell? ⟨gb161, 0, none⟩ = some (.slice A1_0 l1_0.length c1_0) ∧ w'.cell? ⟨gb161, 1, none⟩ = some (.int .i64 a1_1) ∧ w'.cell? ⟨gb161, 2, none⟩ = some (.int .i64 a1_2)) (ds := []) #[false, false, false, false, false, false, false, false, false, false, false, false] (by kernel_rfl) rfl rfl ⟨(blk_cell BK161.out 0).trans rfl, (blk_cell BK161.out 1).trans rfl, (blk_cell BK161.out 2).trans rfl⟩ (fun hHeld => ?_); refine with_tabW impl_FlowStep.tab15 impl_FlowStep.bits15 (fun HT_ HW_ => ?_)
                    generalize wc.drew = w50 at BK161 BK162 HB hHeld ⊢
                    refine pure_ (i := 0) (N := some 100) (v := ?_) (a' := ?_) #[true, false, false, false, false, false, false, false, false, false, false, false] rfl rfl (any_of HT_.out (by kernel_rfl)) (fun _ _ _ h => h) (Or.inl ⟨by rfl, ?_⟩) ?_ ?_
                    rotate_left
                    · intro w'
                      go_simp
                      with_reducible rfl
                    rotate_left
                    · simp only [Act.put, List.setIfInBounds_toArray, List.set_cons_zero, List.set_cons_succ, i64_w, i32_w]
                      rfl
                    refine pure_ (i := 3) (N := some 103) (v := ?_) (a' := ?_) #[true, false, false, true, false, false, false, false, false, false, false, false] rfl rfl (any_of HT_.out (by kernel_rfl)) (fun _ _ _ h => h) (Or.inl ⟨by rfl, ?_⟩) ?_ ?_
                    rotate_left
                    · intro w'
                      go_simp
                      with_reducible rfl
                    rotate_left
                    · simp only [Act.put, List.setIfInBounds_toArray, List.set_cons_zero, List.set_cons_succ, i64_w, i32_w]
                      rfl
                    refine pure_ (i := 5) (N := some 105) (v := ?_) (a' := ?_) #[true, false, false, true, false, true, false, false, false, false, false, false] rfl rfl (any_of HT_.out (by kernel_rfl)) (fun _ _ _ h => h) (Or.inl ⟨by rfl, ?_⟩) ?_ ?_
                    rotate_left
                    · intro w'
                      go_simp
                      with_reducible rfl
                    rotate_left
                    · simp only [Act.put, List.setIfInBounds_toArray, List.set_cons_zero, List.set_cons_succ, i64_w, i32_w]
                      rfl
                    refine pure_ (i := 7) (N := some 107) (v := ?_) (a' := ?_) #[true, false, false, true, false, true, false, true, false, false, false, false] rfl rfl (any_of HT_.out (by kernel_rfl)) (fun _ _ _ h => h) (Or.inl ⟨by rfl, ?_⟩) ?_ ?_
                    rotate_left
                    · intro w'
                      go_simp
                      with_reducible rfl
                    rotate_left
                    · simp only [Act.put, List.setIfInBounds_toArray, List.set_cons_zero, List.set_cons_succ, i64_w, i32_w]
                      rfl
                    refine take_ (i := 1) (N := some 101) (v := ?_) (a' := ?_) #[true, true, false, true, false, true, false, true, false, false, false, false] rfl rfl (take_ofW HT_.out HW_.out (by kernel_rfl)) (fun _ _ _ h => h) (Or.inl ⟨by rfl, ?_⟩) hHeld ?_ ?_
                    rotate_left
                    · rintro w' ⟨s0, s1, s2⟩
                      go_simp
                      with_reducible rfl
                    rotate_left
                    · simp only [Act.put, List.setIfInBounds_toArray, List.set_cons_zero, List.set_cons_succ, i64_w, i32_w]
                      rfl
                    refine take_ (i := 4) (N := some 104) (v := ?_) (a' := ?_) #[true, true, false, true, true, true, false, true, false, false, false, false] rfl rfl (take_ofW HT_.out HW_.out (by kernel_rfl)) (fun _ _ _ h => h) (Or.inl ⟨by rfl, ?_⟩) hHeld ?_ ?_
                    rotate_left
                    · rintro w' ⟨s0, s1, s2⟩
                      go_simp
                      with_reducible rfl
                    rotate_left
                    · simp only [Act.put, List.setIfInBounds_toArray, List.set_cons_zero, List.set_cons_succ, i64_w, i32_w]
                      rfl
                    refine take_ (i := 6) (N := some 106) (v := ?_) (a' := ?_) #[true, true, false, true, true, true, true, true, false, false, false, false] rfl rfl (take_ofW HT_.out HW_.out (by kernel_rfl)) (fun _ _ _ h => h) (Or.inl ⟨by rfl, ?_⟩) hHeld ?_ ?_
                    rotate_left
                    · rintro w' ⟨s0, s1, s2⟩
                      go_simp
                      with_reducible rfl
                    rotate_left
                    · simp only [Act.put, List.setIfInBounds_toArray, List.set_cons_zero, List.set_cons_succ, i64_w, i32_w]
                      rfl
                    refine pure_ (i := 8) (N := some 108) (v := ?_) (a' := ?_) #[true, true, false, true, true, true, true, true, true, false, false, false] rfl rfl (any_of HT_.out (by kernel_rfl)) (fun _ _ _ h => h) (Or.inl ⟨by rfl, ?_⟩) ?_ ?_
                    rotate_left
                    · intro w'
                      go_simp
                      with_reducible rfl
                    rotate_left
                    · simp only [Act.put, List.setIfInBounds_toArray, List.set_cons_zero, List.set_cons_succ, i64_w, i32_w]
                      rfl
                    refine join_ (σ := Value × Nat) 1 #[true, true, true, true, true, true, true, true, true, true, true, false] (fun s_ => [(102, s_.1), (14, .pointer (some ⟨s_.2, 0, none⟩)), (109, .agg #[s_.1, .int .i64 a1_1, .int .i64 (wrap64 (a1_2 + x11_2))])]) (fun s_ w' => (w'.cell? ⟨gb161, 0, none⟩ = some (.slice A1_0 l1_0.length c1_0) ∧ w'.cell? ⟨gb161, 1, none⟩ = some (.int .i64 a1_1) ∧ w'.cell? ⟨gb161, 2, none⟩ = some (.int .i64 a1_2)) ∧ (Kd.R (Kd.int .i64) 2 w' w.heap.size (fun _ => True) s_.1 t174) ∧ (w'.heap[gb161]? = some (.cells #[.slice A1_0 l1_0.length c1_0, .int .i64 a1_1, .int .i64 a1_2] 26 (0, 0))) ∧ (w'.heap[gb162]? = some (.cells #[.slice none 0 0, .int .i64 x163001_2, .int .i64 x163002_2] 26 (0, 0))) ∧ (w'.heap[s_.2]? = some (.cells #[.slice none 0 0, .int .i64 0, .int .i64 0] 26 (0, 0))) ∧ (w.heap.size ≤ s_.2) ∧ (w.heap.size ≤ s_.2) ∧ (gb161 ≠ s_.2) ∧ (s_.2 ≠ gb161) ∧ (gb162 ≠ s_.2) ∧ (s_.2 ≠ gb162) ∧ (Below w.heap.size w w')) ?_ ?_
                    rotate_left
                    · intro hCont
                      refine two_ (i := 2) (j := 10) (Ni := some 102) (Nj := some 14) #[true, true, true, true, true, true, true, true, true, false, false, false] #[true, true, false, true, true, true, true, true, true, false, true, false] rfl rfl rfl rfl (two_of HT_.out (by kernel_rfl)) (by decide) (by decide) (fun K hK => ?_) (fun K hK => ?_)
                      · skip
                        refine goes_ Try.func48 (by kernel_rfl) rfl #[.slice A1_0 l1_0.length c1_0] (by rfl) rfl rfl (by (try simp only [List.map_toArray, List.map_cons, List.map_nil]); first | done | rfl | (simp only [List.length_drop, List.length_take]; rfl)) ?_
                        with_reducible refine (slices_Clone_int64_int64.calls _ _ l1_0 t174 _ ?side1 ?side2 A49.out).mono ?_
                        (case side1 => repeat (first | exact (Kd.C_below HR1_0.out HB.out) | (with_reducible refine Kd.C_alloc ?_ _) | (with_reducible refine Kd.C_drewN ?_ _) | (with_reducible refine Kd.C_drew ?_)))
                        (case side2 => exact HC1_0.out)
                        rintro e w51 ⟨v175, rfl, ho0, hb⟩
                        refine ⟨_, rfl, ?_⟩
                        have n0_ := Aside0.mk (Kd.R_lower ho0 (below_size (by repeat (first | (with_reducible first | exact HB.out | apply below_alloc | apply pw_below_drewN | apply below_drew1 | refine below_set ?_ GE161.out | refine below_set ?_ GE162.out) | exact HB.out))))
                        have n1_ := Aside0.mk (blk_below (g := gb161) (o := .cells #[.slice A1_0 l1_0.length c1_0, .int .i64 a1_1, .int .i64 a1_2] 26 (0, 0)) (by (with_reducible repeat (first | refine blk_drewN ?_ _ | refine blk_drew ?_ | refine blk_alloc ?_ _)); exact BK161.out) hb)
                        have n2_ := Aside0.mk (blk_below (g := gb162) (o := .cells #[.slice none 0 0, .int .i64 x163001_2, .int .i64 x163002_2] 26 (0, 0)) (by (with_reducible repeat (first | refine blk_drewN ?_ _ | refine blk_drew ?_ | refine blk_alloc ?_ _)); exact BK162.out) hb)
                        have n3_ := Aside0.mk (below_step (by repeat (first | (with_reducible first | exact HB.out | apply below_alloc | apply pw_below_drewN | apply below_drew1 | refine below_set ?_ GE161.out | refine below_set ?_ GE162.out) | exact HB.out)) hb)
                        clear BK161
                        clear BK162
                        clear HB
                        have HO176 := n0_
                        have BK161 := n1_
                        have BK162 := n2_
                        have HB := n3_
                        clear n0_ n1_ n2_ n3_
                        (try clear hb)
                        (try clear hb2)
                        (try clear hk)
                        (try clear hi)
                        (try clear ho0)
                        obtain ⟨Ao52, co52, eo52⟩ := Kd.R_slice HO176.out
                        (first | subst eo52 | (injection eo52 with f1_ f2_ f3_; have f4_ := f1_.symm; have f5_ := f3_.symm; clear f1_ f2_ f3_; subst f4_; subst f5_))
                        refine hK.out _ _ ⟨(blk_cell BK161.out 0).trans rfl, (blk_cell BK161.out 1).trans rfl, (blk_cell BK161.out 2).trans rfl⟩ (fun hHeld => ?_)
                        clear hK K
                        refine norm_ (a' := ?_) ?_ ?_
                        rotate_left
                        · show Act.put _ (some 102) _ = _
                          simp only [Act.put, List.setIfInBounds_toArray, List.set_cons_zero, List.set_cons_succ, i64_w, i32_w]
                          rfl
                        refine pure_ (i := 9) (N := some 109) (v := ?_) (a' := ?_) #[true, true, true, true, true, true, true, true, true, true, false, false] rfl rfl (any_of HT_.out (by kernel_rfl)) (fun _ _ _ h => h) (Or.inl ⟨by rfl, ?_⟩) ?_ ?_
                        rotate_left
                        · intro w'
                          go_simp
                          with_reducible rfl
                        rotate_left
                        · simp only [Act.put, List.setIfInBounds_toArray, List.set_cons_zero, List.set_cons_succ, i64_w, i32_w]
                          rfl
                        refine one_ (i := 10) (N := some 14) #[true, true, true, true, true, true, true, true, true, true, true, false] rfl rfl (one_of HT_.out (by kernel_rfl)) (by decide) (fun K hK => ?_)
                        refine box_step ?hg (N := 14) ?hd (cs := #[.slice none 0 0, .int .i64 0, .int .i64 0]) (t := 26) ?hr ?_; (case hd => rfl); (case hg => rfl); (case hr => first | (go_simp; done) | (go_simp; rfl))
                        intro gb177 hg w53 hbox hb
                        have n0_ := Aside0.mk (Kd.R_below (by (with_reducible repeat (first | apply Kd.R_alloc | apply Kd.R_drewN | apply Kd.R_drew)); exact HO176.out) hb)
                        have n1_ := Aside0.mk (blk_below (g := gb161) (o := .cells #[.slice A1_0 l1_0.length c1_0, .int .i64 a1_1, .int .i64 a1_2] 26 (0, 0)) (by (with_reducible repeat (first | refine blk_drewN ?_ _ | refine blk_drew ?_ | refine blk_alloc ?_ _)); exact BK161.out) hb)
                        have n2_ := Aside0.mk (blk_below (g := gb162) (o := .cells #[.slice none 0 0, .int .i64 x163001_2, .int .i64 x163002_2] 26 (0, 0)) (by (with_reducible repeat (first | refine blk_drewN ?_ _ | refine blk_drew ?_ | refine blk_alloc ?_ _)); exact BK162.out) hb)
                        have n3_ := Aside0.mk (below_step (by repeat (first | (with_reducible first | exact HB.out | apply below_alloc | apply pw_below_drewN | apply below_drew1 | refine below_set ?_ GE161.out | refine below_set ?_ GE162.out) | exact HB.out)) hb)
                        have n4_ := Aside0.mk (hbox)
                        have n5_ := Aside0.mk ((by rw [hg]; exact (below_size (by repeat (first | (with_reducible first | exact HB.out | apply below_alloc | apply pw_below_drewN | apply below_drew1 | refine below_set ?_ GE161.out | refine below_set ?_ GE162.out) | exact HB.out))) : w.heap.size ≤ gb177))
                        have n6_ := Aside0.mk ((by rw [hg]; exact (below_size (by repeat (first | (with_reducible first | exact HB.out | apply below_alloc | apply pw_below_drewN | apply below_drew1 | refine below_set ?_ GE161.out | refine below_set ?_ GE162.out) | exact HB.out))) : w.heap.size ≤ gb177))
                        have n7_ := Aside0.mk ((by rw [hg]; exact Nat.ne_of_lt (blk_lt (g := gb161) (o := .cells #[.slice A1_0 l1_0.length c1_0, .int .i64 a1_1, .int .i64 a1_2] 26 (0, 0)) (by (with_reducible repeat (first | refine blk_drewN ?_ _ | refine blk_drew ?_ | refine blk_alloc ?_ _)); exact BK161.out)) : gb161 ≠ gb177))
                        have n8_ := Aside0.mk ((by rw [hg]; exact Nat.ne_of_gt (blk_lt (g := gb161) (o := .cells #[.slice A1_0 l1_0.length c1_0, .int .i64 a1_1, .int .i64 a1_2] 26 (0, 0)) (by (with_reducible repeat (first | refine blk_drewN ?_ _ | refine blk_drew ?_ | refine blk_alloc ?_ _)); exact BK161.out)) : gb177 ≠ gb161))
                        have n9_ := Aside0.mk ((by rw [hg]; exact Nat.ne_of_lt (blk_lt (g := gb162) (o := .cells #[.slice none 0 0, .int .i64 x163001_2, .int .i64 x163002_2] 26 (0, 0)) (by (with_reducible repeat (first | refine blk_drewN ?_ _ | refine blk_drew ?_ | refine blk_alloc ?_ _)); exact BK162.out)) : gb162 ≠ gb177))
                        have n10_ := Aside0.mk ((by rw [hg]; exact Nat.ne_of_gt (blk_lt (g := gb162) (o := .cells #[.slice none 0 0, .int .i64 x163001_2, .int .i64 x163002_2] 26 (0, 0)) (by (with_reducible repeat (first | refine blk_drewN ?_ _ | refine blk_drew ?_ | refine blk_alloc ?_ _)); exact BK162.out)) : gb177 ≠ gb162))
                        clear HO176
                        clear BK161
                        clear BK162
                        clear HB
                        have HO176 := n0_
                        have BK161 := n1_
                        have BK162 := n2_
                        have HB := n3_
                        have BK177 := n4_
                        have GW177 := n5_
                        have GE177 := n6_
                        have NB161_177 := n7_
                        have NB177_161 := n8_
                        have NB162_177 := n9_
                        have NB177_162 := n10_
                        clear n0_ n1_ n2_ n3_ n4_ n5_ n6_ n7_ n8_ n9_ n10_
                        clear hb hbox hg
                        refine hK.out _ _ ⟨(blk_cell BK161.out 0).trans rfl, (blk_cell BK161.out 1).trans rfl, (blk_cell BK161.out 2).trans rfl⟩ (fun hHeld => ?_)
                        clear hK K
                        refine norm_ (a' := ?_) ?_ ?_
                        rotate_left
                        · show Act.put _ (some 14) _ = _
                          simp only [Act.put, List.setIfInBounds_toArray, List.set_cons_zero, List.set_cons_succ, i64_w, i32_w]
                          rfl
                        exact norm_ (by simp only [putAll, Act.put, List.setIfInBounds_toArray, List.set_cons_zero, List.set_cons_succ]) (hCont (.slice Ao52 t174.length co52, gb177) _ ⟨hHeld, (by (with_reducible repeat (first | apply Kd.R_alloc | apply Kd.R_drewN | apply Kd.R_drew)); exact HO176.out), (by (with_reducible repeat (first | refine blk_drewN ?_ _ | refine blk_drew ?_ | refine blk_alloc ?_ _)); exact BK161.out), (by (with_reducible repeat (first | refine blk_drewN ?_ _ | refine blk_drew ?_ | refine blk_alloc ?_ _)); exact BK162.out), (by (with_reducible repeat (first | refine blk_drewN ?_ _ | refine blk_drew ?_ | refine blk_alloc ?_ _)); exact BK177.out), GW177.out, GE177.out, NB161_177.out, NB177_161.out, NB162_177.out, NB177_162.out, (by repeat (first | (with_reducible first | exact HB.out | apply below_alloc | apply pw_below_drewN | apply below_drew1 | refine below_set ?_ GE161.out | refine below_set ?_ GE162.out | refine below_set ?_ GE177.out) | exact HB.out))⟩)
                      · skip
                        refine box_step ?hg (N := 14) ?hd (cs := #[.slice none 0 0, .int .i64 0, .int .i64 0]) (t := 26) ?hr ?_; (case hd => rfl); (case hg => rfl); (case hr => first | (go_simp; done) | (go_simp; rfl))
                        intro gb177 hg w51 hbox hb
                        have n0_ := Aside0.mk (blk_below (g := gb161) (o := .cells #[.slice A1_0 l1_0.length c1_0, .int .i64 a1_1, .int .i64 a1_2] 26 (0, 0)) (by (with_reducible repeat (first | refine blk_drewN ?_ _ | refine blk_drew ?_ | refine blk_alloc ?_ _)); exact BK161.out) hb)
                        have n1_ := Aside0.mk (blk_below (g := gb162) (o := .cells #[.slice none 0 0, .int .i64 x163001_2, .int .i64 x163002_2] 26 (0, 0)) (by (with_reducible repeat (first | refine blk_drewN ?_ _ | refine blk_drew ?_ | refine blk_alloc ?_ _)); exact BK162.out) hb)
                        have n2_ := Aside0.mk (below_step (by repeat (first | (with_reducible first | exact HB.out | apply below_alloc | apply pw_below_drewN | apply below_drew1 | refine below_set ?_ GE161.out | refine below_set ?_ GE162.out) | exact HB.out)) hb)
                        have n3_ := Aside0.mk (hbox)
                        have n4_ := Aside0.mk ((by rw [hg]; exact (below_size (by repeat (first | (with_reducible first | exact HB.out | apply below_alloc | apply pw_below_drewN | apply below_drew1 | refine below_set ?_ GE161.out | refine below_set ?_ GE162.out) | exact HB.out))) : w.heap.size ≤ gb177))
                        have n5_ := Aside0.mk ((by rw [hg]; exact (below_size (by repeat (first | (with_reducible first | exact HB.out | apply below_alloc | apply pw_below_drewN | apply below_drew1 | refine below_set ?_ GE161.out | refine below_set ?_ GE162.out) | exact HB.out))) : w.heap.size ≤ gb177))
                        have n6_ := Aside0.mk ((by rw [hg]; exact Nat.ne_of_lt (blk_lt (g := gb161) (o := .cells #[.slice A1_0 l1_0.length c1_0, .int .i64 a1_1, .int .i64 a1_2] 26 (0, 0)) (by (with_reducible repeat (first | refine blk_drewN ?_ _ | refine blk_drew ?_ | refine blk_alloc ?_ _)); exact BK161.out)) : gb161 ≠ gb177))
                        have n7_ := Aside0.mk ((by rw [hg]; exact Nat.ne_of_gt (blk_lt (g := gb161) (o := .cells #[.slice A1_0 l1_0.length c1_0, .int .i64 a1_1, .int .i64 a1_2] 26 (0, 0)) (by (with_reducible repeat (first | refine blk_drewN ?_ _ | refine blk_drew ?_ | refine blk_alloc ?_ _)); exact BK161.out)) : gb177 ≠ gb161))
                        have n8_ := Aside0.mk ((by rw [hg]; exact Nat.ne_of_lt (blk_lt (g := gb162) (o := .cells #[.slice none 0 0, .int .i64 x163001_2, .int .i64 x163002_2] 26 (0, 0)) (by (with_reducible repeat (first | refine blk_drewN ?_ _ | refine blk_drew ?_ | refine blk_alloc ?_ _)); exact BK162.out)) : gb162 ≠ gb177))
                        have n9_ := Aside0.mk ((by rw [hg]; exact Nat.ne_of_gt (blk_lt (g := gb162) (o := .cells #[.slice none 0 0, .int .i64 x163001_2, .int .i64 x163002_2] 26 (0, 0)) (by (with_reducible repeat (first | refine blk_drewN ?_ _ | refine blk_drew ?_ | refine blk_alloc ?_ _)); exact BK162.out)) : gb177 ≠ gb162))
                        clear BK161
                        clear BK162
                        clear HB
                        have BK161 := n0_
                        have BK162 := n1_
                        have HB := n2_
                        have BK177 := n3_
                        have GW177 := n4_
                        have GE177 := n5_
                        have NB161_177 := n6_
                        have NB177_161 := n7_
                        have NB162_177 := n8_
                        have NB177_162 := n9_
                        clear n0_ n1_ n2_ n3_ n4_ n5_ n6_ n7_ n8_ n9_
                        clear hb hbox hg
                        refine hK.out _ _ ⟨(blk_cell BK161.out 0).trans rfl, (blk_cell BK161.out 1).trans rfl, (blk_cell BK161.out 2).trans rfl⟩ (fun hHeld => ?_)
                        clear hK K
                        refine norm_ (a' := ?_) ?_ ?_
                        rotate_left
                        · show Act.put _ (some 14) _ = _
                          simp only [Act.put, List.setIfInBounds_toArray, List.set_cons_zero, List.set_cons_succ, i64_w, i32_w]
                          rfl
                        refine one_ (i := 2) (N := some 102) #[true, true, true, true, true, true, true, true, true, false, true, false] rfl rfl (one_of HT_.out (by kernel_rfl)) (by decide) (fun K hK => ?_)
                        refine goes_ Try.func48 (by kernel_rfl) rfl #[.slice A1_0 l1_0.length c1_0] (by rfl) rfl rfl (by (try simp only [List.map_toArray, List.map_cons, List.map_nil]); first | done | rfl | (simp only [List.length_drop, List.length_take]; rfl)) ?_
                        with_reducible refine (slices_Clone_int64_int64.calls _ _ l1_0 t174 _ ?side1 ?side2 A49.out).mono ?_
                        (case side1 => repeat (first | exact (Kd.C_below HR1_0.out HB.out) | (with_reducible refine Kd.C_alloc ?_ _) | (with_reducible refine Kd.C_drewN ?_ _) | (with_reducible refine Kd.C_drew ?_)))
                        (case side2 => exact HC1_0.out)
                        rintro e w52 ⟨v175, rfl, ho0, hb⟩
                        refine ⟨_, rfl, ?_⟩
                        have n0_ := Aside0.mk (Kd.R_lower ho0 (below_size (by repeat (first | (with_reducible first | exact HB.out | apply below_alloc | apply pw_below_drewN | apply below_drew1 | refine below_set ?_ GE161.out | refine below_set ?_ GE162.out | refine below_set ?_ GE177.out) | exact HB.out))))
                        have n1_ := Aside0.mk (blk_below (g := gb161) (o := .cells #[.slice A1_0 l1_0.length c1_0, .int .i64 a1_1, .int .i64 a1_2] 26 (0, 0)) (by (with_reducible repeat (first | refine blk_drewN ?_ _ | refine blk_drew ?_ | refine blk_alloc ?_ _)); exact BK161.out) hb)
                        have n2_ := Aside0.mk (blk_below (g := gb162) (o := .cells #[.slice none 0 0, .int .i64 x163001_2, .int .i64 x163002_2] 26 (0, 0)) (by (with_reducible repeat (first | refine blk_drewN ?_ _ | refine blk_drew ?_ | refine blk_alloc ?_ _)); exact BK162.out) hb)
                        have n3_ := Aside0.mk (blk_below (g := gb177) (o := .cells #[.slice none 0 0, .int .i64 0, .int .i64 0] 26 (0, 0)) (by (with_reducible repeat (first | refine blk_drewN ?_ _ | refine blk_drew ?_ | refine blk_alloc ?_ _)); exact BK177.out) hb)
                        have n4_ := Aside0.mk (below_step (by repeat (first | (with_reducible first | exact HB.out | apply below_alloc | apply pw_below_drewN | apply below_drew1 | refine below_set ?_ GE161.out | refine below_set ?_ GE162.out | refine below_set ?_ GE177.out) | exact HB.out)) hb)
                        clear BK161
                        clear BK162
                        clear BK177
                        clear HB
                        have HO176 := n0_
                        have BK161 := n1_
                        have BK162 := n2_
                        have BK177 := n3_
                        have HB := n4_
                        clear n0_ n1_ n2_ n3_ n4_
                        (try clear hb)
                        (try clear hb2)
                        (try clear hk)
                        (try clear hi)
                        (try clear ho0)
                        obtain ⟨Ao53, co53, eo53⟩ := Kd.R_slice HO176.out
                        (first | subst eo53 | (injection eo53 with f1_ f2_ f3_; have f4_ := f1_.symm; have f5_ := f3_.symm; clear f1_ f2_ f3_; subst f4_; subst f5_))
                        refine hK.out _ _ ⟨(blk_cell BK161.out 0).trans rfl, (blk_cell BK161.out 1).trans rfl, (blk_cell BK161.out 2).trans rfl⟩ (fun hHeld => ?_)
                        clear hK K
                        refine norm_ (a' := ?_) ?_ ?_
                        rotate_left
                        · show Act.put _ (some 102) _ = _
                          simp only [Act.put, List.setIfInBounds_toArray, List.set_cons_zero, List.set_cons_succ, i64_w, i32_w]
                          rfl
                        refine pure_ (i := 9) (N := some 109) (v := ?_) (a' := ?_) #[true, true, true, true, true, true, true, true, true, true, true, false] rfl rfl (any_of HT_.out (by kernel_rfl)) (fun _ _ _ h => h) (Or.inl ⟨by rfl, ?_⟩) ?_ ?_
                        rotate_left
                        · intro w'
                          go_simp
                          with_reducible rfl
                        rotate_left
                        · simp only [Act.put, List.setIfInBounds_toArray, List.set_cons_zero, List.set_cons_succ, i64_w, i32_w]
                          rfl
                        exact norm_ (by simp only [putAll, Act.put, List.setIfInBounds_toArray, List.set_cons_zero, List.set_cons_succ]) (hCont (.slice Ao53 t174.length co53, gb177) _ ⟨hHeld, (by (with_reducible repeat (first | apply Kd.R_alloc | apply Kd.R_drewN | apply Kd.R_drew)); exact HO176.out), (by (with_reducible repeat (first | refine blk_drewN ?_ _ | refine blk_drew ?_ | refine blk_alloc ?_ _)); exact BK161.out), (by (with_reducible repeat (first | refine blk_drewN ?_ _ | refine blk_drew ?_ | refine blk_alloc ?_ _)); exact BK162.out), (by (with_reducible repeat (first | refine blk_drewN ?_ _ | refine blk_drew ?_ | refine blk_alloc ?_ _)); exact BK177.out), GW177.out, GE177.out, NB161_177.out, NB177_161.out, NB162_177.out, NB177_162.out, (by repeat (first | (with_reducible first | exact HB.out | apply below_alloc | apply pw_below_drewN | apply below_drew1 | refine below_set ?_ GE161.out | refine below_set ?_ GE162.out | refine below_set ?_ GE177.out) | exact HB.out))⟩)
                    rintro ⟨v175, gb177⟩ w54 ⟨hS_, h0_, h1_, h2_, h3_, h4_, h5_, h6_, h7_, h8_, h9_, h10_⟩
                    have n0_ : Aside0 (Kd.R (Kd.int .i64) 2 w54 w.heap.size (fun _ => True) v175 t174) := ⟨h0_⟩
                    have n1_ : Aside0 (w54.heap[gb161]? = some (.cells #[.slice A1_0 l1_0.length c1_0, .int .i64 a1_1, .int .i64 a1_2] 26 (0, 0))) := ⟨h1_⟩
                    have n2_ : Aside0 (w54.heap[gb162]? = some (.cells #[.slice none 0 0, .int .i64 x163001_2, .int .i64 x163002_2] 26 (0, 0))) := ⟨h2_⟩
                    have n3_ : Aside0 (w54.heap[gb177]? = some (.cells #[.slice none 0 0, .int .i64 0, .int .i64 0] 26 (0, 0))) := ⟨h3_⟩
                    have n4_ : Aside0 (w.heap.size ≤ gb177) := ⟨h4_⟩
                    have n5_ : Aside0 (w.heap.size ≤ gb177) := ⟨h5_⟩
                    have n6_ : Aside0 (gb161 ≠ gb177) := ⟨h6_⟩
                    have n7_ : Aside0 (gb177 ≠ gb161) := ⟨h7_⟩
                    have n8_ : Aside0 (gb162 ≠ gb177) := ⟨h8_⟩
                    have n9_ : Aside0 (gb177 ≠ gb162) := ⟨h9_⟩
                    have n10_ : Aside0 (Below w.heap.size w w54) := ⟨h10_⟩
                    clear BK161
                    clear BK162
                    clear HB
                    clear h0_ h1_ h2_ h3_ h4_ h5_ h6_ h7_ h8_ h9_ h10_
                    have HO176 := n0_
                    have BK161 := n1_
                    have BK162 := n2_
                    have BK177 := n3_
                    have GW177 := n4_
                    have GE177 := n5_
                    have NB161_177 := n6_
                    have NB177_161 := n7_
                    have NB162_177 := n8_
                    have NB177_162 := n9_
                    have HB := n10_
                    clear n0_ n1_ n2_ n3_ n4_ n5_ n6_ n7_ n8_ n9_ n10_
                    have hHeld : w54.cell? ⟨gb161, 0, none⟩ = some (.slice A1_0 l1_0.length c1_0) ∧ w54.cell? ⟨gb161, 1, none⟩ = some (.int .i64 a1_1) ∧ w54.cell? ⟨gb161, 2, none⟩ = some (.int .i64 a1_2) := hS_
                    obtain ⟨Ao55, co55, eo55⟩ := Kd.R_slice HO176.out
                    (first | subst eo55 | (injection eo55 with f1_ f2_ f3_; have f4_ := f1_.symm; have f5_ := f3_.symm; clear f1_ f2_ f3_; subst f4_; subst f5_))
                    refine norm_ (a' := ?_) ?_ ?_
                    rotate_left
                    · simp only [putAll, Act.put, List.setIfInBounds_toArray, List.set_cons_zero, List.set_cons_succ]
                      rfl
                    refine one_ (i := 11) (N := none) #[true, true, true, true, true, true, true, true, true, true, true, true] rfl rfl (one_of HT_.out (by kernel_rfl)) (by decide) (fun K hK => ?_)
                    have hs56 : w54.cell? ⟨gb177, 0, none⟩ = some (.slice none 0 0) := (blk_cell BK177.out 0).trans rfl
                    have hfs56 := blk_frozen BK177.out 0
                    have hns56_0 := NB161_177.out
                    have hns56_1 := NB162_177.out
                    have hms56_0 := NB177_161.out
                    have hms56_1 := NB177_162.out
                    have hs57 : w54.cell? ⟨gb177, 1, none⟩ = some (.int .i64 0) := (blk_cell BK177.out 1).trans rfl
                    have hfs57 := blk_frozen BK177.out 1
                    have hns57_0 := NB161_177.out
                    have hns57_1 := NB162_177.out
                    have hms57_0 := NB177_161.out
                    have hms57_1 := NB177_162.out
                    have hs58 : w54.cell? ⟨gb177, 2, none⟩ = some (.int .i64 0) := (blk_cell BK177.out 2).trans rfl
                    have hfs58 := blk_frozen BK177.out 2
                    have hns58_0 := NB161_177.out
                    have hns58_1 := NB162_177.out
                    have hms58_0 := NB177_161.out
                    have hms58_1 := NB177_162.out
                    refine skip_ (w1 := ?_) (by rfl) rfl ?_ ?_
                    rotate_left
                    · go_simp
                      rfl
                    refine hK.out _ _ ⟨((cell_far (p := ⟨gb177, _, none⟩) NB161_177.out _).trans (((cell_far (p := ⟨gb177, _, none⟩) NB161_177.out _).trans (((cell_far (p := ⟨gb177, _, none⟩) NB161_177.out _).trans (hHeld.1)))))), ((cell_far (p := ⟨gb177, _, none⟩) NB161_177.out _).trans (((cell_far (p := ⟨gb177, _, none⟩) NB161_177.out _).trans (((cell_far (p := ⟨gb177, _, none⟩) NB161_177.out _).trans (hHeld.2.1)))))), ((cell_far (p := ⟨gb177, _, none⟩) NB161_177.out _).trans (((cell_far (p := ⟨gb177, _, none⟩) NB161_177.out _).trans (((cell_far (p := ⟨gb177, _, none⟩) NB161_177.out _).trans (hHeld.2.2))))))⟩ (fun hHeld => ?_)
                    clear hK K
                    refine done_ (done_of HT_.out (by kernel_rfl)) ?_
                    try go_wp2
                    go_loopg [112] kj39 (fun kq v112 w' => ∃ (x112_4 : Int) (x178000_4 : List Int) (u178000 : Value), v112 = .int .i64 x112_4 ∧ Aside0 (impl_FlowStep.l1 kq l0 l2 (l2.length : Int) x112_4 x178000_4 a1_1 (wrap64 (a1_2 + x11_2)) = some (r1, r2, r3, r4)) ∧ Aside0 (kq ≤ kj39) ∧ Aside0 (Kd.R (Kd.int .i64) 2 w' w.heap.size (fun _ => True) u178000 x178000_4) ∧ Aside0 (w'.heap[gb161]? = some (.cells #[(.slice A1_0 l1_0.length c1_0), .int .i64 a1_1, .int .i64 a1_2] 26 (0, 0))) ∧ Aside0 (w'.heap[gb162]? = some (.cells #[(.slice none 0 0), .int .i64 x163001_2, .int .i64 x163002_2] 26 (0, 0))) ∧ Aside0 (w'.heap[gb177]? = some (.cells #[u178000, .int .i64 a1_1, .int .i64 (wrap64 (a1_2 + x11_2))] 26 (0, 0))) ∧ Aside0 (Below w.heap.size w w'))
                    case atStart => exact ⟨(0), (t174), (.slice Ao55 t174.length co55), (by first | rfl | (simp; done) | (simp [*]; done)), H', ⟨Nat.le_refl _⟩, ⟨by (with_reducible repeat (first | apply Kd.R_alloc | apply Kd.R_drewN | apply Kd.R_drew)); exact Kd.R_mono (Kd.R_far (p := ⟨gb177, 2, none⟩) (Kd.R_far (p := ⟨gb177, 1, none⟩) (Kd.R_far (p := ⟨gb177, 0, none⟩) (Kd.R_types HO176.out BK177.out (by decide)) (fun _ hk => hk.2) (.slice Ao55 t174.length co55)) (fun _ hk => hk.2) (.int .i64 a1_1)) (fun _ hk => hk.2) (.int .i64 (wrap64 (a1_2 + x11_2)))) (fun _ hk => trivial)⟩, ⟨by (with_reducible repeat (first | refine blk_drewN ?_ _ | refine blk_drew ?_ | refine blk_alloc ?_ _)); refine blk_far ?_ NB161_177.out _; (with_reducible repeat (first | refine blk_drewN ?_ _ | refine blk_drew ?_ | refine blk_alloc ?_ _)); refine blk_far ?_ NB161_177.out _; (with_reducible repeat (first | refine blk_drewN ?_ _ | refine blk_drew ?_ | refine blk_alloc ?_ _)); refine blk_far ?_ NB161_177.out _; (with_reducible repeat (first | refine blk_drewN ?_ _ | refine blk_drew ?_ | refine blk_alloc ?_ _)); exact BK161.out⟩, ⟨by (with_reducible repeat (first | refine blk_drewN ?_ _ | refine blk_drew ?_ | refine blk_alloc ?_ _)); refine blk_far ?_ NB162_177.out _; (with_reducible repeat (first | refine blk_drewN ?_ _ | refine blk_drew ?_ | refine blk_alloc ?_ _)); refine blk_far ?_ NB162_177.out _; (with_reducible repeat (first | refine blk_drewN ?_ _ | refine blk_drew ?_ | refine blk_alloc ?_ _)); refine blk_far ?_ NB162_177.out _; (with_reducible repeat (first | refine blk_drewN ?_ _ | refine blk_drew ?_ | refine blk_alloc ?_ _)); exact BK162.out⟩, ⟨by (with_reducible repeat (first | refine blk_drewN ?_ _ | refine blk_drew ?_ | refine blk_alloc ?_ _)); refine blk_put (cs := #[.slice Ao55 t174.length co55, .int .i64 a1_1, .int .i64 0]) ?_ 2 _ rfl; (with_reducible repeat (first | refine blk_drewN ?_ _ | refine blk_drew ?_ | refine blk_alloc ?_ _)); refine blk_put (cs := #[.slice Ao55 t174.length co55, .int .i64 0, .int .i64 0]) ?_ 1 _ rfl; (with_reducible repeat (first | refine blk_drewN ?_ _ | refine blk_drew ?_ | refine blk_alloc ?_ _)); refine blk_put (cs := #[.slice none 0 0, .int .i64 0, .int .i64 0]) ?_ 0 _ rfl; (with_reducible repeat (first | refine blk_drewN ?_ _ | refine blk_drew ?_ | refine blk_alloc ?_ _)); exact BK177.out⟩, ⟨by repeat (first | (with_reducible first | exact HB.out | apply below_alloc | apply pw_below_drewN | apply below_drew1 | refine below_set ?_ GE161.out | refine below_set ?_ GE162.out | refine below_set ?_ GE177.out) | exact HB.out)⟩⟩
                    case round =>
                      clear H'
                      try clear c1
                      try clear p1
                      try clear q1
                      try clear hx1
                      try clear c2
                      try clear p2
                      try clear c3
                      try clear c4
                      try clear p6
                      try clear c9
                      try clear c10
                      try clear c10b0
                      try clear c10b1
                      try clear c10b2
                      try clear c11
                      try clear c11b0
                      try clear c11b1
                      try clear c11b2
                      try clear c13
                      try clear c15
                      try clear p16
                      try clear q16
                      try clear hx16
                      try clear c17
                      try clear p17
                      try clear q17
                      try clear hx17
                      try clear c19
                      try clear c21
                      try clear c23
                      try clear c24
                      try clear c26
                      try clear c28
                      try clear c28b0
                      try clear c29
                      try clear c29b0
                      try clear c30
                      try clear c30b0
                      try clear c32
                      try clear c33
                      try clear c33b0
                      try clear c35
                      try clear c36
                      try clear c38
                      try clear c41
                      try clear c41b0
                      try clear c42
                      try clear c44
                      try clear c46
                      try clear c47
                      try clear c48
                      try clear hcz16_0
                      try clear hcz16_1
                      try clear hcz16_2
                      try clear hcz18_0
                      try clear hcz18_1
                      try clear hcz18_2
                      try clear hcz20_0
                      try clear hcz20_1
                      try clear hcz20_2
                      try clear hcz22_0
                      try clear hcz22_1
                      try clear hcz22_2
                      try clear hcz25_0
                      try clear hcz25_1
                      try clear hcz25_2
                      try clear hcz27_0
                      try clear hcz27_1
                      try clear hcz27_2
                      try clear hcz37_0
                      try clear hcz37_1
                      try clear hcz37_2
                      try clear hcz39_0
                      try clear hcz39_1
                      try clear hcz39_2
                      try clear hcz43_0
                      try clear hcz43_1
                      try clear hcz43_2
                      try clear hcz45_0
                      try clear hcz45_1
                      try clear hcz45_2
                      try clear hcz48_0
                      try clear hcz48_1
                      try clear hcz48_2
                      try clear hfz16_0
                      try clear hfz16_1
                      try clear hfz16_2
                      try clear hfz18_0
                      try clear hfz18_1
                      try clear hfz18_2
                      try clear hfz20_0
                      try clear hfz20_1
                      try clear hfz20_2
                      try clear hfz22_0
                      try clear hfz22_1
                      try clear hfz22_2
                      try clear hfz25_0
                      try clear hfz25_1
                      try clear hfz25_2
                      try clear hfz27_0
                      try clear hfz27_1
                      try clear hfz27_2
                      try clear hfz37_0
                      try clear hfz37_1
                      try clear hfz37_2
                      try clear hfz39_0
                      try clear hfz39_1
                      try clear hfz39_2
                      try clear hfz43_0
                      try clear hfz43_1
                      try clear hfz43_2
                      try clear hfz45_0
                      try clear hfz45_1
                      try clear hfz45_2
                      try clear hfz48_0
                      try clear hfz48_1
                      try clear hfz48_2
                      try clear hx169_0
                      try clear hx171_0
                      try clear hx173_0
                      try clear p1
                      try clear p16
                      try clear p169
                      try clear p17
                      try clear p171
                      try clear p173
                      try clear p2
                      try clear p6
                      try clear q1
                      try clear q16
                      try clear q169
                      try clear q17
                      try clear q171
                      try clear q173
                      obtain ⟨x112_4, x178000_4, u178000, rfl, HA, HK4, HO_178000, BK161, BK162, BK177, HB⟩ := hrel
                      cases gk with
                      | zero => exact absurd HA.out (by simp [impl_FlowStep.l1])
                      | succ k4 =>
                        have H := HA.out
                        clear HA
                        simp only [impl_FlowStep.l1] at H
                        by_cases c59 : x112_4 < (l2.length : Int)
                        · rw [if_pos c59] at H
                          have c59b0 : decide (x112_4 < (l2.length : Int)) = true := decide_eq_true c59
                          clear c59
                          by_cases c60 : 0 ≤ x112_4
                          · rw [if_pos c60] at H
                            have c60b0 : decide (0 ≤ x112_4) = true := decide_eq_true c60
                            clear c60
                            by_cases c61 : x112_4 < (l2.length : Int)
                            · rw [if_pos c61] at H
                              have c61b0 : decide (x112_4 < (l2.length : Int)) = true := decide_eq_true c61
                              clear c61
                              by_cases c62 : x112_4 < (x178000_4.length : Int)
                              · rw [if_pos c62] at H
                                have c62b0 : decide (x112_4 < (x178000_4.length : Int)) = true := decide_eq_true c62
                                clear c62
                                obtain ⟨y180, hy180⟩ : ∃ y_ : List Int, y_ = (x178000_4.set (x112_4 : Int).toNat (wrap64 ((rd x178000_4 x112_4) + (rd l2 x112_4)))) := ⟨_, rfl⟩
                                replace H : (impl_FlowStep.l1 k4 l0 l2 (l2.length : Int) (wrap64 (x112_4 + 1)) y180 a1_1 (wrap64 (a1_2 + x11_2))) = some (r1, r2, r3, r4) := by first | (rw [hy180]; with_reducible exact H) | (have H2_ := (Option.bind_some _ _).symm.trans H; rw [hy180]; with_reducible exact H2_) | (have H2_ := (Option.bind_some _ _).symm.trans H; with_reducible exact H2_) | with_reducible exact H | (rw [hy180]; exact H) | exact H
                                have Ny180 := Aside0.mk hy180
                                clear hy180
                                have H' := Aside0.mk H
                                clear H
                                have p178 : 0 ≤ (x112_4 : Int) := of_decide_eq_true (by first | (with_reducible assumption) | assumption)
                                have q178 : x112_4 < (l2.length : Int) := of_decide_eq_true (by first | (with_reducible assumption) | assumption)
                                obtain ⟨ad178, e178, hx178_0⟩ := Kd.at_int HR2.out x112_4 p178 q178
                                cases e178
                                replace hx178_0 := (HB.out.cell (World.block_lt_of_cell? w _ hx178_0)).trans hx178_0
                                replace p178 := eq_true p178
                                replace q178 := eq_true q178
                                have hnb64 := NB177_161.out
                                have hnc64 := NB161_177.out
                                have hnb65 := NB177_162.out
                                have hnc65 := NB162_177.out
                                have hcz66_0 : wr.cell? ⟨gb177, 0, none⟩ = some (u178000) := (blk_cell BK177.out 0).trans rfl
                                have hcz66_1 : wr.cell? ⟨gb177, 1, none⟩ = some (.int .i64 a1_1) := (blk_cell BK177.out 1).trans rfl
                                have hcz66_2 : wr.cell? ⟨gb177, 2, none⟩ = some (.int .i64 (wrap64 (a1_2 + x11_2))) := (blk_cell BK177.out 2).trans rfl
                                have hfz66_0 := blk_frozen BK177.out 0
                                have hfz66_1 := blk_frozen BK177.out 1
                                have hfz66_2 := blk_frozen BK177.out 2
                                obtain ⟨Ao67, co67, eo67⟩ := Kd.R_slice HO_178000.out
                                subst eo67
                                have p179 : 0 ≤ (x112_4 : Int) := of_decide_eq_true (by first | (with_reducible assumption) | assumption)
                                have q179 : x112_4 < (x178000_4.length : Int) := of_decide_eq_true (by first | (with_reducible assumption) | assumption)
                                obtain ⟨ad179, e179, hx179_0⟩ := Kd.at_int (Kd.R_reads' HO_178000.out).2.2 x112_4 p179 q179
                                cases e179
                                replace p179 := eq_true p179
                                replace q179 := eq_true q179
                                have p63 : 0 ≤ (x112_4 : Int) := of_decide_eq_true (by first | (with_reducible assumption) | assumption)
                                have q63 : (x112_4 : Int) < ((x178000_4.length : Int) : Int) := of_decide_eq_true (by first | (with_reducible assumption) | assumption)
                                obtain ⟨go63, co63, eo63, gb63, gl63, cl63, HG63⟩ := Kd.R_form HO_178000.out (by omega)
                                (first | cases eo63 | (injection eo63 with ea_ en_ ec_; (first | subst ea_ | (injection ea_ with ea_; subst ea_)); subst ec_; clear en_))
                                have GB63 := Aside0.mk gb63
                                have GG63 := Aside0.mk HG63
                                clear gb63 gl63 HG63
                                (first | simp only [add_plain] at hx179_0 | skip)
                                obtain ⟨hx63_0, hf63_0⟩ := Kd.R_celln 0 HO_178000.out (x112_4 : Int) p63 q63
                                replace p63 := eq_true p63
                                replace q63 := eq_true q63
                                have HP68 := Kd.R_putg HO_178000.out (x112_4 : Int) (wrap64 ((rd x178000_4 x112_4) + (rd l2 x112_4)))
                                go_wp2_with (first | ((with_reducible refine gate_store (t := 2) (p := 124) rfl ?_); refine store_event (t := 2) (p := 124) (v := ?vo_w69) (w1 := (wr.setCell ⟨go63, (x112_4 : Int).toNat, none⟩ (.int .i64 (wrap64 ((rd x178000_4 x112_4) + (rd l2 x112_4)))))) ?hg ?ho ?hn ?hr ?_; (case ho => rfl); (case hg => rfl); (case hn => rfl); (case hr => first | (go_simp; done) | (go_simp; rfl)); intro w69 hw; have hg : wr.grownBy w69 (some go63) := (by rw [hw]; exact HP68.2); have hp_ : Kd.R (Kd.int .i64) 2 w69 w.heap.size (fun _ => True) (.slice (some ⟨go63, 0, none⟩) x178000_4.length co67) y180 := (by rw [hw, Ny180.out]; exact HP68.1); clear HP68; have n0_ := Aside0.mk (hp_); have n1_ := Aside0.mk (blk_grown (g := gb161) (o := .cells #[.slice A1_0 l1_0.length c1_0, .int .i64 a1_1, .int .i64 a1_2] 26 (0, 0)) (by (with_reducible repeat (first | refine blk_drewN ?_ _ | refine blk_drew ?_ | refine blk_alloc ?_ _)); exact BK161.out) hg (Kd.R_ne HO_178000.out BK161.out (by decide))); have n2_ := Aside0.mk (blk_grown (g := gb162) (o := .cells #[.slice none 0 0, .int .i64 x163001_2, .int .i64 x163002_2] 26 (0, 0)) (by (with_reducible repeat (first | refine blk_drewN ?_ _ | refine blk_drew ?_ | refine blk_alloc ?_ _)); exact BK162.out) hg (Kd.R_ne HO_178000.out BK162.out (by decide))); have n3_ := Aside0.mk (blk_grown (g := gb177) (o := .cells #[.slice (some ⟨go63, 0, none⟩) x178000_4.length co67, .int .i64 a1_1, .int .i64 (wrap64 (a1_2 + x11_2))] 26 (0, 0)) (by (with_reducible repeat (first | refine blk_drewN ?_ _ | refine blk_drew ?_ | refine blk_alloc ?_ _)); exact BK177.out) hg (Kd.R_ne HO_178000.out BK177.out (by decide))); have n4_ := Aside0.mk ((by rw [hw]; exact below_set (HB.out) GB63.out : Below w.heap.size w w69)); clear HO_178000; clear BK161; clear BK162; clear BK177; clear HB; have HO_178000 := n0_; have BK161 := n1_; have BK162 := n2_; have BK177 := n3_; have HB := n4_; clear n0_ n1_ n2_ n3_ n4_; clear hg hw hp_))
                                go_roundg k4
                                case measure => have := HJ4.out; have := HK2.out; have := HJ39.out; have := HK4.out; omega
                                case rel => exact ⟨(wrap64 (x112_4 + 1)), (y180), (.slice (some ⟨go63, 0, none⟩) x178000_4.length co67), (by first | rfl | (simp; done) | (simp [*]; done)), H', ⟨by have := HJ4.out; have := HK2.out; have := HJ39.out; have := HK4.out; omega⟩, ⟨by (with_reducible repeat (first | apply Kd.R_alloc | apply Kd.R_drewN | apply Kd.R_drew)); exact HO_178000.out⟩, ⟨by (with_reducible repeat (first | refine blk_drewN ?_ _ | refine blk_drew ?_ | refine blk_alloc ?_ _)); exact BK161.out⟩, ⟨by (with_reducible repeat (first | refine blk_drewN ?_ _ | refine blk_drew ?_ | refine blk_alloc ?_ _)); exact BK162.out⟩, ⟨by (with_reducible repeat (first | refine blk_drewN ?_ _ | refine blk_drew ?_ | refine blk_alloc ?_ _)); exact BK177.out⟩, ⟨by repeat (first | (with_reducible first | exact HB.out | apply below_alloc | apply pw_below_drewN | apply below_drew1 | refine below_set ?_ GE161.out | refine below_set ?_ GE162.out | refine below_set ?_ GE177.out) | exact HB.out)⟩⟩
                              · rw [if_neg c62] at H
                                exact absurd H (by simp)
                            · rw [if_neg c61] at H
                              exact absurd H (by simp)
                          · rw [if_neg c60] at H
                            exact absurd H (by simp)
                        · rw [if_neg c59] at H
                          have c59b0 : decide (x112_4 < (l2.length : Int)) = false := decide_eq_false c59
                          clear c59
                          replace H := Option.bind_eq_some_iff.mp H
                          obtain ⟨t181, A700, H⟩ := H
                          replace H : (impl_FlowStep.l2 k4 l0 t181 (t181.length : Int) 0 x178000_4 a1_1 (wrap64 (a1_2 + x11_2))) = some (r1, r2, r3, r4) := H
                          have A70 := Aside0.mk A700
                          clear A700
                          have H' := Aside0.mk H
                          clear H
                          have hnb71 := NB177_161.out
                          have hnc71 := NB161_177.out
                          have hnb72 := NB177_162.out
                          have hnc72 := NB162_177.out
                          have hcz73_0 : wr.cell? ⟨gb177, 0, none⟩ = some (u178000) := (blk_cell BK177.out 0).trans rfl
                          have hcz73_1 : wr.cell? ⟨gb177, 1, none⟩ = some (.int .i64 a1_1) := (blk_cell BK177.out 1).trans rfl
                          have hcz73_2 : wr.cell? ⟨gb177, 2, none⟩ = some (.int .i64 (wrap64 (a1_2 + x11_2))) := (blk_cell BK177.out 2).trans rfl
                          have hfz73_0 := blk_frozen BK177.out 0
                          have hfz73_1 := blk_frozen BK177.out 1
                          have hfz73_2 := blk_frozen BK177.out 2
                          obtain ⟨Ao74, co74, eo74⟩ := Kd.R_slice HO_178000.out
                          subst eo74
                          go_wp2_with (first | ((with_reducible refine gate_callee (f := 48) rfl ?_); refine goesL_ (some 128) rfl rfl Try.func48 (by kernel_rfl) rfl #[.slice Ao74 x178000_4.length co74] rfl (by (try simp only [List.map_toArray, List.map_cons, List.map_nil]); first | done | rfl | (simp only [List.length_drop, List.length_take]; rfl)) ?_; (with_reducible refine (slices_Clone_int64_int64.calls _ _ x178000_4 t181 _ ?side1 ?side2 A70.out).mono ?_); (case side1 => repeat (first | exact (Kd.R_reads' HO_178000.out).2.2 | (with_reducible refine Kd.C_alloc ?_ _) | (with_reducible refine Kd.C_drewN ?_ _) | (with_reducible refine Kd.C_drew ?_))); (case side2 => exact (Kd.R_reads' HO_178000.out).2.1); rintro e w75 ⟨v182, rfl, ho0, hb⟩; refine ⟨_, rfl, ?_⟩; have n0_ := Aside0.mk (Kd.R_elder' (by (with_reducible repeat (first | apply Kd.R_alloc | apply Kd.R_drewN | apply Kd.R_drew)); exact HO_178000.out) (Kd.R_base ho0) hb); have n1_ := Aside0.mk (Kd.R_lower (Kd.R_new' ho0 (Kd.R_lt (by (with_reducible repeat (first | apply Kd.R_alloc | apply Kd.R_drewN | apply Kd.R_drew)); exact HO_178000.out))) (below_size (by repeat (first | (with_reducible first | exact HB.out | apply below_alloc | apply pw_below_drewN | apply below_drew1 | refine below_set ?_ GE161.out | refine below_set ?_ GE162.out | refine below_set ?_ GE177.out) | exact HB.out)))); have n2_ := Aside0.mk (blk_below (g := gb161) (o := .cells #[.slice A1_0 l1_0.length c1_0, .int .i64 a1_1, .int .i64 a1_2] 26 (0, 0)) (by (with_reducible repeat (first | refine blk_drewN ?_ _ | refine blk_drew ?_ | refine blk_alloc ?_ _)); exact BK161.out) hb); have n3_ := Aside0.mk (blk_below (g := gb162) (o := .cells #[.slice none 0 0, .int .i64 x163001_2, .int .i64 x163002_2] 26 (0, 0)) (by (with_reducible repeat (first | refine blk_drewN ?_ _ | refine blk_drew ?_ | refine blk_alloc ?_ _)); exact BK162.out) hb); have n4_ := Aside0.mk (blk_below (g := gb177) (o := .cells #[.slice Ao74 x178000_4.length co74, .int .i64 a1_1, .int .i64 (wrap64 (a1_2 + x11_2))] 26 (0, 0)) (by (with_reducible repeat (first | refine blk_drewN ?_ _ | refine blk_drew ?_ | refine blk_alloc ?_ _)); exact BK177.out) hb); have n5_ := Aside0.mk (below_step (by repeat (first | (with_reducible first | exact HB.out | apply below_alloc | apply pw_below_drewN | apply below_drew1 | refine below_set ?_ GE161.out | refine below_set ?_ GE162.out | refine below_set ?_ GE177.out) | exact HB.out)) hb); clear HO_178000; clear BK161; clear BK162; clear BK177; clear HB; have HO_178000 := n0_; have HO183 := n1_; have BK161 := n2_; have BK162 := n3_; have BK177 := n4_; have HB := n5_; clear n0_ n1_ n2_ n3_ n4_ n5_; (try clear hb); (try clear hb2); (try clear hk); (try clear hi); (try clear ho0); obtain ⟨Ao76, co76, eo76⟩ := Kd.R_slice HO183.out; subst eo76))
                          go_loopg [131] k4 (fun kq v131 w' => ∃ (x129_5 : List Int) (x131_5 : Int) (x178000_5 : List Int) (x178001_5 : Int) (u178000 : Value), v131 = .int .i64 x131_5 ∧ Aside0 (impl_FlowStep.l2 kq l0 x129_5 (t181.length : Int) x131_5 x178000_5 x178001_5 (wrap64 (a1_2 + x11_2)) = some (r1, r2, r3, r4)) ∧ Aside0 (kq ≤ k4) ∧ Aside0 (Kd.R (Kd.int .i64) 2 w' w.heap.size (fun k_ => some k_ ≠ (u178000 : Value).ownBlock) (.slice Ao76 t181.length co76) x129_5) ∧ Aside0 (Kd.R (Kd.int .i64) 2 w' w.heap.size (fun k_ => some k_ ≠ ((.slice Ao76 t181.length co76) : Value).ownBlock) u178000 x178000_5) ∧ Aside0 (w'.heap[gb161]? = some (.cells #[(.slice A1_0 l1_0.length c1_0), .int .i64 a1_1, .int .i64 a1_2] 26 (0, 0))) ∧ Aside0 (w'.heap[gb162]? = some (.cells #[(.slice none 0 0), .int .i64 x163001_2, .int .i64 x163002_2] 26 (0, 0))) ∧ Aside0 (w'.heap[gb177]? = some (.cells #[u178000, .int .i64 x178001_5, .int .i64 (wrap64 (a1_2 + x11_2))] 26 (0, 0))) ∧ Aside0 (Below w.heap.size w w'))
                          case atStart => exact ⟨(t181), (0), (x178000_4), (a1_1), (.slice Ao74 x178000_4.length co74), (by first | rfl | (simp; done) | (simp [*]; done)), H', ⟨Nat.le_refl _⟩, ⟨by (with_reducible repeat (first | apply Kd.R_alloc | apply Kd.R_drewN | apply Kd.R_drew)); exact Kd.R_mono HO183.out (fun _ hk => hk.2)⟩, ⟨by (with_reducible repeat (first | apply Kd.R_alloc | apply Kd.R_drewN | apply Kd.R_drew)); exact Kd.R_mono HO_178000.out (fun _ hk => hk.2)⟩, ⟨by (with_reducible repeat (first | refine blk_drewN ?_ _ | refine blk_drew ?_ | refine blk_alloc ?_ _)); exact BK161.out⟩, ⟨by (with_reducible repeat (first | refine blk_drewN ?_ _ | refine blk_drew ?_ | refine blk_alloc ?_ _)); exact BK162.out⟩, ⟨by (with_reducible repeat (first | refine blk_drewN ?_ _ | refine blk_drew ?_ | refine blk_alloc ?_ _)); exact BK177.out⟩, ⟨by repeat (first | (with_reducible first | exact HB.out | apply below_alloc | apply pw_below_drewN | apply below_drew1 | refine below_set ?_ GE161.out | refine below_set ?_ GE162.out | refine below_set ?_ GE177.out) | exact HB.out)⟩⟩
                          case round =>
                            clear H'
                            try clear c1
                            try clear p1
                            try clear q1
                            try clear hx1
                            try clear c2
                            try clear p2
                            try clear c3
                            try clear c4
                            try clear c5
                            try clear c6
                            try clear p6
                            try clear q6
                            try clear hx6
                            try clear hf6
                            try clear c7
                            try clear c9
                            try clear c10
                            try clear c10b0
                            try clear c10b1
                            try clear c10b2
                            try clear c11
                            try clear c11b0
                            try clear c11b1
                            try clear c11b2
                            try clear c13
                            try clear c15
                            try clear p16
                            try clear q16
                            try clear hx16
                            try clear c17
                            try clear p17
                            try clear q17
                            try clear hx17
                            try clear c19
                            try clear c21
                            try clear c23
                            try clear c24
                            try clear c26
                            try clear c28
                            try clear c28b0
                            try clear c29
                            try clear c29b0
                            try clear c30
                            try clear c30b0
                            try clear c32
                            try clear c33
                            try clear c33b0
                            try clear c35
                            try clear c36
                            try clear c38
                            try clear c41
                            try clear c41b0
                            try clear c42
                            try clear c44
                            try clear c46
                            try clear c47
                            try clear c48
                            try clear c59
                            try clear c59b0
                            try clear c60
                            try clear c60b0
                            try clear c61
                            try clear c61b0
                            try clear c62
                            try clear c62b0
                            try clear p63
                            try clear q63
                            try clear hx63
                            try clear hf63
                            try clear c64
                            try clear p64
                            try clear c65
                            try clear c71
                            try clear c72
                            try clear hcz16_0
                            try clear hcz16_1
                            try clear hcz16_2
                            try clear hcz18_0
                            try clear hcz18_1
                            try clear hcz18_2
                            try clear hcz20_0
                            try clear hcz20_1
                            try clear hcz20_2
                            try clear hcz22_0
                            try clear hcz22_1
                            try clear hcz22_2
                            try clear hcz25_0
                            try clear hcz25_1
                            try clear hcz25_2
                            try clear hcz27_0
                            try clear hcz27_1
                            try clear hcz27_2
                            try clear hcz37_0
                            try clear hcz37_1
                            try clear hcz37_2
                            try clear hcz39_0
                            try clear hcz39_1
                            try clear hcz39_2
                            try clear hcz43_0
                            try clear hcz43_1
                            try clear hcz43_2
                            try clear hcz45_0
                            try clear hcz45_1
                            try clear hcz45_2
                            try clear hcz48_0
                            try clear hcz48_1
                            try clear hcz48_2
                            try clear hcz66_0
                            try clear hcz66_1
                            try clear hcz66_2
                            try clear hcz73_0
                            try clear hcz73_1
                            try clear hcz73_2
                            try clear hfz16_0
                            try clear hfz16_1
                            try clear hfz16_2
                            try clear hfz18_0
                            try clear hfz18_1
                            try clear hfz18_2
                            try clear hfz20_0
                            try clear hfz20_1
                            try clear hfz20_2
                            try clear hfz22_0
                            try clear hfz22_1
                            try clear hfz22_2
                            try clear hfz25_0
                            try clear hfz25_1
                            try clear hfz25_2
                            try clear hfz27_0
                            try clear hfz27_1
                            try clear hfz27_2
                            try clear hfz37_0
                            try clear hfz37_1
                            try clear hfz37_2
                            try clear hfz39_0
                            try clear hfz39_1
                            try clear hfz39_2
                            try clear hfz43_0
                            try clear hfz43_1
                            try clear hfz43_2
                            try clear hfz45_0
                            try clear hfz45_1
                            try clear hfz45_2
                            try clear hfz48_0
                            try clear hfz48_1
                            try clear hfz48_2
                            try clear hfz66_0
                            try clear hfz66_1
                            try clear hfz66_2
                            try clear hfz73_0
                            try clear hfz73_1
                            try clear hfz73_2
                            try clear hx169_0
                            try clear hx171_0
                            try clear hx173_0
                            try clear hx178_0
                            try clear hx179_0
                            try clear hx63_0
                            try clear p1
                            try clear p16
                            try clear p169
                            try clear p17
                            try clear p171
                            try clear p173
                            try clear p178
                            try clear p179
                            try clear p2
                            try clear p6
                            try clear p63
                            try clear q1
                            try clear q16
                            try clear q169
                            try clear q17
                            try clear q171
                            try clear q173
                            try clear q178
                            try clear q179
                            try clear q63
                            obtain ⟨x129_5, x131_5, x178000_5, x178001_5, u178000, rfl, HA, HK5, HO_129, HO_178000, BK161, BK162, BK177, HB⟩ := hrel
                            have hl129_5 := (Kd.R_reads' HO_129.out).1
                            rw [hl129_5] at HO_129
                            (try simp only [hl129_5])
                            (try simp only [hl129_5] at BK161)
                            (try simp only [hl129_5] at BK162)
                            (try simp only [hl129_5] at BK177)
                            (try simp only [hl129_5] at HO_178000)
                            cases gk with
                            | zero => exact absurd HA.out (by simp [impl_FlowStep.l2])
                            | succ k5 =>
                              have H := HA.out
                              clear HA
                              simp only [impl_FlowStep.l2] at H
                              by_cases c77 : x131_5 < (t181.length : Int)
                              · rw [if_pos c77] at H
                                have c77b0 : decide (x131_5 < (t181.length : Int)) = true := decide_eq_true c77
                                have c77b0q := c77b0
                                (try simp only [hl129_5] at c77b0q)
                                clear c77
                                by_cases c78 : 0 ≤ x131_5
                                · rw [if_pos c78] at H
                                  have c78b0 : decide (0 ≤ x131_5) = true := decide_eq_true c78
                                  clear c78
                                  by_cases c79 : x131_5 < (x129_5.length : Int)
                                  · rw [if_pos c79] at H
                                    have c79b0 : decide (x131_5 < (x129_5.length : Int)) = true := decide_eq_true c79
                                    have c79b0q := c79b0
                                    (try simp only [hl129_5] at c79b0q)
                                    clear c79
                                    by_cases c80 : x131_5 < (x178000_5.length : Int)
                                    · rw [if_pos c80] at H
                                      have c80b0 : decide (x131_5 < (x178000_5.length : Int)) = true := decide_eq_true c80
                                      have c80b0q := c80b0
                                      (try simp only [hl129_5] at c80b0q)
                                      clear c80
                                      obtain ⟨y186, hy186⟩ : ∃ y_ : List Int, y_ = (x178000_5.set (x131_5 : Int).toNat (wrap64 ((rd x178000_5 x131_5) - (wrap64 (Int.tdiv (wrap64 ((rd x129_5 x131_5) + 1)) 2))))) := ⟨_, rfl⟩
                                      replace H : (if x131_5 < (l0.length : Int) then (if (rd l0 x131_5) < 0 then (impl_FlowStep.l2 k5 l0 x129_5 (t181.length : Int) (wrap64 (x131_5 + 1)) y186 (wrap64 (x178001_5 + (wrap64 (Int.tdiv (wrap64 ((rd x129_5 x131_5) + 1)) 2)))) (wrap64 (a1_2 + x11_2))) else (if 0 ≤ (rd l0 x131_5) then (if (rd l0 x131_5) < (x178000_5.length : Int) then (impl_FlowStep.l2 k5 l0 x129_5 (t181.length : Int) (wrap64 (x131_5 + 1)) (y186.set ((rd l0 x131_5) : Int).toNat (wrap64 ((rd y186 (rd l0 x131_5)) + (wrap64 (Int.tdiv (wrap64 ((rd x129_5 x131_5) + 1)) 2))))) x178001_5 (wrap64 (a1_2 + x11_2))) else (none)) else (none))) else (none)) = some (r1, r2, r3, r4) := by first | (rw [hy186]; with_reducible exact H) | (have H2_ := (Option.bind_some _ _).symm.trans H; rw [hy186]; with_reducible exact H2_) | (have H2_ := (Option.bind_some _ _).symm.trans H; with_reducible exact H2_) | with_reducible exact H | (rw [hy186]; exact H) | exact H
                                      have Ny186 := Aside0.mk hy186
                                      clear hy186
                                      by_cases c82 : x131_5 < (l0.length : Int)
                                      · rw [if_pos c82] at H
                                        have c82b0 : decide (x131_5 < (l0.length : Int)) = true := decide_eq_true c82
                                        have c82b0q := c82b0
                                        (try simp only [hl129_5] at c82b0q)
                                        clear c82
                                        by_cases c83 : (rd l0 x131_5) < 0
                                        · rw [if_pos c83] at H
                                          have c83b0 : decide ((rd l0 x131_5) < 0) = true := decide_eq_true c83
                                          clear c83
                                          have H' := Aside0.mk H
                                          clear H
                                          have p184 : 0 ≤ (x131_5 : Int) := of_decide_eq_true (by first | (with_reducible assumption) | assumption)
                                          have q184 : x131_5 < (x129_5.length : Int) := of_decide_eq_true (by first | (with_reducible assumption) | assumption)
                                          obtain ⟨ad184, e184, hx184_0⟩ := Kd.at_int (Kd.R_reads' HO_129.out).2.2 x131_5 p184 q184
                                          cases e184
                                          replace p184 := eq_true p184
                                          replace q184 := eq_true q184
                                          have hnb84 := NB177_161.out
                                          have hnc84 := NB161_177.out
                                          have hnb85 := NB177_162.out
                                          have hnc85 := NB162_177.out
                                          have hcz86_0 : wr.cell? ⟨gb177, 0, none⟩ = some (u178000) := (blk_cell BK177.out 0).trans rfl
                                          have hcz86_1 : wr.cell? ⟨gb177, 1, none⟩ = some (.int .i64 x178001_5) := (blk_cell BK177.out 1).trans rfl
                                          have hcz86_2 : wr.cell? ⟨gb177, 2, none⟩ = some (.int .i64 (wrap64 (a1_2 + x11_2))) := (blk_cell BK177.out 2).trans rfl
                                          have hfz86_0 := blk_frozen BK177.out 0
                                          have hfz86_1 := blk_frozen BK177.out 1
                                          have hfz86_2 := blk_frozen BK177.out 2
                                          obtain ⟨Ao87, co87, eo87⟩ := Kd.R_slice HO_178000.out
                                          subst eo87
                                          have p185 : 0 ≤ (x131_5 : Int) := of_decide_eq_true (by first | (with_reducible assumption) | assumption)
                                          have q185 : x131_5 < (x178000_5.length : Int) := of_decide_eq_true (by first | (with_reducible assumption) | assumption)
                                          obtain ⟨ad185, e185, hx185_0⟩ := Kd.at_int (Kd.R_reads' HO_178000.out).2.2 x131_5 p185 q185
                                          cases e185
                                          replace p185 := eq_true p185
                                          replace q185 := eq_true q185
                                          have p81 : 0 ≤ (x131_5 : Int) := of_decide_eq_true (by first | (with_reducible assumption) | assumption)
                                          have q81 : (x131_5 : Int) < ((x178000_5.length : Int) : Int) := of_decide_eq_true (by first | (with_reducible assumption) | assumption)
                                          obtain ⟨go81, co81, eo81, gb81, gl81, cl81, HG81⟩ := Kd.R_form HO_178000.out (by omega)
                                          (first | cases eo81 | (injection eo81 with ea_ en_ ec_; (first | subst ea_ | (injection ea_ with ea_; subst ea_)); subst ec_; clear en_))
                                          have GB81 := Aside0.mk gb81
                                          have GG81 := Aside0.mk HG81
                                          clear gb81 gl81 HG81
                                          (first | simp only [add_plain] at hx185_0 | skip)
                                          obtain ⟨hx81_0, hf81_0⟩ := Kd.R_celln 0 HO_178000.out (x131_5 : Int) p81 q81
                                          replace p81 := eq_true p81
                                          replace q81 := eq_true q81
                                          have HP88 := Kd.R_putg HO_178000.out (x131_5 : Int) (wrap64 ((rd x178000_5 x131_5) - (wrap64 (Int.tdiv (wrap64 ((rd x129_5 x131_5) + 1)) 2))))
                                          go_wp2_with (first | ((with_reducible refine gate_store (t := 2) (p := 146) rfl ?_); refine store_event (t := 2) (p := 146) (v := ?vo_w89) (w1 := (wr.setCell ⟨go81, (x131_5 : Int).toNat, none⟩ (.int .i64 (wrap64 ((rd x178000_5 x131_5) - (wrap64 (Int.tdiv (wrap64 ((rd x129_5 x131_5) + 1)) 2))))))) ?hg ?ho ?hn ?hr ?_; (case ho => rfl); (case hg => rfl); (case hn => rfl); (case hr => first | (go_simp; done) | (go_simp; rfl)); intro w89 hw; have hg : wr.grownBy w89 (some go81) := (by rw [hw]; exact HP88.2); have hp_ : Kd.R (Kd.int .i64) 2 w89 w.heap.size (fun k_ => some k_ ≠ (.slice (some ad184) x129_5.length co76 : Value).ownBlock) (.slice (some ⟨go81, 0, none⟩) x178000_5.length co87) y186 := (by rw [hw, Ny186.out]; exact HP88.1); clear HP88; have n0_ := Aside0.mk (Kd.R_after (v := (.slice (some ⟨go81, 0, none⟩) x178000_5.length co87)) (v1 := (.slice (some ⟨go81, 0, none⟩) x178000_5.length co87)) (ok := (fun _ => True)) (by (with_reducible repeat (first | apply Kd.R_alloc | apply Kd.R_drewN | apply Kd.R_drew)); exact Kd.R_mono HO_129.out (fun _ hk => ⟨trivial, hk⟩)) hg (.inl rfl)); have n1_ := Aside0.mk (hp_); have n2_ := Aside0.mk (blk_grown (g := gb161) (o := .cells #[.slice A1_0 l1_0.length c1_0, .int .i64 a1_1, .int .i64 a1_2] 26 (0, 0)) (by (with_reducible repeat (first | refine blk_drewN ?_ _ | refine blk_drew ?_ | refine blk_alloc ?_ _)); exact BK161.out) hg (Kd.R_ne HO_178000.out BK161.out (by decide))); have n3_ := Aside0.mk (blk_grown (g := gb162) (o := .cells #[.slice none 0 0, .int .i64 x163001_2, .int .i64 x163002_2] 26 (0, 0)) (by (with_reducible repeat (first | refine blk_drewN ?_ _ | refine blk_drew ?_ | refine blk_alloc ?_ _)); exact BK162.out) hg (Kd.R_ne HO_178000.out BK162.out (by decide))); have n4_ := Aside0.mk (blk_grown (g := gb177) (o := .cells #[.slice (some ⟨go81, 0, none⟩) x178000_5.length co87, .int .i64 x178001_5, .int .i64 (wrap64 (a1_2 + x11_2))] 26 (0, 0)) (by (with_reducible repeat (first | refine blk_drewN ?_ _ | refine blk_drew ?_ | refine blk_alloc ?_ _)); exact BK177.out) hg (Kd.R_ne HO_178000.out BK177.out (by decide))); have n5_ := Aside0.mk ((by rw [hw]; exact below_set (HB.out) GB81.out : Below w.heap.size w w89)); clear HO_129; clear HO_178000; clear BK161; clear BK162; clear BK177; clear HB; have HO_129 := n0_; have HO_178000 := n1_; have BK161 := n2_; have BK162 := n3_; have BK177 := n4_; have HB := n5_; clear n0_ n1_ n2_ n3_ n4_ n5_; clear hg hw hp_; have p187 : 0 ≤ (x131_5 : Int) := of_decide_eq_true (by first | (with_reducible assumption) | assumption); have q187 : x131_5 < (l0.length : Int) := of_decide_eq_true (by first | (with_reducible assumption) | assumption); obtain ⟨ad187, e187, hx187_0⟩ := Kd.at_int HR0.out x131_5 p187 q187; cases e187; replace hx187_0 := (HB.out.cell (World.block_lt_of_cell? w _ hx187_0)).trans hx187_0; replace p187 := eq_true p187; replace q187 := eq_true q187; have hcz90_0 : w89.cell? ⟨gb177, 0, none⟩ = some (.slice (some ⟨go81, 0, none⟩) x178000_5.length co87) := (blk_cell BK177.out 0).trans rfl; have hcz90_1 : w89.cell? ⟨gb177, 1, none⟩ = some (.int .i64 x178001_5) := (blk_cell BK177.out 1).trans rfl; have hcz90_2 : w89.cell? ⟨gb177, 2, none⟩ = some (.int .i64 (wrap64 (a1_2 + x11_2))) := (blk_cell BK177.out 2).trans rfl; have hfz90_0 := blk_frozen BK177.out 0; have hfz90_1 := blk_frozen BK177.out 1; have hfz90_2 := blk_frozen BK177.out 2))
                                          (try simp only [← hl129_5])
                                          go_roundg k5
                                          case measure => have := HJ4.out; have := HK2.out; have := HJ39.out; have := HK4.out; have := HK5.out; omega
                                          case rel => exact ⟨(x129_5), (wrap64 (x131_5 + 1)), (y186), (wrap64 (x178001_5 + (wrap64 (Int.tdiv (wrap64 ((rd x129_5 x131_5) + 1)) 2)))), (.slice (some ⟨go81, 0, none⟩) x178000_5.length co87), (by first | rfl | (simp; done) | (simp [*]; done)), H', ⟨by have := HJ4.out; have := HK2.out; have := HJ39.out; have := HK4.out; have := HK5.out; omega⟩, ⟨by (try simp only [hl129_5]); (with_reducible repeat (first | apply Kd.R_alloc | apply Kd.R_drewN | apply Kd.R_drew)); exact Kd.R_mono (Kd.R_far (p := ⟨gb177, 1, none⟩) (Kd.R_types HO_129.out BK177.out (by decide)) (fun _ hk => hk.2) (.int .i64 (wrap64 (x178001_5 + (wrap64 (Int.tdiv (wrap64 ((rd x129_5 x131_5) + 1)) 2)))))) (fun _ hk => hk.1.2)⟩, ⟨by (try simp only [hl129_5]); (with_reducible repeat (first | apply Kd.R_alloc | apply Kd.R_drewN | apply Kd.R_drew)); exact Kd.R_mono (Kd.R_far (p := ⟨gb177, 1, none⟩) (Kd.R_types HO_178000.out BK177.out (by decide)) (fun _ hk => hk.2) (.int .i64 (wrap64 (x178001_5 + (wrap64 (Int.tdiv (wrap64 ((rd x129_5 x131_5) + 1)) 2)))))) (fun _ hk => hk.1)⟩, ⟨by (try simp only [hl129_5]); (with_reducible repeat (first | refine blk_drewN ?_ _ | refine blk_drew ?_ | refine blk_alloc ?_ _)); refine blk_far ?_ NB161_177.out _; (with_reducible repeat (first | refine blk_drewN ?_ _ | refine blk_drew ?_ | refine blk_alloc ?_ _)); exact BK161.out⟩, ⟨by (try simp only [hl129_5]); (with_reducible repeat (first | refine blk_drewN ?_ _ | refine blk_drew ?_ | refine blk_alloc ?_ _)); refine blk_far ?_ NB162_177.out _; (with_reducible repeat (first | refine blk_drewN ?_ _ | refine blk_drew ?_ | refine blk_alloc ?_ _)); exact BK162.out⟩, ⟨by (try simp only [hl129_5]); (with_reducible repeat (first | refine blk_drewN ?_ _ | refine blk_drew ?_ | refine blk_alloc ?_ _)); refine blk_put (cs := #[.slice (some ⟨go81, 0, none⟩) x178000_5.length co87, .int .i64 x178001_5, .int .i64 (wrap64 (a1_2 + x11_2))]) ?_ 1 _ rfl; (with_reducible repeat (first | refine blk_drewN ?_ _ | refine blk_drew ?_ | refine blk_alloc ?_ _)); exact BK177.out⟩, ⟨by repeat (first | (with_reducible first | exact HB.out | apply below_alloc | apply pw_below_drewN | apply below_drew1 | refine below_set ?_ GE161.out | refine below_set ?_ GE162.out | refine below_set ?_ GE177.out) | exact HB.out)⟩⟩
                                        · rw [if_neg c83] at H
                                          have c83b0 : decide ((rd l0 x131_5) < 0) = false := decide_eq_false c83
                                          clear c83
                                          by_cases c91 : 0 ≤ (rd l0 x131_5)
                                          · rw [if_pos c91] at H
                                            have c91b0 : decide (0 ≤ (rd l0 x131_5)) = true := decide_eq_true c91
                                            clear c91
                                            by_cases c92 : (rd l0 x131_5) < (x178000_5.length : Int)
                                            · rw [if_pos c92] at H
                                              have c92b0 : decide ((rd l0 x131_5) < (x178000_5.length : Int)) = true := decide_eq_true c92
                                              have c92b0q := c92b0
                                              (try simp only [hl129_5] at c92b0q)
                                              clear c92
                                              obtain ⟨y190, hy190⟩ : ∃ y_ : List Int, y_ = (y186.set ((rd l0 x131_5) : Int).toNat (wrap64 ((rd y186 (rd l0 x131_5)) + (wrap64 (Int.tdiv (wrap64 ((rd x129_5 x131_5) + 1)) 2))))) := ⟨_, rfl⟩
                                              replace H : (impl_FlowStep.l2 k5 l0 x129_5 (t181.length : Int) (wrap64 (x131_5 + 1)) y190 x178001_5 (wrap64 (a1_2 + x11_2))) = some (r1, r2, r3, r4) := by first | (rw [hy190]; with_reducible exact H) | (have H2_ := (Option.bind_some _ _).symm.trans H; rw [hy190]; with_reducible exact H2_) | (have H2_ := (Option.bind_some _ _).symm.trans H; with_reducible exact H2_) | with_reducible exact H | (rw [hy190]; exact H) | exact H
                                              have Ny190 := Aside0.mk hy190
                                              clear hy190
                                              have H' := Aside0.mk H
                                              clear H
                                              have p184 : 0 ≤ (x131_5 : Int) := of_decide_eq_true (by first | (with_reducible assumption) | assumption)
                                              have q184 : x131_5 < (x129_5.length : Int) := of_decide_eq_true (by first | (with_reducible assumption) | assumption)
                                              obtain ⟨ad184, e184, hx184_0⟩ := Kd.at_int (Kd.R_reads' HO_129.out).2.2 x131_5 p184 q184
                                              cases e184
                                              replace p184 := eq_true p184
                                              replace q184 := eq_true q184
                                              have hnb94 := NB177_161.out
                                              have hnc94 := NB161_177.out
                                              have hnb95 := NB177_162.out
                                              have hnc95 := NB162_177.out
                                              have hcz96_0 : wr.cell? ⟨gb177, 0, none⟩ = some (u178000) := (blk_cell BK177.out 0).trans rfl
                                              have hcz96_1 : wr.cell? ⟨gb177, 1, none⟩ = some (.int .i64 x178001_5) := (blk_cell BK177.out 1).trans rfl
                                              have hcz96_2 : wr.cell? ⟨gb177, 2, none⟩ = some (.int .i64 (wrap64 (a1_2 + x11_2))) := (blk_cell BK177.out 2).trans rfl
                                              have hfz96_0 := blk_frozen BK177.out 0
                                              have hfz96_1 := blk_frozen BK177.out 1
                                              have hfz96_2 := blk_frozen BK177.out 2
                                              obtain ⟨Ao97, co97, eo97⟩ := Kd.R_slice HO_178000.out
                                              subst eo97
                                              have p185 : 0 ≤ (x131_5 : Int) := of_decide_eq_true (by first | (with_reducible assumption) | assumption)
                                              have q185 : x131_5 < (x178000_5.length : Int) := of_decide_eq_true (by first | (with_reducible assumption) | assumption)
                                              obtain ⟨ad185, e185, hx185_0⟩ := Kd.at_int (Kd.R_reads' HO_178000.out).2.2 x131_5 p185 q185
                                              cases e185
                                              replace p185 := eq_true p185
                                              replace q185 := eq_true q185
                                              have p81 : 0 ≤ (x131_5 : Int) := of_decide_eq_true (by first | (with_reducible assumption) | assumption)
                                              have q81 : (x131_5 : Int) < ((x178000_5.length : Int) : Int) := of_decide_eq_true (by first | (with_reducible assumption) | assumption)
                                              obtain ⟨go81, co81, eo81, gb81, gl81, cl81, HG81⟩ := Kd.R_form HO_178000.out (by omega)
                                              (first | cases eo81 | (injection eo81 with ea_ en_ ec_; (first | subst ea_ | (injection ea_ with ea_; subst ea_)); subst ec_; clear en_))
                                              have GB81 := Aside0.mk gb81
                                              have GG81 := Aside0.mk HG81
                                              clear gb81 gl81 HG81
                                              (first | simp only [add_plain] at hx185_0 | skip)
                                              obtain ⟨hx81_0, hf81_0⟩ := Kd.R_celln 0 HO_178000.out (x131_5 : Int) p81 q81
                                              replace p81 := eq_true p81
                                              replace q81 := eq_true q81
                                              have HP98 := Kd.R_putg HO_178000.out (x131_5 : Int) (wrap64 ((rd x178000_5 x131_5) - (wrap64 (Int.tdiv (wrap64 ((rd x129_5 x131_5) + 1)) 2))))
                                              try go_wp2_with (first | ((with_reducible refine gate_store (t := 2) (p := 146) rfl ?_); refine store_event (t := 2) (p := 146) (v := ?vo_w99) (w1 := (wr.setCell ⟨go81, (x131_5 : Int).toNat, none⟩ (.int .i64 (wrap64 ((rd x178000_5 x131_5) - (wrap64 (Int.tdiv (wrap64 ((rd x129_5 x131_5) + 1)) 2))))))) ?hg ?ho ?hn ?hr ?_; (case ho => rfl); (case hg => rfl); (case hn => rfl); (case hr => first | (go_simp; done) | (go_simp; rfl)); intro w99 hw; have hg : wr.grownBy w99 (some go81) := (by rw [hw]; exact HP98.2); have hp_ : Kd.R (Kd.int .i64) 2 w99 w.heap.size (fun k_ => some k_ ≠ (.slice (some ad184) x129_5.length co76 : Value).ownBlock) (.slice (some ⟨go81, 0, none⟩) x178000_5.length co97) y186 := (by rw [hw, Ny186.out]; exact HP98.1); clear HP98; have n0_ := Aside0.mk (Kd.R_after (v := (.slice (some ⟨go81, 0, none⟩) x178000_5.length co97)) (v1 := (.slice (some ⟨go81, 0, none⟩) x178000_5.length co97)) (ok := (fun _ => True)) (by (with_reducible repeat (first | apply Kd.R_alloc | apply Kd.R_drewN | apply Kd.R_drew)); exact Kd.R_mono HO_129.out (fun _ hk => ⟨trivial, hk⟩)) hg (.inl rfl)); have n1_ := Aside0.mk (hp_); have n2_ := Aside0.mk (blk_grown (g := gb161) (o := .cells #[.slice A1_0 l1_0.length c1_0, .int .i64 a1_1, .int .i64 a1_2] 26 (0, 0)) (by (with_reducible repeat (first | refine blk_drewN ?_ _ | refine blk_drew ?_ | refine blk_alloc ?_ _)); exact BK161.out) hg (Kd.R_ne HO_178000.out BK161.out (by decide))); have n3_ := Aside0.mk (blk_grown (g := gb162) (o := .cells #[.slice none 0 0, .int .i64 x163001_2, .int .i64 x163002_2] 26 (0, 0)) (by (with_reducible repeat (first | refine blk_drewN ?_ _ | refine blk_drew ?_ | refine blk_alloc ?_ _)); exact BK162.out) hg (Kd.R_ne HO_178000.out BK162.out (by decide))); have n4_ := Aside0.mk (blk_grown (g := gb177) (o := .cells #[.slice (some ⟨go81, 0, none⟩) x178000_5.length co97, .int .i64 x178001_5, .int .i64 (wrap64 (a1_2 + x11_2))] 26 (0, 0)) (by (with_reducible repeat (first | refine blk_drewN ?_ _ | refine blk_drew ?_ | refine blk_alloc ?_ _)); exact BK177.out) hg (Kd.R_ne HO_178000.out BK177.out (by decide))); have n5_ := Aside0.mk ((by rw [hw]; exact below_set (HB.out) GB81.out : Below w.heap.size w w99)); clear HO_129; clear HO_178000; clear BK161; clear BK162; clear BK177; clear HB; have HO_129 := n0_; have HO_178000 := n1_; have BK161 := n2_; have BK162 := n3_; have BK177 := n4_; have HB := n5_; clear n0_ n1_ n2_ n3_ n4_ n5_; clear hg hw hp_; have p187 : 0 ≤ (x131_5 : Int) := of_decide_eq_true (by first | (with_reducible assumption) | assumption); have q187 : x131_5 < (l0.length : Int) := of_decide_eq_true (by first | (with_reducible assumption) | assumption); obtain ⟨ad187, e187, hx187_0⟩ := Kd.at_int HR0.out x131_5 p187 q187; cases e187; replace hx187_0 := (HB.out.cell (World.block_lt_of_cell? w _ hx187_0)).trans hx187_0; replace p187 := eq_true p187; replace q187 := eq_true q187))
                                              have n0_ := Aside0.mk (Kd.R_drew HO_129.out)
                                              have n1_ := Aside0.mk (Kd.R_drew HO_178000.out)
                                              have n2_ := Aside0.mk (blk_drew BK161.out)
                                              have n3_ := Aside0.mk (blk_drew BK162.out)
                                              have n4_ := Aside0.mk (blk_drew BK177.out)
                                              have n5_ := Aside0.mk (below_drew1 HB.out)
                                              clear HO_129
                                              clear HO_178000
                                              clear BK161
                                              clear BK162
                                              clear BK177
                                              clear HB
                                              have HO_129 := n0_
                                              have HO_178000 := n1_
                                              have BK161 := n2_
                                              have BK162 := n3_
                                              have BK177 := n4_
                                              have HB := n5_
                                              clear n0_ n1_ n2_ n3_ n4_ n5_
                                              have p188 : 0 ≤ (x131_5 : Int) := of_decide_eq_true (by first | (with_reducible assumption) | assumption)
                                              have q188 : x131_5 < (l0.length : Int) := of_decide_eq_true (by first | (with_reducible assumption) | assumption)
                                              obtain ⟨ad188, e188, hx188_0⟩ := Kd.at_int HR0.out x131_5 p188 q188
                                              have hw188_0 := hx188_0
                                              obtain rfl : ad187 = ad188 := (by injection e188)
                                              replace hx188_0 := (HB.out.cell (World.block_lt_of_cell? w _ hx188_0)).trans hx188_0
                                              replace p188 := eq_true p188
                                              replace q188 := eq_true q188
                                              have p189 : 0 ≤ ((rd l0 x131_5) : Int) := of_decide_eq_true (by first | (with_reducible assumption) | assumption)
                                              have q189 : (rd l0 x131_5) < (y186.length : Int) := (by have h_ : ((rd l0 x131_5) : Int) < ((x178000_5.length : Int) : Int) := of_decide_eq_true (by first | (with_reducible assumption) | assumption); first | (have e_ := (Kd.R_reads' HO_178000.out).1; omega) | simpa only [Ny186.out, List.length_set] using h_)
                                              have ql189 : (((rd l0 x131_5) : Int) < ((x178000_5.length : Int) : Int)) = True := eq_true (of_decide_eq_true (by first | (with_reducible assumption) | assumption))
                                              obtain ⟨ad189, e189, hx189_0⟩ := Kd.at_int (Kd.R_reads' HO_178000.out).2.2 (rd l0 x131_5) p189 q189
                                              obtain rfl : (⟨go81, 0, none⟩ : Addr) = ad189 := (by injection e189)
                                              (first | simp only [add_plain] at hx189_0 | simp only [add_at] at hx189_0 | simp only [Addr.add, Nat.zero_add] at hx189_0 | skip)
                                              replace p189 := eq_true p189
                                              replace q189 := eq_true q189
                                              have p93 : 0 ≤ ((rd l0 x131_5) : Int) := of_decide_eq_true (by first | (with_reducible assumption) | assumption)
                                              have q93 : ((rd l0 x131_5) : Int) < ((x178000_5.length : Int) : Int) := of_decide_eq_true (by first | (with_reducible assumption) | assumption)
                                              obtain ⟨hx93_0, hf93_0⟩ := Kd.R_celln 0 HO_178000.out ((rd l0 x131_5) : Int) p93 q93
                                              replace p93 := eq_true p93
                                              replace q93 := eq_true q93
                                              have HP101 := Kd.R_putn HO_178000.out ((rd l0 x131_5) : Int) (wrap64 ((rd y186 (rd l0 x131_5)) + (wrap64 (Int.tdiv (wrap64 ((rd x129_5 x131_5) + 1)) 2))))
                                              rw [← Ny190.out] at HP101
                                              have HQ101 := Aside0.mk HP101
                                              clear HP101
                                              refine start_ (n := 12) (S := fun w' => w'.cell? ⟨gb177, 0, none⟩ = some (.slice (some ⟨go81, 0, none⟩) x178000_5.length co97) ∧ w'.cell? ⟨gb177, 1, none⟩ = some (.int .i64 x178001_5) ∧ w'.cell? ⟨gb177, 2, none⟩ = some (.int .i64 (wrap64 (a1_2 + x11_2))) ∧ w'.cell? (ad187.add (x131_5).toNat) = some (.int .i64 (rd l0 x131_5)) ∧ w'.cell? ⟨go81, ((rd l0 x131_5)).toNat, none⟩ = some (.int .i64 (rd y186 (rd l0 x131_5)))) (ds := [11]) #[false, false, false, false, false, false, false, false, false, false, false, false] (by kernel_rfl) rfl rfl ⟨(blk_cell BK177.out 0).trans rfl, (blk_cell BK177.out 1).trans rfl, (blk_cell BK177.out 2).trans rfl, ((HB.out.cell (World.block_lt_of_cell? w _ hw188_0)).trans hw188_0), hx189_0⟩ (fun hHeld => ?_); refine with_tabW impl_FlowStep.tab29 impl_FlowStep.bits29 (fun HT_ HW_ => ?_)
                                              generalize w99.drew = w100 at HO_129 HO_178000 BK161 BK162 BK177 HB HQ101 hf93_0 hx188_0 hx189_0 hx93_0 hHeld ⊢
                                              refine pure_ (i := 0) (N := some 157) (v := ?_) (a' := ?_) #[true, false, false, false, false, false, false, false, false, false, false, false] rfl rfl (any_of HT_.out (by kernel_rfl)) (fun _ _ _ h => h) (Or.inl ⟨by rfl, ?_⟩) ?_ ?_
                                              rotate_left
                                              · intro w'
                                                go_simp
                                                with_reducible rfl
                                              rotate_left
                                              · simp only [Act.put, List.setIfInBounds_toArray, List.set_cons_zero, List.set_cons_succ, i64_w, i32_w]
                                                rfl
                                              refine pure_ (i := 2) (N := some 159) (v := ?_) (a' := ?_) #[true, false, true, false, false, false, false, false, false, false, false, false] rfl rfl (any_of HT_.out (by kernel_rfl)) (fun _ _ _ h => h) (Or.inl ⟨by rfl, ?_⟩) ?_ ?_
                                              rotate_left
                                              · intro w'
                                                go_simp
                                                with_reducible rfl
                                              rotate_left
                                              · simp only [Act.put, List.setIfInBounds_toArray, List.set_cons_zero, List.set_cons_succ, i64_w, i32_w]
                                                rfl
                                              refine pure_ (i := 3) (N := some 160) (v := ?_) (a' := ?_) #[true, false, true, true, false, false, false, false, false, false, false, false] rfl rfl (any_of HT_.out (by kernel_rfl)) (fun _ _ _ h => h) (Or.inl ⟨by rfl, ?_⟩) ?_ ?_
                                              rotate_left
                                              · intro w'
                                                go_simp
                                                with_reducible rfl
                                              rotate_left
                                              · simp only [Act.put, List.setIfInBounds_toArray, List.set_cons_zero, List.set_cons_succ, i64_w, i32_w]
                                                rfl
                                              refine pure_ (i := 4) (N := some 161) (v := ?_) (a' := ?_) #[true, false, true, true, true, false, false, false, false, false, false, false] rfl rfl (any_of HT_.out (by kernel_rfl)) (fun _ _ _ h => h) (Or.inl ⟨by rfl, ?_⟩) ?_ ?_
                                              rotate_left
                                              · intro w'
                                                go_simp
                                                with_reducible rfl
                                              rotate_left
                                              · simp only [Act.put, List.setIfInBounds_toArray, List.set_cons_zero, List.set_cons_succ, i64_w, i32_w]
                                                rfl
                                              refine pure_ (i := 8) (N := some 165) (v := ?_) (a' := ?_) #[true, false, true, true, true, false, false, false, true, false, false, false] rfl rfl (any_of HT_.out (by kernel_rfl)) (fun _ _ _ h => h) (Or.inl ⟨by rfl, ?_⟩) ?_ ?_
                                              rotate_left
                                              · intro w'
                                                go_simp
                                                with_reducible rfl
                                              rotate_left
                                              · simp only [Act.put, List.setIfInBounds_toArray, List.set_cons_zero, List.set_cons_succ, i64_w, i32_w]
                                                rfl
                                              refine take_ (i := 1) (N := some 158) (v := ?_) (a' := ?_) #[true, true, true, true, true, false, false, false, true, false, false, false] rfl rfl (take_ofW HT_.out HW_.out (by kernel_rfl)) (fun _ _ _ h => h) (Or.inl ⟨by rfl, ?_⟩) hHeld ?_ ?_
                                              rotate_left
                                              · rintro w' ⟨s0, s1, s2, s3, s4⟩
                                                go_simp
                                                with_reducible rfl
                                              rotate_left
                                              · simp only [Act.put, List.setIfInBounds_toArray, List.set_cons_zero, List.set_cons_succ, i64_w, i32_w]
                                                rfl
                                              refine take_ (i := 5) (N := some 162) (v := ?_) (a' := ?_) #[true, true, true, true, true, true, false, false, true, false, false, false] rfl rfl (take_ofW HT_.out HW_.out (by kernel_rfl)) (fun _ _ _ h => h) (Or.inl ⟨by rfl, ?_⟩) hHeld ?_ ?_
                                              rotate_left
                                              · rintro w' ⟨s0, s1, s2, s3, s4⟩
                                                go_simp
                                                with_reducible rfl
                                              rotate_left
                                              · simp only [Act.put, List.setIfInBounds_toArray, List.set_cons_zero, List.set_cons_succ, i64_w, i32_w]
                                                rfl
                                              refine pure_ (i := 6) (N := some 163) (v := ?_) (a' := ?_) #[true, true, true, true, true, true, true, false, true, false, false, false] rfl rfl (any_of HT_.out (by kernel_rfl)) (fun _ _ _ h => h) (Or.inl ⟨by rfl, ?_⟩) ?_ ?_
                                              rotate_left
                                              · intro w'
                                                go_simp
                                                with_reducible rfl
                                              rotate_left
                                              · simp only [Act.put, List.setIfInBounds_toArray, List.set_cons_zero, List.set_cons_succ, i64_w, i32_w]
                                                rfl
                                              refine take_ (i := 7) (N := some 164) (v := ?_) (a' := ?_) #[true, true, true, true, true, true, true, true, true, false, false, false] rfl rfl (take_ofW HT_.out HW_.out (by kernel_rfl)) (fun _ _ _ h => h) (Or.inl ⟨by rfl, ?_⟩) hHeld ?_ ?_
                                              rotate_left
                                              · rintro w' ⟨s0, s1, s2, s3, s4⟩
                                                go_simp
                                                with_reducible rfl
                                              rotate_left
                                              · simp only [Act.put, List.setIfInBounds_toArray, List.set_cons_zero, List.set_cons_succ, i64_w, i32_w]
                                                rfl
                                              refine pure_ (i := 9) (N := some 166) (v := ?_) (a' := ?_) #[true, true, true, true, true, true, true, true, true, true, false, false] rfl rfl (any_of HT_.out (by kernel_rfl)) (fun _ _ _ h => h) (Or.inl ⟨by rfl, ?_⟩) ?_ ?_
                                              rotate_left
                                              · intro w'
                                                go_simp
                                                with_reducible rfl
                                              rotate_left
                                              · simp only [Act.put, List.setIfInBounds_toArray, List.set_cons_zero, List.set_cons_succ, i64_w, i32_w]
                                                rfl
                                              refine pure_ (i := 10) (N := some 167) (v := ?_) (a' := ?_) #[true, true, true, true, true, true, true, true, true, true, true, false] rfl rfl (any_of HT_.out (by kernel_rfl)) (fun _ _ _ h => h) (Or.inl ⟨by rfl, ?_⟩) ?_ ?_
                                              rotate_left
                                              · intro w'
                                                go_simp
                                                with_reducible rfl
                                              rotate_left
                                              · simp only [Act.put, List.setIfInBounds_toArray, List.set_cons_zero, List.set_cons_succ, i64_w, i32_w]
                                                rfl
                                              refine last_ (i := 11) (N := none) #[true, true, true, true, true, true, true, true, true, true, true, true] rfl rfl (one_of HT_.out (by kernel_rfl)) (by decide) (fun K hK => ?_)
                                              refine skip_ (w1 := ?_) (by rfl) rfl ?_ ?_
                                              rotate_left
                                              · go_simp
                                                rfl
                                              refine hK.out _ _ ?_
                                              clear hK K
                                              refine done_ (done_of HT_.out (by kernel_rfl)) ?_
                                              try go_wp2
                                              (try simp only [← hl129_5])
                                              go_roundg k5
                                              case measure => have := HJ4.out; have := HK2.out; have := HJ39.out; have := HK4.out; have := HK5.out; omega
                                              case rel => exact ⟨(x129_5), (wrap64 (x131_5 + 1)), (y190), (x178001_5), (.slice (some ⟨go81, 0, none⟩) x178000_5.length co97), (by first | rfl | (simp; done) | (simp [*]; done)), H', ⟨by have := HJ4.out; have := HK2.out; have := HJ39.out; have := HK4.out; have := HK5.out; omega⟩, ⟨by (try simp only [hl129_5]); (with_reducible repeat (first | apply Kd.R_alloc | apply Kd.R_drewN | apply Kd.R_drew)); exact Kd.R_mono (Kd.R_far (p := ⟨go81, ((rd l0 x131_5) : Int).toNat, none⟩) (Kd.R_mono HO_129.out (fun k_ hk => (⟨hk, fun e_ => hk.2 (by rw [e_]; rfl)⟩ : _ ∧ k_ ≠ go81))) (fun _ hk => hk.2) (.int .i64 (wrap64 ((rd y186 (rd l0 x131_5)) + (wrap64 (Int.tdiv (wrap64 ((rd x129_5 x131_5) + 1)) 2)))))) (fun _ hk => hk.1.2)⟩, ⟨by (try simp only [hl129_5]); (with_reducible repeat (first | apply Kd.R_alloc | apply Kd.R_drewN | apply Kd.R_drew)); exact HQ101.out⟩, ⟨by (try simp only [hl129_5]); (with_reducible repeat (first | refine blk_drewN ?_ _ | refine blk_drew ?_ | refine blk_alloc ?_ _)); refine blk_far ?_ (by have h_ := Kd.R_ne HO_178000.out BK161.out (by decide); intro e_; exact h_ (by rw [e_]; rfl)) _; (with_reducible repeat (first | refine blk_drewN ?_ _ | refine blk_drew ?_ | refine blk_alloc ?_ _)); exact BK161.out⟩, ⟨by (try simp only [hl129_5]); (with_reducible repeat (first | refine blk_drewN ?_ _ | refine blk_drew ?_ | refine blk_alloc ?_ _)); refine blk_far ?_ (by have h_ := Kd.R_ne HO_178000.out BK162.out (by decide); intro e_; exact h_ (by rw [e_]; rfl)) _; (with_reducible repeat (first | refine blk_drewN ?_ _ | refine blk_drew ?_ | refine blk_alloc ?_ _)); exact BK162.out⟩, ⟨by (try simp only [hl129_5]); (with_reducible repeat (first | refine blk_drewN ?_ _ | refine blk_drew ?_ | refine blk_alloc ?_ _)); refine blk_far ?_ (by have h_ := Kd.R_ne HO_178000.out BK177.out (by decide); intro e_; exact h_ (by rw [e_]; rfl)) _; (with_reducible repeat (first | refine blk_drewN ?_ _ | refine blk_drew ?_ | refine blk_alloc ?_ _)); exact BK177.out⟩, ⟨by repeat (first | (with_reducible first | exact HB.out | apply below_alloc | apply pw_below_drewN | apply below_drew1 | refine below_set ?_ GB81.out | refine below_set ?_ GE161.out | refine below_set ?_ GE162.out | refine below_set ?_ GE177.out) | exact HB.out)⟩⟩
                                            · rw [if_neg c92] at H
                                              exact absurd H (by simp)
                                          · rw [if_neg c91] at H
                                            exact absurd H (by simp)
                                      · rw [if_neg c82] at H
                                        exact absurd H (by simp)
                                    · rw [if_neg c80] at H
                                      exact absurd H (by simp)
                                  · rw [if_neg c79] at H
                                    exact absurd H (by simp)
                                · rw [if_neg c78] at H
                                  exact absurd H (by simp)
                              · rw [if_neg c77] at H
                                have c77b0 : decide (x131_5 < (t181.length : Int)) = false := decide_eq_false c77
                                have c77b0q := c77b0
                                (try simp only [hl129_5] at c77b0q)
                                clear c77
                                simp only [Option.some.injEq, Prod.mk.injEq] at H
                                obtain ⟨rfl, rfl, rfl, rfl⟩ := H
                                have hnb102 := NB177_161.out
                                have hnc102 := NB161_177.out
                                have hnb103 := NB177_162.out
                                have hnc103 := NB162_177.out
                                have hcz104_0 : wr.cell? ⟨gb177, 0, none⟩ = some (u178000) := (blk_cell BK177.out 0).trans rfl
                                have hcz104_1 : wr.cell? ⟨gb177, 1, none⟩ = some (.int .i64 x178001_5) := (blk_cell BK177.out 1).trans rfl
                                have hcz104_2 : wr.cell? ⟨gb177, 2, none⟩ = some (.int .i64 (wrap64 (a1_2 + x11_2))) := (blk_cell BK177.out 2).trans rfl
                                have hfz104_0 := blk_frozen BK177.out 0
                                have hfz104_1 := blk_frozen BK177.out 1
                                have hfz104_2 := blk_frozen BK177.out 2
                                obtain ⟨Ao105, co105, eo105⟩ := Kd.R_slice HO_178000.out
                                subst eo105
                                have hnb106 := NB162_161.out
                                have hnc106 := NB161_162.out
                                have hcz107_0 : wr.cell? ⟨gb162, 0, none⟩ = some (.slice none 0 0) := (blk_cell BK162.out 0).trans rfl
                                have hcz107_1 : wr.cell? ⟨gb162, 1, none⟩ = some (.int .i64 x163001_2) := (blk_cell BK162.out 1).trans rfl
                                have hcz107_2 : wr.cell? ⟨gb162, 2, none⟩ = some (.int .i64 x163002_2) := (blk_cell BK162.out 2).trans rfl
                                have hfz107_0 := blk_frozen BK162.out 0
                                have hfz107_1 := blk_frozen BK162.out 1
                                have hfz107_2 := blk_frozen BK162.out 2
                                go_wp2
                                refine bodyPost_ret (results_ct rfl _ _ gb162 26 #[.slice Ao105 x178000_5.length co105, .int .i64 x178001_5, .int .i64 (wrap64 (a1_2 + x11_2))] (0, 0) _ rfl (by (with_reducible repeat (first | refine blk_drewN ?_ _ | refine blk_drew ?_ | refine blk_alloc ?_ _)); refine blk_put (cs := #[.slice Ao105 x178000_5.length co105, .int .i64 x178001_5, .int .i64 x163002_2]) ?_ 2 _ rfl; (with_reducible repeat (first | refine blk_drewN ?_ _ | refine blk_drew ?_ | refine blk_alloc ?_ _)); refine blk_put (cs := #[.slice Ao105 x178000_5.length co105, .int .i64 x163001_2, .int .i64 x163002_2]) ?_ 1 _ rfl; (with_reducible repeat (first | refine blk_drewN ?_ _ | refine blk_drew ?_ | refine blk_alloc ?_ _)); refine blk_put (cs := #[.slice none 0 0, .int .i64 x163001_2, .int .i64 x163002_2]) ?_ 0 _ rfl; (with_reducible repeat (first | refine blk_drewN ?_ _ | refine blk_drew ?_ | refine blk_alloc ?_ _)); exact BK162.out) Try.underlying26 rfl (by kernel_rfl)) rfl ?_
                                exact ⟨_, by first | rfl | (simp [errW_none, errW_some] <;> rfl) | (simp [*, errW_none, errW_some] <;> rfl), by (with_reducible repeat (first | apply Kd.R_alloc | apply Kd.R_drewN | apply Kd.R_drew)); exact Kd.R_mono (Kd.R_far (p := ⟨gb162, 2, none⟩) (Kd.R_far (p := ⟨gb162, 1, none⟩) (Kd.R_far (p := ⟨gb162, 0, none⟩) (Kd.R_types HO_178000.out BK162.out (by decide)) (fun _ hk => hk.2) (.slice Ao105 x178000_5.length co105)) (fun _ hk => hk.2) (.int .i64 x178001_5)) (fun _ hk => hk.2) (.int .i64 (wrap64 (a1_2 + x11_2)))) (fun _ hk => trivial), by repeat (first | (with_reducible first | exact HB.out | apply below_alloc | apply pw_below_drewN | apply below_drew1 | refine below_set ?_ GE161.out | refine below_set ?_ GE162.out | refine below_set ?_ GE177.out) | exact HB.out)⟩

end Go.Proofs.Ytopfdmodbhopiaa.QFnExactFlowStep
