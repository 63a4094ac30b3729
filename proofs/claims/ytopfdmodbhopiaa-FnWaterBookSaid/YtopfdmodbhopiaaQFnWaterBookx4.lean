-- Written by a program of this session out of the printer's texts and contracts of its own.
import Derived.Test.YtopfdmodbhopiaaSq
import Derived.Test.YtopfdmodbhopiaaQFnWaterBookx0
import Derived.Test.YtopfdmodbhopiaaQFnWaterBookx3
namespace Go.Proofs.Ytopfdmodbhopiaa.QFnWaterBook
open Go.RowKit Go.Proofs.YtopfdmodbhopiaaW.PrintWords Go.Proofs.YtopfdmodbhopiaaW.PrintLast Go.Proofs.YtopfdmodbhopiaaW.PrintMore Go.Proofs.Ytopfdmodbhopiaa.Sq
attribute [local go_sem] max2_int min2_int max_two min_two max_three min_three max_four min_four   -- for this text's walks alone
set_option linter.unusedVariables false
set_option linter.unusedSimpArgs false

/-! ### impl_FlowStep: function 13 -/
mutual
def impl_FlowStep.j0 : Nat → List Int → List Int → Bool → List Int → Int → Int → Option (List Int × Int × Int × Bool)
 | 0, _, _, _, _, _, _ => none
 | k + 1, x0, x2, x54, x149000, x149001, x149002 => if x54 = true then (some (([] : List Int), 0, 0, false)) else (impl_FlowStep.l0 k x0 x2 x149001 0 x149000 (x149000.length : Int) 0 x149000 x149001 x149002)
def impl_FlowStep.l0 : Nat → List Int → List Int → Int → Int → List Int → Int → Int → List Int → Int → Int → Option (List Int × Int × Int × Bool)
 | 0, _, _, _, _, _, _, _, _, _, _ => none
 | k + 1, x0, x2, x10, x11, x59, x60, x61, x149000, x149001, x149002 => if x61 < x60 then (if 0 ≤ x61 then (if x61 < (x59.length : Int) then ((impl_in.f (rd x59 x61) 0 1000000000000).bind fun t157 => (if t157 = true then (if x61 < (x2.length : Int) then ((impl_in.f (rd x2 x61) 0 1000000000000).bind fun t159 => (if t159 = true then (impl_FlowStep.l0 k x0 x2 (wrap64 (x10 + (rd x59 x61))) (wrap64 (x11 + (rd x2 x61))) x59 x60 (wrap64 (x61 + 1)) x149000 x149001 x149002) else (some (([] : List Int), 0, 0, false)))) else (none)) else (some (([] : List Int), 0, 0, false)))) else (none)) else (none)) else (if x149002 > (wrap64 (1000000000000 - x11)) then (impl_FlowStep.j2 k x0 x2 x11 true x149000 x149001 x149002) else (impl_FlowStep.j2 k x0 x2 x11 (x10 != x149002) x149000 x149001 x149002))
def impl_FlowStep.j2 : Nat → List Int → List Int → Int → Bool → List Int → Int → Int → Option (List Int × Int × Int × Bool)
 | 0, _, _, _, _, _, _, _ => none
 | k + 1, x0, x2, x11, x98, x149000, x149001, x149002 => if x98 = true then (some (([] : List Int), 0, 0, false)) else ((slices_Clone_int64_int64.f x149000).bind fun t161 => (impl_FlowStep.l1 k x0 x2 (x2.length : Int) 0 t161 x149001 (wrap64 (x149002 + x11))))
def impl_FlowStep.l1 : Nat → List Int → List Int → Int → Int → List Int → Int → Int → Option (List Int × Int × Int × Bool)
 | 0, _, _, _, _, _, _, _ => none
 | k + 1, x0, x110, x111, x112, x165000, x165001, x165002 => if x112 < x111 then (if 0 ≤ x112 then (if x112 < (x110.length : Int) then (if x112 < (x165000.length : Int) then (impl_FlowStep.l1 k x0 x110 x111 (wrap64 (x112 + 1)) (x165000.set (x112 : Int).toNat (wrap64 ((rd x165000 x112) + (rd x110 x112)))) x165001 x165002) else (none)) else (none)) else (none)) else ((slices_Clone_int64_int64.f x165000).bind fun t168 => (impl_FlowStep.l2 k x0 t168 (t168.length : Int) 0 x165000 x165001 x165002))
def impl_FlowStep.l2 : Nat → List Int → List Int → Int → Int → List Int → Int → Int → Option (List Int × Int × Int × Bool)
 | 0, _, _, _, _, _, _, _ => none
 | k + 1, x0, x129, x130, x131, x165000, x165001, x165002 => if x131 < x130 then (if 0 ≤ x131 then (if x131 < (x129.length : Int) then (if x131 < (x165000.length : Int) then ((some (x165000.set (x131 : Int).toNat (wrap64 ((rd x165000 x131) - (wrap64 (Int.tdiv (wrap64 ((rd x129 x131) + 1)) 2)))) : List Int)).bind fun y173 => (if x131 < (x0.length : Int) then (if (rd x0 x131) < 0 then (impl_FlowStep.l2 k x0 x129 x130 (wrap64 (x131 + 1)) y173 (wrap64 (x165001 + (wrap64 (Int.tdiv (wrap64 ((rd x129 x131) + 1)) 2)))) x165002) else (if 0 ≤ (rd x0 x131) then (if (rd x0 x131) < (x165000.length : Int) then (impl_FlowStep.l2 k x0 x129 x130 (wrap64 (x131 + 1)) (y173.set ((rd x0 x131) : Int).toNat (wrap64 ((rd y173 (rd x0 x131)) + (wrap64 (Int.tdiv (wrap64 ((rd x129 x131) + 1)) 2))))) x165001 x165002) else (none)) else (none))) else (none))) else (none)) else (none)) else (none)) else (some (x165000, x165001, x165002, true))
end
def impl_FlowStep.f (k : Nat) (l0 : List Int) (l1_0 : List Int) (a1_1 : Int) (a1_2 : Int) (l2 : List Int) : Option (List Int × Int × Int × Bool) := (impl_Catch.f k l0).bind fun bt150 => (if bt150.2 = true then (if (l1_0.length : Int) = (l0.length : Int) then (if (l2.length : Int) = (l0.length : Int) then ((impl_in.f a1_1 0 1000000000000).bind fun t154 => (if t154 = true then ((impl_in.f a1_2 0 1000000000000).bind fun t155 => (impl_FlowStep.j0 k l0 l2 (!t155) l1_0 a1_1 a1_2)) else (impl_FlowStep.j0 k l0 l2 true l1_0 a1_1 a1_2))) else (impl_FlowStep.j0 k l0 l2 true l1_0 a1_1 a1_2)) else (impl_FlowStep.j0 k l0 l2 true l1_0 a1_1 a1_2)) else (impl_FlowStep.j0 k l0 l2 true l1_0 a1_1 a1_2))
theorem impl_FlowStep.mono_l : ∀ k, (∀ y0 y1 y2 y3 y4 y5, LeO (impl_FlowStep.j0 k y0 y1 y2 y3 y4 y5) (impl_FlowStep.j0 (k + 1) y0 y1 y2 y3 y4 y5)) ∧ (∀ y0 y1 y2 y3 y4 y5 y6 y7 y8 y9, LeO (impl_FlowStep.l0 k y0 y1 y2 y3 y4 y5 y6 y7 y8 y9) (impl_FlowStep.l0 (k + 1) y0 y1 y2 y3 y4 y5 y6 y7 y8 y9)) ∧ (∀ y0 y1 y2 y3 y4 y5 y6, LeO (impl_FlowStep.j2 k y0 y1 y2 y3 y4 y5 y6) (impl_FlowStep.j2 (k + 1) y0 y1 y2 y3 y4 y5 y6)) ∧ (∀ y0 y1 y2 y3 y4 y5 y6, LeO (impl_FlowStep.l1 k y0 y1 y2 y3 y4 y5 y6) (impl_FlowStep.l1 (k + 1) y0 y1 y2 y3 y4 y5 y6)) ∧ (∀ y0 y1 y2 y3 y4 y5 y6, LeO (impl_FlowStep.l2 k y0 y1 y2 y3 y4 y5 y6) (impl_FlowStep.l2 (k + 1) y0 y1 y2 y3 y4 y5 y6))
 | 0 => ⟨fun _ _ _ _ _ _ r h => by simp [impl_FlowStep.j0] at h, fun _ _ _ _ _ _ _ _ _ _ r h => by simp [impl_FlowStep.l0] at h, fun _ _ _ _ _ _ _ r h => by simp [impl_FlowStep.j2] at h, fun _ _ _ _ _ _ _ r h => by simp [impl_FlowStep.l1] at h, fun _ _ _ _ _ _ _ r h => by simp [impl_FlowStep.l2] at h⟩
 | k + 1 => by
  obtain ⟨ih0, ih1, ih2, ih3, ih4⟩ := impl_FlowStep.mono_l k
  refine ⟨?_, ?_, ?_, ?_, ?_⟩
  intro y0 y1 y2 y3 y4 y5; unfold impl_FlowStep.j0; rotate_left
  intro y0 y1 y2 y3 y4 y5 y6 y7 y8 y9; unfold impl_FlowStep.l0; rotate_left
  intro y0 y1 y2 y3 y4 y5 y6; unfold impl_FlowStep.j2; rotate_left
  intro y0 y1 y2 y3 y4 y5 y6; unfold impl_FlowStep.l1; rotate_left
  intro y0 y1 y2 y3 y4 y5 y6; unfold impl_FlowStep.l2; rotate_left
  all_goals repeat' first
  | (with_reducible exact ih0 _ _ _ _ _ _)
  | (with_reducible exact ih1 _ _ _ _ _ _ _ _ _ _)
  | (with_reducible exact ih2 _ _ _ _ _ _ _)
  | (with_reducible exact ih3 _ _ _ _ _ _ _)
  | (with_reducible exact ih4 _ _ _ _ _ _ _)
  | (with_reducible exact impl_Catch.mono _ _)
  | (with_reducible exact LeO.refl _)
  | (with_reducible exact LeO.none _)
  | (with_reducible refine LeO.ite ?_ ?_)
  | (with_reducible refine LeO.bind ?_ (fun _ => ?_))
  | exact ih0 _ _ _ _ _ _
  | exact ih1 _ _ _ _ _ _ _ _ _ _
  | exact ih2 _ _ _ _ _ _ _
  | exact ih3 _ _ _ _ _ _ _
  | exact ih4 _ _ _ _ _ _ _
  | exact impl_Catch.mono _ _
  | exact LeO.none _
  | refine LeO.ite ?_ ?_
  | refine LeO.bind ?_ (fun _ => ?_)
theorem impl_FlowStep.mono : ∀ a0 a1 a2 a3 a4 k, LeO (impl_FlowStep.f k a0 a1 a2 a3 a4) (impl_FlowStep.f (k + 1) a0 a1 a2 a3 a4) := by
 intro a0 a1 a2 a3 a4 k
 obtain ⟨ih0, ih1, ih2, ih3, ih4⟩ := impl_FlowStep.mono_l k
 unfold impl_FlowStep.f
 repeat' first
   | (with_reducible exact ih0 _ _ _ _ _ _)
   | (with_reducible exact ih1 _ _ _ _ _ _ _ _ _ _)
   | (with_reducible exact ih2 _ _ _ _ _ _ _)
   | (with_reducible exact ih3 _ _ _ _ _ _ _)
   | (with_reducible exact ih4 _ _ _ _ _ _ _)
   | (with_reducible exact impl_Catch.mono _ _)
   | (with_reducible exact LeO.refl _)
   | (with_reducible exact LeO.none _)
   | (with_reducible refine LeO.ite ?_ ?_)
   | (with_reducible refine LeO.bind ?_ (fun _ => ?_))
   | exact ih0 _ _ _ _ _ _
   | exact ih1 _ _ _ _ _ _ _ _ _ _
   | exact ih2 _ _ _ _ _ _ _
   | exact ih3 _ _ _ _ _ _ _
   | exact ih4 _ _ _ _ _ _ _
   | exact impl_Catch.mono _ _
   | exact LeO.none _
   | refine LeO.ite ?_ ?_
   | refine LeO.bind ?_ (fun _ => ?_)
def impl_FlowStep.T15 : Bool × List (List Nat × List Nat) := (true, [([], []), ([0], [0]), ([1], [1]), ([], []), ([3], [3]), ([], []), ([5], [5]), ([], []), ([6, 7], [6, 7]), ([2, 4, 8], [2, 4, 8]), ([], []), ([10, 9, 2, 0, 1, 2, 3, 4, 5, 6, 7, 8, 9, 10], [9, 10])])
def impl_FlowStep.B15 : List Nat := [0, 1, 3, 0, 8, 0, 32, 0, 224, 511, 0, 2047]
theorem impl_FlowStep.tab15 : rtab .any (opsOf Try.f13 15) = impl_FlowStep.T15 := by kernel_rfl
theorem impl_FlowStep.bits15 : waitsOk impl_FlowStep.T15.2 impl_FlowStep.B15 = true := by kernel_rfl
def impl_FlowStep.T29 : Bool × List (List Nat × List Nat) := (true, [([], []), ([0], [0]), ([], []), ([], []), ([2, 3], [2, 3]), ([4], [4]), ([1, 5], [1, 5]), ([6], [6]), ([], []), ([7, 8], [7, 8]), ([1, 5, 0, 1, 2, 3, 4, 5, 6, 7, 8, 9], [1, 5]), ([10, 9, 0, 1, 2, 3, 4, 5, 6, 7, 8, 9], [9, 10])])
def impl_FlowStep.B29 : List Nat := [0, 1, 0, 0, 12, 28, 63, 127, 0, 511, 1023, 2047]
theorem impl_FlowStep.tab29 : rtab .any (opsOf Try.f13 29) = impl_FlowStep.T29 := by kernel_rfl
theorem impl_FlowStep.bits29 : waitsOk impl_FlowStep.T29.2 impl_FlowStep.B29 = true := by kernel_rfl
set_option maxHeartbeats 8000000 in
set_option maxRecDepth 100000 in
theorem impl_FlowStep.calls (k : Nat) (A0 : Option Addr) (c0 : Nat) (l0 : List Int) (A1_0 : Option Addr) (c1_0 : Nat) (l1_0 : List Int) (a1_1 : Int) (a1_2 : Int) (A2 : Option Addr) (c2 : Nat) (l2 : List Int) (r1 : List Int) (r2 : Int) (r3 : Int) (r4 : Bool) (w : World) (hr0 : Kd.C (Kd.int .i64) w A0 l0.length l0) (hc0 : l0.length ≤ c0) (hr1_0 : Kd.C (Kd.int .i64) w A1_0 l1_0.length l1_0) (hc1_0 : l1_0.length ≤ c1_0) (hr2 : Kd.C (Kd.int .i64) w A2 l2.length l2) (hc2 : l2.length ≤ c2) (h : impl_FlowStep.f k l0 l1_0 a1_1 a1_2 l2 = some (r1, r2, r3, r4)) :
  Calls Try.prog 13 #[.slice A0 l0.length c0, .agg #[.slice A1_0 l1_0.length c1_0, .int .i64 a1_1, .int .i64 a1_2], .slice A2 l2.length c2] w fun e w' => ∃ v0_ : Value, e = .returned (.tuple #[.agg #[v0_, .int .i64 r2, .int .i64 r3], .bool r4]) ∧ Kd.R (Kd.int .i64) 2 w' w.heap.size (fun _ => True) v0_ r1 ∧ Below w.heap.size w w' := by
 have hu26 := Try.underlying26; have HR0 := Aside0.mk hr0; have HC0 := Aside0.mk hc0; clear hr0 hc0; have HR1_0 := Aside0.mk hr1_0; have HC1_0 := Aside0.mk hc1_0; clear hr1_0 hc1_0; have HR2 := Aside0.mk hr2; have HC2 := Aside0.mk hc2; clear hr2 hc2
 have HB := Aside0.mk (Below.refl w.heap.size w)
 have H : ((impl_Catch.f k l0).bind fun bt150 => (if bt150.2 = true then (if (l1_0.length : Int) = (l0.length : Int) then (if (l2.length : Int) = (l0.length : Int) then ((impl_in.f a1_1 0 1000000000000).bind fun t154 => (if t154 = true then ((impl_in.f a1_2 0 1000000000000).bind fun t155 => (impl_FlowStep.j0 k l0 l2 (!t155) l1_0 a1_1 a1_2)) else (impl_FlowStep.j0 k l0 l2 true l1_0 a1_1 a1_2))) else (impl_FlowStep.j0 k l0 l2 true l1_0 a1_1 a1_2)) else (impl_FlowStep.j0 k l0 l2 true l1_0 a1_1 a1_2)) else (impl_FlowStep.j0 k l0 l2 true l1_0 a1_1 a1_2))) = some (r1, r2, r3, r4) := h
 clear h; replace H := Option.bind_eq_some_iff.mp H
 obtain ⟨⟨t150, t151⟩, A40, H⟩ := H
 replace H : (if t151 = true then (if (l1_0.length : Int) = (l0.length : Int) then (if (l2.length : Int) = (l0.length : Int) then ((impl_in.f a1_1 0 1000000000000).bind fun t154 => (if t154 = true then ((impl_in.f a1_2 0 1000000000000).bind fun t155 => (impl_FlowStep.j0 k l0 l2 (!t155) l1_0 a1_1 a1_2)) else (impl_FlowStep.j0 k l0 l2 true l1_0 a1_1 a1_2))) else (impl_FlowStep.j0 k l0 l2 true l1_0 a1_1 a1_2)) else (impl_FlowStep.j0 k l0 l2 true l1_0 a1_1 a1_2)) else (impl_FlowStep.j0 k l0 l2 true l1_0 a1_1 a1_2)) = some (r1, r2, r3, r4) := H
 have A4 := Aside0.mk A40; clear A40; have HC5 := Aside0.mk H; clear H
 go_enter Try.func13, Try.ntmps13
 go_upto_region 2 with (first | ((with_reducible refine gate_dst (N := 4) rfl ?_); (try (refine gate_guard (by rfl) ?_; dsimp only)); refine box_event ?hg (N := 4) ?hd (cs := #[.slice A1_0 l1_0.length c1_0, .int .i64 a1_1, .int .i64 a1_2]) (t := 26) ?hr ?_; (case hd => rfl); (case hg => rfl); (case hr => first | (go_simp; done) | (go_simp; rfl)); intro gb148 hg w6 hbox hb; have BK148 := Aside0.mk (hbox); have GW148 := gE_ HB hg; have GE148 := gE_ HB hg; replace HB := bS_ HB hb; clear hb hbox hg) | ((with_reducible refine gate_dst (N := 6) rfl ?_); (try (refine gate_guard (by rfl) ?_; dsimp only)); refine box_event ?hg (N := 6) ?hd (cs := #[.slice none 0 0, .int .i64 0, .int .i64 0]) (t := 26) ?hr ?_; (case hd => rfl); (case hg => rfl); (case hr => first | (go_simp; done) | (go_simp; rfl)); intro gb149 hg w7 hbox hb; have BK149 := Aside0.mk (hbox); have GW149 := gE_ HB hg; have GE149 := gE_ HB hg; replace HB := bS_ HB hb; have NB148_149 := nL_ BK148 hg; have NB149_148 := nG_ BK148 hg; replace BK148 := bB_ BK148 hb; clear hb hbox hg) | ((with_reducible refine gate_callee (f := 46) rfl ?_); refine gL_ (some 23) Try.func46 #[.slice A0 l0.length c0] ?_; (with_reducible refine (impl_Catch.calls k _ _ l0 t150 t151 _ ?side1 ?side2 A4.out).mono ?_); (case side1 => exact cB_ HR0 HB); (case side2 => exact HC0.out); rintro e w8 ⟨v152, rfl, ho0, hb⟩; refine ⟨_, rfl, ?_⟩; have HO153 := rL_ ho0 HB; replace BK148 := bB_ BK148 hb; replace BK149 := bB_ BK149 hb; replace HB := bS_ HB hb; (try clear hb); (try clear hb2); (try clear hk); (try clear hi); (try clear ho0)))
 (try simp only [Act.put, List.setIfInBounds_toArray, List.set_cons_zero, List.set_cons_succ])
 go_cut [54] (fun v54 wc => ∃ (kq : Nat) (x54_4 : Bool), v54 = .bool x54_4 ∧ Aside0 (impl_FlowStep.j0 kq l0 l2 x54_4 l1_0 a1_1 a1_2 = some (r1, r2, r3, r4)) ∧ Aside0 (kq ≤ k) ∧ Aside0 (wc.heap[gb148]? = some (.cells #[(.slice A1_0 l1_0.length c1_0), .int .i64 a1_1, .int .i64 a1_2] 26 (0, 0))) ∧ Aside0 (wc.heap[gb149]? = some (.cells #[(.slice none 0 0), .int .i64 0, .int .i64 0] 26 (0, 0))) ∧ Aside0 (Below w.heap.size w wc))
 case first =>
  have H := HC5.out; clear HC5
  by_cases c9 : t151 = true
  ·subst c9
   have H1 : (if (l1_0.length : Int) = (l0.length : Int) then (if (l2.length : Int) = (l0.length : Int) then ((impl_in.f a1_1 0 1000000000000).bind fun t154 => (if t154 = true then ((impl_in.f a1_2 0 1000000000000).bind fun t155 => (impl_FlowStep.j0 k l0 l2 (!t155) l1_0 a1_1 a1_2)) else (impl_FlowStep.j0 k l0 l2 true l1_0 a1_1 a1_2))) else (impl_FlowStep.j0 k l0 l2 true l1_0 a1_1 a1_2)) else (impl_FlowStep.j0 k l0 l2 true l1_0 a1_1 a1_2)) = some (r1, r2, r3, r4) := by rw [if_pos rfl] at H; exact H
   clear H; have H := H1; clear H1
   by_cases c10 : (l1_0.length : Int) = (l0.length : Int)
   ·rw [if_pos c10] at H
    have c10b0 : ((l1_0.length : Int) == (l0.length : Int)) = true := beq_iff_eq.mpr c10
    have c10b1 : ((l1_0.length : Int) != (l0.length : Int)) = false := bne_eq_false_iff_eq.mpr c10
    have c10b2 : (l1_0.length == l0.length) = true := by first | simpa using c10 | (simp at c10 ⊢; omega)
    clear c10
    (first | rw [c10b0] | (simp only [i64_w, i32_w]; rw [c10b0]) | skip)
    by_cases c11 : (l2.length : Int) = (l0.length : Int)
    ·rw [if_pos c11] at H
     have c11b0 : ((l2.length : Int) == (l0.length : Int)) = true := beq_iff_eq.mpr c11
     have c11b1 : ((l2.length : Int) != (l0.length : Int)) = false := bne_eq_false_iff_eq.mpr c11
     have c11b2 : (l2.length == l0.length) = true := by first | simpa using c11 | (simp at c11 ⊢; omega)
     clear c11; replace H := Option.bind_eq_some_iff.mp H
     obtain ⟨t154, A120, H⟩ := H
     replace H : (if t154 = true then ((impl_in.f a1_2 0 1000000000000).bind fun t155 => (impl_FlowStep.j0 k l0 l2 (!t155) l1_0 a1_1 a1_2)) else (impl_FlowStep.j0 k l0 l2 true l1_0 a1_1 a1_2)) = some (r1, r2, r3, r4) := H
     have A12 := Aside0.mk A120; clear A120
     by_cases c13 : t154 = true
     ·subst c13
      have H1 : ((impl_in.f a1_2 0 1000000000000).bind fun t155 => (impl_FlowStep.j0 k l0 l2 (!t155) l1_0 a1_1 a1_2)) = some (r1, r2, r3, r4) := by rw [if_pos rfl] at H; exact H
      clear H; have H := H1; clear H1; replace H := Option.bind_eq_some_iff.mp H
      obtain ⟨t155, A140, H⟩ := H
      replace H : (impl_FlowStep.j0 k l0 l2 (!t155) l1_0 a1_1 a1_2) = some (r1, r2, r3, r4) := H
      have A14 := Aside0.mk A140; clear A140; have H' := Aside0.mk H; clear H; have hnb15 := NB148_149.out; have hnc15 := NB149_148.out
      have hcz16_0 : w8.cell? ⟨gb148, 0, none⟩ = some (.slice A1_0 l1_0.length c1_0) := (blk_cell BK148.out 0).trans rfl
      have hcz16_1 : w8.cell? ⟨gb148, 1, none⟩ = some (.int .i64 a1_1) := (blk_cell BK148.out 1).trans rfl
      have hcz16_2 : w8.cell? ⟨gb148, 2, none⟩ = some (.int .i64 a1_2) := (blk_cell BK148.out 2).trans rfl
      have hfz16_0 := blk_frozen BK148.out 0; have hfz16_1 := blk_frozen BK148.out 1; have hfz16_2 := blk_frozen BK148.out 2
      go_wp2_with (first | (go_at_call 47; (with_reducible refine (impl_in.calls a1_1 0 1000000000000 true _ A12.out).mono ?_); rintro e w' ⟨rfl, ⟨nd, rfl⟩⟩) | (go_at_call 47; (with_reducible refine (impl_in.calls a1_2 0 1000000000000 t155 _ A14.out).mono ?_); rintro e w' ⟨rfl, ⟨nd, rfl⟩⟩))
      go_meet
      case rel => exact ⟨_, (!t155), (by first | rfl | (simp; done) | (simp [*]; done)), H', ⟨by first | omega | exact Nat.le_refl _⟩, ⟨by exact bT_ BK148⟩, ⟨by exact bT_ BK149⟩, ⟨by repeat (first | (with_reducible first | exact HB.out | apply below_alloc | apply pw_below_drewN | apply below_drew1 | refine below_set ?_ GE148.out | refine below_set ?_ GE149.out) | exact HB.out)⟩⟩
     ·replace c13 := Bool.eq_false_iff.mpr c13
      subst c13
      have H1 : (impl_FlowStep.j0 k l0 l2 true l1_0 a1_1 a1_2) = some (r1, r2, r3, r4) := by rw [if_neg (show ¬ (false = true) by decide)] at H; exact H
      clear H; have H := H1; clear H1; have H' := Aside0.mk H; clear H; have hnb17 := NB148_149.out; have hnc17 := NB149_148.out
      have hcz18_0 : w8.cell? ⟨gb148, 0, none⟩ = some (.slice A1_0 l1_0.length c1_0) := (blk_cell BK148.out 0).trans rfl
      have hcz18_1 : w8.cell? ⟨gb148, 1, none⟩ = some (.int .i64 a1_1) := (blk_cell BK148.out 1).trans rfl
      have hcz18_2 : w8.cell? ⟨gb148, 2, none⟩ = some (.int .i64 a1_2) := (blk_cell BK148.out 2).trans rfl
      have hfz18_0 := blk_frozen BK148.out 0; have hfz18_1 := blk_frozen BK148.out 1; have hfz18_2 := blk_frozen BK148.out 2
      go_wp2_with (first | (go_at_call 47; (with_reducible refine (impl_in.calls a1_1 0 1000000000000 false _ A12.out).mono ?_); rintro e w' ⟨rfl, ⟨nd, rfl⟩⟩))
      go_meet
      case rel => exact ⟨_, (true), (by first | rfl | (simp; done) | (simp [*]; done)), H', ⟨by first | omega | exact Nat.le_refl _⟩, ⟨by exact bT_ BK148⟩, ⟨by exact bT_ BK149⟩, ⟨by repeat (first | (with_reducible first | exact HB.out | apply below_alloc | apply pw_below_drewN | apply below_drew1 | refine below_set ?_ GE148.out | refine below_set ?_ GE149.out) | exact HB.out)⟩⟩
    ·rw [if_neg c11] at H
     have c11b0 : ((l2.length : Int) == (l0.length : Int)) = false := beq_eq_false_iff_ne.mpr c11
     have c11b1 : ((l2.length : Int) != (l0.length : Int)) = true := bne_iff_ne.mpr c11
     have c11b2 : (l2.length == l0.length) = false := by first | simpa using c11 | (simp at c11 ⊢; omega)
     have H' := Aside0.mk H; clear H; have hnb19 := NB148_149.out; have hnc19 := NB149_148.out
     have hcz20_0 : w8.cell? ⟨gb148, 0, none⟩ = some (.slice A1_0 l1_0.length c1_0) := (blk_cell BK148.out 0).trans rfl
     have hcz20_1 : w8.cell? ⟨gb148, 1, none⟩ = some (.int .i64 a1_1) := (blk_cell BK148.out 1).trans rfl
     have hcz20_2 : w8.cell? ⟨gb148, 2, none⟩ = some (.int .i64 a1_2) := (blk_cell BK148.out 2).trans rfl
     have hfz20_0 := blk_frozen BK148.out 0; have hfz20_1 := blk_frozen BK148.out 1; have hfz20_2 := blk_frozen BK148.out 2
     go_wp2
     go_meet
     case rel => exact ⟨_, (true), (by first | rfl | (simp; done) | (simp [*]; done)), H', ⟨by first | omega | exact Nat.le_refl _⟩, ⟨by exact bT_ BK148⟩, ⟨by exact bT_ BK149⟩, ⟨by repeat (first | (with_reducible first | exact HB.out | apply below_alloc | apply pw_below_drewN | apply below_drew1 | refine below_set ?_ GE148.out | refine below_set ?_ GE149.out) | exact HB.out)⟩⟩
   ·rw [if_neg c10] at H
    have c10b0 : ((l1_0.length : Int) == (l0.length : Int)) = false := beq_eq_false_iff_ne.mpr c10
    have c10b1 : ((l1_0.length : Int) != (l0.length : Int)) = true := bne_iff_ne.mpr c10
    have c10b2 : (l1_0.length == l0.length) = false := by first | simpa using c10 | (simp at c10 ⊢; omega)
    (first | rw [c10b0] | (simp only [i64_w, i32_w]; rw [c10b0]) | skip)
    have H' := Aside0.mk H; clear H; have hnb21 := NB148_149.out; have hnc21 := NB149_148.out
    have hcz22_0 : w8.cell? ⟨gb148, 0, none⟩ = some (.slice A1_0 l1_0.length c1_0) := (blk_cell BK148.out 0).trans rfl
    have hcz22_1 : w8.cell? ⟨gb148, 1, none⟩ = some (.int .i64 a1_1) := (blk_cell BK148.out 1).trans rfl
    have hcz22_2 : w8.cell? ⟨gb148, 2, none⟩ = some (.int .i64 a1_2) := (blk_cell BK148.out 2).trans rfl
    have hfz22_0 := blk_frozen BK148.out 0; have hfz22_1 := blk_frozen BK148.out 1; have hfz22_2 := blk_frozen BK148.out 2
    go_wp2
    go_meet
    case rel => exact ⟨_, (true), (by first | rfl | (simp; done) | (simp [*]; done)), H', ⟨by first | omega | exact Nat.le_refl _⟩, ⟨by exact bT_ BK148⟩, ⟨by exact bT_ BK149⟩, ⟨by repeat (first | (with_reducible first | exact HB.out | apply below_alloc | apply pw_below_drewN | apply below_drew1 | refine below_set ?_ GE148.out | refine below_set ?_ GE149.out) | exact HB.out)⟩⟩
  ·replace c9 := Bool.eq_false_iff.mpr c9
   subst c9
   have H1 : (impl_FlowStep.j0 k l0 l2 true l1_0 a1_1 a1_2) = some (r1, r2, r3, r4) := by rw [if_neg (show ¬ (false = true) by decide)] at H; exact H
   clear H; have H := H1; clear H1; have H' := Aside0.mk H; clear H
   go_wp2
   go_meet
   case rel => exact ⟨_, (true), (by first | rfl | (simp; done) | (simp [*]; done)), H', ⟨by first | omega | exact Nat.le_refl _⟩, ⟨by exact bT_ BK148⟩, ⟨by exact bT_ BK149⟩, ⟨by repeat (first | (with_reducible first | exact HB.out | apply below_alloc | apply pw_below_drewN | apply below_drew1 | refine below_set ?_ GE148.out | refine below_set ?_ GE149.out) | exact HB.out)⟩⟩
 case rest =>
  clear HC5; (try clear c1); (try clear c2); (try clear p2); (try clear c4); (try clear c9); (try clear c10); (try clear c10b0); (try clear c10b1); (try clear c10b2); (try clear c11); (try clear c11b0); (try clear c11b1); (try clear c11b2); (try clear c13); (try clear c15); (try clear c17); (try clear c19); (try clear c21); (try clear hcz16_0); (try clear hcz16_1); (try clear hcz16_2); (try clear hcz18_0); (try clear hcz18_1); (try clear hcz18_2); (try clear hcz20_0); (try clear hcz20_1); (try clear hcz20_2); (try clear hcz22_0); (try clear hcz22_1); (try clear hcz22_2); (try clear hfz16_0); (try clear hfz16_1); (try clear hfz16_2); (try clear hfz18_0); (try clear hfz18_1); (try clear hfz18_2); (try clear hfz20_0); (try clear hfz20_1); (try clear hfz20_2); (try clear hfz22_0); (try clear hfz22_1); (try clear hfz22_2)
  obtain ⟨kq, x54_4, rfl, HA, HJ4, BK148, BK149, HB⟩ := hcut
  cases kq with
  | zero => exact absurd HA.out (by simp [impl_FlowStep.j0])
  | succ kj4 =>
   have H := HA.out; clear HA
   simp only [impl_FlowStep.j0] at H
   by_cases c23 : x54_4 = true
   ·subst c23
    have H1 : (some (([] : List Int), 0, 0, false)) = some (r1, r2, r3, r4) := by rw [if_pos rfl] at H; exact H
    clear H; have H := H1; clear H1
    simp only [Option.some.injEq, Prod.mk.injEq] at H
    obtain ⟨rfl, rfl, rfl, rfl⟩ := H
    have hnb24 := NB149_148.out; have hnc24 := NB148_149.out
    have hcz25_0 : wc.cell? ⟨gb149, 0, none⟩ = some (.slice none 0 0) := (blk_cell BK149.out 0).trans rfl
    have hcz25_1 : wc.cell? ⟨gb149, 1, none⟩ = some (.int .i64 0) := (blk_cell BK149.out 1).trans rfl
    have hcz25_2 : wc.cell? ⟨gb149, 2, none⟩ = some (.int .i64 0) := (blk_cell BK149.out 2).trans rfl
    have hfz25_0 := blk_frozen BK149.out 0; have hfz25_1 := blk_frozen BK149.out 1; have hfz25_2 := blk_frozen BK149.out 2
    go_wp2
    refine bodyPost_ret (results_ct rfl _ _ gb149 26 #[.slice none 0 0, .int .i64 0, .int .i64 0] (0, 0) _ rfl (by (with_reducible repeat (first | refine blk_drewN ?_ _ | refine blk_drew ?_ | refine blk_alloc ?_ _)); refine blk_put (cs := #[.slice none 0 0, .int .i64 0, .int .i64 0]) ?_ 2 _ rfl; (with_reducible repeat (first | refine blk_drewN ?_ _ | refine blk_drew ?_ | refine blk_alloc ?_ _)); refine blk_put (cs := #[.slice none 0 0, .int .i64 0, .int .i64 0]) ?_ 1 _ rfl; (with_reducible repeat (first | refine blk_drewN ?_ _ | refine blk_drew ?_ | refine blk_alloc ?_ _)); refine blk_put (cs := #[.slice none 0 0, .int .i64 0, .int .i64 0]) ?_ 0 _ rfl; exact bT_ BK149) Try.underlying26 rfl (by kernel_rfl)) rfl ?_
    exact ⟨_, by first | rfl | (simp [errW_none, errW_some] <;> rfl) | (simp [*, errW_none, errW_some] <;> rfl), by first | exact Kd.R_nil _ _ _ _ _ | exact Kd.N_nil _ _ _ _ _ | exact Kd.V_nil _ _ _ _ _ | exact Kd.Q_nil _ _ _ _ _ | exact Kd.S_nil _ _ _ _ _, by repeat (first | (with_reducible first | exact HB.out | apply below_alloc | apply pw_below_drewN | apply below_drew1 | refine below_set ?_ GE148.out | refine below_set ?_ GE149.out) | exact HB.out)⟩
   ·replace c23 := Bool.eq_false_iff.mpr c23
    subst c23
    have H1 : (impl_FlowStep.l0 kj4 l0 l2 a1_1 0 l1_0 (l1_0.length : Int) 0 l1_0 a1_1 a1_2) = some (r1, r2, r3, r4) := by rw [if_neg (show ¬ (false = true) by decide)] at H; exact H
    clear H; have H := H1; clear H1; have H' := Aside0.mk H; clear H; have hnb26 := NB148_149.out; have hnc26 := NB149_148.out
    have hcz27_0 : wc.cell? ⟨gb148, 0, none⟩ = some (.slice A1_0 l1_0.length c1_0) := (blk_cell BK148.out 0).trans rfl
    have hcz27_1 : wc.cell? ⟨gb148, 1, none⟩ = some (.int .i64 a1_1) := (blk_cell BK148.out 1).trans rfl
    have hcz27_2 : wc.cell? ⟨gb148, 2, none⟩ = some (.int .i64 a1_2) := (blk_cell BK148.out 2).trans rfl
    have hfz27_0 := blk_frozen BK148.out 0; have hfz27_1 := blk_frozen BK148.out 1; have hfz27_2 := blk_frozen BK148.out 2
    go_wp2
    go_loopg [10, 11, 61] kj4 (fun kq v10 v11 v61 w' => ∃ (x10_2 : Int) (x11_2 : Int) (x61_2 : Int) (x150001_2 : Int) (x150002_2 : Int), v10 = .int .i64 x10_2 ∧ v11 = .int .i64 x11_2 ∧ v61 = .int .i64 x61_2 ∧ Aside0 (impl_FlowStep.l0 kq l0 l2 x10_2 x11_2 l1_0 (l1_0.length : Int) x61_2 l1_0 a1_1 a1_2 = some (r1, r2, r3, r4)) ∧ Aside0 (kq ≤ kj4) ∧ Aside0 (w'.heap[gb148]? = some (.cells #[(.slice A1_0 l1_0.length c1_0), .int .i64 a1_1, .int .i64 a1_2] 26 (0, 0))) ∧ Aside0 (w'.heap[gb149]? = some (.cells #[(.slice none 0 0), .int .i64 x150001_2, .int .i64 x150002_2] 26 (0, 0))) ∧ Aside0 (Below w.heap.size w w'))
    case atStart => exact ⟨(a1_1), (0), (0), (0), (0), (by first | rfl | (simp; done) | (simp [*]; done)), (by first | rfl | (simp; done) | (simp [*]; done)), (by first | rfl | (simp; done) | (simp [*]; done)), H', ⟨Nat.le_refl _⟩, ⟨by exact bT_ BK148⟩, ⟨by exact bT_ BK149⟩, ⟨by repeat (first | (with_reducible first | exact HB.out | apply below_alloc | apply pw_below_drewN | apply below_drew1 | refine below_set ?_ GE148.out | refine below_set ?_ GE149.out) | exact HB.out)⟩⟩
    case round =>
     clear H'; (try clear c1); (try clear c2); (try clear p2); (try clear c4); (try clear c9); (try clear c10); (try clear c10b0); (try clear c10b1); (try clear c10b2); (try clear c11); (try clear c11b0); (try clear c11b1); (try clear c11b2); (try clear c13); (try clear c15); (try clear c17); (try clear c19); (try clear c21); (try clear c23); (try clear c24); (try clear c26); (try clear hcz16_0); (try clear hcz16_1); (try clear hcz16_2); (try clear hcz18_0); (try clear hcz18_1); (try clear hcz18_2); (try clear hcz20_0); (try clear hcz20_1); (try clear hcz20_2); (try clear hcz22_0); (try clear hcz22_1); (try clear hcz22_2); (try clear hcz25_0); (try clear hcz25_1); (try clear hcz25_2); (try clear hcz27_0); (try clear hcz27_1); (try clear hcz27_2); (try clear hfz16_0); (try clear hfz16_1); (try clear hfz16_2); (try clear hfz18_0); (try clear hfz18_1); (try clear hfz18_2); (try clear hfz20_0); (try clear hfz20_1); (try clear hfz20_2); (try clear hfz22_0); (try clear hfz22_1); (try clear hfz22_2); (try clear hfz25_0); (try clear hfz25_1); (try clear hfz25_2); (try clear hfz27_0); (try clear hfz27_1); (try clear hfz27_2); (try clear p2)
     obtain ⟨x10_2, x11_2, x61_2, x150001_2, x150002_2, rfl, rfl, rfl, HA, HK2, BK148, BK149, HB⟩ := hrel
     cases gk with
     | zero => exact absurd HA.out (by simp [impl_FlowStep.l0])
     | succ k2 =>
      have H := HA.out; clear HA
      simp only [impl_FlowStep.l0] at H
      by_cases c28 : x61_2 < (l1_0.length : Int)
      ·rw [if_pos c28] at H
       have c28b0 : decide (x61_2 < (l1_0.length : Int)) = true := decide_eq_true c28
       clear c28
       by_cases c29 : 0 ≤ x61_2
       ·rw [if_pos c29] at H
        have c29b0 : decide (0 ≤ x61_2) = true := decide_eq_true c29
        clear c29
        by_cases c30 : x61_2 < (l1_0.length : Int)
        ·rw [if_pos c30] at H
         have c30b0 : decide (x61_2 < (l1_0.length : Int)) = true := decide_eq_true c30
         clear c30; replace H := Option.bind_eq_some_iff.mp H
         obtain ⟨t157, A310, H⟩ := H
         replace H : (if t157 = true then (if x61_2 < (l2.length : Int) then ((impl_in.f (rd l2 x61_2) 0 1000000000000).bind fun t159 => (if t159 = true then (impl_FlowStep.l0 k2 l0 l2 (wrap64 (x10_2 + (rd l1_0 x61_2))) (wrap64 (x11_2 + (rd l2 x61_2))) l1_0 (l1_0.length : Int) (wrap64 (x61_2 + 1)) l1_0 a1_1 a1_2) else (some (([] : List Int), 0, 0, false)))) else (none)) else (some (([] : List Int), 0, 0, false))) = some (r1, r2, r3, r4) := H
         have A31 := Aside0.mk A310; clear A310
         by_cases c32 : t157 = true
         ·subst c32
          have H1 : (if x61_2 < (l2.length : Int) then ((impl_in.f (rd l2 x61_2) 0 1000000000000).bind fun t159 => (if t159 = true then (impl_FlowStep.l0 k2 l0 l2 (wrap64 (x10_2 + (rd l1_0 x61_2))) (wrap64 (x11_2 + (rd l2 x61_2))) l1_0 (l1_0.length : Int) (wrap64 (x61_2 + 1)) l1_0 a1_1 a1_2) else (some (([] : List Int), 0, 0, false)))) else (none)) = some (r1, r2, r3, r4) := by rw [if_pos rfl] at H; exact H
          clear H; have H := H1; clear H1
          by_cases c33 : x61_2 < (l2.length : Int)
          ·rw [if_pos c33] at H
           have c33b0 : decide (x61_2 < (l2.length : Int)) = true := decide_eq_true c33
           clear c33; replace H := Option.bind_eq_some_iff.mp H
           obtain ⟨t159, A340, H⟩ := H
           replace H : (if t159 = true then (impl_FlowStep.l0 k2 l0 l2 (wrap64 (x10_2 + (rd l1_0 x61_2))) (wrap64 (x11_2 + (rd l2 x61_2))) l1_0 (l1_0.length : Int) (wrap64 (x61_2 + 1)) l1_0 a1_1 a1_2) else (some (([] : List Int), 0, 0, false))) = some (r1, r2, r3, r4) := H
           have A34 := Aside0.mk A340; clear A340
           by_cases c35 : t159 = true
           ·subst c35
            have H1 : (impl_FlowStep.l0 k2 l0 l2 (wrap64 (x10_2 + (rd l1_0 x61_2))) (wrap64 (x11_2 + (rd l2 x61_2))) l1_0 (l1_0.length : Int) (wrap64 (x61_2 + 1)) l1_0 a1_1 a1_2) = some (r1, r2, r3, r4) := by rw [if_pos rfl] at H; exact H
            clear H; have H := H1; clear H1; have H' := Aside0.mk H; clear H
            have p156 : 0 ≤ (x61_2 : Int) := of_decide_eq_true (by first | (with_reducible assumption) | assumption)
            have q156 : x61_2 < (l1_0.length : Int) := of_decide_eq_true (by first | (with_reducible assumption) | assumption)
            obtain ⟨ad156, e156, hx156_0⟩ := Kd.at_int HR1_0.out x61_2 p156 q156
            cases e156
            replace hx156_0 := (HB.out.cell (World.block_lt_of_cell? w _ hx156_0)).trans hx156_0
            replace p156 := eq_true p156; replace q156 := eq_true q156
            go_wp2_with (first | ((with_reducible refine gate_callee (f := 47) rfl ?_); refine gL_ (some 67) Try.func47 #[.int .i64 (rd l1_0 x61_2), .int .i64 0, .int .i64 1000000000000] ?_; (with_reducible refine (impl_in.calls (rd l1_0 x61_2) 0 1000000000000 true _ A31.out).mono ?_); rintro e w' ⟨rfl, ⟨nd, rfl⟩⟩; refine ⟨_, rfl, ?_⟩; have p158 : 0 ≤ (x61_2 : Int) := of_decide_eq_true (by first | (with_reducible assumption) | assumption); have q158 : x61_2 < (l2.length : Int) := of_decide_eq_true (by first | (with_reducible assumption) | assumption); obtain ⟨ad158, e158, hx158_0⟩ := Kd.at_int HR2.out x61_2 p158 q158; cases e158; replace hx158_0 := (HB.out.cell (World.block_lt_of_cell? w _ hx158_0)).trans hx158_0; replace p158 := eq_true p158; replace q158 := eq_true q158) | (go_at_call 47; (with_reducible refine (impl_in.calls (rd l2 x61_2) 0 1000000000000 true _ A34.out).mono ?_); rintro e w' ⟨rfl, ⟨nd, rfl⟩⟩; have p160 : 0 ≤ (x61_2 : Int) := of_decide_eq_true (by first | (with_reducible assumption) | assumption); have q160 : x61_2 < (l2.length : Int) := of_decide_eq_true (by first | (with_reducible assumption) | assumption); obtain ⟨ad160, e160, hx160_0⟩ := Kd.at_int HR2.out x61_2 p160 q160; obtain rfl : ad158 = ad160 := (by injection e160); replace hx160_0 := (HB.out.cell (World.block_lt_of_cell? w _ hx160_0)).trans hx160_0; replace p160 := eq_true p160; replace q160 := eq_true q160))
            go_roundg k2
            case measure => have := HJ4.out; have := HK2.out; omega
            case rel => exact ⟨(wrap64 (x10_2 + (rd l1_0 x61_2))), (wrap64 (x11_2 + (rd l2 x61_2))), (wrap64 (x61_2 + 1)), (x150001_2), (x150002_2), (by first | rfl | (simp; done) | (simp [*]; done)), (by first | rfl | (simp; done) | (simp [*]; done)), (by first | rfl | (simp; done) | (simp [*]; done)), H', ⟨by have := HJ4.out; have := HK2.out; omega⟩, ⟨by exact bT_ BK148⟩, ⟨by exact bT_ BK149⟩, ⟨by repeat (first | (with_reducible first | exact HB.out | apply below_alloc | apply pw_below_drewN | apply below_drew1 | refine below_set ?_ GE148.out | refine below_set ?_ GE149.out) | exact HB.out)⟩⟩
           ·replace c35 := Bool.eq_false_iff.mpr c35
            subst c35
            have H1 : (some (([] : List Int), 0, 0, false)) = some (r1, r2, r3, r4) := by rw [if_neg (show ¬ (false = true) by decide)] at H; exact H
            clear H; have H := H1; clear H1
            simp only [Option.some.injEq, Prod.mk.injEq] at H
            obtain ⟨rfl, rfl, rfl, rfl⟩ := H
            have p156 : 0 ≤ (x61_2 : Int) := of_decide_eq_true (by first | (with_reducible assumption) | assumption)
            have q156 : x61_2 < (l1_0.length : Int) := of_decide_eq_true (by first | (with_reducible assumption) | assumption)
            obtain ⟨ad156, e156, hx156_0⟩ := Kd.at_int HR1_0.out x61_2 p156 q156
            cases e156
            replace hx156_0 := (HB.out.cell (World.block_lt_of_cell? w _ hx156_0)).trans hx156_0
            replace p156 := eq_true p156; replace q156 := eq_true q156
            go_wp2_with (first | ((with_reducible refine gate_callee (f := 47) rfl ?_); refine gL_ (some 67) Try.func47 #[.int .i64 (rd l1_0 x61_2), .int .i64 0, .int .i64 1000000000000] ?_; (with_reducible refine (impl_in.calls (rd l1_0 x61_2) 0 1000000000000 true _ A31.out).mono ?_); rintro e w' ⟨rfl, ⟨nd, rfl⟩⟩; refine ⟨_, rfl, ?_⟩; (try (rw [drewN_self wr]; generalize hq_ : World.drewN wr _ = wr; have n0_ : Aside0 (wr.heap[gb148]? = some (.cells #[.slice (some ad156) l1_0.length c1_0, .int .i64 a1_1, .int .i64 a1_2] 26 (0, 0))) := ⟨by rw [← hq_]; exact (bT_ BK148)⟩; have n1_ : Aside0 (wr.heap[gb149]? = some (.cells #[.slice none 0 0, .int .i64 x150001_2, .int .i64 x150002_2] 26 (0, 0))) := ⟨by rw [← hq_]; exact (bT_ BK149)⟩; have n2_ : Aside0 (Below w.heap.size w wr) := ⟨by rw [← hq_]; exact (by repeat (first | (with_reducible first | exact HB.out | apply below_alloc | apply pw_below_drewN | apply below_drew1 | refine below_set ?_ GE148.out | refine below_set ?_ GE149.out) | exact HB.out))⟩; clear BK148 BK149 HB hq_; have BK148 := n0_; have BK149 := n1_; have HB := n2_; clear n0_ n1_ n2_)); have p158 : 0 ≤ (x61_2 : Int) := of_decide_eq_true (by first | (with_reducible assumption) | assumption); have q158 : x61_2 < (l2.length : Int) := of_decide_eq_true (by first | (with_reducible assumption) | assumption); obtain ⟨ad158, e158, hx158_0⟩ := Kd.at_int HR2.out x61_2 p158 q158; cases e158; replace hx158_0 := (HB.out.cell (World.block_lt_of_cell? w _ hx158_0)).trans hx158_0; replace p158 := eq_true p158; replace q158 := eq_true q158) | (go_at_call 47; (with_reducible refine (impl_in.calls (rd l2 x61_2) 0 1000000000000 false _ A34.out).mono ?_); rintro e w' ⟨rfl, ⟨nd, rfl⟩⟩; (try (rw [drewN_self wr]; generalize hq_ : World.drewN wr _ = wr; have n0_ : Aside0 (wr.heap[gb148]? = some (.cells #[.slice (some ad156) l1_0.length c1_0, .int .i64 a1_1, .int .i64 a1_2] 26 (0, 0))) := ⟨by rw [← hq_]; exact (bT_ BK148)⟩; have n1_ : Aside0 (wr.heap[gb149]? = some (.cells #[.slice none 0 0, .int .i64 x150001_2, .int .i64 x150002_2] 26 (0, 0))) := ⟨by rw [← hq_]; exact (bT_ BK149)⟩; have n2_ : Aside0 (Below w.heap.size w wr) := ⟨by rw [← hq_]; exact (by repeat (first | (with_reducible first | exact HB.out | apply below_alloc | apply pw_below_drewN | apply below_drew1 | refine below_set ?_ GE148.out | refine below_set ?_ GE149.out) | exact HB.out))⟩; clear BK148 BK149 HB hq_; have BK148 := n0_; have BK149 := n1_; have HB := n2_; clear n0_ n1_ n2_)); have hnb36 := NB149_148.out; have hnc36 := NB148_149.out; have hcz37_0 : wr.cell? ⟨gb149, 0, none⟩ = some (.slice none 0 0) := (blk_cell BK149.out 0).trans rfl; have hcz37_1 : wr.cell? ⟨gb149, 1, none⟩ = some (.int .i64 x150001_2) := (blk_cell BK149.out 1).trans rfl; have hcz37_2 : wr.cell? ⟨gb149, 2, none⟩ = some (.int .i64 x150002_2) := (blk_cell BK149.out 2).trans rfl; have hfz37_0 := blk_frozen BK149.out 0; have hfz37_1 := blk_frozen BK149.out 1; have hfz37_2 := blk_frozen BK149.out 2))
            refine bodyPost_ret (results_ct rfl _ _ gb149 26 #[.slice none 0 0, .int .i64 0, .int .i64 0] (0, 0) _ rfl (by (with_reducible repeat (first | refine blk_drewN ?_ _ | refine blk_drew ?_ | refine blk_alloc ?_ _)); refine blk_put (cs := #[.slice none 0 0, .int .i64 0, .int .i64 x150002_2]) ?_ 2 _ rfl; (with_reducible repeat (first | refine blk_drewN ?_ _ | refine blk_drew ?_ | refine blk_alloc ?_ _)); refine blk_put (cs := #[.slice none 0 0, .int .i64 x150001_2, .int .i64 x150002_2]) ?_ 1 _ rfl; (with_reducible repeat (first | refine blk_drewN ?_ _ | refine blk_drew ?_ | refine blk_alloc ?_ _)); refine blk_put (cs := #[.slice none 0 0, .int .i64 x150001_2, .int .i64 x150002_2]) ?_ 0 _ rfl; exact bT_ BK149) Try.underlying26 rfl (by kernel_rfl)) rfl ?_
            exact ⟨_, by first | rfl | (simp [errW_none, errW_some] <;> rfl) | (simp [*, errW_none, errW_some] <;> rfl), by first | exact Kd.R_nil _ _ _ _ _ | exact Kd.N_nil _ _ _ _ _ | exact Kd.V_nil _ _ _ _ _ | exact Kd.Q_nil _ _ _ _ _ | exact Kd.S_nil _ _ _ _ _, by repeat (first | (with_reducible first | exact HB.out | apply below_alloc | apply pw_below_drewN | apply below_drew1 | refine below_set ?_ GE148.out | refine below_set ?_ GE149.out) | exact HB.out)⟩
          ·rw [if_neg c33] at H
           exact absurd H (by simp)
         ·replace c32 := Bool.eq_false_iff.mpr c32
          subst c32
          have H1 : (some (([] : List Int), 0, 0, false)) = some (r1, r2, r3, r4) := by rw [if_neg (show ¬ (false = true) by decide)] at H; exact H
          clear H; have H := H1; clear H1
          simp only [Option.some.injEq, Prod.mk.injEq] at H
          obtain ⟨rfl, rfl, rfl, rfl⟩ := H
          have p156 : 0 ≤ (x61_2 : Int) := of_decide_eq_true (by first | (with_reducible assumption) | assumption)
          have q156 : x61_2 < (l1_0.length : Int) := of_decide_eq_true (by first | (with_reducible assumption) | assumption)
          obtain ⟨ad156, e156, hx156_0⟩ := Kd.at_int HR1_0.out x61_2 p156 q156
          cases e156
          replace hx156_0 := (HB.out.cell (World.block_lt_of_cell? w _ hx156_0)).trans hx156_0
          replace p156 := eq_true p156; replace q156 := eq_true q156
          go_wp2_with (first | ((with_reducible refine gate_callee (f := 47) rfl ?_); refine gL_ (some 67) Try.func47 #[.int .i64 (rd l1_0 x61_2), .int .i64 0, .int .i64 1000000000000] ?_; (with_reducible refine (impl_in.calls (rd l1_0 x61_2) 0 1000000000000 false _ A31.out).mono ?_); rintro e w' ⟨rfl, ⟨nd, rfl⟩⟩; refine ⟨_, rfl, ?_⟩; (try (rw [drewN_self wr]; generalize hq_ : World.drewN wr _ = wr; have n0_ : Aside0 (wr.heap[gb148]? = some (.cells #[.slice (some ad156) l1_0.length c1_0, .int .i64 a1_1, .int .i64 a1_2] 26 (0, 0))) := ⟨by rw [← hq_]; exact (bT_ BK148)⟩; have n1_ : Aside0 (wr.heap[gb149]? = some (.cells #[.slice none 0 0, .int .i64 x150001_2, .int .i64 x150002_2] 26 (0, 0))) := ⟨by rw [← hq_]; exact (bT_ BK149)⟩; have n2_ : Aside0 (Below w.heap.size w wr) := ⟨by rw [← hq_]; exact (by repeat (first | (with_reducible first | exact HB.out | apply below_alloc | apply pw_below_drewN | apply below_drew1 | refine below_set ?_ GE148.out | refine below_set ?_ GE149.out) | exact HB.out))⟩; clear BK148 BK149 HB hq_; have BK148 := n0_; have BK149 := n1_; have HB := n2_; clear n0_ n1_ n2_)); have hnb38 := NB149_148.out; have hnc38 := NB148_149.out; have hcz39_0 : wr.cell? ⟨gb149, 0, none⟩ = some (.slice none 0 0) := (blk_cell BK149.out 0).trans rfl; have hcz39_1 : wr.cell? ⟨gb149, 1, none⟩ = some (.int .i64 x150001_2) := (blk_cell BK149.out 1).trans rfl; have hcz39_2 : wr.cell? ⟨gb149, 2, none⟩ = some (.int .i64 x150002_2) := (blk_cell BK149.out 2).trans rfl; have hfz39_0 := blk_frozen BK149.out 0; have hfz39_1 := blk_frozen BK149.out 1; have hfz39_2 := blk_frozen BK149.out 2))
          refine bodyPost_ret (results_ct rfl _ _ gb149 26 #[.slice none 0 0, .int .i64 0, .int .i64 0] (0, 0) _ rfl (by (with_reducible repeat (first | refine blk_drewN ?_ _ | refine blk_drew ?_ | refine blk_alloc ?_ _)); refine blk_put (cs := #[.slice none 0 0, .int .i64 0, .int .i64 x150002_2]) ?_ 2 _ rfl; (with_reducible repeat (first | refine blk_drewN ?_ _ | refine blk_drew ?_ | refine blk_alloc ?_ _)); refine blk_put (cs := #[.slice none 0 0, .int .i64 x150001_2, .int .i64 x150002_2]) ?_ 1 _ rfl; (with_reducible repeat (first | refine blk_drewN ?_ _ | refine blk_drew ?_ | refine blk_alloc ?_ _)); refine blk_put (cs := #[.slice none 0 0, .int .i64 x150001_2, .int .i64 x150002_2]) ?_ 0 _ rfl; exact bT_ BK149) Try.underlying26 rfl (by kernel_rfl)) rfl ?_
          exact ⟨_, by first | rfl | (simp [errW_none, errW_some] <;> rfl) | (simp [*, errW_none, errW_some] <;> rfl), by first | exact Kd.R_nil _ _ _ _ _ | exact Kd.N_nil _ _ _ _ _ | exact Kd.V_nil _ _ _ _ _ | exact Kd.Q_nil _ _ _ _ _ | exact Kd.S_nil _ _ _ _ _, by repeat (first | (with_reducible first | exact HB.out | apply below_alloc | apply pw_below_drewN | apply below_drew1 | refine below_set ?_ GE148.out | refine below_set ?_ GE149.out) | exact HB.out)⟩
        ·rw [if_neg c30] at H
         exact absurd H (by simp)
       ·rw [if_neg c29] at H
        exact absurd H (by simp)
      ·rw [if_neg c28] at H
       have c28b0 : decide (x61_2 < (l1_0.length : Int)) = false := decide_eq_false c28
       clear c28; have HC40 := Aside0.mk H; clear H
       go_upto_region 13 with (fail)
       go_cut [98] (fun v98 wc => ∃ (kq : Nat) (x98_39 : Bool), v98 = .bool x98_39 ∧ Aside0 (impl_FlowStep.j2 kq l0 l2 x11_2 x98_39 l1_0 a1_1 a1_2 = some (r1, r2, r3, r4)) ∧ Aside0 (kq ≤ k2) ∧ Aside0 (wc.heap[gb148]? = some (.cells #[(.slice A1_0 l1_0.length c1_0), .int .i64 a1_1, .int .i64 a1_2] 26 (0, 0))) ∧ Aside0 (wc.heap[gb149]? = some (.cells #[(.slice none 0 0), .int .i64 x150001_2, .int .i64 x150002_2] 26 (0, 0))) ∧ Aside0 (Below w.heap.size w wc))
       case first =>
        have H := HC40.out; clear HC40
        by_cases c41 : a1_2 > (wrap64 (1000000000000 - x11_2))
        ·rw [if_pos c41] at H
         have c41b0 : decide ((wrap64 (1000000000000 - x11_2)) < a1_2) = true := decide_eq_true c41
         clear c41
         (first | rw [c41b0] | (simp only [i64_w, i32_w]; rw [c41b0]) | skip)
         have H' := Aside0.mk H; clear H; have hnb42 := NB148_149.out; have hnc42 := NB149_148.out
         have hcz43_0 : wr.cell? ⟨gb148, 0, none⟩ = some (.slice A1_0 l1_0.length c1_0) := (blk_cell BK148.out 0).trans rfl
         have hcz43_1 : wr.cell? ⟨gb148, 1, none⟩ = some (.int .i64 a1_1) := (blk_cell BK148.out 1).trans rfl
         have hcz43_2 : wr.cell? ⟨gb148, 2, none⟩ = some (.int .i64 a1_2) := (blk_cell BK148.out 2).trans rfl
         have hfz43_0 := blk_frozen BK148.out 0; have hfz43_1 := blk_frozen BK148.out 1; have hfz43_2 := blk_frozen BK148.out 2
         go_wp2
         go_meet
         case rel => exact ⟨_, (true), (by first | rfl | (simp; done) | (simp [*]; done)), H', ⟨by have := HJ4.out; have := HK2.out; first | omega | exact Nat.le_refl _⟩, ⟨by exact bT_ BK148⟩, ⟨by exact bT_ BK149⟩, ⟨by repeat (first | (with_reducible first | exact HB.out | apply below_alloc | apply pw_below_drewN | apply below_drew1 | refine below_set ?_ GE148.out | refine below_set ?_ GE149.out) | exact HB.out)⟩⟩
        ·rw [if_neg c41] at H
         have c41b0 : decide ((wrap64 (1000000000000 - x11_2)) < a1_2) = false := decide_eq_false c41
         clear c41
         (first | rw [c41b0] | (simp only [i64_w, i32_w]; rw [c41b0]) | skip)
         have H' := Aside0.mk H; clear H; have hnb44 := NB148_149.out; have hnc44 := NB149_148.out
         have hcz45_0 : wr.cell? ⟨gb148, 0, none⟩ = some (.slice A1_0 l1_0.length c1_0) := (blk_cell BK148.out 0).trans rfl
         have hcz45_1 : wr.cell? ⟨gb148, 1, none⟩ = some (.int .i64 a1_1) := (blk_cell BK148.out 1).trans rfl
         have hcz45_2 : wr.cell? ⟨gb148, 2, none⟩ = some (.int .i64 a1_2) := (blk_cell BK148.out 2).trans rfl
         have hfz45_0 := blk_frozen BK148.out 0; have hfz45_1 := blk_frozen BK148.out 1; have hfz45_2 := blk_frozen BK148.out 2
         go_wp2
         go_meet
         case rel => exact ⟨_, ((x10_2 != a1_2)), (by first | rfl | (simp; done) | (simp [*]; done)), H', ⟨by have := HJ4.out; have := HK2.out; first | omega | exact Nat.le_refl _⟩, ⟨by exact bT_ BK148⟩, ⟨by exact bT_ BK149⟩, ⟨by repeat (first | (with_reducible first | exact HB.out | apply below_alloc | apply pw_below_drewN | apply below_drew1 | refine below_set ?_ GE148.out | refine below_set ?_ GE149.out) | exact HB.out)⟩⟩
       case rest =>
        clear HC40; (try clear c1); (try clear p1); (try clear q1); (try clear hx1); (try clear c2); (try clear p2); (try clear c3); (try clear c4); (try clear p6); (try clear c9); (try clear c10); (try clear c10b0); (try clear c10b1); (try clear c10b2); (try clear c11); (try clear c11b0); (try clear c11b1); (try clear c11b2); (try clear c13); (try clear c15); (try clear p15); (try clear q15); (try clear hx15); (try clear p16); (try clear q16); (try clear hx16); (try clear c17); (try clear c19); (try clear c21); (try clear c23); (try clear c24); (try clear c26); (try clear c28); (try clear c28b0); (try clear c29); (try clear c29b0); (try clear c30); (try clear c30b0); (try clear c32); (try clear c33); (try clear c33b0); (try clear c35); (try clear c36); (try clear c38); (try clear c41); (try clear c41b0); (try clear c42); (try clear c44); (try clear hcz16_0); (try clear hcz16_1); (try clear hcz16_2); (try clear hcz18_0); (try clear hcz18_1); (try clear hcz18_2); (try clear hcz20_0); (try clear hcz20_1); (try clear hcz20_2); (try clear hcz22_0); (try clear hcz22_1); (try clear hcz22_2); (try clear hcz25_0); (try clear hcz25_1); (try clear hcz25_2); (try clear hcz27_0); (try clear hcz27_1); (try clear hcz27_2); (try clear hcz37_0); (try clear hcz37_1); (try clear hcz37_2); (try clear hcz39_0); (try clear hcz39_1); (try clear hcz39_2); (try clear hcz43_0); (try clear hcz43_1); (try clear hcz43_2); (try clear hcz45_0); (try clear hcz45_1); (try clear hcz45_2); (try clear hfz16_0); (try clear hfz16_1); (try clear hfz16_2); (try clear hfz18_0); (try clear hfz18_1); (try clear hfz18_2); (try clear hfz20_0); (try clear hfz20_1); (try clear hfz20_2); (try clear hfz22_0); (try clear hfz22_1); (try clear hfz22_2); (try clear hfz25_0); (try clear hfz25_1); (try clear hfz25_2); (try clear hfz27_0); (try clear hfz27_1); (try clear hfz27_2); (try clear hfz37_0); (try clear hfz37_1); (try clear hfz37_2); (try clear hfz39_0); (try clear hfz39_1); (try clear hfz39_2); (try clear hfz43_0); (try clear hfz43_1); (try clear hfz43_2); (try clear hfz45_0); (try clear hfz45_1); (try clear hfz45_2); (try clear hx156_0); (try clear hx158_0); (try clear hx160_0); (try clear p156); (try clear p158); (try clear p160); (try clear p2); (try clear q156); (try clear q158); (try clear q160)
        obtain ⟨kq, x98_39, rfl, HA, HJ39, BK148, BK149, HB⟩ := hcut
        cases kq with
        | zero => exact absurd HA.out (by simp [impl_FlowStep.j2])
        | succ kj39 =>
         have H := HA.out; clear HA
         simp only [impl_FlowStep.j2] at H
         by_cases c46 : x98_39 = true
         ·subst c46
          have H1 : (some (([] : List Int), 0, 0, false)) = some (r1, r2, r3, r4) := by rw [if_pos rfl] at H; exact H
          clear H; have H := H1; clear H1
          simp only [Option.some.injEq, Prod.mk.injEq] at H
          obtain ⟨rfl, rfl, rfl, rfl⟩ := H
          have hnb47 := NB149_148.out; have hnc47 := NB148_149.out
          have hcz48_0 : wc.cell? ⟨gb149, 0, none⟩ = some (.slice none 0 0) := (blk_cell BK149.out 0).trans rfl
          have hcz48_1 : wc.cell? ⟨gb149, 1, none⟩ = some (.int .i64 x150001_2) := (blk_cell BK149.out 1).trans rfl
          have hcz48_2 : wc.cell? ⟨gb149, 2, none⟩ = some (.int .i64 x150002_2) := (blk_cell BK149.out 2).trans rfl
          have hfz48_0 := blk_frozen BK149.out 0; have hfz48_1 := blk_frozen BK149.out 1; have hfz48_2 := blk_frozen BK149.out 2
          go_wp2
          refine bodyPost_ret (results_ct rfl _ _ gb149 26 #[.slice none 0 0, .int .i64 0, .int .i64 0] (0, 0) _ rfl (by (with_reducible repeat (first | refine blk_drewN ?_ _ | refine blk_drew ?_ | refine blk_alloc ?_ _)); refine blk_put (cs := #[.slice none 0 0, .int .i64 0, .int .i64 x150002_2]) ?_ 2 _ rfl; (with_reducible repeat (first | refine blk_drewN ?_ _ | refine blk_drew ?_ | refine blk_alloc ?_ _)); refine blk_put (cs := #[.slice none 0 0, .int .i64 x150001_2, .int .i64 x150002_2]) ?_ 1 _ rfl; (with_reducible repeat (first | refine blk_drewN ?_ _ | refine blk_drew ?_ | refine blk_alloc ?_ _)); refine blk_put (cs := #[.slice none 0 0, .int .i64 x150001_2, .int .i64 x150002_2]) ?_ 0 _ rfl; exact bT_ BK149) Try.underlying26 rfl (by kernel_rfl)) rfl ?_
          exact ⟨_, by first | rfl | (simp [errW_none, errW_some] <;> rfl) | (simp [*, errW_none, errW_some] <;> rfl), by first | exact Kd.R_nil _ _ _ _ _ | exact Kd.N_nil _ _ _ _ _ | exact Kd.V_nil _ _ _ _ _ | exact Kd.Q_nil _ _ _ _ _ | exact Kd.S_nil _ _ _ _ _, by repeat (first | (with_reducible first | exact HB.out | apply below_alloc | apply pw_below_drewN | apply below_drew1 | refine below_set ?_ GE148.out | refine below_set ?_ GE149.out) | exact HB.out)⟩
         ·replace c46 := Bool.eq_false_iff.mpr c46
          subst c46
          have H1 : ((slices_Clone_int64_int64.f l1_0).bind fun t161 => (impl_FlowStep.l1 kj39 l0 l2 (l2.length : Int) 0 t161 a1_1 (wrap64 (a1_2 + x11_2)))) = some (r1, r2, r3, r4) := by rw [if_neg (show ¬ (false = true) by decide)] at H; exact H
          clear H; have H := H1; clear H1; replace H := Option.bind_eq_some_iff.mp H
          obtain ⟨t161, A490, H⟩ := H
          replace H : (impl_FlowStep.l1 kj39 l0 l2 (l2.length : Int) 0 t161 a1_1 (wrap64 (a1_2 + x11_2))) = some (r1, r2, r3, r4) := H
          have A49 := Aside0.mk A490; clear A490; have H' := Aside0.mk H; clear H
          try go_wp2
          replace BK148 := Aside0.mk (blk_drew BK148.out)
          replace BK149 := Aside0.mk (blk_drew BK149.out)
          replace HB := Aside0.mk (below_drew1 HB.out)
          refine start_ (n := 12) (S := fun w' => w'.cell? ⟨gb148, 0, none⟩ = some (.slice A1_0 l1_0.length c1_0) ∧ w'.cell? ⟨gb148, 1, none⟩ = some (.int .i64 a1_1) ∧ w'.cell? ⟨gb148, 2, none⟩ = some (.int .i64 a1_2)) (ds := []) #[false, false, false, false, false, false, false, false, false, false, false, false] (by kernel_rfl) rfl rfl ⟨(blk_cell BK148.out 0).trans rfl, (blk_cell BK148.out 1).trans rfl, (blk_cell BK148.out 2).trans rfl⟩ (fun hHeld => ?_); refine with_tabW impl_FlowStep.tab15 impl_FlowStep.bits15 (fun HT_ HW_ => ?_)
          generalize wc.drew = w50 at BK148 BK149 HB hHeld ⊢
          refine pT_ 0 (some 100) #[true, false, false, false, false, false, false, false, false, false, false, false] HT_ ?_
          refine pT_ 3 (some 103) #[true, false, false, true, false, false, false, false, false, false, false, false] HT_ ?_
          refine pT_ 5 (some 105) #[true, false, false, true, false, true, false, false, false, false, false, false] HT_ ?_
          refine pT_ 7 (some 107) #[true, false, false, true, false, true, false, true, false, false, false, false] HT_ ?_
          refine tT_ 1 (some 101) #[true, true, false, true, false, true, false, true, false, false, false, false] HT_ HW_ hHeld ?_ (hy := by rintro w' ⟨s0, s1, s2⟩; go_simp; with_reducible rfl)
          refine tT_ 4 (some 104) #[true, true, false, true, true, true, false, true, false, false, false, false] HT_ HW_ hHeld ?_ (hy := by rintro w' ⟨s0, s1, s2⟩; go_simp; with_reducible rfl)
          refine tT_ 6 (some 106) #[true, true, false, true, true, true, true, true, false, false, false, false] HT_ HW_ hHeld ?_ (hy := by rintro w' ⟨s0, s1, s2⟩; go_simp; with_reducible rfl)
          refine pT_ 8 (some 108) #[true, true, false, true, true, true, true, true, true, false, false, false] HT_ ?_
          refine join_ (σ := Value × Nat) 1 #[true, true, true, true, true, true, true, true, true, true, true, false] (fun s_ => [(102, s_.1), (14, .pointer (some ⟨s_.2, 0, none⟩)), (109, .agg #[s_.1, .int .i64 a1_1, .int .i64 (wrap64 (a1_2 + x11_2))])]) (fun s_ w' => (w'.cell? ⟨gb148, 0, none⟩ = some (.slice A1_0 l1_0.length c1_0) ∧ w'.cell? ⟨gb148, 1, none⟩ = some (.int .i64 a1_1) ∧ w'.cell? ⟨gb148, 2, none⟩ = some (.int .i64 a1_2)) ∧ (Kd.R (Kd.int .i64) 2 w' w.heap.size (fun _ => True) s_.1 t161) ∧ (w'.heap[gb148]? = some (.cells #[.slice A1_0 l1_0.length c1_0, .int .i64 a1_1, .int .i64 a1_2] 26 (0, 0))) ∧ (w'.heap[gb149]? = some (.cells #[.slice none 0 0, .int .i64 x150001_2, .int .i64 x150002_2] 26 (0, 0))) ∧ (w'.heap[s_.2]? = some (.cells #[.slice none 0 0, .int .i64 0, .int .i64 0] 26 (0, 0))) ∧ (w.heap.size ≤ s_.2) ∧ (w.heap.size ≤ s_.2) ∧ (gb148 ≠ s_.2) ∧ (s_.2 ≠ gb148) ∧ (gb149 ≠ s_.2) ∧ (s_.2 ≠ gb149) ∧ (Below w.heap.size w w')) ?_ ?_
          rotate_left
          ·intro hCont
           refine two_ (i := 2) (j := 10) (Ni := some 102) (Nj := some 14) #[true, true, true, true, true, true, true, true, true, false, false, false] #[true, true, false, true, true, true, true, true, true, false, true, false] rfl rfl rfl rfl (two_of HT_.out (by kernel_rfl)) (by decide) (by decide) (fun K hK => ?_) (fun K hK => ?_)
           ·skip
            refine goes_ Try.func48 (by kernel_rfl) rfl #[.slice A1_0 l1_0.length c1_0] (by rfl) rfl rfl (by (try simp only [List.map_toArray, List.map_cons, List.map_nil]); first | done | rfl | (simp only [List.length_drop, List.length_take]; rfl)) ?_
            with_reducible refine (slices_Clone_int64_int64.calls _ _ l1_0 t161 _ ?side1 ?side2 A49.out).mono ?_
            (case side1 => exact cB_ HR1_0 HB)
            (case side2 => exact HC1_0.out)
            rintro e w51 ⟨v162, rfl, ho0, hb⟩
            refine ⟨_, rfl, ?_⟩
            have HO163 := rL_ ho0 HB; replace BK148 := bB_ BK148 hb; replace BK149 := bB_ BK149 hb; replace HB := bS_ HB hb; (try clear hb); (try clear hb2); (try clear hk); (try clear hi); (try clear ho0)
            obtain ⟨Ao52, co52, eo52⟩ := Kd.R_slice HO163.out
            (first | subst eo52 | (injection eo52 with f1_ f2_ f3_; have f4_ := f1_.symm; have f5_ := f3_.symm; clear f1_ f2_ f3_; subst f4_; subst f5_))
            refine hK.out _ _ ⟨(blk_cell BK148.out 0).trans rfl, (blk_cell BK148.out 1).trans rfl, (blk_cell BK148.out 2).trans rfl⟩ (fun hHeld => ?_)
            clear hK K
            refine nS_ (some 102) ?_
            refine pT_ 9 (some 109) #[true, true, true, true, true, true, true, true, true, true, false, false] HT_ ?_
            refine one_ (i := 10) (N := some 14) #[true, true, true, true, true, true, true, true, true, true, true, false] rfl rfl (one_of HT_.out (by kernel_rfl)) (by decide) (fun K hK => ?_)
            refine box_step ?hg (N := 14) ?hd (cs := #[.slice none 0 0, .int .i64 0, .int .i64 0]) (t := 26) ?hr ?_; (case hd => rfl); (case hg => rfl); (case hr => first | (go_simp; done) | (go_simp; rfl))
            intro gb164 hg w53 hbox hb
            replace HO163 := rB_ HO163 hb
            have BK164 := Aside0.mk (hbox)
            have GW164 := gE_ HB hg; have GE164 := gE_ HB hg; replace HB := bS_ HB hb; have NB148_164 := nL_ BK148 hg; have NB164_148 := nG_ BK148 hg; replace BK148 := bB_ BK148 hb; have NB149_164 := nL_ BK149 hg; have NB164_149 := nG_ BK149 hg; replace BK149 := bB_ BK149 hb; clear hb hbox hg
            refine hK.out _ _ ⟨(blk_cell BK148.out 0).trans rfl, (blk_cell BK148.out 1).trans rfl, (blk_cell BK148.out 2).trans rfl⟩ (fun hHeld => ?_)
            clear hK K
            refine nS_ (some 14) ?_
            exact norm_ (by simp only [putAll, Act.put, List.setIfInBounds_toArray, List.set_cons_zero, List.set_cons_succ]) (hCont (.slice Ao52 t161.length co52, gb164) _ ⟨hHeld, (rT_ HO163), (bT_ BK148), (bT_ BK149), (bT_ BK164), GW164.out, GE164.out, NB148_164.out, NB164_148.out, NB149_164.out, NB164_149.out, (by repeat (first | (with_reducible first | exact HB.out | apply below_alloc | apply pw_below_drewN | apply below_drew1 | refine below_set ?_ GE148.out | refine below_set ?_ GE149.out | refine below_set ?_ GE164.out) | exact HB.out))⟩)
           ·skip
            refine box_step ?hg (N := 14) ?hd (cs := #[.slice none 0 0, .int .i64 0, .int .i64 0]) (t := 26) ?hr ?_; (case hd => rfl); (case hg => rfl); (case hr => first | (go_simp; done) | (go_simp; rfl))
            intro gb164 hg w51 hbox hb
            have BK164 := Aside0.mk (hbox)
            have GW164 := gE_ HB hg; have GE164 := gE_ HB hg; replace HB := bS_ HB hb; have NB148_164 := nL_ BK148 hg; have NB164_148 := nG_ BK148 hg; replace BK148 := bB_ BK148 hb; have NB149_164 := nL_ BK149 hg; have NB164_149 := nG_ BK149 hg; replace BK149 := bB_ BK149 hb; clear hb hbox hg
            refine hK.out _ _ ⟨(blk_cell BK148.out 0).trans rfl, (blk_cell BK148.out 1).trans rfl, (blk_cell BK148.out 2).trans rfl⟩ (fun hHeld => ?_)
            clear hK K
            refine nS_ (some 14) ?_
            refine one_ (i := 2) (N := some 102) #[true, true, true, true, true, true, true, true, true, false, true, false] rfl rfl (one_of HT_.out (by kernel_rfl)) (by decide) (fun K hK => ?_)
            refine goes_ Try.func48 (by kernel_rfl) rfl #[.slice A1_0 l1_0.length c1_0] (by rfl) rfl rfl (by (try simp only [List.map_toArray, List.map_cons, List.map_nil]); first | done | rfl | (simp only [List.length_drop, List.length_take]; rfl)) ?_
            with_reducible refine (slices_Clone_int64_int64.calls _ _ l1_0 t161 _ ?side1 ?side2 A49.out).mono ?_
            (case side1 => exact cB_ HR1_0 HB)
            (case side2 => exact HC1_0.out)
            rintro e w52 ⟨v162, rfl, ho0, hb⟩
            refine ⟨_, rfl, ?_⟩
            have HO163 := rL_ ho0 HB; replace BK148 := bB_ BK148 hb; replace BK149 := bB_ BK149 hb; replace BK164 := bB_ BK164 hb; replace HB := bS_ HB hb; (try clear hb); (try clear hb2); (try clear hk); (try clear hi); (try clear ho0)
            obtain ⟨Ao53, co53, eo53⟩ := Kd.R_slice HO163.out
            (first | subst eo53 | (injection eo53 with f1_ f2_ f3_; have f4_ := f1_.symm; have f5_ := f3_.symm; clear f1_ f2_ f3_; subst f4_; subst f5_))
            refine hK.out _ _ ⟨(blk_cell BK148.out 0).trans rfl, (blk_cell BK148.out 1).trans rfl, (blk_cell BK148.out 2).trans rfl⟩ (fun hHeld => ?_)
            clear hK K
            refine nS_ (some 102) ?_
            refine pT_ 9 (some 109) #[true, true, true, true, true, true, true, true, true, true, true, false] HT_ ?_
            exact norm_ (by simp only [putAll, Act.put, List.setIfInBounds_toArray, List.set_cons_zero, List.set_cons_succ]) (hCont (.slice Ao53 t161.length co53, gb164) _ ⟨hHeld, (rT_ HO163), (bT_ BK148), (bT_ BK149), (bT_ BK164), GW164.out, GE164.out, NB148_164.out, NB164_148.out, NB149_164.out, NB164_149.out, (by repeat (first | (with_reducible first | exact HB.out | apply below_alloc | apply pw_below_drewN | apply below_drew1 | refine below_set ?_ GE148.out | refine below_set ?_ GE149.out | refine below_set ?_ GE164.out) | exact HB.out))⟩)
          rintro ⟨v162, gb164⟩ w54 ⟨hS_, h0_, h1_, h2_, h3_, h4_, h5_, h6_, h7_, h8_, h9_, h10_⟩
          try dsimp only at h0_ h1_ h2_ h3_ h4_ h5_ h6_ h7_ h8_ h9_ h10_
          have HO163 := Aside0.mk h0_; replace BK148 := Aside0.mk h1_; replace BK149 := Aside0.mk h2_; have BK164 := Aside0.mk h3_; have GW164 := Aside0.mk h4_; have GE164 := Aside0.mk h5_; have NB148_164 := Aside0.mk h6_; have NB164_148 := Aside0.mk h7_; have NB149_164 := Aside0.mk h8_; have NB164_149 := Aside0.mk h9_; replace HB := Aside0.mk h10_; clear h0_ h1_ h2_ h3_ h4_ h5_ h6_ h7_ h8_ h9_ h10_
          have hHeld : w54.cell? ⟨gb148, 0, none⟩ = some (.slice A1_0 l1_0.length c1_0) ∧ w54.cell? ⟨gb148, 1, none⟩ = some (.int .i64 a1_1) ∧ w54.cell? ⟨gb148, 2, none⟩ = some (.int .i64 a1_2) := hS_
          obtain ⟨Ao55, co55, eo55⟩ := Kd.R_slice HO163.out
          (first | subst eo55 | (injection eo55 with f1_ f2_ f3_; have f4_ := f1_.symm; have f5_ := f3_.symm; clear f1_ f2_ f3_; subst f4_; subst f5_))
          refine norm_ (a' := ?_) ?_ ?_
          rotate_left
          ·simp only [putAll, Act.put, List.setIfInBounds_toArray, List.set_cons_zero, List.set_cons_succ]
           rfl
          refine one_ (i := 11) (N := none) #[true, true, true, true, true, true, true, true, true, true, true, true] rfl rfl (one_of HT_.out (by kernel_rfl)) (by decide) (fun K hK => ?_)
          have hs56 : w54.cell? ⟨gb164, 0, none⟩ = some (.slice none 0 0) := (blk_cell BK164.out 0).trans rfl
          have hfs56 := blk_frozen BK164.out 0; have hns56_0 := NB148_164.out; have hns56_1 := NB149_164.out; have hms56_0 := NB164_148.out; have hms56_1 := NB164_149.out
          have hs57 : w54.cell? ⟨gb164, 1, none⟩ = some (.int .i64 0) := (blk_cell BK164.out 1).trans rfl
          have hfs57 := blk_frozen BK164.out 1; have hns57_0 := NB148_164.out; have hns57_1 := NB149_164.out; have hms57_0 := NB164_148.out; have hms57_1 := NB164_149.out
          have hs58 : w54.cell? ⟨gb164, 2, none⟩ = some (.int .i64 0) := (blk_cell BK164.out 2).trans rfl
          have hfs58 := blk_frozen BK164.out 2; have hns58_0 := NB148_164.out; have hns58_1 := NB149_164.out; have hms58_0 := NB164_148.out; have hms58_1 := NB164_149.out
          refine skip_ (w1 := ?_) (by rfl) rfl ?_ ?_
          rotate_left
          ·go_simp
           rfl
          refine hK.out _ _ ⟨((cell_far (p := ⟨gb164, _, none⟩) NB148_164.out _).trans (((cell_far (p := ⟨gb164, _, none⟩) NB148_164.out _).trans (((cell_far (p := ⟨gb164, _, none⟩) NB148_164.out _).trans (hHeld.1)))))), ((cell_far (p := ⟨gb164, _, none⟩) NB148_164.out _).trans (((cell_far (p := ⟨gb164, _, none⟩) NB148_164.out _).trans (((cell_far (p := ⟨gb164, _, none⟩) NB148_164.out _).trans (hHeld.2.1)))))), ((cell_far (p := ⟨gb164, _, none⟩) NB148_164.out _).trans (((cell_far (p := ⟨gb164, _, none⟩) NB148_164.out _).trans (((cell_far (p := ⟨gb164, _, none⟩) NB148_164.out _).trans (hHeld.2.2))))))⟩ (fun hHeld => ?_)
          clear hK K
          refine done_ (done_of HT_.out (by kernel_rfl)) ?_
          try go_wp2
          go_loopg [112] kj39 (fun kq v112 w' => ∃ (x112_4 : Int) (x165000_4 : List Int) (u165000 : Value), v112 = .int .i64 x112_4 ∧ Aside0 (impl_FlowStep.l1 kq l0 l2 (l2.length : Int) x112_4 x165000_4 a1_1 (wrap64 (a1_2 + x11_2)) = some (r1, r2, r3, r4)) ∧ Aside0 (kq ≤ kj39) ∧ Aside0 (Kd.R (Kd.int .i64) 2 w' w.heap.size (fun _ => True) u165000 x165000_4) ∧ Aside0 (w'.heap[gb148]? = some (.cells #[(.slice A1_0 l1_0.length c1_0), .int .i64 a1_1, .int .i64 a1_2] 26 (0, 0))) ∧ Aside0 (w'.heap[gb149]? = some (.cells #[(.slice none 0 0), .int .i64 x150001_2, .int .i64 x150002_2] 26 (0, 0))) ∧ Aside0 (w'.heap[gb164]? = some (.cells #[u165000, .int .i64 a1_1, .int .i64 (wrap64 (a1_2 + x11_2))] 26 (0, 0))) ∧ Aside0 (Below w.heap.size w w'))
          case atStart => exact ⟨(0), (t161), (.slice Ao55 t161.length co55), (by first | rfl | (simp; done) | (simp [*]; done)), H', ⟨Nat.le_refl _⟩, ⟨by (with_reducible repeat (first | apply Kd.R_alloc | apply Kd.R_drewN | apply Kd.R_drew)); exact Kd.R_mono (Kd.R_far (p := ⟨gb164, 2, none⟩) (Kd.R_far (p := ⟨gb164, 1, none⟩) (Kd.R_far (p := ⟨gb164, 0, none⟩) (Kd.R_types HO163.out BK164.out (by decide)) (fun _ hk => hk.2) (.slice Ao55 t161.length co55)) (fun _ hk => hk.2) (.int .i64 a1_1)) (fun _ hk => hk.2) (.int .i64 (wrap64 (a1_2 + x11_2)))) (fun _ hk => trivial)⟩, ⟨by (with_reducible repeat (first | refine blk_drewN ?_ _ | refine blk_drew ?_ | refine blk_alloc ?_ _)); refine blk_far ?_ NB148_164.out _; (with_reducible repeat (first | refine blk_drewN ?_ _ | refine blk_drew ?_ | refine blk_alloc ?_ _)); refine blk_far ?_ NB148_164.out _; (with_reducible repeat (first | refine blk_drewN ?_ _ | refine blk_drew ?_ | refine blk_alloc ?_ _)); refine blk_far ?_ NB148_164.out _; exact bT_ BK148⟩, ⟨by (with_reducible repeat (first | refine blk_drewN ?_ _ | refine blk_drew ?_ | refine blk_alloc ?_ _)); refine blk_far ?_ NB149_164.out _; (with_reducible repeat (first | refine blk_drewN ?_ _ | refine blk_drew ?_ | refine blk_alloc ?_ _)); refine blk_far ?_ NB149_164.out _; (with_reducible repeat (first | refine blk_drewN ?_ _ | refine blk_drew ?_ | refine blk_alloc ?_ _)); refine blk_far ?_ NB149_164.out _; exact bT_ BK149⟩, ⟨by (with_reducible repeat (first | refine blk_drewN ?_ _ | refine blk_drew ?_ | refine blk_alloc ?_ _)); refine blk_put (cs := #[.slice Ao55 t161.length co55, .int .i64 a1_1, .int .i64 0]) ?_ 2 _ rfl; (with_reducible repeat (first | refine blk_drewN ?_ _ | refine blk_drew ?_ | refine blk_alloc ?_ _)); refine blk_put (cs := #[.slice Ao55 t161.length co55, .int .i64 0, .int .i64 0]) ?_ 1 _ rfl; (with_reducible repeat (first | refine blk_drewN ?_ _ | refine blk_drew ?_ | refine blk_alloc ?_ _)); refine blk_put (cs := #[.slice none 0 0, .int .i64 0, .int .i64 0]) ?_ 0 _ rfl; exact bT_ BK164⟩, ⟨by repeat (first | (with_reducible first | exact HB.out | apply below_alloc | apply pw_below_drewN | apply below_drew1 | refine below_set ?_ GE148.out | refine below_set ?_ GE149.out | refine below_set ?_ GE164.out) | exact HB.out)⟩⟩
          case round =>
           clear H'; (try clear c1); (try clear p1); (try clear q1); (try clear hx1); (try clear c2); (try clear p2); (try clear c3); (try clear c4); (try clear p6); (try clear c9); (try clear c10); (try clear c10b0); (try clear c10b1); (try clear c10b2); (try clear c11); (try clear c11b0); (try clear c11b1); (try clear c11b2); (try clear c13); (try clear c15); (try clear p15); (try clear q15); (try clear hx15); (try clear p16); (try clear q16); (try clear hx16); (try clear c17); (try clear c19); (try clear c21); (try clear c23); (try clear c24); (try clear c26); (try clear c28); (try clear c28b0); (try clear c29); (try clear c29b0); (try clear c30); (try clear c30b0); (try clear c32); (try clear c33); (try clear c33b0); (try clear c35); (try clear c36); (try clear c38); (try clear c41); (try clear c41b0); (try clear c42); (try clear c44); (try clear c46); (try clear c47); (try clear c48); (try clear hcz16_0); (try clear hcz16_1); (try clear hcz16_2); (try clear hcz18_0); (try clear hcz18_1); (try clear hcz18_2); (try clear hcz20_0); (try clear hcz20_1); (try clear hcz20_2); (try clear hcz22_0); (try clear hcz22_1); (try clear hcz22_2); (try clear hcz25_0); (try clear hcz25_1); (try clear hcz25_2); (try clear hcz27_0); (try clear hcz27_1); (try clear hcz27_2); (try clear hcz37_0); (try clear hcz37_1); (try clear hcz37_2); (try clear hcz39_0); (try clear hcz39_1); (try clear hcz39_2); (try clear hcz43_0); (try clear hcz43_1); (try clear hcz43_2); (try clear hcz45_0); (try clear hcz45_1); (try clear hcz45_2); (try clear hcz48_0); (try clear hcz48_1); (try clear hcz48_2); (try clear hfz16_0); (try clear hfz16_1); (try clear hfz16_2); (try clear hfz18_0); (try clear hfz18_1); (try clear hfz18_2); (try clear hfz20_0); (try clear hfz20_1); (try clear hfz20_2); (try clear hfz22_0); (try clear hfz22_1); (try clear hfz22_2); (try clear hfz25_0); (try clear hfz25_1); (try clear hfz25_2); (try clear hfz27_0); (try clear hfz27_1); (try clear hfz27_2); (try clear hfz37_0); (try clear hfz37_1); (try clear hfz37_2); (try clear hfz39_0); (try clear hfz39_1); (try clear hfz39_2); (try clear hfz43_0); (try clear hfz43_1); (try clear hfz43_2); (try clear hfz45_0); (try clear hfz45_1); (try clear hfz45_2); (try clear hfz48_0); (try clear hfz48_1); (try clear hfz48_2); (try clear hx156_0); (try clear hx158_0); (try clear hx160_0); (try clear p1); (try clear p15); (try clear p156); (try clear p158); (try clear p16); (try clear p160); (try clear p2); (try clear p6); (try clear q1); (try clear q15); (try clear q156); (try clear q158); (try clear q16); (try clear q160)
           obtain ⟨x112_4, x165000_4, u165000, rfl, HA, HK4, HO_165000, BK148, BK149, BK164, HB⟩ := hrel
           cases gk with
           | zero => exact absurd HA.out (by simp [impl_FlowStep.l1])
           | succ k4 =>
            have H := HA.out; clear HA
            simp only [impl_FlowStep.l1] at H
            by_cases c59 : x112_4 < (l2.length : Int)
            ·rw [if_pos c59] at H
             have c59b0 : decide (x112_4 < (l2.length : Int)) = true := decide_eq_true c59
             clear c59
             by_cases c60 : 0 ≤ x112_4
             ·rw [if_pos c60] at H
              have c60b0 : decide (0 ≤ x112_4) = true := decide_eq_true c60
              clear c60
              by_cases c61 : x112_4 < (l2.length : Int)
              ·rw [if_pos c61] at H
               have c61b0 : decide (x112_4 < (l2.length : Int)) = true := decide_eq_true c61
               clear c61
               by_cases c62 : x112_4 < (x165000_4.length : Int)
               ·rw [if_pos c62] at H
                have c62b0 : decide (x112_4 < (x165000_4.length : Int)) = true := decide_eq_true c62
                clear c62
                obtain ⟨y167, hy167⟩ : ∃ y_ : List Int, y_ = (x165000_4.set (x112_4 : Int).toNat (wrap64 ((rd x165000_4 x112_4) + (rd l2 x112_4)))) := ⟨_, rfl⟩
                replace H : (impl_FlowStep.l1 k4 l0 l2 (l2.length : Int) (wrap64 (x112_4 + 1)) y167 a1_1 (wrap64 (a1_2 + x11_2))) = some (r1, r2, r3, r4) := by first | (rw [hy167]; with_reducible exact H) | (have H2_ := (Option.bind_some _ _).symm.trans H; rw [hy167]; with_reducible exact H2_) | (have H2_ := (Option.bind_some _ _).symm.trans H; with_reducible exact H2_) | with_reducible exact H | (rw [hy167]; exact H) | exact H
                have Ny167 := Aside0.mk hy167; clear hy167; have H' := Aside0.mk H; clear H
                have p165 : 0 ≤ (x112_4 : Int) := of_decide_eq_true (by first | (with_reducible assumption) | assumption)
                have q165 : x112_4 < (l2.length : Int) := of_decide_eq_true (by first | (with_reducible assumption) | assumption)
                obtain ⟨ad165, e165, hx165_0⟩ := Kd.at_int HR2.out x112_4 p165 q165
                cases e165
                replace hx165_0 := (HB.out.cell (World.block_lt_of_cell? w _ hx165_0)).trans hx165_0
                replace p165 := eq_true p165; replace q165 := eq_true q165; have hnb64 := NB164_148.out; have hnc64 := NB148_164.out; have hnb65 := NB164_149.out; have hnc65 := NB149_164.out
                have hcz66_0 : wr.cell? ⟨gb164, 0, none⟩ = some (u165000) := (blk_cell BK164.out 0).trans rfl
                have hcz66_1 : wr.cell? ⟨gb164, 1, none⟩ = some (.int .i64 a1_1) := (blk_cell BK164.out 1).trans rfl
                have hcz66_2 : wr.cell? ⟨gb164, 2, none⟩ = some (.int .i64 (wrap64 (a1_2 + x11_2))) := (blk_cell BK164.out 2).trans rfl
                have hfz66_0 := blk_frozen BK164.out 0; have hfz66_1 := blk_frozen BK164.out 1; have hfz66_2 := blk_frozen BK164.out 2
                obtain ⟨Ao67, co67, eo67⟩ := Kd.R_slice HO_165000.out
                subst eo67
                have p166 : 0 ≤ (x112_4 : Int) := of_decide_eq_true (by first | (with_reducible assumption) | assumption)
                have q166 : x112_4 < (x165000_4.length : Int) := of_decide_eq_true (by first | (with_reducible assumption) | assumption)
                obtain ⟨ad166, e166, hx166_0⟩ := Kd.at_int (Kd.R_reads' HO_165000.out).2.2 x112_4 p166 q166
                cases e166
                replace p166 := eq_true p166; replace q166 := eq_true q166
                have p63 : 0 ≤ (x112_4 : Int) := of_decide_eq_true (by first | (with_reducible assumption) | assumption)
                have q63 : (x112_4 : Int) < ((x165000_4.length : Int) : Int) := of_decide_eq_true (by first | (with_reducible assumption) | assumption)
                obtain ⟨go63, co63, eo63, gb63, gl63, cl63, HG63⟩ := Kd.R_form HO_165000.out (by omega)
                (first | cases eo63 | (injection eo63 with ea_ en_ ec_; (first | subst ea_ | (injection ea_ with ea_; subst ea_)); subst ec_; clear en_))
                have GB63 := Aside0.mk gb63; have GG63 := Aside0.mk HG63; clear gb63 gl63 HG63
                (first | simp only [add_plain] at hx166_0 | skip)
                obtain ⟨hx63_0, hf63_0⟩ := Kd.R_celln 0 HO_165000.out (x112_4 : Int) p63 q63
                replace p63 := eq_true p63; replace q63 := eq_true q63
                have HP68 := Kd.R_putg HO_165000.out (x112_4 : Int) (wrap64 ((rd x165000_4 x112_4) + (rd l2 x112_4)))
                go_wp2_with (first | ((with_reducible refine gate_store (t := 2) (p := 124) rfl ?_); refine store_event (t := 2) (p := 124) (v := ?vo_w69) (w1 := (wr.setCell ⟨go63, (x112_4 : Int).toNat, none⟩ (.int .i64 (wrap64 ((rd x165000_4 x112_4) + (rd l2 x112_4)))))) ?hg ?ho ?hn ?hr ?_; (case ho => rfl); (case hg => rfl); (case hn => rfl); (case hr => first | (go_simp; done) | (go_simp; rfl)); intro w69 hw; have hg : wr.grownBy w69 (some go63) := (by rw [hw]; exact HP68.2); have hp_ : Kd.R (Kd.int .i64) 2 w69 w.heap.size (fun _ => True) (.slice (some ⟨go63, 0, none⟩) x165000_4.length co67) y167 := (by rw [hw, Ny167.out]; exact HP68.1); clear HP68; replace BK148 := Aside0.mk (blk_grown (g := gb148) (o := .cells #[.slice A1_0 l1_0.length c1_0, .int .i64 a1_1, .int .i64 a1_2] 26 (0, 0)) (bT_ BK148) hg (Kd.R_ne HO_165000.out BK148.out (by decide))); replace BK149 := Aside0.mk (blk_grown (g := gb149) (o := .cells #[.slice none 0 0, .int .i64 x150001_2, .int .i64 x150002_2] 26 (0, 0)) (bT_ BK149) hg (Kd.R_ne HO_165000.out BK149.out (by decide))); replace BK164 := Aside0.mk (blk_grown (g := gb164) (o := .cells #[.slice (some ⟨go63, 0, none⟩) x165000_4.length co67, .int .i64 a1_1, .int .i64 (wrap64 (a1_2 + x11_2))] 26 (0, 0)) (bT_ BK164) hg (Kd.R_ne HO_165000.out BK164.out (by decide))); replace HO_165000 := Aside0.mk (hp_); replace HB := Aside0.mk ((by rw [hw]; exact below_set (HB.out) GB63.out : Below w.heap.size w w69)); clear hg hw hp_))
                go_roundg k4
                case measure => have := HJ4.out; have := HK2.out; have := HJ39.out; have := HK4.out; omega
                case rel => exact ⟨(wrap64 (x112_4 + 1)), (y167), (.slice (some ⟨go63, 0, none⟩) x165000_4.length co67), (by first | rfl | (simp; done) | (simp [*]; done)), H', ⟨by have := HJ4.out; have := HK2.out; have := HJ39.out; have := HK4.out; omega⟩, ⟨by (with_reducible repeat (first | apply Kd.R_alloc | apply Kd.R_drewN | apply Kd.R_drew)); exact HO_165000.out⟩, ⟨by exact bT_ BK148⟩, ⟨by exact bT_ BK149⟩, ⟨by exact bT_ BK164⟩, ⟨by repeat (first | (with_reducible first | exact HB.out | apply below_alloc | apply pw_below_drewN | apply below_drew1 | refine below_set ?_ GE148.out | refine below_set ?_ GE149.out | refine below_set ?_ GE164.out) | exact HB.out)⟩⟩
               ·rw [if_neg c62] at H
                exact absurd H (by simp)
              ·rw [if_neg c61] at H
               exact absurd H (by simp)
             ·rw [if_neg c60] at H
              exact absurd H (by simp)
            ·rw [if_neg c59] at H
             have c59b0 : decide (x112_4 < (l2.length : Int)) = false := decide_eq_false c59
             clear c59; replace H := Option.bind_eq_some_iff.mp H
             obtain ⟨t168, A700, H⟩ := H
             replace H : (impl_FlowStep.l2 k4 l0 t168 (t168.length : Int) 0 x165000_4 a1_1 (wrap64 (a1_2 + x11_2))) = some (r1, r2, r3, r4) := H
             have A70 := Aside0.mk A700; clear A700; have H' := Aside0.mk H; clear H; have hnb71 := NB164_148.out; have hnc71 := NB148_164.out; have hnb72 := NB164_149.out; have hnc72 := NB149_164.out
             have hcz73_0 : wr.cell? ⟨gb164, 0, none⟩ = some (u165000) := (blk_cell BK164.out 0).trans rfl
             have hcz73_1 : wr.cell? ⟨gb164, 1, none⟩ = some (.int .i64 a1_1) := (blk_cell BK164.out 1).trans rfl
             have hcz73_2 : wr.cell? ⟨gb164, 2, none⟩ = some (.int .i64 (wrap64 (a1_2 + x11_2))) := (blk_cell BK164.out 2).trans rfl
             have hfz73_0 := blk_frozen BK164.out 0; have hfz73_1 := blk_frozen BK164.out 1; have hfz73_2 := blk_frozen BK164.out 2
             obtain ⟨Ao74, co74, eo74⟩ := Kd.R_slice HO_165000.out
             subst eo74
             go_wp2_with (first | ((with_reducible refine gate_callee (f := 48) rfl ?_); refine gL_ (some 128) Try.func48 #[.slice Ao74 x165000_4.length co74] ?_; (with_reducible refine (slices_Clone_int64_int64.calls _ _ x165000_4 t168 _ ?side1 ?side2 A70.out).mono ?_); (case side1 => exact rD_ HO_165000); (case side2 => exact (Kd.R_reads' HO_165000.out).2.1); rintro e w75 ⟨v169, rfl, ho0, hb⟩; refine ⟨_, rfl, ?_⟩; have HO170 := rL_ (rN_ ho0 HO_165000) HB; replace HO_165000 := rE_ HO_165000 ho0 hb; replace BK148 := bB_ BK148 hb; replace BK149 := bB_ BK149 hb; replace BK164 := bB_ BK164 hb; replace HB := bS_ HB hb; (try clear hb); (try clear hb2); (try clear hk); (try clear hi); (try clear ho0); obtain ⟨Ao76, co76, eo76⟩ := Kd.R_slice HO170.out; subst eo76))
             go_loopg [131] k4 (fun kq v131 w' => ∃ (x129_5 : List Int) (x131_5 : Int) (x165000_5 : List Int) (x165001_5 : Int) (u165000 : Value), v131 = .int .i64 x131_5 ∧ Aside0 (impl_FlowStep.l2 kq l0 x129_5 (t168.length : Int) x131_5 x165000_5 x165001_5 (wrap64 (a1_2 + x11_2)) = some (r1, r2, r3, r4)) ∧ Aside0 (kq ≤ k4) ∧ Aside0 (Kd.R (Kd.int .i64) 2 w' w.heap.size (fun k_ => some k_ ≠ (u165000 : Value).ownBlock) (.slice Ao76 t168.length co76) x129_5) ∧ Aside0 (Kd.R (Kd.int .i64) 2 w' w.heap.size (fun k_ => some k_ ≠ ((.slice Ao76 t168.length co76) : Value).ownBlock) u165000 x165000_5) ∧ Aside0 (w'.heap[gb148]? = some (.cells #[(.slice A1_0 l1_0.length c1_0), .int .i64 a1_1, .int .i64 a1_2] 26 (0, 0))) ∧ Aside0 (w'.heap[gb149]? = some (.cells #[(.slice none 0 0), .int .i64 x150001_2, .int .i64 x150002_2] 26 (0, 0))) ∧ Aside0 (w'.heap[gb164]? = some (.cells #[u165000, .int .i64 x165001_5, .int .i64 (wrap64 (a1_2 + x11_2))] 26 (0, 0))) ∧ Aside0 (Below w.heap.size w w'))
             case atStart => exact ⟨(t168), (0), (x165000_4), (a1_1), (.slice Ao74 x165000_4.length co74), (by first | rfl | (simp; done) | (simp [*]; done)), H', ⟨Nat.le_refl _⟩, ⟨by (with_reducible repeat (first | apply Kd.R_alloc | apply Kd.R_drewN | apply Kd.R_drew)); exact Kd.R_mono HO170.out (fun _ hk => hk.2)⟩, ⟨by (with_reducible repeat (first | apply Kd.R_alloc | apply Kd.R_drewN | apply Kd.R_drew)); exact Kd.R_mono HO_165000.out (fun _ hk => hk.2)⟩, ⟨by exact bT_ BK148⟩, ⟨by exact bT_ BK149⟩, ⟨by exact bT_ BK164⟩, ⟨by repeat (first | (with_reducible first | exact HB.out | apply below_alloc | apply pw_below_drewN | apply below_drew1 | refine below_set ?_ GE148.out | refine below_set ?_ GE149.out | refine below_set ?_ GE164.out) | exact HB.out)⟩⟩
             case round =>
              clear H'; (try clear c1); (try clear p1); (try clear q1); (try clear hx1); (try clear c2); (try clear p2); (try clear c3); (try clear c4); (try clear c5); (try clear c6); (try clear p6); (try clear q6); (try clear hx6); (try clear hf6); (try clear c7); (try clear c9); (try clear c10); (try clear c10b0); (try clear c10b1); (try clear c10b2); (try clear c11); (try clear c11b0); (try clear c11b1); (try clear c11b2); (try clear c13); (try clear c15); (try clear p15); (try clear q15); (try clear hx15); (try clear p16); (try clear q16); (try clear hx16); (try clear c17); (try clear c19); (try clear c21); (try clear c23); (try clear c24); (try clear c26); (try clear c28); (try clear c28b0); (try clear c29); (try clear c29b0); (try clear c30); (try clear c30b0); (try clear c32); (try clear c33); (try clear c33b0); (try clear c35); (try clear c36); (try clear c38); (try clear c41); (try clear c41b0); (try clear c42); (try clear c44); (try clear c46); (try clear c47); (try clear c48); (try clear c59); (try clear c59b0); (try clear c60); (try clear c60b0); (try clear c61); (try clear c61b0); (try clear c62); (try clear c62b0); (try clear p63); (try clear q63); (try clear hx63); (try clear hf63); (try clear c64); (try clear p64); (try clear c65); (try clear c71); (try clear c72); (try clear hcz16_0); (try clear hcz16_1); (try clear hcz16_2); (try clear hcz18_0); (try clear hcz18_1); (try clear hcz18_2); (try clear hcz20_0); (try clear hcz20_1); (try clear hcz20_2); (try clear hcz22_0); (try clear hcz22_1); (try clear hcz22_2); (try clear hcz25_0); (try clear hcz25_1); (try clear hcz25_2); (try clear hcz27_0); (try clear hcz27_1); (try clear hcz27_2); (try clear hcz37_0); (try clear hcz37_1); (try clear hcz37_2); (try clear hcz39_0); (try clear hcz39_1); (try clear hcz39_2); (try clear hcz43_0); (try clear hcz43_1); (try clear hcz43_2); (try clear hcz45_0); (try clear hcz45_1); (try clear hcz45_2); (try clear hcz48_0); (try clear hcz48_1); (try clear hcz48_2); (try clear hcz66_0); (try clear hcz66_1); (try clear hcz66_2); (try clear hcz73_0); (try clear hcz73_1); (try clear hcz73_2); (try clear hfz16_0); (try clear hfz16_1); (try clear hfz16_2); (try clear hfz18_0); (try clear hfz18_1); (try clear hfz18_2); (try clear hfz20_0); (try clear hfz20_1); (try clear hfz20_2); (try clear hfz22_0); (try clear hfz22_1); (try clear hfz22_2); (try clear hfz25_0); (try clear hfz25_1); (try clear hfz25_2); (try clear hfz27_0); (try clear hfz27_1); (try clear hfz27_2); (try clear hfz37_0); (try clear hfz37_1); (try clear hfz37_2); (try clear hfz39_0); (try clear hfz39_1); (try clear hfz39_2); (try clear hfz43_0); (try clear hfz43_1); (try clear hfz43_2); (try clear hfz45_0); (try clear hfz45_1); (try clear hfz45_2); (try clear hfz48_0); (try clear hfz48_1); (try clear hfz48_2); (try clear hfz66_0); (try clear hfz66_1); (try clear hfz66_2); (try clear hfz73_0); (try clear hfz73_1); (try clear hfz73_2); (try clear hx156_0); (try clear hx158_0); (try clear hx160_0); (try clear hx165_0); (try clear hx166_0); (try clear hx63_0); (try clear p1); (try clear p15); (try clear p156); (try clear p158); (try clear p16); (try clear p160); (try clear p165); (try clear p166); (try clear p2); (try clear p6); (try clear p63); (try clear q1); (try clear q15); (try clear q156); (try clear q158); (try clear q16); (try clear q160); (try clear q165); (try clear q166); (try clear q63)
              obtain ⟨x129_5, x131_5, x165000_5, x165001_5, u165000, rfl, HA, HK5, HO_129, HO_165000, BK148, BK149, BK164, HB⟩ := hrel
              have hl129_5 := (Kd.R_reads' HO_129.out).1
              rw [hl129_5] at HO_129
              (try simp only [hl129_5])
              (try simp only [hl129_5] at BK148)
              (try simp only [hl129_5] at BK149)
              (try simp only [hl129_5] at BK164)
              (try simp only [hl129_5] at HO_165000)
              cases gk with
              | zero => exact absurd HA.out (by simp [impl_FlowStep.l2])
              | succ k5 =>
               have H := HA.out; clear HA
               simp only [impl_FlowStep.l2] at H
               by_cases c77 : x131_5 < (t168.length : Int)
               ·rw [if_pos c77] at H
                have c77b0 : decide (x131_5 < (t168.length : Int)) = true := decide_eq_true c77
                have c77b0q := c77b0
                (try simp only [hl129_5] at c77b0q)
                clear c77
                by_cases c78 : 0 ≤ x131_5
                ·rw [if_pos c78] at H
                 have c78b0 : decide (0 ≤ x131_5) = true := decide_eq_true c78
                 clear c78
                 by_cases c79 : x131_5 < (x129_5.length : Int)
                 ·rw [if_pos c79] at H
                  have c79b0 : decide (x131_5 < (x129_5.length : Int)) = true := decide_eq_true c79
                  have c79b0q := c79b0
                  (try simp only [hl129_5] at c79b0q)
                  clear c79
                  by_cases c80 : x131_5 < (x165000_5.length : Int)
                  ·rw [if_pos c80] at H
                   have c80b0 : decide (x131_5 < (x165000_5.length : Int)) = true := decide_eq_true c80
                   have c80b0q := c80b0
                   (try simp only [hl129_5] at c80b0q)
                   clear c80
                   obtain ⟨y173, hy173⟩ : ∃ y_ : List Int, y_ = (x165000_5.set (x131_5 : Int).toNat (wrap64 ((rd x165000_5 x131_5) - (wrap64 (Int.tdiv (wrap64 ((rd x129_5 x131_5) + 1)) 2))))) := ⟨_, rfl⟩
                   replace H : (if x131_5 < (l0.length : Int) then (if (rd l0 x131_5) < 0 then (impl_FlowStep.l2 k5 l0 x129_5 (t168.length : Int) (wrap64 (x131_5 + 1)) y173 (wrap64 (x165001_5 + (wrap64 (Int.tdiv (wrap64 ((rd x129_5 x131_5) + 1)) 2)))) (wrap64 (a1_2 + x11_2))) else (if 0 ≤ (rd l0 x131_5) then (if (rd l0 x131_5) < (x165000_5.length : Int) then (impl_FlowStep.l2 k5 l0 x129_5 (t168.length : Int) (wrap64 (x131_5 + 1)) (y173.set ((rd l0 x131_5) : Int).toNat (wrap64 ((rd y173 (rd l0 x131_5)) + (wrap64 (Int.tdiv (wrap64 ((rd x129_5 x131_5) + 1)) 2))))) x165001_5 (wrap64 (a1_2 + x11_2))) else (none)) else (none))) else (none)) = some (r1, r2, r3, r4) := by first | (rw [hy173]; with_reducible exact H) | (have H2_ := (Option.bind_some _ _).symm.trans H; rw [hy173]; with_reducible exact H2_) | (have H2_ := (Option.bind_some _ _).symm.trans H; with_reducible exact H2_) | with_reducible exact H | (rw [hy173]; exact H) | exact H
                   have Ny173 := Aside0.mk hy173; clear hy173
                   by_cases c82 : x131_5 < (l0.length : Int)
                   ·rw [if_pos c82] at H
                    have c82b0 : decide (x131_5 < (l0.length : Int)) = true := decide_eq_true c82
                    have c82b0q := c82b0
                    (try simp only [hl129_5] at c82b0q)
                    clear c82
                    by_cases c83 : (rd l0 x131_5) < 0
                    ·rw [if_pos c83] at H
                     have c83b0 : decide ((rd l0 x131_5) < 0) = true := decide_eq_true c83
                     clear c83; have H' := Aside0.mk H; clear H
                     have p171 : 0 ≤ (x131_5 : Int) := of_decide_eq_true (by first | (with_reducible assumption) | assumption)
                     have q171 : x131_5 < (x129_5.length : Int) := of_decide_eq_true (by first | (with_reducible assumption) | assumption)
                     obtain ⟨ad171, e171, hx171_0⟩ := Kd.at_int (Kd.R_reads' HO_129.out).2.2 x131_5 p171 q171
                     cases e171
                     replace p171 := eq_true p171; replace q171 := eq_true q171; have hnb84 := NB164_148.out; have hnc84 := NB148_164.out; have hnb85 := NB164_149.out; have hnc85 := NB149_164.out
                     have hcz86_0 : wr.cell? ⟨gb164, 0, none⟩ = some (u165000) := (blk_cell BK164.out 0).trans rfl
                     have hcz86_1 : wr.cell? ⟨gb164, 1, none⟩ = some (.int .i64 x165001_5) := (blk_cell BK164.out 1).trans rfl
                     have hcz86_2 : wr.cell? ⟨gb164, 2, none⟩ = some (.int .i64 (wrap64 (a1_2 + x11_2))) := (blk_cell BK164.out 2).trans rfl
                     have hfz86_0 := blk_frozen BK164.out 0; have hfz86_1 := blk_frozen BK164.out 1; have hfz86_2 := blk_frozen BK164.out 2
                     obtain ⟨Ao87, co87, eo87⟩ := Kd.R_slice HO_165000.out
                     subst eo87
                     have p172 : 0 ≤ (x131_5 : Int) := of_decide_eq_true (by first | (with_reducible assumption) | assumption)
                     have q172 : x131_5 < (x165000_5.length : Int) := of_decide_eq_true (by first | (with_reducible assumption) | assumption)
                     obtain ⟨ad172, e172, hx172_0⟩ := Kd.at_int (Kd.R_reads' HO_165000.out).2.2 x131_5 p172 q172
                     cases e172
                     replace p172 := eq_true p172; replace q172 := eq_true q172
                     have p81 : 0 ≤ (x131_5 : Int) := of_decide_eq_true (by first | (with_reducible assumption) | assumption)
                     have q81 : (x131_5 : Int) < ((x165000_5.length : Int) : Int) := of_decide_eq_true (by first | (with_reducible assumption) | assumption)
                     obtain ⟨go81, co81, eo81, gb81, gl81, cl81, HG81⟩ := Kd.R_form HO_165000.out (by omega)
                     (first | cases eo81 | (injection eo81 with ea_ en_ ec_; (first | subst ea_ | (injection ea_ with ea_; subst ea_)); subst ec_; clear en_))
                     have GB81 := Aside0.mk gb81; have GG81 := Aside0.mk HG81; clear gb81 gl81 HG81
                     (first | simp only [add_plain] at hx172_0 | skip)
                     obtain ⟨hx81_0, hf81_0⟩ := Kd.R_celln 0 HO_165000.out (x131_5 : Int) p81 q81
                     replace p81 := eq_true p81; replace q81 := eq_true q81
                     have HP88 := Kd.R_putg HO_165000.out (x131_5 : Int) (wrap64 ((rd x165000_5 x131_5) - (wrap64 (Int.tdiv (wrap64 ((rd x129_5 x131_5) + 1)) 2))))
                     go_wp2_with (first | ((with_reducible refine gate_store (t := 2) (p := 146) rfl ?_); refine store_event (t := 2) (p := 146) (v := ?vo_w89) (w1 := (wr.setCell ⟨go81, (x131_5 : Int).toNat, none⟩ (.int .i64 (wrap64 ((rd x165000_5 x131_5) - (wrap64 (Int.tdiv (wrap64 ((rd x129_5 x131_5) + 1)) 2))))))) ?hg ?ho ?hn ?hr ?_; (case ho => rfl); (case hg => rfl); (case hn => rfl); (case hr => first | (go_simp; done) | (go_simp; rfl)); intro w89 hw; have hg : wr.grownBy w89 (some go81) := (by rw [hw]; exact HP88.2); have hp_ : Kd.R (Kd.int .i64) 2 w89 w.heap.size (fun k_ => some k_ ≠ (.slice (some ad171) x129_5.length co76 : Value).ownBlock) (.slice (some ⟨go81, 0, none⟩) x165000_5.length co87) y173 := (by rw [hw, Ny173.out]; exact HP88.1); clear HP88; replace HO_129 := Aside0.mk (Kd.R_after (v := (.slice (some ⟨go81, 0, none⟩) x165000_5.length co87)) (v1 := (.slice (some ⟨go81, 0, none⟩) x165000_5.length co87)) (ok := (fun _ => True)) (rM_ HO_129 (fun _ hk => ⟨trivial, hk⟩)) hg (.inl rfl)); replace BK148 := Aside0.mk (blk_grown (g := gb148) (o := .cells #[.slice A1_0 l1_0.length c1_0, .int .i64 a1_1, .int .i64 a1_2] 26 (0, 0)) (bT_ BK148) hg (Kd.R_ne HO_165000.out BK148.out (by decide))); replace BK149 := Aside0.mk (blk_grown (g := gb149) (o := .cells #[.slice none 0 0, .int .i64 x150001_2, .int .i64 x150002_2] 26 (0, 0)) (bT_ BK149) hg (Kd.R_ne HO_165000.out BK149.out (by decide))); replace BK164 := Aside0.mk (blk_grown (g := gb164) (o := .cells #[.slice (some ⟨go81, 0, none⟩) x165000_5.length co87, .int .i64 x165001_5, .int .i64 (wrap64 (a1_2 + x11_2))] 26 (0, 0)) (bT_ BK164) hg (Kd.R_ne HO_165000.out BK164.out (by decide))); replace HO_165000 := Aside0.mk (hp_); replace HB := Aside0.mk ((by rw [hw]; exact below_set (HB.out) GB81.out : Below w.heap.size w w89)); clear hg hw hp_; have p174 : 0 ≤ (x131_5 : Int) := of_decide_eq_true (by first | (with_reducible assumption) | assumption); have q174 : x131_5 < (l0.length : Int) := of_decide_eq_true (by first | (with_reducible assumption) | assumption); obtain ⟨ad174, e174, hx174_0⟩ := Kd.at_int HR0.out x131_5 p174 q174; cases e174; replace hx174_0 := (HB.out.cell (World.block_lt_of_cell? w _ hx174_0)).trans hx174_0; replace p174 := eq_true p174; replace q174 := eq_true q174; have hcz90_0 : w89.cell? ⟨gb164, 0, none⟩ = some (.slice (some ⟨go81, 0, none⟩) x165000_5.length co87) := (blk_cell BK164.out 0).trans rfl; have hcz90_1 : w89.cell? ⟨gb164, 1, none⟩ = some (.int .i64 x165001_5) := (blk_cell BK164.out 1).trans rfl; have hcz90_2 : w89.cell? ⟨gb164, 2, none⟩ = some (.int .i64 (wrap64 (a1_2 + x11_2))) := (blk_cell BK164.out 2).trans rfl; have hfz90_0 := blk_frozen BK164.out 0; have hfz90_1 := blk_frozen BK164.out 1; have hfz90_2 := blk_frozen BK164.out 2))
                     (try simp only [← hl129_5])
                     go_roundg k5
                     case measure => have := HJ4.out; have := HK2.out; have := HJ39.out; have := HK4.out; have := HK5.out; omega
                     case rel => exact ⟨(x129_5), (wrap64 (x131_5 + 1)), (y173), (wrap64 (x165001_5 + (wrap64 (Int.tdiv (wrap64 ((rd x129_5 x131_5) + 1)) 2)))), (.slice (some ⟨go81, 0, none⟩) x165000_5.length co87), (by first | rfl | (simp; done) | (simp [*]; done)), H', ⟨by have := HJ4.out; have := HK2.out; have := HJ39.out; have := HK4.out; have := HK5.out; omega⟩, ⟨by (try simp only [hl129_5]); (with_reducible repeat (first | apply Kd.R_alloc | apply Kd.R_drewN | apply Kd.R_drew)); exact Kd.R_mono (Kd.R_far (p := ⟨gb164, 1, none⟩) (Kd.R_types HO_129.out BK164.out (by decide)) (fun _ hk => hk.2) (.int .i64 (wrap64 (x165001_5 + (wrap64 (Int.tdiv (wrap64 ((rd x129_5 x131_5) + 1)) 2)))))) (fun _ hk => hk.1.2)⟩, ⟨by (try simp only [hl129_5]); (with_reducible repeat (first | apply Kd.R_alloc | apply Kd.R_drewN | apply Kd.R_drew)); exact Kd.R_mono (Kd.R_far (p := ⟨gb164, 1, none⟩) (Kd.R_types HO_165000.out BK164.out (by decide)) (fun _ hk => hk.2) (.int .i64 (wrap64 (x165001_5 + (wrap64 (Int.tdiv (wrap64 ((rd x129_5 x131_5) + 1)) 2)))))) (fun _ hk => hk.1)⟩, ⟨by (try simp only [hl129_5]); (with_reducible repeat (first | refine blk_drewN ?_ _ | refine blk_drew ?_ | refine blk_alloc ?_ _)); refine blk_far ?_ NB148_164.out _; exact bT_ BK148⟩, ⟨by (try simp only [hl129_5]); (with_reducible repeat (first | refine blk_drewN ?_ _ | refine blk_drew ?_ | refine blk_alloc ?_ _)); refine blk_far ?_ NB149_164.out _; exact bT_ BK149⟩, ⟨by (try simp only [hl129_5]); (with_reducible repeat (first | refine blk_drewN ?_ _ | refine blk_drew ?_ | refine blk_alloc ?_ _)); refine blk_put (cs := #[.slice (some ⟨go81, 0, none⟩) x165000_5.length co87, .int .i64 x165001_5, .int .i64 (wrap64 (a1_2 + x11_2))]) ?_ 1 _ rfl; exact bT_ BK164⟩, ⟨by repeat (first | (with_reducible first | exact HB.out | apply below_alloc | apply pw_below_drewN | apply below_drew1 | refine below_set ?_ GE148.out | refine below_set ?_ GE149.out | refine below_set ?_ GE164.out) | exact HB.out)⟩⟩
                    ·rw [if_neg c83] at H
                     have c83b0 : decide ((rd l0 x131_5) < 0) = false := decide_eq_false c83
                     clear c83
                     by_cases c91 : 0 ≤ (rd l0 x131_5)
                     ·rw [if_pos c91] at H
                      have c91b0 : decide (0 ≤ (rd l0 x131_5)) = true := decide_eq_true c91
                      clear c91
                      by_cases c92 : (rd l0 x131_5) < (x165000_5.length : Int)
                      ·rw [if_pos c92] at H
                       have c92b0 : decide ((rd l0 x131_5) < (x165000_5.length : Int)) = true := decide_eq_true c92
                       have c92b0q := c92b0
                       (try simp only [hl129_5] at c92b0q)
                       clear c92
                       obtain ⟨y177, hy177⟩ : ∃ y_ : List Int, y_ = (y173.set ((rd l0 x131_5) : Int).toNat (wrap64 ((rd y173 (rd l0 x131_5)) + (wrap64 (Int.tdiv (wrap64 ((rd x129_5 x131_5) + 1)) 2))))) := ⟨_, rfl⟩
                       replace H : (impl_FlowStep.l2 k5 l0 x129_5 (t168.length : Int) (wrap64 (x131_5 + 1)) y177 x165001_5 (wrap64 (a1_2 + x11_2))) = some (r1, r2, r3, r4) := by first | (rw [hy177]; with_reducible exact H) | (have H2_ := (Option.bind_some _ _).symm.trans H; rw [hy177]; with_reducible exact H2_) | (have H2_ := (Option.bind_some _ _).symm.trans H; with_reducible exact H2_) | with_reducible exact H | (rw [hy177]; exact H) | exact H
                       have Ny177 := Aside0.mk hy177; clear hy177; have H' := Aside0.mk H; clear H
                       have p171 : 0 ≤ (x131_5 : Int) := of_decide_eq_true (by first | (with_reducible assumption) | assumption)
                       have q171 : x131_5 < (x129_5.length : Int) := of_decide_eq_true (by first | (with_reducible assumption) | assumption)
                       obtain ⟨ad171, e171, hx171_0⟩ := Kd.at_int (Kd.R_reads' HO_129.out).2.2 x131_5 p171 q171
                       cases e171
                       replace p171 := eq_true p171; replace q171 := eq_true q171; have hnb94 := NB164_148.out; have hnc94 := NB148_164.out; have hnb95 := NB164_149.out; have hnc95 := NB149_164.out
                       have hcz96_0 : wr.cell? ⟨gb164, 0, none⟩ = some (u165000) := (blk_cell BK164.out 0).trans rfl
                       have hcz96_1 : wr.cell? ⟨gb164, 1, none⟩ = some (.int .i64 x165001_5) := (blk_cell BK164.out 1).trans rfl
                       have hcz96_2 : wr.cell? ⟨gb164, 2, none⟩ = some (.int .i64 (wrap64 (a1_2 + x11_2))) := (blk_cell BK164.out 2).trans rfl
                       have hfz96_0 := blk_frozen BK164.out 0; have hfz96_1 := blk_frozen BK164.out 1; have hfz96_2 := blk_frozen BK164.out 2
                       obtain ⟨Ao97, co97, eo97⟩ := Kd.R_slice HO_165000.out
                       subst eo97
                       have p172 : 0 ≤ (x131_5 : Int) := of_decide_eq_true (by first | (with_reducible assumption) | assumption)
                       have q172 : x131_5 < (x165000_5.length : Int) := of_decide_eq_true (by first | (with_reducible assumption) | assumption)
                       obtain ⟨ad172, e172, hx172_0⟩ := Kd.at_int (Kd.R_reads' HO_165000.out).2.2 x131_5 p172 q172
                       cases e172
                       replace p172 := eq_true p172; replace q172 := eq_true q172
                       have p81 : 0 ≤ (x131_5 : Int) := of_decide_eq_true (by first | (with_reducible assumption) | assumption)
                       have q81 : (x131_5 : Int) < ((x165000_5.length : Int) : Int) := of_decide_eq_true (by first | (with_reducible assumption) | assumption)
                       obtain ⟨go81, co81, eo81, gb81, gl81, cl81, HG81⟩ := Kd.R_form HO_165000.out (by omega)
                       (first | cases eo81 | (injection eo81 with ea_ en_ ec_; (first | subst ea_ | (injection ea_ with ea_; subst ea_)); subst ec_; clear en_))
                       have GB81 := Aside0.mk gb81; have GG81 := Aside0.mk HG81; clear gb81 gl81 HG81
                       (first | simp only [add_plain] at hx172_0 | skip)
                       obtain ⟨hx81_0, hf81_0⟩ := Kd.R_celln 0 HO_165000.out (x131_5 : Int) p81 q81
                       replace p81 := eq_true p81; replace q81 := eq_true q81
                       have HP98 := Kd.R_putg HO_165000.out (x131_5 : Int) (wrap64 ((rd x165000_5 x131_5) - (wrap64 (Int.tdiv (wrap64 ((rd x129_5 x131_5) + 1)) 2))))
                       try go_wp2_with (first | ((with_reducible refine gate_store (t := 2) (p := 146) rfl ?_); refine store_event (t := 2) (p := 146) (v := ?vo_w99) (w1 := (wr.setCell ⟨go81, (x131_5 : Int).toNat, none⟩ (.int .i64 (wrap64 ((rd x165000_5 x131_5) - (wrap64 (Int.tdiv (wrap64 ((rd x129_5 x131_5) + 1)) 2))))))) ?hg ?ho ?hn ?hr ?_; (case ho => rfl); (case hg => rfl); (case hn => rfl); (case hr => first | (go_simp; done) | (go_simp; rfl)); intro w99 hw; have hg : wr.grownBy w99 (some go81) := (by rw [hw]; exact HP98.2); have hp_ : Kd.R (Kd.int .i64) 2 w99 w.heap.size (fun k_ => some k_ ≠ (.slice (some ad171) x129_5.length co76 : Value).ownBlock) (.slice (some ⟨go81, 0, none⟩) x165000_5.length co97) y173 := (by rw [hw, Ny173.out]; exact HP98.1); clear HP98; replace HO_129 := Aside0.mk (Kd.R_after (v := (.slice (some ⟨go81, 0, none⟩) x165000_5.length co97)) (v1 := (.slice (some ⟨go81, 0, none⟩) x165000_5.length co97)) (ok := (fun _ => True)) (rM_ HO_129 (fun _ hk => ⟨trivial, hk⟩)) hg (.inl rfl)); replace BK148 := Aside0.mk (blk_grown (g := gb148) (o := .cells #[.slice A1_0 l1_0.length c1_0, .int .i64 a1_1, .int .i64 a1_2] 26 (0, 0)) (bT_ BK148) hg (Kd.R_ne HO_165000.out BK148.out (by decide))); replace BK149 := Aside0.mk (blk_grown (g := gb149) (o := .cells #[.slice none 0 0, .int .i64 x150001_2, .int .i64 x150002_2] 26 (0, 0)) (bT_ BK149) hg (Kd.R_ne HO_165000.out BK149.out (by decide))); replace BK164 := Aside0.mk (blk_grown (g := gb164) (o := .cells #[.slice (some ⟨go81, 0, none⟩) x165000_5.length co97, .int .i64 x165001_5, .int .i64 (wrap64 (a1_2 + x11_2))] 26 (0, 0)) (bT_ BK164) hg (Kd.R_ne HO_165000.out BK164.out (by decide))); replace HO_165000 := Aside0.mk (hp_); replace HB := Aside0.mk ((by rw [hw]; exact below_set (HB.out) GB81.out : Below w.heap.size w w99)); clear hg hw hp_; have p174 : 0 ≤ (x131_5 : Int) := of_decide_eq_true (by first | (with_reducible assumption) | assumption); have q174 : x131_5 < (l0.length : Int) := of_decide_eq_true (by first | (with_reducible assumption) | assumption); obtain ⟨ad174, e174, hx174_0⟩ := Kd.at_int HR0.out x131_5 p174 q174; cases e174; replace hx174_0 := (HB.out.cell (World.block_lt_of_cell? w _ hx174_0)).trans hx174_0; replace p174 := eq_true p174; replace q174 := eq_true q174))
                       replace HO_129 := Aside0.mk (Kd.R_drew HO_129.out)
                       replace HO_165000 := Aside0.mk (Kd.R_drew HO_165000.out)
                       replace BK148 := Aside0.mk (blk_drew BK148.out)
                       replace BK149 := Aside0.mk (blk_drew BK149.out)
                       replace BK164 := Aside0.mk (blk_drew BK164.out)
                       replace HB := Aside0.mk (below_drew1 HB.out)
                       have p175 : 0 ≤ (x131_5 : Int) := of_decide_eq_true (by first | (with_reducible assumption) | assumption)
                       have q175 : x131_5 < (l0.length : Int) := of_decide_eq_true (by first | (with_reducible assumption) | assumption)
                       obtain ⟨ad175, e175, hx175_0⟩ := Kd.at_int HR0.out x131_5 p175 q175
                       have hw175_0 := hx175_0
                       obtain rfl : ad174 = ad175 := (by injection e175)
                       replace hx175_0 := (HB.out.cell (World.block_lt_of_cell? w _ hx175_0)).trans hx175_0
                       replace p175 := eq_true p175; replace q175 := eq_true q175
                       have p176 : 0 ≤ ((rd l0 x131_5) : Int) := of_decide_eq_true (by first | (with_reducible assumption) | assumption)
                       have q176 : (rd l0 x131_5) < (y173.length : Int) := (by have h_ : ((rd l0 x131_5) : Int) < ((x165000_5.length : Int) : Int) := of_decide_eq_true (by first | (with_reducible assumption) | assumption); first | (have e_ := (Kd.R_reads' HO_165000.out).1; omega) | simpa only [Ny173.out, List.length_set] using h_)
                       have ql176 : (((rd l0 x131_5) : Int) < ((x165000_5.length : Int) : Int)) = True := eq_true (of_decide_eq_true (by first | (with_reducible assumption) | assumption))
                       obtain ⟨ad176, e176, hx176_0⟩ := Kd.at_int (Kd.R_reads' HO_165000.out).2.2 (rd l0 x131_5) p176 q176
                       obtain rfl : (⟨go81, 0, none⟩ : Addr) = ad176 := (by injection e176)
                       (first | simp only [add_plain] at hx176_0 | simp only [add_at] at hx176_0 | simp only [Addr.add, Nat.zero_add] at hx176_0 | skip)
                       replace p176 := eq_true p176; replace q176 := eq_true q176
                       have p93 : 0 ≤ ((rd l0 x131_5) : Int) := of_decide_eq_true (by first | (with_reducible assumption) | assumption)
                       have q93 : ((rd l0 x131_5) : Int) < ((x165000_5.length : Int) : Int) := of_decide_eq_true (by first | (with_reducible assumption) | assumption)
                       obtain ⟨hx93_0, hf93_0⟩ := Kd.R_celln 0 HO_165000.out ((rd l0 x131_5) : Int) p93 q93
                       replace p93 := eq_true p93; replace q93 := eq_true q93
                       have HP101 := Kd.R_putn HO_165000.out ((rd l0 x131_5) : Int) (wrap64 ((rd y173 (rd l0 x131_5)) + (wrap64 (Int.tdiv (wrap64 ((rd x129_5 x131_5) + 1)) 2))))
                       rw [← Ny177.out] at HP101
                       have HQ101 := Aside0.mk HP101; clear HP101
                       refine start_ (n := 12) (S := fun w' => w'.cell? ⟨gb164, 0, none⟩ = some (.slice (some ⟨go81, 0, none⟩) x165000_5.length co97) ∧ w'.cell? ⟨gb164, 1, none⟩ = some (.int .i64 x165001_5) ∧ w'.cell? ⟨gb164, 2, none⟩ = some (.int .i64 (wrap64 (a1_2 + x11_2))) ∧ w'.cell? (ad174.add (x131_5).toNat) = some (.int .i64 (rd l0 x131_5)) ∧ w'.cell? ⟨go81, ((rd l0 x131_5)).toNat, none⟩ = some (.int .i64 (rd y173 (rd l0 x131_5)))) (ds := [11]) #[false, false, false, false, false, false, false, false, false, false, false, false] (by kernel_rfl) rfl rfl ⟨(blk_cell BK164.out 0).trans rfl, (blk_cell BK164.out 1).trans rfl, (blk_cell BK164.out 2).trans rfl, ((HB.out.cell (World.block_lt_of_cell? w _ hw175_0)).trans hw175_0), hx176_0⟩ (fun hHeld => ?_); refine with_tabW impl_FlowStep.tab29 impl_FlowStep.bits29 (fun HT_ HW_ => ?_)
                       generalize w99.drew = w100 at HO_129 HO_165000 BK148 BK149 BK164 HB HQ101 hf93_0 hx175_0 hx176_0 hx93_0 hHeld ⊢
                       refine pT_ 0 (some 157) #[true, false, false, false, false, false, false, false, false, false, false, false] HT_ ?_
                       refine pT_ 2 (some 159) #[true, false, true, false, false, false, false, false, false, false, false, false] HT_ ?_
                       refine pT_ 3 (some 160) #[true, false, true, true, false, false, false, false, false, false, false, false] HT_ ?_
                       refine pT_ 4 (some 161) #[true, false, true, true, true, false, false, false, false, false, false, false] HT_ ?_
                       refine pT_ 8 (some 165) #[true, false, true, true, true, false, false, false, true, false, false, false] HT_ ?_
                       refine tT_ 1 (some 158) #[true, true, true, true, true, false, false, false, true, false, false, false] HT_ HW_ hHeld ?_ (hy := by rintro w' ⟨s0, s1, s2, s3, s4⟩; go_simp; with_reducible rfl)
                       refine tT_ 5 (some 162) #[true, true, true, true, true, true, false, false, true, false, false, false] HT_ HW_ hHeld ?_ (hy := by rintro w' ⟨s0, s1, s2, s3, s4⟩; go_simp; with_reducible rfl)
                       refine pT_ 6 (some 163) #[true, true, true, true, true, true, true, false, true, false, false, false] HT_ ?_
                       refine tT_ 7 (some 164) #[true, true, true, true, true, true, true, true, true, false, false, false] HT_ HW_ hHeld ?_ (hy := by rintro w' ⟨s0, s1, s2, s3, s4⟩; go_simp; with_reducible rfl)
                       refine pT_ 9 (some 166) #[true, true, true, true, true, true, true, true, true, true, false, false] HT_ ?_
                       refine pT_ 10 (some 167) #[true, true, true, true, true, true, true, true, true, true, true, false] HT_ ?_
                       refine last_ (i := 11) (N := none) #[true, true, true, true, true, true, true, true, true, true, true, true] rfl rfl (one_of HT_.out (by kernel_rfl)) (by decide) (fun K hK => ?_)
                       refine skip_ (w1 := ?_) (by rfl) rfl ?_ ?_
                       rotate_left
                       ·go_simp
                        rfl
                       refine hK.out _ _ ?_
                       clear hK K
                       refine done_ (done_of HT_.out (by kernel_rfl)) ?_
                       try go_wp2
                       (try simp only [← hl129_5])
                       go_roundg k5
                       case measure => have := HJ4.out; have := HK2.out; have := HJ39.out; have := HK4.out; have := HK5.out; omega
                       case rel => exact ⟨(x129_5), (wrap64 (x131_5 + 1)), (y177), (x165001_5), (.slice (some ⟨go81, 0, none⟩) x165000_5.length co97), (by first | rfl | (simp; done) | (simp [*]; done)), H', ⟨by have := HJ4.out; have := HK2.out; have := HJ39.out; have := HK4.out; have := HK5.out; omega⟩, ⟨by (try simp only [hl129_5]); (with_reducible repeat (first | apply Kd.R_alloc | apply Kd.R_drewN | apply Kd.R_drew)); exact Kd.R_mono (Kd.R_far (p := ⟨go81, ((rd l0 x131_5) : Int).toNat, none⟩) (Kd.R_mono HO_129.out (fun k_ hk => (⟨hk, fun e_ => hk.2 (by rw [e_]; rfl)⟩ : _ ∧ k_ ≠ go81))) (fun _ hk => hk.2) (.int .i64 (wrap64 ((rd y173 (rd l0 x131_5)) + (wrap64 (Int.tdiv (wrap64 ((rd x129_5 x131_5) + 1)) 2)))))) (fun _ hk => hk.1.2)⟩, ⟨by (try simp only [hl129_5]); (with_reducible repeat (first | apply Kd.R_alloc | apply Kd.R_drewN | apply Kd.R_drew)); exact HQ101.out⟩, ⟨by (try simp only [hl129_5]); (with_reducible repeat (first | refine blk_drewN ?_ _ | refine blk_drew ?_ | refine blk_alloc ?_ _)); refine blk_far ?_ (by have h_ := Kd.R_ne HO_165000.out BK148.out (by decide); intro e_; exact h_ (by rw [e_]; rfl)) _; exact bT_ BK148⟩, ⟨by (try simp only [hl129_5]); (with_reducible repeat (first | refine blk_drewN ?_ _ | refine blk_drew ?_ | refine blk_alloc ?_ _)); refine blk_far ?_ (by have h_ := Kd.R_ne HO_165000.out BK149.out (by decide); intro e_; exact h_ (by rw [e_]; rfl)) _; exact bT_ BK149⟩, ⟨by (try simp only [hl129_5]); (with_reducible repeat (first | refine blk_drewN ?_ _ | refine blk_drew ?_ | refine blk_alloc ?_ _)); refine blk_far ?_ (by have h_ := Kd.R_ne HO_165000.out BK164.out (by decide); intro e_; exact h_ (by rw [e_]; rfl)) _; exact bT_ BK164⟩, ⟨by repeat (first | (with_reducible first | exact HB.out | apply below_alloc | apply pw_below_drewN | apply below_drew1 | refine below_set ?_ GB81.out | refine below_set ?_ GE148.out | refine below_set ?_ GE149.out | refine below_set ?_ GE164.out) | exact HB.out)⟩⟩
                      ·rw [if_neg c92] at H
                       exact absurd H (by simp)
                     ·rw [if_neg c91] at H
                      exact absurd H (by simp)
                   ·rw [if_neg c82] at H
                    exact absurd H (by simp)
                  ·rw [if_neg c80] at H
                   exact absurd H (by simp)
                 ·rw [if_neg c79] at H
                  exact absurd H (by simp)
                ·rw [if_neg c78] at H
                 exact absurd H (by simp)
               ·rw [if_neg c77] at H
                have c77b0 : decide (x131_5 < (t168.length : Int)) = false := decide_eq_false c77
                have c77b0q := c77b0
                (try simp only [hl129_5] at c77b0q)
                clear c77
                simp only [Option.some.injEq, Prod.mk.injEq] at H
                obtain ⟨rfl, rfl, rfl, rfl⟩ := H
                have hnb102 := NB164_148.out; have hnc102 := NB148_164.out; have hnb103 := NB164_149.out; have hnc103 := NB149_164.out
                have hcz104_0 : wr.cell? ⟨gb164, 0, none⟩ = some (u165000) := (blk_cell BK164.out 0).trans rfl
                have hcz104_1 : wr.cell? ⟨gb164, 1, none⟩ = some (.int .i64 x165001_5) := (blk_cell BK164.out 1).trans rfl
                have hcz104_2 : wr.cell? ⟨gb164, 2, none⟩ = some (.int .i64 (wrap64 (a1_2 + x11_2))) := (blk_cell BK164.out 2).trans rfl
                have hfz104_0 := blk_frozen BK164.out 0; have hfz104_1 := blk_frozen BK164.out 1; have hfz104_2 := blk_frozen BK164.out 2
                obtain ⟨Ao105, co105, eo105⟩ := Kd.R_slice HO_165000.out
                subst eo105
                have hnb106 := NB149_148.out; have hnc106 := NB148_149.out
                have hcz107_0 : wr.cell? ⟨gb149, 0, none⟩ = some (.slice none 0 0) := (blk_cell BK149.out 0).trans rfl
                have hcz107_1 : wr.cell? ⟨gb149, 1, none⟩ = some (.int .i64 x150001_2) := (blk_cell BK149.out 1).trans rfl
                have hcz107_2 : wr.cell? ⟨gb149, 2, none⟩ = some (.int .i64 x150002_2) := (blk_cell BK149.out 2).trans rfl
                have hfz107_0 := blk_frozen BK149.out 0; have hfz107_1 := blk_frozen BK149.out 1; have hfz107_2 := blk_frozen BK149.out 2
                go_wp2
                refine bodyPost_ret (results_ct rfl _ _ gb149 26 #[.slice Ao105 x165000_5.length co105, .int .i64 x165001_5, .int .i64 (wrap64 (a1_2 + x11_2))] (0, 0) _ rfl (by (with_reducible repeat (first | refine blk_drewN ?_ _ | refine blk_drew ?_ | refine blk_alloc ?_ _)); refine blk_put (cs := #[.slice Ao105 x165000_5.length co105, .int .i64 x165001_5, .int .i64 x150002_2]) ?_ 2 _ rfl; (with_reducible repeat (first | refine blk_drewN ?_ _ | refine blk_drew ?_ | refine blk_alloc ?_ _)); refine blk_put (cs := #[.slice Ao105 x165000_5.length co105, .int .i64 x150001_2, .int .i64 x150002_2]) ?_ 1 _ rfl; (with_reducible repeat (first | refine blk_drewN ?_ _ | refine blk_drew ?_ | refine blk_alloc ?_ _)); refine blk_put (cs := #[.slice none 0 0, .int .i64 x150001_2, .int .i64 x150002_2]) ?_ 0 _ rfl; exact bT_ BK149) Try.underlying26 rfl (by kernel_rfl)) rfl ?_
                exact ⟨_, by first | rfl | (simp [errW_none, errW_some] <;> rfl) | (simp [*, errW_none, errW_some] <;> rfl), by (with_reducible repeat (first | apply Kd.R_alloc | apply Kd.R_drewN | apply Kd.R_drew)); exact Kd.R_mono (Kd.R_far (p := ⟨gb149, 2, none⟩) (Kd.R_far (p := ⟨gb149, 1, none⟩) (Kd.R_far (p := ⟨gb149, 0, none⟩) (Kd.R_types HO_165000.out BK149.out (by decide)) (fun _ hk => hk.2) (.slice Ao105 x165000_5.length co105)) (fun _ hk => hk.2) (.int .i64 x165001_5)) (fun _ hk => hk.2) (.int .i64 (wrap64 (a1_2 + x11_2)))) (fun _ hk => trivial), by repeat (first | (with_reducible first | exact HB.out | apply below_alloc | apply pw_below_drewN | apply below_drew1 | refine below_set ?_ GE148.out | refine below_set ?_ GE149.out | refine below_set ?_ GE164.out) | exact HB.out)⟩

end Go.Proofs.Ytopfdmodbhopiaa.QFnWaterBook
