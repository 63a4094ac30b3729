-- Written by a program of this session out of the printer's texts and contracts of its own.
import Derived.Test.YtcjhbmjimjbphaaSq
import Derived.Test.YtcjhbmjimjbphaaQFnDescendsx0
import Derived.Test.YtcjhbmjimjbphaaQFnDescendsx2
import Derived.Test.YtcjhbmjimjbphaaQFnDescendsx3
import Derived.Test.YtcjhbmjimjbphaaQFnDescendsx7
namespace Go.Proofs.Ytcjhbmjimjbphaa.QFnDescends
open Go.RowKit Go.Proofs.YtcjhbmjimjbphaaW.PrintWords Go.Proofs.YtcjhbmjimjbphaaW.PrintLast Go.Proofs.YtcjhbmjimjbphaaW.PrintMore Go.Proofs.Ytcjhbmjimjbphaa.Sq
attribute [local go_sem] max2_int min2_int max_two min_two max_three min_three max_four min_four   -- for this text's walks alone
set_option linter.unusedVariables false
set_option linter.unusedSimpArgs false
theorem sABelo_8 {b : Nat} {w W : World} (h : Below b w W := by repeat (first | (with_reducible first | exact Aside0.out (by assumption) | apply below_alloc | apply pw_below_drewN | apply below_drew1 | refine below_set ?_ (Aside0.out (by assumption))) | exact Aside0.out (by assumption))) : Below b w W := h

/-! ### spec_Descend: function 16 -/
mutual
def spec_Descend.j0 : Nat → List Int → Int → List (S50) → Bool → Int → List Int → List Int → List (S52) → Option ((List (S50)) × Bool)
 | 0, _, _, _, _, _, _, _, _ => none
 | k + 1, x1, x2, x8, x27, x194000, x194001, x194002, x194003 => if x27 = true then (some (x8, false)) else ((some (([] : List Int) : List Int)).bind fun y200 => (if y200.length + x1.length < 17592186044416 then (spec_Descend.l0 k (y200 ++ x1) x2 x8 true x194000 x194001 x194002 x194003) else (none)))
def spec_Descend.l0 : Nat → List Int → Int → List (S50) → Bool → Int → List Int → List Int → List (S52) → Option ((List (S50)) × Bool)
 | 0, _, _, _, _, _, _, _, _ => none
 | k + 1, x1, x2, x8, x9, x194000, x194001, x194002, x194003 => if x9 = true then (spec_Descend.l1 k x1 x2 x8 false 0 x194000 x194001 x194002 x194003) else (some (x8, true))
def spec_Descend.l1 : Nat → List Int → Int → List (S50) → Bool → Int → Int → List Int → List Int → List (S52) → Option ((List (S50)) × Bool)
 | 0, _, _, _, _, _, _, _, _, _ => none
 | k + 1, x1, x2, x8, x9, x10, x194000, x194001, x194002, x194003 => if x10 < x194000 then ((spec_l15Best.f k x194000 x194001 x194002 x194003 x1 x10).bind fun t206 => (if t206 = 0 then (spec_Descend.l1 k x1 x2 x8 x9 (wrap64 (x10 + 1)) x194000 x194001 x194002 x194003) else (if (x8.length : Int) = x2 then (some (x8, true)) else (if 0 ≤ x10 then (if x10 < (x1.length : Int) then ((some (x1.set (x10 : Int).toNat (wrap64 ((rd x1 x10) + t206)) : List Int)).bind fun y208 => ((spec_l15Cost.f k x194000 x194001 x194002 x194003 y208).bind fun t209 => (if x8.length < 5864062014805 then (spec_Descend.l1 k y208 x2 (x8 ++ [(⟨x10, t206, t209⟩ : S50)]) true (wrap64 (x10 + 1)) x194000 x194001 x194002 x194003) else (none)))) else (none)) else (none))))) else (spec_Descend.l0 k x1 x2 x8 x9 x194000 x194001 x194002 x194003)
end
def spec_Descend.f (k : Nat) (a0_0 : Int) (l0_1 : List Int) (l0_2 : List Int) (l0_3 : List (S52)) (l1 : List Int) (a2 : Int) : Option ((List (S50)) × Bool) := (some (([] : List (S50)) : List (S50))).bind fun y194 => ((spec_ProblemOk.f k a0_0 l0_1 l0_2 l0_3).bind fun t197 => (if t197 = true then ((spec_l15All.f k l1 a0_0 (-500) 500).bind fun t198 => (if t198 = true then ((spec_l2In.f a2 0 500).bind fun t199 => (spec_Descend.j0 k l1 a2 y194 (!t199) a0_0 l0_1 l0_2 l0_3)) else (spec_Descend.j0 k l1 a2 y194 true a0_0 l0_1 l0_2 l0_3))) else (spec_Descend.j0 k l1 a2 y194 true a0_0 l0_1 l0_2 l0_3)))
theorem spec_Descend.mono_l : ∀ k, (∀ y0 y1 y2 y3 y4 y5 y6 y7, LeO (spec_Descend.j0 k y0 y1 y2 y3 y4 y5 y6 y7) (spec_Descend.j0 (k + 1) y0 y1 y2 y3 y4 y5 y6 y7)) ∧ (∀ y0 y1 y2 y3 y4 y5 y6 y7, LeO (spec_Descend.l0 k y0 y1 y2 y3 y4 y5 y6 y7) (spec_Descend.l0 (k + 1) y0 y1 y2 y3 y4 y5 y6 y7)) ∧ (∀ y0 y1 y2 y3 y4 y5 y6 y7 y8, LeO (spec_Descend.l1 k y0 y1 y2 y3 y4 y5 y6 y7 y8) (spec_Descend.l1 (k + 1) y0 y1 y2 y3 y4 y5 y6 y7 y8))
 | 0 => ⟨fun _ _ _ _ _ _ _ _ r h => by simp [spec_Descend.j0] at h, fun _ _ _ _ _ _ _ _ r h => by simp [spec_Descend.l0] at h, fun _ _ _ _ _ _ _ _ _ r h => by simp [spec_Descend.l1] at h⟩
 | k + 1 => by
  obtain ⟨ih0, ih1, ih2⟩ := spec_Descend.mono_l k
  refine ⟨?_, ?_, ?_⟩
  intro y0 y1 y2 y3 y4 y5 y6 y7; unfold spec_Descend.j0; rotate_left
  intro y0 y1 y2 y3 y4 y5 y6 y7; unfold spec_Descend.l0; rotate_left
  intro y0 y1 y2 y3 y4 y5 y6 y7 y8; unfold spec_Descend.l1; rotate_left
  all_goals repeat' first
  | (with_reducible exact ih0 _ _ _ _ _ _ _ _)
  | (with_reducible exact ih1 _ _ _ _ _ _ _ _)
  | (with_reducible exact ih2 _ _ _ _ _ _ _ _ _)
  | (with_reducible exact spec_ProblemOk.mono _ _ _ _ _)
  | (with_reducible exact spec_l15All.mono _ _ _ _ _)
  | (with_reducible exact spec_l15Best.mono _ _ _ _ _ _ _)
  | (with_reducible exact spec_l15Cost.mono _ _ _ _ _ _)
  | (with_reducible exact LeO.refl _)
  | (with_reducible exact LeO.none _)
  | (with_reducible refine LeO.ite ?_ ?_)
  | (with_reducible refine LeO.bind ?_ (fun _ => ?_))
  | exact ih0 _ _ _ _ _ _ _ _
  | exact ih1 _ _ _ _ _ _ _ _
  | exact ih2 _ _ _ _ _ _ _ _ _
  | exact spec_ProblemOk.mono _ _ _ _ _
  | exact spec_l15All.mono _ _ _ _ _
  | exact spec_l15Best.mono _ _ _ _ _ _ _
  | exact spec_l15Cost.mono _ _ _ _ _ _
  | exact LeO.none _
  | refine LeO.ite ?_ ?_
  | refine LeO.bind ?_ (fun _ => ?_)
theorem spec_Descend.mono : ∀ a0 a1 a2 a3 a4 a5 k, LeO (spec_Descend.f k a0 a1 a2 a3 a4 a5) (spec_Descend.f (k + 1) a0 a1 a2 a3 a4 a5) := by
 intro a0 a1 a2 a3 a4 a5 k
 obtain ⟨ih0, ih1, ih2⟩ := spec_Descend.mono_l k
 unfold spec_Descend.f
 repeat' first
   | (with_reducible exact ih0 _ _ _ _ _ _ _ _)
   | (with_reducible exact ih1 _ _ _ _ _ _ _ _)
   | (with_reducible exact ih2 _ _ _ _ _ _ _ _ _)
   | (with_reducible exact spec_ProblemOk.mono _ _ _ _ _)
   | (with_reducible exact spec_l15All.mono _ _ _ _ _)
   | (with_reducible exact spec_l15Best.mono _ _ _ _ _ _ _)
   | (with_reducible exact spec_l15Cost.mono _ _ _ _ _ _)
   | (with_reducible exact LeO.refl _)
   | (with_reducible exact LeO.none _)
   | (with_reducible refine LeO.ite ?_ ?_)
   | (with_reducible refine LeO.bind ?_ (fun _ => ?_))
   | exact ih0 _ _ _ _ _ _ _ _
   | exact ih1 _ _ _ _ _ _ _ _
   | exact ih2 _ _ _ _ _ _ _ _ _
   | exact spec_ProblemOk.mono _ _ _ _ _
   | exact spec_l15All.mono _ _ _ _ _
   | exact spec_l15Best.mono _ _ _ _ _ _ _
   | exact spec_l15Cost.mono _ _ _ _ _ _
   | exact LeO.none _
   | refine LeO.ite ?_ ?_
   | refine LeO.bind ?_ (fun _ => ?_)
set_option maxHeartbeats 8000000 in
set_option maxRecDepth 100000 in
theorem spec_Descend.calls (k : Nat) (a0_0 : Int) (A0_1 : Option Addr) (c0_1 : Nat) (l0_1 : List Int) (A0_2 : Option Addr) (c0_2 : Nat) (l0_2 : List Int) (A0_3 : Option Addr) (c0_3 : Nat) (l0_3 : List (S52)) (A1 : Option Addr) (c1 : Nat) (l1 : List Int) (a2 : Int) (r1 : List (S50)) (r2 : Bool) (w : World) (hr0_1 : Kd.C (Kd.int .i64) w A0_1 l0_1.length l0_1) (hc0_1 : l0_1.length ≤ c0_1) (hr0_2 : Kd.C (Kd.int .i64) w A0_2 l0_2.length l0_2) (hc0_2 : l0_2.length ≤ c0_2) (hr0_3 : Kd.C k52 w A0_3 l0_3.length l0_3) (hc0_3 : l0_3.length ≤ c0_3) (hr1 : Kd.C (Kd.int .i64) w A1 l1.length l1) (hc1 : l1.length ≤ c1) (h : spec_Descend.f k a0_0 l0_1 l0_2 l0_3 l1 a2 = some (r1, r2)) :
  Calls Try.prog 16 #[.agg #[.int .i64 a0_0, .slice A0_1 l0_1.length c0_1, .slice A0_2 l0_2.length c0_2, .slice A0_3 l0_3.length c0_3], .slice A1 l1.length c1, .int .i64 a2] w fun e w' => ∃ v0_ : Value, e = .returned (.tuple #[v0_, .bool r2]) ∧ Kd.R k50 50 w' w.heap.size (fun _ => True) v0_ r1 ∧ Below w.heap.size w w' := by
 have hu30 := Try.underlying30; have hu50 := Try.underlying50; have HR0_1 := Aside0.mk hr0_1; have HC0_1 := Aside0.mk hc0_1; clear hr0_1 hc0_1; have HR0_2 := Aside0.mk hr0_2; have HC0_2 := Aside0.mk hc0_2; clear hr0_2 hc0_2; have HR0_3 := Aside0.mk hr0_3; have HC0_3 := Aside0.mk hc0_3; clear hr0_3 hc0_3; have HR1 := Aside0.mk hr1; have HC1 := Aside0.mk hc1; clear hr1 hc1
 have HB := Aside0.mk (Below.refl w.heap.size w)
 have H : ((some (([] : List (S50)) : List (S50))).bind fun y194 => ((spec_ProblemOk.f k a0_0 l0_1 l0_2 l0_3).bind fun t197 => (if t197 = true then ((spec_l15All.f k l1 a0_0 (-500) 500).bind fun t198 => (if t198 = true then ((spec_l2In.f a2 0 500).bind fun t199 => (spec_Descend.j0 k l1 a2 y194 (!t199) a0_0 l0_1 l0_2 l0_3)) else (spec_Descend.j0 k l1 a2 y194 true a0_0 l0_1 l0_2 l0_3))) else (spec_Descend.j0 k l1 a2 y194 true a0_0 l0_1 l0_2 l0_3)))) = some (r1, r2) := h
 clear h
 obtain ⟨y194, hy194⟩ : ∃ y_ : List (S50), y_ = (([] : List (S50))) := ⟨_, rfl⟩
 replace H : ((spec_ProblemOk.f k a0_0 l0_1 l0_2 l0_3).bind fun t197 => (if t197 = true then ((spec_l15All.f k l1 a0_0 (-500) 500).bind fun t198 => (if t198 = true then ((spec_l2In.f a2 0 500).bind fun t199 => (spec_Descend.j0 k l1 a2 y194 (!t199) a0_0 l0_1 l0_2 l0_3)) else (spec_Descend.j0 k l1 a2 y194 true a0_0 l0_1 l0_2 l0_3))) else (spec_Descend.j0 k l1 a2 y194 true a0_0 l0_1 l0_2 l0_3))) = some (r1, r2) := by first | (rw [hy194]; with_reducible exact H) | (have H2_ := (Option.bind_some _ _).symm.trans H; rw [hy194]; with_reducible exact H2_) | (have H2_ := (Option.bind_some _ _).symm.trans H; with_reducible exact H2_) | with_reducible exact H | (rw [hy194]; exact H) | exact H
 have Ny194 := Aside0.mk hy194; clear hy194; have HC4 := Aside0.mk H; clear H
 go_enter Try.func16, Try.ntmps16
 go_upto_region 2 with (first | ((with_reducible refine gate_dst (N := 3) rfl ?_); refine box_event ?hg (N := 3) ?hd (cs := #[.int .i64 a0_0, .slice A0_1 l0_1.length c0_1, .slice A0_2 l0_2.length c0_2, .slice A0_3 l0_3.length c0_3]) (t := 30) ?hr ?_; (case hd => rfl); (case hg => rfl); (case hr => first | (go_simp; done) | (go_simp; rfl)); intro gb193 hg w5 hbox hb; have BK193 := Aside0.mk (hbox); have GW193 := gE_ HB hg; have GE193 := gE_ HB hg; replace HB := bS_ HB hb; clear hb hbox hg) | ((with_reducible refine gate_dst (N := 12) rfl ?_); refine Kd.R_lit k50 _ 50 ?hg (N := 12) ?hd (xs := ([] : List (S50))) (inner := []) (ok := fun _ => True) (okp := fun _ => True) ?hr ?hp (fun _ hk => hk) trivial (Below.refl _ _) (Nat.le_refl _) (by simp) ?_; (case hd => rfl); (case hg => rfl); (case hr => first | (go_simp; done) | (go_simp; rfl)); (case hp => exact (Reps.none _ _)); intro v195 w6 ho7 hb hg_ hnew_; clear hg_ hnew_; (first | rw [← Ny194.out] at ho7 | (simp only [Int.reduceToNat] at ho7; rw [← Ny194.out] at ho7)); have HO196 := rL_ ho7 HB; replace BK193 := bB_ BK193 hb; replace HB := bS_ HB hb; clear hb ho7))
 (try simp only [Act.put, List.setIfInBounds_toArray, List.set_cons_zero, List.set_cons_succ])
 go_cut [27] (fun v27 wc => ∃ (kq : Nat) (x27_3 : Bool), v27 = .bool x27_3 ∧ Aside0 (spec_Descend.j0 kq l1 a2 y194 x27_3 a0_0 l0_1 l0_2 l0_3 = some (r1, r2)) ∧ Aside0 (kq ≤ k) ∧ Aside0 (Kd.R k50 50 wc w.heap.size (fun _ => True) v195 y194) ∧ Aside0 (wc.heap[gb193]? = some (.cells #[.int .i64 a0_0, (.slice A0_1 l0_1.length c0_1), (.slice A0_2 l0_2.length c0_2), (.slice A0_3 l0_3.length c0_3)] 30 (0, 0))) ∧ Aside0 (Below w.heap.size w wc))
 case first =>
  have H := HC4.out; clear HC4; replace H := Option.bind_eq_some_iff.mp H
  obtain ⟨t197, A80, H⟩ := H
  replace H : (if t197 = true then ((spec_l15All.f k l1 a0_0 (-500) 500).bind fun t198 => (if t198 = true then ((spec_l2In.f a2 0 500).bind fun t199 => (spec_Descend.j0 k l1 a2 y194 (!t199) a0_0 l0_1 l0_2 l0_3)) else (spec_Descend.j0 k l1 a2 y194 true a0_0 l0_1 l0_2 l0_3))) else (spec_Descend.j0 k l1 a2 y194 true a0_0 l0_1 l0_2 l0_3)) = some (r1, r2) := H
  have A8 := Aside0.mk A80; clear A80
  by_cases c9 : t197 = true
  ·subst c9
   replace H := ifT_ H; replace H := Option.bind_eq_some_iff.mp H
   obtain ⟨t198, A100, H⟩ := H
   replace H : (if t198 = true then ((spec_l2In.f a2 0 500).bind fun t199 => (spec_Descend.j0 k l1 a2 y194 (!t199) a0_0 l0_1 l0_2 l0_3)) else (spec_Descend.j0 k l1 a2 y194 true a0_0 l0_1 l0_2 l0_3)) = some (r1, r2) := H
   have A10 := Aside0.mk A100; clear A100
   by_cases c11 : t198 = true
   ·subst c11
    replace H := ifT_ H; replace H := Option.bind_eq_some_iff.mp H
    obtain ⟨t199, A120, H⟩ := H
    replace H : (spec_Descend.j0 k l1 a2 y194 (!t199) a0_0 l0_1 l0_2 l0_3) = some (r1, r2) := H
    have A12 := Aside0.mk A120; clear A120; have H' := Aside0.mk H; clear H
    obtain ⟨hcz13_0, hcz13_1, hcz13_2, hcz13_3, hfz13_0, hfz13_1, hfz13_2, hfz13_3⟩ := cf4_ BK193
    go_wp2_with (first | ((with_reducible refine gate_callee (f := 27) rfl ?_); refine gL_ (some 14) Try.func27 #[.agg #[.int .i64 a0_0, .slice A0_1 l0_1.length c0_1, .slice A0_2 l0_2.length c0_2, .slice A0_3 l0_3.length c0_3]] ?_; (with_reducible refine (spec_ProblemOk.calls k a0_0 _ _ l0_1 _ _ l0_2 _ _ l0_3 true _ ?side1 ?side2 ?side3 ?side4 ?side5 ?side6 A8.out).mono ?_); (case side1 => exact cB_ HR0_1 HB); (case side2 => exact HC0_1.out); (case side3 => exact cB_ HR0_2 HB); (case side4 => exact HC0_2.out); (case side5 => exact cB_ HR0_3 HB); (case side6 => exact HC0_3.out); rintro e w14 ⟨rfl, hb⟩; refine ⟨_, rfl, ?_⟩; replace HO196 := rB_ HO196 hb; replace BK193 := bB_ BK193 hb; replace HB := bS_ HB hb; (try clear hb); (try clear hk); obtain ⟨hcz15_0, hcz15_1, hcz15_2, hcz15_3, hfz15_0, hfz15_1, hfz15_2, hfz15_3⟩ := cf4_ BK193) | (go_at_call 28; (with_reducible refine (spec_l15All.calls k _ _ l1 a0_0 (-500) 500 true _ ?side1 ?side2 A10.out).mono ?_); (case side1 => exact cB_ HR1 HB); (case side2 => exact HC1.out); rintro e w' ⟨rfl, ⟨nd, rfl⟩⟩) | (go_at_call 36; (with_reducible refine (spec_l2In.calls a2 0 500 t199 _ A12.out).mono ?_); rintro e w' ⟨rfl, ⟨nd, rfl⟩⟩))
    go_meet
    case rel => exact ⟨_, (!t199), (by first | rfl | (simp; done) | (simp [*]; done)), H', ⟨by first | omega | exact Nat.le_refl _⟩, ⟨rT_ HO196⟩, ⟨bT_ BK193⟩, ⟨sABelo_8⟩⟩
   ·replace c11 := Bool.eq_false_iff.mpr c11
    subst c11
    replace H := ifF_ H; have H' := Aside0.mk H; clear H
    obtain ⟨hcz16_0, hcz16_1, hcz16_2, hcz16_3, hfz16_0, hfz16_1, hfz16_2, hfz16_3⟩ := cf4_ BK193
    go_wp2_with (first | ((with_reducible refine gate_callee (f := 27) rfl ?_); refine gL_ (some 14) Try.func27 #[.agg #[.int .i64 a0_0, .slice A0_1 l0_1.length c0_1, .slice A0_2 l0_2.length c0_2, .slice A0_3 l0_3.length c0_3]] ?_; (with_reducible refine (spec_ProblemOk.calls k a0_0 _ _ l0_1 _ _ l0_2 _ _ l0_3 true _ ?side1 ?side2 ?side3 ?side4 ?side5 ?side6 A8.out).mono ?_); (case side1 => exact cB_ HR0_1 HB); (case side2 => exact HC0_1.out); (case side3 => exact cB_ HR0_2 HB); (case side4 => exact HC0_2.out); (case side5 => exact cB_ HR0_3 HB); (case side6 => exact HC0_3.out); rintro e w17 ⟨rfl, hb⟩; refine ⟨_, rfl, ?_⟩; replace HO196 := rB_ HO196 hb; replace BK193 := bB_ BK193 hb; replace HB := bS_ HB hb; (try clear hb); (try clear hk); obtain ⟨hcz18_0, hcz18_1, hcz18_2, hcz18_3, hfz18_0, hfz18_1, hfz18_2, hfz18_3⟩ := cf4_ BK193) | (go_at_call 28; (with_reducible refine (spec_l15All.calls k _ _ l1 a0_0 (-500) 500 false _ ?side1 ?side2 A10.out).mono ?_); (case side1 => exact cB_ HR1 HB); (case side2 => exact HC1.out); rintro e w' ⟨rfl, ⟨nd, rfl⟩⟩))
    go_meet
    case rel => exact ⟨_, (true), (by first | rfl | (simp; done) | (simp [*]; done)), H', ⟨by first | omega | exact Nat.le_refl _⟩, ⟨rT_ HO196⟩, ⟨bT_ BK193⟩, ⟨sABelo_8⟩⟩
  ·replace c9 := Bool.eq_false_iff.mpr c9
   subst c9
   replace H := ifF_ H; have H' := Aside0.mk H; clear H
   obtain ⟨hcz19_0, hcz19_1, hcz19_2, hcz19_3, hfz19_0, hfz19_1, hfz19_2, hfz19_3⟩ := cf4_ BK193
   go_wp2_with (first | ((with_reducible refine gate_callee (f := 27) rfl ?_); refine gL_ (some 14) Try.func27 #[.agg #[.int .i64 a0_0, .slice A0_1 l0_1.length c0_1, .slice A0_2 l0_2.length c0_2, .slice A0_3 l0_3.length c0_3]] ?_; (with_reducible refine (spec_ProblemOk.calls k a0_0 _ _ l0_1 _ _ l0_2 _ _ l0_3 false _ ?side1 ?side2 ?side3 ?side4 ?side5 ?side6 A8.out).mono ?_); (case side1 => exact cB_ HR0_1 HB); (case side2 => exact HC0_1.out); (case side3 => exact cB_ HR0_2 HB); (case side4 => exact HC0_2.out); (case side5 => exact cB_ HR0_3 HB); (case side6 => exact HC0_3.out); rintro e w20 ⟨rfl, hb⟩; refine ⟨_, rfl, ?_⟩; replace HO196 := rB_ HO196 hb; replace BK193 := bB_ BK193 hb; replace HB := bS_ HB hb; (try clear hb); (try clear hk)))
   go_meet
   case rel => exact ⟨_, (true), (by first | rfl | (simp; done) | (simp [*]; done)), H', ⟨by first | omega | exact Nat.le_refl _⟩, ⟨rT_ HO196⟩, ⟨bT_ BK193⟩, ⟨sABelo_8⟩⟩
 case rest =>
  clear HC4; (try clear c1)
  obtain ⟨kq, x27_3, rfl, HA, HJ3, HO_8, BK193, HB⟩ := hcut
  cases kq with
  | zero => exact absurd HA.out (by simp [spec_Descend.j0])
  | succ kj3 =>
   have H := HA.out; clear HA
   simp only [spec_Descend.j0] at H
   by_cases c21 : x27_3 = true
   ·subst c21
    replace H := ifT_ H
    simp only [Option.some.injEq, Prod.mk.injEq] at H
    obtain ⟨rfl, rfl⟩ := H
    go_wp2
    go_ret2
    exact ⟨_, by first | rfl | (simp [errW_none, errW_some] <;> rfl) | (simp [*, errW_none, errW_some] <;> rfl), by (with_reducible repeat (first | apply Kd.R_alloc | apply Kd.R_drewN | apply Kd.R_drew)); exact HO_8.out, sABelo_8⟩
   ·replace c21 := Bool.eq_false_iff.mpr c21
    subst c21
    replace H := ifF_ H
    obtain ⟨y200, hy200⟩ : ∃ y_ : List Int, y_ = (([] : List Int)) := ⟨_, rfl⟩
    replace H : (if y200.length + l1.length < 17592186044416 then (spec_Descend.l0 kj3 (y200 ++ l1) a2 y194 true a0_0 l0_1 l0_2 l0_3) else (none)) = some (r1, r2) := by first | (rw [hy200]; with_reducible exact H) | (have H2_ := (Option.bind_some _ _).symm.trans H; rw [hy200]; with_reducible exact H2_) | (have H2_ := (Option.bind_some _ _).symm.trans H; with_reducible exact H2_) | with_reducible exact H | (rw [hy200]; exact H) | exact H
    have Ny200 := Aside0.mk hy200; clear hy200
    obtain ⟨c22, H⟩ := ifS_ H
    have LMc22 := Aside0.mk c22; clear c22
    obtain ⟨y203, hy203⟩ : ∃ y_ : List Int, y_ = (y200 ++ l1) := ⟨_, rfl⟩
    replace H : (spec_Descend.l0 kj3 y203 a2 y194 true a0_0 l0_1 l0_2 l0_3) = some (r1, r2) := by first | (rw [hy203]; with_reducible exact H) | (have H2_ := (Option.bind_some _ _).symm.trans H; rw [hy203]; with_reducible exact H2_) | (have H2_ := (Option.bind_some _ _).symm.trans H; with_reducible exact H2_) | with_reducible exact H | (rw [hy203]; exact H) | exact H
    have Ny203 := Aside0.mk hy203; clear hy203; have H' := Aside0.mk H; clear H
    go_wp2_with (first | ((with_reducible refine gate_dst (N := 29) rfl ?_); refine Kd.R_lit (Kd.int .i64) _ 2 ?hg (N := 29) ?hd (xs := ([] : List Int)) (inner := []) (ok := fun _ => True) (okp := fun _ => True) ?hr ?hp (fun _ hk => hk) trivial (Below.refl _ _) (Nat.le_refl _) (by simp) ?_; (case hd => rfl); (case hg => rfl); (case hr => first | (go_simp; done) | (go_simp; rfl)); (case hp => exact (Reps.none _ _)); intro v201 w23 ho24 hb hg_ hnew_; clear hg_ hnew_; (first | rw [← Ny200.out] at ho24 | (simp only [Int.reduceToNat] at ho24; rw [← Ny200.out] at ho24)); replace HO_8 := rB_ HO_8 hb; have HO202 := rL_ ho24 HB; replace BK193 := bB_ BK193 hb; replace HB := bS_ HB hb; clear hb ho24) | ((with_reducible refine gate_builtin (b := .append) (xs := #[.tmp 29, .tmp 30]) rfl ?_); at_builtin; refine Kd.R_append_rows (Kd.int .i64) (w0 := w) w.heap.size rfl (.tmp 29) (.tmp 30) 22 2 (.int .i64 0) 8 rfl Try.underlying22 info2 rfl (by decide) (by omega) v201 y200 l1 _ _ _ (fun _ => True) (fun _ => False) rfl rfl ?aO ?aR (fun _ _ h => h) (fun _ h => h.elim) ?aF ?aB ?aS ?aL ?_; (case aR => repeat (first | exact (Kd.C_below HR1.out HB.out) | (with_reducible refine Kd.C_alloc ?_ _) | (with_reducible refine Kd.C_drewN ?_ _) | (with_reducible refine Kd.C_drew ?_))); (case aB => exact sABelo_8); (case aF => exact (fun _ _ => trivial)); (case aO => exact (rT_ HO202)); (case aS => exact (below_size sABelo_8)); (case aL => have := LMc22.out; omega); intro v204 w25 ho hb hg hat; rw [← Ny203.out] at ho; replace HO_8 := Aside0.mk (Kd.R_over' (rT_ HO_8) (Kd.R_typed (rT_ HO202)) (by decide) hg); replace BK193 := Aside0.mk (blk_grown (g := gb193) (o := .cells #[.int .i64 a0_0, .slice A0_1 l0_1.length c0_1, .slice A0_2 l0_2.length c0_2, .slice A0_3 l0_3.length c0_3] 30 (0, 0)) (bT_ BK193) hg (Kd.R_ne HO202.out BK193.out (by decide))); replace HB := Aside0.mk (hb); have HO205 := Aside0.mk (ho); clear HO202; clear ho hb hg hat))
    go_loopg [8, 9] kj3 (fun kq v8 v9 w' => ∃ (x1_2 : List Int) (x8_2 : List (S50)) (x9_2 : Bool), v9 = .bool x9_2 ∧ Aside0 (spec_Descend.l0 kq x1_2 a2 x8_2 x9_2 a0_0 l0_1 l0_2 l0_3 = some (r1, r2)) ∧ Aside0 (kq ≤ kj3) ∧ Aside0 (Kd.R (Kd.int .i64) 2 w' w.heap.size (fun _ => True) v204 x1_2) ∧ Aside0 (Kd.R k50 50 w' w.heap.size (fun _ => True) v8 x8_2) ∧ Aside0 (w'.heap[gb193]? = some (.cells #[.int .i64 a0_0, (.slice A0_1 l0_1.length c0_1), (.slice A0_2 l0_2.length c0_2), (.slice A0_3 l0_3.length c0_3)] 30 (0, 0))) ∧ Aside0 (Below w.heap.size w w'))
    case atStart => exact ⟨(y203), (y194), (true), (by first | rfl | (simp; done) | (simp [*]; done)), H', ⟨Nat.le_refl _⟩, ⟨rT_ HO205⟩, ⟨rT_ HO_8⟩, ⟨bT_ BK193⟩, ⟨sABelo_8⟩⟩
    case round =>
     clear H'; (try clear c1); (try clear c21); (try clear c22)
     obtain ⟨x1_2, x8_2, x9_2, rfl, HA, HK2, HO_1, HO_8, BK193, HB⟩ := hrel
     cases gk with
     | zero => exact absurd HA.out (by simp [spec_Descend.l0])
     | succ k2 =>
      have H := HA.out; clear HA
      simp only [spec_Descend.l0] at H
      by_cases c26 : x9_2 = true
      ·subst c26
       replace H := ifT_ H; have H' := Aside0.mk H; clear H
       go_wp2
       go_loopg [8, 9, 10] k2 (fun kq v8 v9 v10 w' => ∃ (x1_3 : List Int) (x8_3 : List (S50)) (x9_3 : Bool) (x10_3 : Int), v9 = .bool x9_3 ∧ v10 = .int .i64 x10_3 ∧ Aside0 (spec_Descend.l1 kq x1_3 a2 x8_3 x9_3 x10_3 a0_0 l0_1 l0_2 l0_3 = some (r1, r2)) ∧ Aside0 (kq ≤ k2) ∧ Aside0 (Kd.R (Kd.int .i64) 2 w' w.heap.size (fun _ => True) v204 x1_3) ∧ Aside0 (Kd.R k50 50 w' w.heap.size (fun _ => True) v8 x8_3) ∧ Aside0 (w'.heap[gb193]? = some (.cells #[.int .i64 a0_0, (.slice A0_1 l0_1.length c0_1), (.slice A0_2 l0_2.length c0_2), (.slice A0_3 l0_3.length c0_3)] 30 (0, 0))) ∧ Aside0 (Below w.heap.size w w'))
       case atStart => exact ⟨(x1_2), (x8_2), (false), (0), (by first | rfl | (simp; done) | (simp [*]; done)), (by first | rfl | (simp; done) | (simp [*]; done)), H', ⟨Nat.le_refl _⟩, ⟨rT_ HO_1⟩, ⟨rT_ HO_8⟩, ⟨bT_ BK193⟩, ⟨sABelo_8⟩⟩
       case round =>
        clear H'; (try clear c1); (try clear c21); (try clear c22); (try clear c26)
        obtain ⟨x1_3, x8_3, x9_3, x10_3, rfl, rfl, HA, HK3, HO_1, HO_8, BK193, HB⟩ := hrel
        cases gk with
        | zero => exact absurd HA.out (by simp [spec_Descend.l1])
        | succ k3 =>
         have H := HA.out; clear HA
         simp only [spec_Descend.l1] at H
         by_cases c27 : x10_3 < a0_0
         ·rw [if_pos c27] at H
          have c27b0 := decide_eq_true c27
          clear c27; replace H := Option.bind_eq_some_iff.mp H
          obtain ⟨t206, A280, H⟩ := H
          replace H : (if t206 = 0 then (spec_Descend.l1 k3 x1_3 a2 x8_3 x9_3 (wrap64 (x10_3 + 1)) a0_0 l0_1 l0_2 l0_3) else (if (x8_3.length : Int) = a2 then (some (x8_3, true)) else (if 0 ≤ x10_3 then (if x10_3 < (x1_3.length : Int) then ((some (x1_3.set (x10_3 : Int).toNat (wrap64 ((rd x1_3 x10_3) + t206)) : List Int)).bind fun y208 => ((spec_l15Cost.f k3 a0_0 l0_1 l0_2 l0_3 y208).bind fun t209 => (if x8_3.length < 5864062014805 then (spec_Descend.l1 k3 y208 a2 (x8_3 ++ [(⟨x10_3, t206, t209⟩ : S50)]) true (wrap64 (x10_3 + 1)) a0_0 l0_1 l0_2 l0_3) else (none)))) else (none)) else (none)))) = some (r1, r2) := H
          have A28 := Aside0.mk A280; clear A280
          by_cases c29 : t206 = 0
          ·rw [if_pos c29] at H
           have c29b0 := beq_iff_eq.mpr c29
           have c29b1 := bne_eq_false_iff_eq.mpr c29
           clear c29; have H' := Aside0.mk H; clear H
           obtain ⟨hcz30_0, hcz30_1, hcz30_2, hcz30_3, hfz30_0, hfz30_1, hfz30_2, hfz30_3⟩ := cf4_ BK193
           obtain ⟨Ao31, co31, eo31⟩ := Kd.R_slice HO_1.out
           subst eo31
           go_wp2_with (first | ((with_reducible refine gate_callee (f := 37) rfl ?_); refine gL_ (some 42) Try.func37 #[.agg #[.int .i64 a0_0, .slice A0_1 l0_1.length c0_1, .slice A0_2 l0_2.length c0_2, .slice A0_3 l0_3.length c0_3], .slice Ao31 x1_3.length co31, .int .i64 x10_3] ?_; (with_reducible refine (spec_l15Best.calls k3 a0_0 _ _ l0_1 _ _ l0_2 _ _ l0_3 _ _ x1_3 x10_3 t206 _ ?side1 ?side2 ?side3 ?side4 ?side5 ?side6 ?side7 ?side8 A28.out).mono ?_); (case side1 => exact cB_ HR0_1 HB); (case side2 => exact HC0_1.out); (case side3 => exact cB_ HR0_2 HB); (case side4 => exact HC0_2.out); (case side5 => exact cB_ HR0_3 HB); (case side6 => exact HC0_3.out); (case side7 => exact rD_ HO_1); (case side8 => exact (Kd.R_reads' HO_1.out).2.1); rintro e w32 ⟨rfl, hb⟩; refine ⟨_, rfl, ?_⟩; replace HO_1 := rB_ HO_1 hb; replace HO_8 := rB_ HO_8 hb; replace BK193 := bB_ BK193 hb; replace HB := bS_ HB hb; (try clear hb); (try clear hk)))
           go_roundg k3
           case measure => have := HJ3.out; have := HK2.out; have := HK3.out; omega
           case rel => exact ⟨(x1_3), (x8_3), (x9_3), (wrap64 (x10_3 + 1)), (by first | rfl | (simp; done) | (simp [*]; done)), (by first | rfl | (simp; done) | (simp [*]; done)), H', ⟨by have := HJ3.out; have := HK2.out; have := HK3.out; omega⟩, ⟨rT_ HO_1⟩, ⟨rT_ HO_8⟩, ⟨bT_ BK193⟩, ⟨sABelo_8⟩⟩
          ·rw [if_neg c29] at H
           have c29b0 := beq_eq_false_iff_ne.mpr c29
           have c29b1 := bne_iff_ne.mpr c29
           by_cases c33 : (x8_3.length : Int) = a2
           ·rw [if_pos c33] at H
            have c33b0 := beq_iff_eq.mpr c33
            have c33b1 := bne_eq_false_iff_eq.mpr c33
            clear c33
            simp only [Option.some.injEq, Prod.mk.injEq] at H
            obtain ⟨rfl, rfl⟩ := H
            obtain ⟨hcz34_0, hcz34_1, hcz34_2, hcz34_3, hfz34_0, hfz34_1, hfz34_2, hfz34_3⟩ := cf4_ BK193
            obtain ⟨Ao35, co35, eo35⟩ := Kd.R_slice HO_1.out
            subst eo35
            go_wp2_with (first | ((with_reducible refine gate_callee (f := 37) rfl ?_); refine gL_ (some 42) Try.func37 #[.agg #[.int .i64 a0_0, .slice A0_1 l0_1.length c0_1, .slice A0_2 l0_2.length c0_2, .slice A0_3 l0_3.length c0_3], .slice Ao35 x1_3.length co35, .int .i64 x10_3] ?_; (with_reducible refine (spec_l15Best.calls k3 a0_0 _ _ l0_1 _ _ l0_2 _ _ l0_3 _ _ x1_3 x10_3 t206 _ ?side1 ?side2 ?side3 ?side4 ?side5 ?side6 ?side7 ?side8 A28.out).mono ?_); (case side1 => exact cB_ HR0_1 HB); (case side2 => exact HC0_1.out); (case side3 => exact cB_ HR0_2 HB); (case side4 => exact HC0_2.out); (case side5 => exact cB_ HR0_3 HB); (case side6 => exact HC0_3.out); (case side7 => exact rD_ HO_1); (case side8 => exact (Kd.R_reads' HO_1.out).2.1); rintro e w36 ⟨rfl, hb⟩; refine ⟨_, rfl, ?_⟩; replace HO_1 := rB_ HO_1 hb; replace HO_8 := rB_ HO_8 hb; replace BK193 := bB_ BK193 hb; replace HB := bS_ HB hb; (try clear hb); (try clear hk); obtain ⟨Ao37, co37, eo37⟩ := Kd.R_slice HO_8.out; subst eo37))
            go_ret2
            exact ⟨_, by first | rfl | (simp [errW_none, errW_some] <;> rfl) | (simp [*, errW_none, errW_some] <;> rfl), by (with_reducible repeat (first | apply Kd.R_alloc | apply Kd.R_drewN | apply Kd.R_drew)); exact HO_8.out, sABelo_8⟩
           ·rw [if_neg c33] at H
            have c33b0 := beq_eq_false_iff_ne.mpr c33
            have c33b1 := bne_iff_ne.mpr c33
            obtain ⟨c38, H⟩ := ifS_ H
            have c38b0 : decide (0 ≤ x10_3) = true := decide_eq_true c38
            clear c38
            obtain ⟨c39, H⟩ := ifS_ H
            have c39b0 : decide (x10_3 < (x1_3.length : Int)) = true := decide_eq_true c39
            clear c39
            obtain ⟨y208, hy208⟩ : ∃ y_ : List Int, y_ = (x1_3.set (x10_3 : Int).toNat (wrap64 ((rd x1_3 x10_3) + t206))) := ⟨_, rfl⟩
            replace H : ((spec_l15Cost.f k3 a0_0 l0_1 l0_2 l0_3 y208).bind fun t209 => (if x8_3.length < 5864062014805 then (spec_Descend.l1 k3 y208 a2 (x8_3 ++ [(⟨x10_3, t206, t209⟩ : S50)]) true (wrap64 (x10_3 + 1)) a0_0 l0_1 l0_2 l0_3) else (none))) = some (r1, r2) := by first | (rw [hy208]; with_reducible exact H) | (have H2_ := (Option.bind_some _ _).symm.trans H; rw [hy208]; with_reducible exact H2_) | (have H2_ := (Option.bind_some _ _).symm.trans H; with_reducible exact H2_) | with_reducible exact H | (rw [hy208]; exact H) | exact H
            have Ny208 := Aside0.mk hy208; clear hy208; replace H := Option.bind_eq_some_iff.mp H
            obtain ⟨t209, A410, H⟩ := H
            replace H : (if x8_3.length < 5864062014805 then (spec_Descend.l1 k3 y208 a2 (x8_3 ++ [(⟨x10_3, t206, t209⟩ : S50)]) true (wrap64 (x10_3 + 1)) a0_0 l0_1 l0_2 l0_3) else (none)) = some (r1, r2) := H
            have A41 := Aside0.mk A410; clear A410
            obtain ⟨c42, H⟩ := ifS_ H
            have LMc42 := Aside0.mk c42; clear c42
            obtain ⟨y210, hy210⟩ : ∃ y_ : List (S50), y_ = (x8_3 ++ [(⟨x10_3, t206, t209⟩ : S50)]) := ⟨_, rfl⟩
            replace H : (spec_Descend.l1 k3 y208 a2 y210 true (wrap64 (x10_3 + 1)) a0_0 l0_1 l0_2 l0_3) = some (r1, r2) := by first | (rw [hy210]; with_reducible exact H) | (have H2_ := (Option.bind_some _ _).symm.trans H; rw [hy210]; with_reducible exact H2_) | (have H2_ := (Option.bind_some _ _).symm.trans H; with_reducible exact H2_) | with_reducible exact H | (rw [hy210]; exact H) | exact H
            have Ny210 := Aside0.mk hy210; clear hy210; have H' := Aside0.mk H; clear H
            obtain ⟨hcz43_0, hcz43_1, hcz43_2, hcz43_3, hfz43_0, hfz43_1, hfz43_2, hfz43_3⟩ := cf4_ BK193
            obtain ⟨Ao44, co44, eo44⟩ := Kd.R_slice HO_1.out
            subst eo44
            go_wp2_with (first | ((with_reducible refine gate_callee (f := 37) rfl ?_); refine gL_ (some 42) Try.func37 #[.agg #[.int .i64 a0_0, .slice A0_1 l0_1.length c0_1, .slice A0_2 l0_2.length c0_2, .slice A0_3 l0_3.length c0_3], .slice Ao44 x1_3.length co44, .int .i64 x10_3] ?_; (with_reducible refine (spec_l15Best.calls k3 a0_0 _ _ l0_1 _ _ l0_2 _ _ l0_3 _ _ x1_3 x10_3 t206 _ ?side1 ?side2 ?side3 ?side4 ?side5 ?side6 ?side7 ?side8 A28.out).mono ?_); (case side1 => exact cB_ HR0_1 HB); (case side2 => exact HC0_1.out); (case side3 => exact cB_ HR0_2 HB); (case side4 => exact HC0_2.out); (case side5 => exact cB_ HR0_3 HB); (case side6 => exact HC0_3.out); (case side7 => exact rD_ HO_1); (case side8 => exact (Kd.R_reads' HO_1.out).2.1); rintro e w45 ⟨rfl, hb⟩; refine ⟨_, rfl, ?_⟩; replace HO_1 := rB_ HO_1 hb; replace HO_8 := rB_ HO_8 hb; replace BK193 := bB_ BK193 hb; replace HB := bS_ HB hb; (try clear hb); (try clear hk); obtain ⟨Ao46, co46, eo46⟩ := Kd.R_slice HO_8.out; subst eo46; have p207 : 0 ≤ (x10_3 : Int) := dA_; have q207 : x10_3 < (x1_3.length : Int) := dA_; obtain ⟨ad207, e207, hx207_0⟩ := Kd.at_int (Kd.R_reads' HO_1.out).2.2 x10_3 p207 q207; cases e207; replace p207 := eq_true p207; replace q207 := eq_true q207; have p40 : 0 ≤ (x10_3 : Int) := dA_; have q40 : (x10_3 : Int) < ((x1_3.length : Int) : Int) := dA_; obtain ⟨go40, co40, eo40, gb40, gl40, cl40, HG40⟩ := Kd.R_form HO_1.out (by omega); (first | cases eo40 | (injection eo40 with ea_ en_ ec_; (first | subst ea_ | (injection ea_ with ea_; subst ea_)); subst ec_; clear en_)); have GB40 := Aside0.mk gb40; have GG40 := Aside0.mk HG40; clear gb40 gl40 HG40; (first | simp only [add_plain] at hx207_0 | skip); obtain ⟨hx40_0, hf40_0⟩ := Kd.R_celln 0 HO_1.out (x10_3 : Int) p40 q40; replace p40 := eq_true p40; replace q40 := eq_true q40; obtain ⟨hy47_, hz47_⟩ := Kd.R_celln 0 HO_1.out (x10_3 : Int) dA_ dA_; have HP47 := Kd.R_putg HO_1.out (x10_3 : Int) (wrap64 ((rd x1_3 x10_3) + t206))) | ((with_reducible refine gate_store (t := 2) (p := 58) rfl ?_); refine store_event (t := 2) (p := 58) (v := ?vo_w48) (w1 := (w45.setCell ⟨go40, (x10_3 : Int).toNat, none⟩ (.int .i64 (wrap64 ((rd x1_3 x10_3) + t206))))) ?hg ?ho ?hn ?hr ?_; (case ho => rfl); (case hg => rfl); (case hn => rfl); (case hr => first | (go_simp; done) | (go_simp; rfl)); intro w48 hw; have hg : w45.grownBy w48 (some go40) := (by rw [hw]; exact HP47.2); have hp_ : Kd.R (Kd.int .i64) 2 w48 w.heap.size (fun _ => True) (.slice (some ⟨go40, 0, none⟩) x1_3.length co44) y208 := (by rw [hw, Ny208.out]; exact HP47.1); clear HP47; replace HO_8 := Aside0.mk (Kd.R_over' (v := (.slice (some ⟨go40, 0, none⟩) x1_3.length co44)) (rT_ HO_8) (Kd.R_typed HO_1.out) (by decide) hg); replace BK193 := Aside0.mk (blk_grown (g := gb193) (o := .cells #[.int .i64 a0_0, .slice A0_1 l0_1.length c0_1, .slice A0_2 l0_2.length c0_2, .slice A0_3 l0_3.length c0_3] 30 (0, 0)) (bT_ BK193) hg (Kd.R_ne HO_1.out BK193.out (by decide))); replace HO_1 := Aside0.mk (hp_); replace HB := Aside0.mk ((by rw [hw]; exact below_set (HB.out) GB40.out : Below w.heap.size w w48)); clear hg hw hp_; obtain ⟨hcz49_0, hcz49_1, hcz49_2, hcz49_3, hfz49_0, hfz49_1, hfz49_2, hfz49_3⟩ := cf4_ BK193) | ((with_reducible refine gate_callee (f := 29) rfl ?_); refine goesL_ (some 64) rfl rfl Try.func29 (by kernel_rfl) rfl #[.agg #[.int .i64 a0_0, .slice A0_1 l0_1.length c0_1, .slice A0_2 l0_2.length c0_2, .slice A0_3 l0_3.length c0_3], .slice (some ⟨go40, 0, none⟩) y208.length co44] rfl (by (try simp only [List.map_toArray, List.map_cons, List.map_nil]); first | done | (rw [show y208.length = x1_3.length from (Kd.R_reads' HO_1.out).1.symm] <;> rfl) | rfl | (simp only [List.length_drop, List.length_take]; rfl)) ?_; (with_reducible refine (spec_l15Cost.calls k3 a0_0 _ _ l0_1 _ _ l0_2 _ _ l0_3 _ _ y208 t209 _ ?side1 ?side2 ?side3 ?side4 ?side5 ?side6 ?side7 ?side8 A41.out).mono ?_); (case side1 => exact cB_ HR0_1 HB); (case side2 => exact HC0_1.out); (case side3 => exact cB_ HR0_2 HB); (case side4 => exact HC0_2.out); (case side5 => exact cB_ HR0_3 HB); (case side6 => exact HC0_3.out); (case side7 => exact rD_ HO_1); (case side8 => rw [show y208.length = x1_3.length from (Kd.R_reads' HO_1.out).1.symm]; exact (Kd.R_reads' HO_1.out).2.1); rintro e w50 ⟨rfl, hb⟩; refine ⟨_, rfl, ?_⟩; replace HO_1 := rB_ HO_1 hb; replace HO_8 := rB_ HO_8 hb; replace BK193 := bB_ BK193 hb; replace HB := bS_ HB hb; (try clear hb); (try clear hk)) | ((with_reducible refine gate_builtin (b := .append) (xs := #[.tmp 59, .tmp 66]) rfl ?_); at_builtin; refine Kd.R_append k50 (w0 := w) w.heap.size rfl (.tmp 59) (.tmp 66) 37 50 (.agg #[(.int .i64 0), (.int .i64 0), (.int .i64 0)]) 24 rfl Try.underlying37 info50 rfl (by decide) (by omega) (.slice Ao46 x8_3.length co46) x8_3 (⟨x10_3, t206, t209⟩ : S50) [.int .i64 x10_3, .int .i64 t206, .int .i64 t209] (fun _ => True) (fun _ => False) rfl rfl ?aP (fun _ hk => hk.elim) ?aF ?aO ?aB ?aS ?aL ?_; (case aP => exact k50_mkM _ _ _ (⟨x10_3, t206, t209⟩ : S50)); (case aB => exact sABelo_8); (case aF => exact (fun _ _ => trivial)); (case aO => exact (rT_ HO_8)); (case aS => exact (below_size sABelo_8)); (case aL => have := LMc42.out; omega); intro v211 w51 ho hb hg hat; rw [← Ny210.out] at ho; replace HO_1 := Aside0.mk (Kd.R_over' (rT_ HO_1) (Kd.R_typed (rT_ HO_8)) (by decide) hg); replace BK193 := Aside0.mk (blk_grown (g := gb193) (o := .cells #[.int .i64 a0_0, .slice A0_1 l0_1.length c0_1, .slice A0_2 l0_2.length c0_2, .slice A0_3 l0_3.length c0_3] 30 (0, 0)) (bT_ BK193) hg (Kd.R_ne HO_8.out BK193.out (by decide))); replace HB := Aside0.mk (hb); have HO212 := Aside0.mk (ho); clear HO_8; clear ho hb hg hat))
            go_roundg k3
            case measure => have := HJ3.out; have := HK2.out; have := HK3.out; omega
            case rel => exact ⟨(y208), (y210), (true), (wrap64 (x10_3 + 1)), (by first | rfl | (simp; done) | (simp [*]; done)), (by first | rfl | (simp; done) | (simp [*]; done)), H', ⟨by have := HJ3.out; have := HK2.out; have := HK3.out; omega⟩, ⟨rT_ HO_1⟩, ⟨rT_ HO212⟩, ⟨bT_ BK193⟩, ⟨sABelo_8⟩⟩
         ·rw [if_neg c27] at H
          have c27b0 := decide_eq_false c27
          clear c27; have H' := Aside0.mk H; clear H
          obtain ⟨hcz52_0, hcz52_1, hcz52_2, hcz52_3, hfz52_0, hfz52_1, hfz52_2, hfz52_3⟩ := cf4_ BK193
          go_wp2
          go_roundg k3
          case measure => have := HJ3.out; have := HK2.out; have := HK3.out; omega
          case rel => exact ⟨(x1_3), (x8_3), (x9_3), (by first | rfl | (simp; done) | (simp [*]; done)), H', ⟨by have := HJ3.out; have := HK2.out; have := HK3.out; omega⟩, ⟨rT_ HO_1⟩, ⟨rT_ HO_8⟩, ⟨bT_ BK193⟩, ⟨sABelo_8⟩⟩
      ·replace c26 := Bool.eq_false_iff.mpr c26
       subst c26
       replace H := ifF_ H
       simp only [Option.some.injEq, Prod.mk.injEq] at H
       obtain ⟨rfl, rfl⟩ := H
       go_wp2
       go_ret2
       exact ⟨_, by first | rfl | (simp [errW_none, errW_some] <;> rfl) | (simp [*, errW_none, errW_some] <;> rfl), by (with_reducible repeat (first | apply Kd.R_alloc | apply Kd.R_drewN | apply Kd.R_drew)); exact HO_8.out, sABelo_8⟩

/-! ### impl_floorDiv: function 50 -/
def impl_floorDiv.f (a0 : Int) (a1 : Int) : Option (Int) := if a1 = 0 then (none) else (if (Int.tmod a0 a1) = 0 then (some (wrap64 (Int.tdiv a0 a1))) else (if ((decide (a0 < 0)) != (decide (a1 < 0))) = true then (some (wrap64 ((wrap64 (Int.tdiv a0 a1)) - 1))) else (some (wrap64 (Int.tdiv a0 a1)))))
set_option maxHeartbeats 8000000 in
set_option maxRecDepth 100000 in
theorem impl_floorDiv.calls (a0 : Int) (a1 : Int) (r : Int) (w : World) (h : impl_floorDiv.f a0 a1 = some r) :
  Calls Try.prog 50 #[.int .i64 a0, .int .i64 a1] w fun e w' => e = .returned (.int .i64 r) ∧ Drawn0 w w' := by
 have H : (if a1 = 0 then (none) else (if (Int.tmod a0 a1) = 0 then (some (wrap64 (Int.tdiv a0 a1))) else (if ((decide (a0 < 0)) != (decide (a1 < 0))) = true then (some (wrap64 ((wrap64 (Int.tdiv a0 a1)) - 1))) else (some (wrap64 (Int.tdiv a0 a1)))))) = some r := h
 clear h
 by_cases c3 : a1 = 0
 ·rw [if_pos c3] at H
  exact absurd H (by simp)
 ·rw [if_neg c3] at H
  have c3b0 := beq_eq_false_iff_ne.mpr c3
  have c3b1 := bne_iff_ne.mpr c3
  by_cases c4 : (Int.tmod a0 a1) = 0
  ·rw [if_pos c4] at H
   have c4b0 := beq_iff_eq.mpr c4
   have c4b1 := bne_eq_false_iff_eq.mpr c4
   clear c4
   obtain rfl := Option.some.inj H
   go_enter Try.func50, Try.ntmps50
   go_wp2
   go_ret
   exact ⟨by first | rfl | (simp; done) | (simp [*]; done), by repeat (first | exact Drawn0.refl _ | apply Drawn0.step)⟩
  ·rw [if_neg c4] at H
   have c4b0 := beq_eq_false_iff_ne.mpr c4
   have c4b1 := bne_iff_ne.mpr c4
   by_cases c5 : ((decide (a0 < 0)) != (decide (a1 < 0))) = true
   ·rw [if_pos c5] at H
    have c5b0 : ((decide (a0 < 0)) != (decide (a1 < 0))) = true := c5
    (try (have c5b1 : decide ((decide (a0 < 0)) = (decide (a1 < 0))) = false := by simpa using c5))
    (try (have c5b2 : ((decide (a0 < 0)) == (decide (a1 < 0))) = false := by simpa using c5))
    (try (have c5b3 : ¬ ((decide (a0 < 0)) = (decide (a1 < 0))) := by simpa using c5))
    clear c5
    obtain rfl := Option.some.inj H
    go_enter Try.func50, Try.ntmps50
    go_wp2
    go_ret
    exact ⟨by first | rfl | (simp; done) | (simp [*]; done), by repeat (first | exact Drawn0.refl _ | apply Drawn0.step)⟩
   ·rw [if_neg c5] at H
    have c5b0 : ((decide (a0 < 0)) != (decide (a1 < 0))) = false := by simpa using c5
    (try (have c5b1 : decide ((decide (a0 < 0)) = (decide (a1 < 0))) = true := by simpa using c5))
    (try (have c5b2 : ((decide (a0 < 0)) == (decide (a1 < 0))) = true := by simpa using c5))
    clear c5
    obtain rfl := Option.some.inj H
    go_enter Try.func50, Try.ntmps50
    go_wp2
    go_ret
    exact ⟨by first | rfl | (simp; done) | (simp [*]; done), by repeat (first | exact Drawn0.refl _ | apply Drawn0.step)⟩

end Go.Proofs.Ytcjhbmjimjbphaa.QFnDescends
