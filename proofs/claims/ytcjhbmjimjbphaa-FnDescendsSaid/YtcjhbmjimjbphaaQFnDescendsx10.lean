-- Written by a program of this session out of the printer's texts and contracts of its own.
import Derived.Test.YtcjhbmjimjbphaaSq
import Derived.Test.YtcjhbmjimjbphaaQFnDescendsx0
import Derived.Test.YtcjhbmjimjbphaaQFnDescendsx3
import Derived.Test.YtcjhbmjimjbphaaQFnDescendsx4
import Derived.Test.YtcjhbmjimjbphaaQFnDescendsx5
import Derived.Test.YtcjhbmjimjbphaaQFnDescendsx9
namespace Go.Proofs.Ytcjhbmjimjbphaa.QFnDescends
open Go.RowKit Go.Proofs.YtcjhbmjimjbphaaW.PrintWords Go.Proofs.YtcjhbmjimjbphaaW.PrintLast Go.Proofs.YtcjhbmjimjbphaaW.PrintMore Go.Proofs.Ytcjhbmjimjbphaa.Sq
attribute [local go_sem] max2_int min2_int max_two min_two max_three min_three max_four min_four   -- for this text's walks alone
set_option linter.unusedVariables false
set_option linter.unusedSimpArgs false
theorem sABelo_10 {b : Nat} {w W : World} (h : Below b w W := by repeat (first | (with_reducible first | exact Aside0.out (by assumption) | apply below_alloc | apply pw_below_drewN | apply below_drew1 | refine below_set ?_ (Aside0.out (by assumption))) | exact Aside0.out (by assumption))) : Below b w W := h
theorem sAKeep_10 {w W : World} {g : Nat} {row : Option Nat} (h : KeepBut w W g row := by repeat (first | (with_reducible first | exact Aside0.out (by assumption) | apply KeepBut.set_ | apply keep_drewN | apply keep_drew | apply keep_alloc) | exact Aside0.out (by assumption))) : KeepBut w W g row := h

/-! ### impl_Descend: function 17 -/
mutual
def impl_Descend.j0 : Nat → List Int → Int → Bool → Int → List Int → List Int → List (S52) → Option ((List (S50)) × Bool)
 | 0, _, _, _, _, _, _, _ => none
 | k + 1, x1, x2, x26, x227000, x227001, x227002, x227003 => if x26 = true then (some (([] : List (S50)), false)) else ((some (([] : List Int) : List Int)).bind fun y230 => (if y230.length + x1.length < 17592186044416 then (impl_Descend.l0 k (y230 ++ x1) x2 (([] : List (S50))) x227000 x227001 x227002 x227003) else (none)))
def impl_Descend.l0 : Nat → List Int → Int → List (S50) → Int → List Int → List Int → List (S52) → Option ((List (S50)) × Bool)
 | 0, _, _, _, _, _, _, _ => none
 | k + 1, x1, x2, x8, x227000, x227001, x227002, x227003 => impl_Descend.l1 k x1 x2 x8 false (x1.length : Int) 0 x227000 x227001 x227002 x227003
def impl_Descend.l1 : Nat → List Int → Int → List (S50) → Bool → Int → Int → Int → List Int → List Int → List (S52) → Option ((List (S50)) × Bool)
 | 0, _, _, _, _, _, _, _, _, _, _ => none
 | k + 1, x1, x2, x8, x9, x32, x33, x227000, x227001, x227002, x227003 => if x33 < x32 then (if (x8.length : Int) = x2 then (some (x8, true)) else ((impl_best.f k x227000 x227001 x227002 x227003 x1 x33).bind fun t239 => (if t239 = 0 then (impl_Descend.l1 k x1 x2 x8 x9 x32 (wrap64 (x33 + 1)) x227000 x227001 x227002 x227003) else (if 0 ≤ x33 then (if x33 < (x1.length : Int) then ((some (x1.set (x33 : Int).toNat (wrap64 ((rd x1 x33) + t239)) : List Int)).bind fun y241 => ((impl_cost.f k x227000 x227001 x227002 x227003 y241).bind fun t242 => (if x8.length < 5864062014805 then (impl_Descend.l1 k y241 x2 (x8 ++ [(⟨x33, t239, t242⟩ : S50)]) true x32 (wrap64 (x33 + 1)) x227000 x227001 x227002 x227003) else (none)))) else (none)) else (none))))) else (if x9 = true then (impl_Descend.l0 k x1 x2 x8 x227000 x227001 x227002 x227003) else (some (x8, true)))
end
def impl_Descend.f (k : Nat) (a0_0 : Int) (l0_1 : List Int) (l0_2 : List Int) (l0_3 : List (S52)) (l1 : List Int) (a2 : Int) : Option ((List (S50)) × Bool) := (impl_ProblemOk.f k a0_0 l0_1 l0_2 l0_3).bind fun t227 => (if t227 = true then ((impl_each.f k l1 a0_0 (-500) 500).bind fun t228 => (if t228 = true then ((impl_in.f a2 0 500).bind fun t229 => (impl_Descend.j0 k l1 a2 (!t229) a0_0 l0_1 l0_2 l0_3)) else (impl_Descend.j0 k l1 a2 true a0_0 l0_1 l0_2 l0_3))) else (impl_Descend.j0 k l1 a2 true a0_0 l0_1 l0_2 l0_3))
theorem impl_Descend.mono_l : ∀ k, (∀ y0 y1 y2 y3 y4 y5 y6, LeO (impl_Descend.j0 k y0 y1 y2 y3 y4 y5 y6) (impl_Descend.j0 (k + 1) y0 y1 y2 y3 y4 y5 y6)) ∧ (∀ y0 y1 y2 y3 y4 y5 y6, LeO (impl_Descend.l0 k y0 y1 y2 y3 y4 y5 y6) (impl_Descend.l0 (k + 1) y0 y1 y2 y3 y4 y5 y6)) ∧ (∀ y0 y1 y2 y3 y4 y5 y6 y7 y8 y9, LeO (impl_Descend.l1 k y0 y1 y2 y3 y4 y5 y6 y7 y8 y9) (impl_Descend.l1 (k + 1) y0 y1 y2 y3 y4 y5 y6 y7 y8 y9))
 | 0 => ⟨fun _ _ _ _ _ _ _ r h => by simp [impl_Descend.j0] at h, fun _ _ _ _ _ _ _ r h => by simp [impl_Descend.l0] at h, fun _ _ _ _ _ _ _ _ _ _ r h => by simp [impl_Descend.l1] at h⟩
 | k + 1 => by
  obtain ⟨ih0, ih1, ih2⟩ := impl_Descend.mono_l k
  refine ⟨?_, ?_, ?_⟩
  intro y0 y1 y2 y3 y4 y5 y6; unfold impl_Descend.j0; rotate_left
  intro y0 y1 y2 y3 y4 y5 y6; unfold impl_Descend.l0; rotate_left
  intro y0 y1 y2 y3 y4 y5 y6 y7 y8 y9; unfold impl_Descend.l1; rotate_left
  all_goals repeat' first
  | (with_reducible exact ih0 _ _ _ _ _ _ _)
  | (with_reducible exact ih1 _ _ _ _ _ _ _)
  | (with_reducible exact ih2 _ _ _ _ _ _ _ _ _ _)
  | (with_reducible exact impl_ProblemOk.mono _ _ _ _ _)
  | (with_reducible exact impl_best.mono _ _ _ _ _ _ _)
  | (with_reducible exact impl_cost.mono _ _ _ _ _ _)
  | (with_reducible exact impl_each.mono _ _ _ _ _)
  | (with_reducible exact LeO.refl _)
  | (with_reducible exact LeO.none _)
  | (with_reducible refine LeO.ite ?_ ?_)
  | (with_reducible refine LeO.bind ?_ (fun _ => ?_))
  | exact ih0 _ _ _ _ _ _ _
  | exact ih1 _ _ _ _ _ _ _
  | exact ih2 _ _ _ _ _ _ _ _ _ _
  | exact impl_ProblemOk.mono _ _ _ _ _
  | exact impl_best.mono _ _ _ _ _ _ _
  | exact impl_cost.mono _ _ _ _ _ _
  | exact impl_each.mono _ _ _ _ _
  | exact LeO.none _
  | refine LeO.ite ?_ ?_
  | refine LeO.bind ?_ (fun _ => ?_)
theorem impl_Descend.mono : ∀ a0 a1 a2 a3 a4 a5 k, LeO (impl_Descend.f k a0 a1 a2 a3 a4 a5) (impl_Descend.f (k + 1) a0 a1 a2 a3 a4 a5) := by
 intro a0 a1 a2 a3 a4 a5 k
 obtain ⟨ih0, ih1, ih2⟩ := impl_Descend.mono_l k
 unfold impl_Descend.f
 repeat' first
   | (with_reducible exact ih0 _ _ _ _ _ _ _)
   | (with_reducible exact ih1 _ _ _ _ _ _ _)
   | (with_reducible exact ih2 _ _ _ _ _ _ _ _ _ _)
   | (with_reducible exact impl_ProblemOk.mono _ _ _ _ _)
   | (with_reducible exact impl_best.mono _ _ _ _ _ _ _)
   | (with_reducible exact impl_cost.mono _ _ _ _ _ _)
   | (with_reducible exact impl_each.mono _ _ _ _ _)
   | (with_reducible exact LeO.refl _)
   | (with_reducible exact LeO.none _)
   | (with_reducible refine LeO.ite ?_ ?_)
   | (with_reducible refine LeO.bind ?_ (fun _ => ?_))
   | exact ih0 _ _ _ _ _ _ _
   | exact ih1 _ _ _ _ _ _ _
   | exact ih2 _ _ _ _ _ _ _ _ _ _
   | exact impl_ProblemOk.mono _ _ _ _ _
   | exact impl_best.mono _ _ _ _ _ _ _
   | exact impl_cost.mono _ _ _ _ _ _
   | exact impl_each.mono _ _ _ _ _
   | exact LeO.none _
   | refine LeO.ite ?_ ?_
   | refine LeO.bind ?_ (fun _ => ?_)
set_option maxHeartbeats 8000000 in
set_option maxRecDepth 100000 in
theorem impl_Descend.calls (k : Nat) (a0_0 : Int) (A0_1 : Option Addr) (c0_1 : Nat) (l0_1 : List Int) (A0_2 : Option Addr) (c0_2 : Nat) (l0_2 : List Int) (A0_3 : Option Addr) (c0_3 : Nat) (l0_3 : List (S52)) (A1 : Option Addr) (c1 : Nat) (l1 : List Int) (a2 : Int) (r1 : List (S50)) (r2 : Bool) (w : World) (hr0_1 : Kd.C (Kd.int .i64) w A0_1 l0_1.length l0_1) (hc0_1 : l0_1.length ≤ c0_1) (hr0_2 : Kd.C (Kd.int .i64) w A0_2 l0_2.length l0_2) (hc0_2 : l0_2.length ≤ c0_2) (hr0_3 : Kd.C k52 w A0_3 l0_3.length l0_3) (hc0_3 : l0_3.length ≤ c0_3) (hr1 : Kd.C (Kd.int .i64) w A1 l1.length l1) (hc1 : l1.length ≤ c1) (h : impl_Descend.f k a0_0 l0_1 l0_2 l0_3 l1 a2 = some (r1, r2)) :
  Calls Try.prog 17 #[.agg #[.int .i64 a0_0, .slice A0_1 l0_1.length c0_1, .slice A0_2 l0_2.length c0_2, .slice A0_3 l0_3.length c0_3], .slice A1 l1.length c1, .int .i64 a2] w fun e w' => ∃ v0_ : Value, e = .returned (.tuple #[v0_, .bool r2]) ∧ Kd.R k50 50 w' w.heap.size (fun _ => True) v0_ r1 ∧ Below w.heap.size w w' := by
 have hu30 := Try.underlying30; have hu50 := Try.underlying50; have HR0_1 := Aside0.mk hr0_1; have HC0_1 := Aside0.mk hc0_1; clear hr0_1 hc0_1; have HR0_2 := Aside0.mk hr0_2; have HC0_2 := Aside0.mk hc0_2; clear hr0_2 hc0_2; have HR0_3 := Aside0.mk hr0_3; have HC0_3 := Aside0.mk hc0_3; clear hr0_3 hc0_3; have HR1 := Aside0.mk hr1; have HC1 := Aside0.mk hc1; clear hr1 hc1
 have HB := Aside0.mk (Below.refl w.heap.size w)
 have H : ((impl_ProblemOk.f k a0_0 l0_1 l0_2 l0_3).bind fun t227 => (if t227 = true then ((impl_each.f k l1 a0_0 (-500) 500).bind fun t228 => (if t228 = true then ((impl_in.f a2 0 500).bind fun t229 => (impl_Descend.j0 k l1 a2 (!t229) a0_0 l0_1 l0_2 l0_3)) else (impl_Descend.j0 k l1 a2 true a0_0 l0_1 l0_2 l0_3))) else (impl_Descend.j0 k l1 a2 true a0_0 l0_1 l0_2 l0_3))) = some (r1, r2) := h
 clear h; have HC4 := Aside0.mk H; clear H
 go_enter Try.func17, Try.ntmps17
 go_upto_region 1 with (first | ((with_reducible refine gate_dst (N := 3) rfl ?_); refine box_event ?hg (N := 3) ?hd (cs := #[.int .i64 a0_0, .slice A0_1 l0_1.length c0_1, .slice A0_2 l0_2.length c0_2, .slice A0_3 l0_3.length c0_3]) (t := 30) ?hr ?_; (case hd => rfl); (case hg => rfl); (case hr => first | (go_simp; done) | (go_simp; rfl)); intro gb226 hg w5 hbox hb; have BK226 := Aside0.mk (hbox); have GW226 := gE_ HB hg; have GE226 := gE_ HB hg; replace HB := bS_ HB hb; clear hb hbox hg))
 (try simp only [Act.put, List.setIfInBounds_toArray, List.set_cons_zero, List.set_cons_succ])
 go_cut [26] (fun v26 wc => ∃ (kq : Nat) (x26_3 : Bool), v26 = .bool x26_3 ∧ Aside0 (impl_Descend.j0 kq l1 a2 x26_3 a0_0 l0_1 l0_2 l0_3 = some (r1, r2)) ∧ Aside0 (kq ≤ k) ∧ Aside0 (wc.heap[gb226]? = some (.cells #[.int .i64 a0_0, (.slice A0_1 l0_1.length c0_1), (.slice A0_2 l0_2.length c0_2), (.slice A0_3 l0_3.length c0_3)] 30 (0, 0))) ∧ Aside0 (Below w.heap.size w wc))
 case first =>
  have H := HC4.out; clear HC4; replace H := Option.bind_eq_some_iff.mp H
  obtain ⟨t227, A60, H⟩ := H
  replace H : (if t227 = true then ((impl_each.f k l1 a0_0 (-500) 500).bind fun t228 => (if t228 = true then ((impl_in.f a2 0 500).bind fun t229 => (impl_Descend.j0 k l1 a2 (!t229) a0_0 l0_1 l0_2 l0_3)) else (impl_Descend.j0 k l1 a2 true a0_0 l0_1 l0_2 l0_3))) else (impl_Descend.j0 k l1 a2 true a0_0 l0_1 l0_2 l0_3)) = some (r1, r2) := H
  have A6 := Aside0.mk A60; clear A60
  by_cases c7 : t227 = true
  ·subst c7
   replace H := ifT_ H; replace H := Option.bind_eq_some_iff.mp H
   obtain ⟨t228, A80, H⟩ := H
   replace H : (if t228 = true then ((impl_in.f a2 0 500).bind fun t229 => (impl_Descend.j0 k l1 a2 (!t229) a0_0 l0_1 l0_2 l0_3)) else (impl_Descend.j0 k l1 a2 true a0_0 l0_1 l0_2 l0_3)) = some (r1, r2) := H
   have A8 := Aside0.mk A80; clear A80
   by_cases c9 : t228 = true
   ·subst c9
    replace H := ifT_ H; replace H := Option.bind_eq_some_iff.mp H
    obtain ⟨t229, A100, H⟩ := H
    replace H : (impl_Descend.j0 k l1 a2 (!t229) a0_0 l0_1 l0_2 l0_3) = some (r1, r2) := H
    have A10 := Aside0.mk A100; clear A100; have H' := Aside0.mk H; clear H
    obtain ⟨hcz11_0, hcz11_1, hcz11_2, hcz11_3, hfz11_0, hfz11_1, hfz11_2, hfz11_3⟩ := cf4_ BK226
    go_wp2_with (first | ((with_reducible refine gate_callee (f := 31) rfl ?_); refine gL_ (some 13) Try.func31 #[.agg #[.int .i64 a0_0, .slice A0_1 l0_1.length c0_1, .slice A0_2 l0_2.length c0_2, .slice A0_3 l0_3.length c0_3]] ?_; (with_reducible refine (impl_ProblemOk.calls k a0_0 _ _ l0_1 _ _ l0_2 _ _ l0_3 true _ ?side1 ?side2 ?side3 ?side4 ?side5 ?side6 A6.out).mono ?_); (case side1 => exact cB_ HR0_1 HB); (case side2 => exact HC0_1.out); (case side3 => exact cB_ HR0_2 HB); (case side4 => exact HC0_2.out); (case side5 => exact cB_ HR0_3 HB); (case side6 => exact HC0_3.out); rintro e w12 ⟨rfl, hb⟩; refine ⟨_, rfl, ?_⟩; replace BK226 := bB_ BK226 hb; replace HB := bS_ HB hb; (try clear hb); obtain ⟨hcz13_0, hcz13_1, hcz13_2, hcz13_3, hfz13_0, hfz13_1, hfz13_2, hfz13_3⟩ := cf4_ BK226) | (go_at_call 38; (with_reducible refine (impl_each.calls k _ _ l1 a0_0 (-500) 500 true _ ?side1 ?side2 A8.out).mono ?_); (case side1 => exact cB_ HR1 HB); (case side2 => exact HC1.out); rintro e w' ⟨rfl, ⟨nd, rfl⟩⟩) | (go_at_call 39; (with_reducible refine (impl_in.calls a2 0 500 t229 _ A10.out).mono ?_); rintro e w' ⟨rfl, ⟨nd, rfl⟩⟩))
    go_meet
    case rel => exact ⟨_, (!t229), (by first | rfl | (simp; done) | (simp [*]; done)), H', ⟨by first | omega | exact Nat.le_refl _⟩, ⟨bT_ BK226⟩, ⟨sABelo_10⟩⟩
   ·replace c9 := Bool.eq_false_iff.mpr c9
    subst c9
    replace H := ifF_ H; have H' := Aside0.mk H; clear H
    obtain ⟨hcz14_0, hcz14_1, hcz14_2, hcz14_3, hfz14_0, hfz14_1, hfz14_2, hfz14_3⟩ := cf4_ BK226
    go_wp2_with (first | ((with_reducible refine gate_callee (f := 31) rfl ?_); refine gL_ (some 13) Try.func31 #[.agg #[.int .i64 a0_0, .slice A0_1 l0_1.length c0_1, .slice A0_2 l0_2.length c0_2, .slice A0_3 l0_3.length c0_3]] ?_; (with_reducible refine (impl_ProblemOk.calls k a0_0 _ _ l0_1 _ _ l0_2 _ _ l0_3 true _ ?side1 ?side2 ?side3 ?side4 ?side5 ?side6 A6.out).mono ?_); (case side1 => exact cB_ HR0_1 HB); (case side2 => exact HC0_1.out); (case side3 => exact cB_ HR0_2 HB); (case side4 => exact HC0_2.out); (case side5 => exact cB_ HR0_3 HB); (case side6 => exact HC0_3.out); rintro e w15 ⟨rfl, hb⟩; refine ⟨_, rfl, ?_⟩; replace BK226 := bB_ BK226 hb; replace HB := bS_ HB hb; (try clear hb); obtain ⟨hcz16_0, hcz16_1, hcz16_2, hcz16_3, hfz16_0, hfz16_1, hfz16_2, hfz16_3⟩ := cf4_ BK226) | (go_at_call 38; (with_reducible refine (impl_each.calls k _ _ l1 a0_0 (-500) 500 false _ ?side1 ?side2 A8.out).mono ?_); (case side1 => exact cB_ HR1 HB); (case side2 => exact HC1.out); rintro e w' ⟨rfl, ⟨nd, rfl⟩⟩))
    go_meet
    case rel => exact ⟨_, (true), (by first | rfl | (simp; done) | (simp [*]; done)), H', ⟨by first | omega | exact Nat.le_refl _⟩, ⟨bT_ BK226⟩, ⟨sABelo_10⟩⟩
  ·replace c7 := Bool.eq_false_iff.mpr c7
   subst c7
   replace H := ifF_ H; have H' := Aside0.mk H; clear H
   obtain ⟨hcz17_0, hcz17_1, hcz17_2, hcz17_3, hfz17_0, hfz17_1, hfz17_2, hfz17_3⟩ := cf4_ BK226
   go_wp2_with (first | ((with_reducible refine gate_callee (f := 31) rfl ?_); refine gL_ (some 13) Try.func31 #[.agg #[.int .i64 a0_0, .slice A0_1 l0_1.length c0_1, .slice A0_2 l0_2.length c0_2, .slice A0_3 l0_3.length c0_3]] ?_; (with_reducible refine (impl_ProblemOk.calls k a0_0 _ _ l0_1 _ _ l0_2 _ _ l0_3 false _ ?side1 ?side2 ?side3 ?side4 ?side5 ?side6 A6.out).mono ?_); (case side1 => exact cB_ HR0_1 HB); (case side2 => exact HC0_1.out); (case side3 => exact cB_ HR0_2 HB); (case side4 => exact HC0_2.out); (case side5 => exact cB_ HR0_3 HB); (case side6 => exact HC0_3.out); rintro e w18 ⟨rfl, hb⟩; refine ⟨_, rfl, ?_⟩; replace BK226 := bB_ BK226 hb; replace HB := bS_ HB hb; (try clear hb)))
   go_meet
   case rel => exact ⟨_, (true), (by first | rfl | (simp; done) | (simp [*]; done)), H', ⟨by first | omega | exact Nat.le_refl _⟩, ⟨bT_ BK226⟩, ⟨sABelo_10⟩⟩
 case rest =>
  clear HC4; (try clear c1)
  obtain ⟨kq, x26_3, rfl, HA, HJ3, BK226, HB⟩ := hcut
  cases kq with
  | zero => exact absurd HA.out (by simp [impl_Descend.j0])
  | succ kj3 =>
   have H := HA.out; clear HA
   simp only [impl_Descend.j0] at H
   by_cases c19 : x26_3 = true
   ·subst c19
    replace H := ifT_ H
    simp only [Option.some.injEq, Prod.mk.injEq] at H
    obtain ⟨rfl, rfl⟩ := H
    go_wp2
    go_ret2
    exact ⟨_, by first | rfl | (simp [errW_none, errW_some] <;> rfl) | (simp [*, errW_none, errW_some] <;> rfl), by first | exact Kd.R_nil _ _ _ _ _ | exact Kd.N_nil _ _ _ _ _ | exact Kd.V_nil _ _ _ _ _ | exact Kd.Q_nil _ _ _ _ _ | exact Kd.S_nil _ _ _ _ _, sABelo_10⟩
   ·replace c19 := Bool.eq_false_iff.mpr c19
    subst c19
    replace H := ifF_ H
    obtain ⟨y230, hy230⟩ : ∃ y_ : List Int, y_ = (([] : List Int)) := ⟨_, rfl⟩
    replace H : (if y230.length + l1.length < 17592186044416 then (impl_Descend.l0 kj3 (y230 ++ l1) a2 (([] : List (S50))) a0_0 l0_1 l0_2 l0_3) else (none)) = some (r1, r2) := by first | (rw [hy230]; with_reducible exact H) | (have H2_ := (Option.bind_some _ _).symm.trans H; rw [hy230]; with_reducible exact H2_) | (have H2_ := (Option.bind_some _ _).symm.trans H; with_reducible exact H2_) | with_reducible exact H | (rw [hy230]; exact H) | exact H
    have Ny230 := Aside0.mk hy230; clear hy230
    obtain ⟨c20, H⟩ := ifS_ H
    have LMc20 := Aside0.mk c20; clear c20
    obtain ⟨y233, hy233⟩ : ∃ y_ : List Int, y_ = (y230 ++ l1) := ⟨_, rfl⟩
    replace H : (impl_Descend.l0 kj3 y233 a2 (([] : List (S50))) a0_0 l0_1 l0_2 l0_3) = some (r1, r2) := by first | (rw [hy233]; with_reducible exact H) | (have H2_ := (Option.bind_some _ _).symm.trans H; rw [hy233]; with_reducible exact H2_) | (have H2_ := (Option.bind_some _ _).symm.trans H; with_reducible exact H2_) | with_reducible exact H | (rw [hy233]; exact H) | exact H
    have Ny233 := Aside0.mk hy233; clear hy233
    obtain ⟨y236, hy236⟩ : ∃ y_ : List (S50), y_ = (([] : List (S50))) := ⟨_, rfl⟩
    replace H : (impl_Descend.l0 kj3 y233 a2 y236 a0_0 l0_1 l0_2 l0_3) = some (r1, r2) := by first | (rw [hy236]; with_reducible exact H) | (have H2_ := (Option.bind_some _ _).symm.trans H; rw [hy236]; with_reducible exact H2_) | (have H2_ := (Option.bind_some _ _).symm.trans H; with_reducible exact H2_) | with_reducible exact H | (rw [hy236]; exact H) | exact H
    have Ny236 := Aside0.mk hy236; clear hy236; have H' := Aside0.mk H; clear H
    go_wp2_with (first | ((with_reducible refine gate_dst (N := 27) rfl ?_); refine Kd.R_lit (Kd.int .i64) _ 2 ?hg (N := 27) ?hd (xs := ([] : List Int)) (inner := []) (ok := fun _ => True) (okp := fun _ => True) ?hr ?hp (fun _ hk => hk) trivial (Below.refl _ _) (Nat.le_refl _) (by simp) ?_; (case hd => rfl); (case hg => rfl); (case hr => first | (go_simp; done) | (go_simp; rfl)); (case hp => exact (Reps.none _ _)); intro v231 w21 ho22 hb hg_ hnew_; clear hg_ hnew_; (first | rw [← Ny230.out] at ho22 | (simp only [Int.reduceToNat] at ho22; rw [← Ny230.out] at ho22)); have HO232 := rL_ ho22 HB; replace BK226 := bB_ BK226 hb; replace HB := bS_ HB hb; clear hb ho22) | ((with_reducible refine gate_builtin (b := .append) (xs := #[.tmp 27, .tmp 28]) rfl ?_); at_builtin; refine Kd.R_append_rows (Kd.int .i64) (w0 := w) w.heap.size rfl (.tmp 27) (.tmp 28) 22 2 (.int .i64 0) 8 rfl Try.underlying22 info2 rfl (by decide) (by omega) v231 y230 l1 _ _ _ (fun _ => True) (fun _ => False) rfl rfl ?aO ?aR (fun _ _ h => h) (fun _ h => h.elim) ?aF ?aB ?aS ?aL ?_; (case aR => repeat (first | exact (Kd.C_below HR1.out HB.out) | (with_reducible refine Kd.C_alloc ?_ _) | (with_reducible refine Kd.C_drewN ?_ _) | (with_reducible refine Kd.C_drew ?_))); (case aB => exact sABelo_10); (case aF => exact (fun _ _ => trivial)); (case aO => exact (rT_ HO232)); (case aS => exact (below_size sABelo_10)); (case aL => have := LMc20.out; omega); intro v234 w23 ho hb hg hat; rw [← Ny233.out] at ho; replace BK226 := Aside0.mk (blk_grown (g := gb226) (o := .cells #[.int .i64 a0_0, .slice A0_1 l0_1.length c0_1, .slice A0_2 l0_2.length c0_2, .slice A0_3 l0_3.length c0_3] 30 (0, 0)) (bT_ BK226) hg (Kd.R_ne HO232.out BK226.out (by decide))); replace HB := Aside0.mk (hb); have HO235 := Aside0.mk (ho); clear HO232; clear ho hb hg hat) | ((with_reducible refine gate_dst (N := 30) rfl ?_); refine Kd.R_lit k50 _ 50 ?hg (N := 30) ?hd (xs := ([] : List (S50))) (inner := []) (ok := fun _ => True) (okp := fun _ => True) ?hr ?hp (fun _ hk => hk) trivial (Below.refl _ _) (Nat.le_refl _) (by simp) ?_; (case hd => rfl); (case hg => rfl); (case hr => first | (go_simp; done) | (go_simp; rfl)); (case hp => exact (Reps.none _ _)); intro v237 w24 ho25 hb hg_ hnew_; clear hg_ hnew_; (first | rw [← Ny236.out] at ho25 | (simp only [Int.reduceToNat] at ho25; rw [← Ny236.out] at ho25)); replace HO235 := rB_ HO235 hb; have HO238 := rL_ ho25 HB; replace BK226 := bB_ BK226 hb; replace HB := bS_ HB hb; clear hb ho25))
    go_loopg [8] kj3 (fun kq v8 w' => ∃ (x1_2 : List Int) (x8_2 : List (S50)), Aside0 (impl_Descend.l0 kq x1_2 a2 x8_2 a0_0 l0_1 l0_2 l0_3 = some (r1, r2)) ∧ Aside0 (kq ≤ kj3) ∧ Aside0 (Kd.R (Kd.int .i64) 2 w' w.heap.size (fun _ => True) v234 x1_2) ∧ Aside0 (Kd.R k50 50 w' w.heap.size (fun _ => True) v8 x8_2) ∧ Aside0 (w'.heap[gb226]? = some (.cells #[.int .i64 a0_0, (.slice A0_1 l0_1.length c0_1), (.slice A0_2 l0_2.length c0_2), (.slice A0_3 l0_3.length c0_3)] 30 (0, 0))) ∧ Aside0 (Below w.heap.size w w'))
    case atStart => exact ⟨(y233), (y236), H', ⟨Nat.le_refl _⟩, ⟨rT_ HO235⟩, ⟨rT_ HO238⟩, ⟨bT_ BK226⟩, ⟨sABelo_10⟩⟩
    case round =>
     clear H'; (try clear c1); (try clear c19); (try clear c20)
     obtain ⟨x1_2, x8_2, HA, HK2, HO_1, HO_8, BK226, HB⟩ := hrel
     cases gk with
     | zero => exact absurd HA.out (by simp [impl_Descend.l0])
     | succ k2 =>
      have H := HA.out; clear HA
      simp only [impl_Descend.l0] at H
      have H' := Aside0.mk H; clear H
      obtain ⟨Ao26, co26, eo26⟩ := Kd.R_slice HO_1.out
      subst eo26
      go_wp2
      go_loopg [8, 9, 33] k2 (fun kq v8 v9 v33 w' => ∃ (x1_3 : List Int) (x8_3 : List (S50)) (x9_3 : Bool) (x33_3 : Int), v9 = .bool x9_3 ∧ v33 = .int .i64 x33_3 ∧ Aside0 (impl_Descend.l1 kq x1_3 a2 x8_3 x9_3 (x1_2.length : Int) x33_3 a0_0 l0_1 l0_2 l0_3 = some (r1, r2)) ∧ Aside0 (kq ≤ k2) ∧ Aside0 (Kd.R (Kd.int .i64) 2 w' w.heap.size (fun _ => True) (.slice Ao26 x1_2.length co26) x1_3) ∧ Aside0 (Kd.R k50 50 w' w.heap.size (fun _ => True) v8 x8_3) ∧ Aside0 (w'.heap[gb226]? = some (.cells #[.int .i64 a0_0, (.slice A0_1 l0_1.length c0_1), (.slice A0_2 l0_2.length c0_2), (.slice A0_3 l0_3.length c0_3)] 30 (0, 0))) ∧ Aside0 (Below w.heap.size w w'))
      case atStart => exact ⟨(x1_2), (x8_2), (false), (0), (by first | rfl | (simp; done) | (simp [*]; done)), (by first | rfl | (simp; done) | (simp [*]; done)), H', ⟨Nat.le_refl _⟩, ⟨rT_ HO_1⟩, ⟨rT_ HO_8⟩, ⟨bT_ BK226⟩, ⟨sABelo_10⟩⟩
      case round =>
       clear H'; (try clear c1); (try clear c19); (try clear c20)
       obtain ⟨x1_3, x8_3, x9_3, x33_3, rfl, rfl, HA, HK3, HO_1, HO_8, BK226, HB⟩ := hrel
       have hl1_3 := (Kd.R_reads' HO_1.out).1
       rw [hl1_3] at HO_1
       (try simp only [hl1_3])
       (try simp only [hl1_3] at BK226)
       (try simp only [hl1_3] at HO_8)
       cases gk with
       | zero => exact absurd HA.out (by simp [impl_Descend.l1])
       | succ k3 =>
        have H := HA.out; clear HA
        simp only [impl_Descend.l1] at H
        by_cases c27 : x33_3 < (x1_2.length : Int)
        ·rw [if_pos c27] at H
         have c27b0 := decide_eq_true c27
         have c27b0q := c27b0
         (try simp only [hl1_3] at c27b0q)
         clear c27
         by_cases c28 : (x8_3.length : Int) = a2
         ·rw [if_pos c28] at H
          have c28b0 := beq_iff_eq.mpr c28
          have c28b1 := bne_eq_false_iff_eq.mpr c28
          clear c28
          simp only [Option.some.injEq, Prod.mk.injEq] at H
          obtain ⟨rfl, rfl⟩ := H
          obtain ⟨Ao29, co29, eo29⟩ := Kd.R_slice HO_8.out
          subst eo29
          go_wp2
          go_ret2
          exact ⟨_, by first | rfl | (simp [errW_none, errW_some] <;> rfl) | (simp [*, errW_none, errW_some] <;> rfl), by (with_reducible repeat (first | apply Kd.R_alloc | apply Kd.R_drewN | apply Kd.R_drew)); exact HO_8.out, sABelo_10⟩
         ·rw [if_neg c28] at H
          have c28b0 := beq_eq_false_iff_ne.mpr c28
          have c28b1 := bne_iff_ne.mpr c28
          replace H := Option.bind_eq_some_iff.mp H
          obtain ⟨t239, A300, H⟩ := H
          replace H : (if t239 = 0 then (impl_Descend.l1 k3 x1_3 a2 x8_3 x9_3 (x1_2.length : Int) (wrap64 (x33_3 + 1)) a0_0 l0_1 l0_2 l0_3) else (if 0 ≤ x33_3 then (if x33_3 < (x1_3.length : Int) then ((some (x1_3.set (x33_3 : Int).toNat (wrap64 ((rd x1_3 x33_3) + t239)) : List Int)).bind fun y241 => ((impl_cost.f k3 a0_0 l0_1 l0_2 l0_3 y241).bind fun t242 => (if x8_3.length < 5864062014805 then (impl_Descend.l1 k3 y241 a2 (x8_3 ++ [(⟨x33_3, t239, t242⟩ : S50)]) true (x1_2.length : Int) (wrap64 (x33_3 + 1)) a0_0 l0_1 l0_2 l0_3) else (none)))) else (none)) else (none))) = some (r1, r2) := H
          have A30 := Aside0.mk A300; clear A300
          by_cases c31 : t239 = 0
          ·rw [if_pos c31] at H
           have c31b0 := beq_iff_eq.mpr c31
           have c31b1 := bne_eq_false_iff_eq.mpr c31
           clear c31; have H' := Aside0.mk H; clear H
           obtain ⟨Ao32, co32, eo32⟩ := Kd.R_slice HO_8.out
           subst eo32
           obtain ⟨hcz33_0, hcz33_1, hcz33_2, hcz33_3, hfz33_0, hfz33_1, hfz33_2, hfz33_3⟩ := cf4_ BK226
           go_wp2_with (first | ((with_reducible refine gate_callee (f := 40) rfl ?_); refine gL_ (some 44) Try.func40 #[.agg #[.int .i64 a0_0, .slice A0_1 l0_1.length c0_1, .slice A0_2 l0_2.length c0_2, .slice A0_3 l0_3.length c0_3], .slice Ao26 x1_3.length co26, .int .i64 x33_3] ?_; (with_reducible refine (impl_best.calls k3 a0_0 _ _ l0_1 _ _ l0_2 _ _ l0_3 _ _ x1_3 x33_3 t239 _ ?side1 ?side2 ?side3 ?side4 ?side5 ?side6 ?side7 ?side8 A30.out).mono ?_); (case side1 => exact cB_ HR0_1 HB); (case side2 => exact HC0_1.out); (case side3 => exact cB_ HR0_2 HB); (case side4 => exact HC0_2.out); (case side5 => exact cB_ HR0_3 HB); (case side6 => exact HC0_3.out); (case side7 => exact rD_ HO_1); (case side8 => exact (Kd.R_reads' HO_1.out).2.1); rintro e w34 ⟨rfl, hb⟩; refine ⟨_, rfl, ?_⟩; replace HO_1 := rB_ HO_1 hb; replace HO_8 := rB_ HO_8 hb; replace BK226 := bB_ BK226 hb; replace HB := bS_ HB hb; (try clear hb); (try clear hk)))
           (try simp only [← hl1_3])
           go_roundg k3
           case measure => have := HJ3.out; have := HK2.out; have := HK3.out; omega
           case rel => exact ⟨(x1_3), (x8_3), (x9_3), (wrap64 (x33_3 + 1)), (by first | rfl | (simp; done) | (simp [*]; done)), (by first | rfl | (simp; done) | (simp [*]; done)), H', ⟨by have := HJ3.out; have := HK2.out; have := HK3.out; omega⟩, ⟨by (try simp only [hl1_3]); (with_reducible repeat (first | apply Kd.R_alloc | apply Kd.R_drewN | apply Kd.R_drew)); exact HO_1.out⟩, ⟨by (try simp only [hl1_3]); (with_reducible repeat (first | apply Kd.R_alloc | apply Kd.R_drewN | apply Kd.R_drew)); exact HO_8.out⟩, ⟨by (try simp only [hl1_3]); exact bT_ BK226⟩, ⟨sABelo_10⟩⟩
          ·rw [if_neg c31] at H
           have c31b0 := beq_eq_false_iff_ne.mpr c31
           have c31b1 := bne_iff_ne.mpr c31
           obtain ⟨c35, H⟩ := ifS_ H
           have c35b0 : decide (0 ≤ x33_3) = true := decide_eq_true c35
           clear c35
           obtain ⟨c36, H⟩ := ifS_ H
           have c36b0 : decide (x33_3 < (x1_3.length : Int)) = true := decide_eq_true c36
           have c36b0q := c36b0
           (try simp only [hl1_3] at c36b0q)
           clear c36
           obtain ⟨y241, hy241⟩ : ∃ y_ : List Int, y_ = (x1_3.set (x33_3 : Int).toNat (wrap64 ((rd x1_3 x33_3) + t239))) := ⟨_, rfl⟩
           replace H : ((impl_cost.f k3 a0_0 l0_1 l0_2 l0_3 y241).bind fun t242 => (if x8_3.length < 5864062014805 then (impl_Descend.l1 k3 y241 a2 (x8_3 ++ [(⟨x33_3, t239, t242⟩ : S50)]) true (x1_2.length : Int) (wrap64 (x33_3 + 1)) a0_0 l0_1 l0_2 l0_3) else (none))) = some (r1, r2) := by first | (rw [hy241]; with_reducible exact H) | (have H2_ := (Option.bind_some _ _).symm.trans H; rw [hy241]; with_reducible exact H2_) | (have H2_ := (Option.bind_some _ _).symm.trans H; with_reducible exact H2_) | with_reducible exact H | (rw [hy241]; exact H) | exact H
           have Ny241 := Aside0.mk hy241; clear hy241; replace H := Option.bind_eq_some_iff.mp H
           obtain ⟨t242, A380, H⟩ := H
           replace H : (if x8_3.length < 5864062014805 then (impl_Descend.l1 k3 y241 a2 (x8_3 ++ [(⟨x33_3, t239, t242⟩ : S50)]) true (x1_2.length : Int) (wrap64 (x33_3 + 1)) a0_0 l0_1 l0_2 l0_3) else (none)) = some (r1, r2) := H
           have A38 := Aside0.mk A380; clear A380
           obtain ⟨c39, H⟩ := ifS_ H
           have LMc39 := Aside0.mk c39; clear c39
           obtain ⟨y243, hy243⟩ : ∃ y_ : List (S50), y_ = (x8_3 ++ [(⟨x33_3, t239, t242⟩ : S50)]) := ⟨_, rfl⟩
           replace H : (impl_Descend.l1 k3 y241 a2 y243 true (x1_2.length : Int) (wrap64 (x33_3 + 1)) a0_0 l0_1 l0_2 l0_3) = some (r1, r2) := by first | (rw [hy243]; with_reducible exact H) | (have H2_ := (Option.bind_some _ _).symm.trans H; rw [hy243]; with_reducible exact H2_) | (have H2_ := (Option.bind_some _ _).symm.trans H; with_reducible exact H2_) | with_reducible exact H | (rw [hy243]; exact H) | exact H
           have Ny243 := Aside0.mk hy243; clear hy243; have H' := Aside0.mk H; clear H
           obtain ⟨Ao40, co40, eo40⟩ := Kd.R_slice HO_8.out
           subst eo40
           obtain ⟨hcz41_0, hcz41_1, hcz41_2, hcz41_3, hfz41_0, hfz41_1, hfz41_2, hfz41_3⟩ := cf4_ BK226
           go_wp2_with (first | ((with_reducible refine gate_callee (f := 40) rfl ?_); refine gL_ (some 44) Try.func40 #[.agg #[.int .i64 a0_0, .slice A0_1 l0_1.length c0_1, .slice A0_2 l0_2.length c0_2, .slice A0_3 l0_3.length c0_3], .slice Ao26 x1_3.length co26, .int .i64 x33_3] ?_; (with_reducible refine (impl_best.calls k3 a0_0 _ _ l0_1 _ _ l0_2 _ _ l0_3 _ _ x1_3 x33_3 t239 _ ?side1 ?side2 ?side3 ?side4 ?side5 ?side6 ?side7 ?side8 A30.out).mono ?_); (case side1 => exact cB_ HR0_1 HB); (case side2 => exact HC0_1.out); (case side3 => exact cB_ HR0_2 HB); (case side4 => exact HC0_2.out); (case side5 => exact cB_ HR0_3 HB); (case side6 => exact HC0_3.out); (case side7 => exact rD_ HO_1); (case side8 => exact (Kd.R_reads' HO_1.out).2.1); rintro e w42 ⟨rfl, hb⟩; refine ⟨_, rfl, ?_⟩; replace HO_1 := rB_ HO_1 hb; replace HO_8 := rB_ HO_8 hb; replace BK226 := bB_ BK226 hb; replace HB := bS_ HB hb; (try clear hb); (try clear hk); have p240 : 0 ≤ (x33_3 : Int) := dA_; have q240 : x33_3 < (x1_3.length : Int) := dA_; obtain ⟨ad240, e240, hx240_0⟩ := Kd.at_int (Kd.R_reads' HO_1.out).2.2 x33_3 p240 q240; cases e240; replace p240 := eq_true p240; replace q240 := eq_true q240; have p37 : 0 ≤ (x33_3 : Int) := dA_; have q37 : (x33_3 : Int) < ((x1_3.length : Int) : Int) := dA_; obtain ⟨go37, co37, eo37, gb37, gl37, cl37, HG37⟩ := Kd.R_form HO_1.out (by omega); (first | cases eo37 | (injection eo37 with ea_ en_ ec_; (first | subst ea_ | (injection ea_ with ea_; subst ea_)); subst ec_; clear en_)); have GB37 := Aside0.mk gb37; have GG37 := Aside0.mk HG37; clear gb37 gl37 HG37; (first | simp only [add_plain] at hx240_0 | skip); obtain ⟨hx37_0, hf37_0⟩ := Kd.R_celln 0 HO_1.out (x33_3 : Int) p37 q37; replace p37 := eq_true p37; replace q37 := eq_true q37; obtain ⟨hy43_, hz43_⟩ := Kd.R_celln 0 HO_1.out (x33_3 : Int) dA_ dA_; have HP43 := Kd.R_putg HO_1.out (x33_3 : Int) (wrap64 ((rd x1_3 x33_3) + t239))) | ((with_reducible refine gate_store (t := 2) (p := 53) rfl ?_); refine store_event (t := 2) (p := 53) (v := ?vo_w44) (w1 := (w42.setCell ⟨go37, (x33_3 : Int).toNat, none⟩ (.int .i64 (wrap64 ((rd x1_3 x33_3) + t239))))) ?hg ?ho ?hn ?hr ?_; (case ho => rfl); (case hg => rfl); (case hn => rfl); (case hr => first | (go_simp; done) | (go_simp; rfl)); intro w44 hw; have hg : w42.grownBy w44 (some go37) := (by rw [hw]; exact HP43.2); have hp_ : Kd.R (Kd.int .i64) 2 w44 w.heap.size (fun _ => True) (.slice (some ⟨go37, 0, none⟩) x1_3.length co26) y241 := (by rw [hw, Ny241.out]; exact HP43.1); clear HP43; replace HO_8 := Aside0.mk (Kd.R_over' (v := (.slice (some ⟨go37, 0, none⟩) x1_3.length co26)) (rT_ HO_8) (Kd.R_typed HO_1.out) (by decide) hg); replace BK226 := Aside0.mk (blk_grown (g := gb226) (o := .cells #[.int .i64 a0_0, .slice A0_1 l0_1.length c0_1, .slice A0_2 l0_2.length c0_2, .slice A0_3 l0_3.length c0_3] 30 (0, 0)) (bT_ BK226) hg (Kd.R_ne HO_1.out BK226.out (by decide))); replace HO_1 := Aside0.mk (hp_); replace HB := Aside0.mk ((by rw [hw]; exact below_set (HB.out) GB37.out : Below w.heap.size w w44)); clear hg hw hp_; obtain ⟨hcz45_0, hcz45_1, hcz45_2, hcz45_3, hfz45_0, hfz45_1, hfz45_2, hfz45_3⟩ := cf4_ BK226) | ((with_reducible refine gate_callee (f := 33) rfl ?_); refine goesL_ (some 59) rfl rfl Try.func33 (by kernel_rfl) rfl #[.agg #[.int .i64 a0_0, .slice A0_1 l0_1.length c0_1, .slice A0_2 l0_2.length c0_2, .slice A0_3 l0_3.length c0_3], .slice (some ⟨go37, 0, none⟩) y241.length co26] rfl (by (try simp only [List.map_toArray, List.map_cons, List.map_nil]); first | done | (rw [show y241.length = x1_3.length from (Kd.R_reads' HO_1.out).1.symm] <;> rfl) | rfl | (simp only [List.length_drop, List.length_take]; rfl)) ?_; (with_reducible refine (impl_cost.calls k3 a0_0 _ _ l0_1 _ _ l0_2 _ _ l0_3 _ _ y241 t242 _ ?side1 ?side2 ?side3 ?side4 ?side5 ?side6 ?side7 ?side8 A38.out).mono ?_); (case side1 => exact cB_ HR0_1 HB); (case side2 => exact HC0_1.out); (case side3 => exact cB_ HR0_2 HB); (case side4 => exact HC0_2.out); (case side5 => exact cB_ HR0_3 HB); (case side6 => exact HC0_3.out); (case side7 => exact rD_ HO_1); (case side8 => rw [show y241.length = x1_3.length from (Kd.R_reads' HO_1.out).1.symm]; exact (Kd.R_reads' HO_1.out).2.1); rintro e w46 ⟨rfl, hb⟩; refine ⟨_, rfl, ?_⟩; replace HO_1 := rB_ HO_1 hb; replace HO_8 := rB_ HO_8 hb; replace BK226 := bB_ BK226 hb; replace HB := bS_ HB hb; (try clear hb); (try clear hk)) | ((with_reducible refine gate_builtin (b := .append) (xs := #[.tmp 54, .tmp 61]) rfl ?_); at_builtin; refine Kd.R_append k50 (w0 := w) w.heap.size rfl (.tmp 54) (.tmp 61) 37 50 (.agg #[(.int .i64 0), (.int .i64 0), (.int .i64 0)]) 24 rfl Try.underlying37 info50 rfl (by decide) (by omega) (.slice Ao40 x8_3.length co40) x8_3 (⟨x33_3, t239, t242⟩ : S50) [.int .i64 x33_3, .int .i64 t239, .int .i64 t242] (fun _ => True) (fun _ => False) rfl rfl ?aP (fun _ hk => hk.elim) ?aF ?aO ?aB ?aS ?aL ?_; (case aP => exact k50_mkM _ _ _ (⟨x33_3, t239, t242⟩ : S50)); (case aB => exact sABelo_10); (case aF => exact (fun _ _ => trivial)); (case aO => exact (rT_ HO_8)); (case aS => exact (below_size sABelo_10)); (case aL => have := LMc39.out; omega); intro v244 w47 ho hb hg hat; rw [← Ny243.out] at ho; replace HO_1 := Aside0.mk (Kd.R_over' (rT_ HO_1) (Kd.R_typed (rT_ HO_8)) (by decide) hg); replace BK226 := Aside0.mk (blk_grown (g := gb226) (o := .cells #[.int .i64 a0_0, .slice A0_1 l0_1.length c0_1, .slice A0_2 l0_2.length c0_2, .slice A0_3 l0_3.length c0_3] 30 (0, 0)) (bT_ BK226) hg (Kd.R_ne HO_8.out BK226.out (by decide))); replace HB := Aside0.mk (hb); have HO245 := Aside0.mk (ho); clear HO_8; clear ho hb hg hat))
           (try simp only [← hl1_3])
           go_roundg k3
           case measure => have := HJ3.out; have := HK2.out; have := HK3.out; omega
           case rel => exact ⟨(y241), (y243), (true), (wrap64 (x33_3 + 1)), (by first | rfl | (simp; done) | (simp [*]; done)), (by first | rfl | (simp; done) | (simp [*]; done)), H', ⟨by have := HJ3.out; have := HK2.out; have := HK3.out; omega⟩, ⟨by (try simp only [hl1_3]); (with_reducible repeat (first | apply Kd.R_alloc | apply Kd.R_drewN | apply Kd.R_drew)); exact HO_1.out⟩, ⟨by (try simp only [hl1_3]); (with_reducible repeat (first | apply Kd.R_alloc | apply Kd.R_drewN | apply Kd.R_drew)); exact HO245.out⟩, ⟨by (try simp only [hl1_3]); exact bT_ BK226⟩, ⟨sABelo_10⟩⟩
        ·rw [if_neg c27] at H
         have c27b0 := decide_eq_false c27
         have c27b0q := c27b0
         (try simp only [hl1_3] at c27b0q)
         clear c27
         by_cases c48 : x9_3 = true
         ·subst c48
          replace H := ifT_ H; have H' := Aside0.mk H; clear H
          go_wp2
          (try simp only [← hl1_3])
          go_roundg k3
          case measure => have := HJ3.out; have := HK2.out; have := HK3.out; omega
          case rel => exact ⟨(x1_3), (x8_3), H', ⟨by have := HJ3.out; have := HK2.out; have := HK3.out; omega⟩, ⟨by (try simp only [hl1_3]); (with_reducible repeat (first | apply Kd.R_alloc | apply Kd.R_drewN | apply Kd.R_drew)); exact HO_1.out⟩, ⟨by (try simp only [hl1_3]); (with_reducible repeat (first | apply Kd.R_alloc | apply Kd.R_drewN | apply Kd.R_drew)); exact HO_8.out⟩, ⟨by (try simp only [hl1_3]); exact bT_ BK226⟩, ⟨sABelo_10⟩⟩
         ·replace c48 := Bool.eq_false_iff.mpr c48
          subst c48
          replace H := ifF_ H
          simp only [Option.some.injEq, Prod.mk.injEq] at H
          obtain ⟨rfl, rfl⟩ := H
          go_wp2
          go_ret2
          exact ⟨_, by first | rfl | (simp [errW_none, errW_some] <;> rfl) | (simp [*, errW_none, errW_some] <;> rfl), by (with_reducible repeat (first | apply Kd.R_alloc | apply Kd.R_drewN | apply Kd.R_drew)); exact HO_8.out, sABelo_10⟩

/-! ### laws_big: function 23 -/
def laws_big.f (l0 : List Int) : Option (Bool) := some (decide ((l0.length : Int) > 1048576))
set_option maxHeartbeats 8000000 in
set_option maxRecDepth 100000 in
theorem laws_big.calls (A0 : Option Addr) (c0 : Nat) (l0 : List Int) (r : Bool) (w : World) (hr0 : Kd.C (Kd.int .u8) w A0 l0.length l0) (hc0 : l0.length ≤ c0) (h : laws_big.f l0 = some r) :
  Calls Try.prog 23 #[.slice A0 l0.length c0] w fun e w' => e = .returned (.bool r) ∧ Drawn0 w w' := by
 have HR0 := Aside0.mk hr0; have HC0 := Aside0.mk hc0; clear hr0 hc0
 have H : (some (decide ((l0.length : Int) > 1048576))) = some r := h
 clear h
 obtain rfl := Option.some.inj H
 go_enter Try.func23, Try.ntmps23
 go_wp2
 go_ret
 exact ⟨by first | rfl | (simp; done) | (simp [*]; done), by repeat (first | exact Drawn0.refl _ | apply Drawn0.step)⟩

/-- A state of type 77 at block g of W; what its slices lead to came in by w0. -/
def IsS77 (w0 W : World) (g : Nat) (f0 : List Int) (f1 : Int) : Prop := ∃ A0 c0, W.heap[g]? = some (.cells #[.slice A0 f0.length c0, .int .i64 f1] 77 (0, 0)) ∧ w0.heap.size ≤ g ∧ Kd.C (Kd.int .u8) w0 A0 f0.length f0
theorem IsS77.grown {w0 W : World} {g : Nat} {f0 : List Int} {f1 : Int} {W1 : World} {row : Option Nat} (h : IsS77 w0 W g f0 f1) (hw : W.grownBy W1 row) (hne : some g ≠ row) : IsS77 w0 W1 g f0 f1 := by
 obtain ⟨A0, c0, hb, hg, hr0⟩ := h
 exact ⟨A0, c0, blk_grown hb hw hne, hg, hr0⟩
theorem IsS77.own_neN {w0 W : World} {g : Nat} {f0 : List Int} {f1 : Int} {α : Type} {d : Kd α} {e : Nat} {base : Nat} {ok : Nat → Prop} {v : Value} {xs : List α} (h : IsS77 w0 W g f0 f1) (ho : Kd.N d e W base ok v xs) (ht : e ≠ 77) : some g ≠ v.ownBlock := by
 obtain ⟨A0, c0, hb, hg, hr0⟩ := h
 exact Kd.N_ne ho hb ht
theorem IsS77.fresh {w0 W : World} {g : Nat} {f0 : List Int} {f1 : Int} (h : IsS77 w0 W g f0 f1) : ∀ k, W.heap.size ≤ k → k ≠ g := by
 obtain ⟨A0, c0, hb, hg, hr0⟩ := h
 exact Kd.freshB hb
theorem IsS77.kept {w0 W : World} {g : Nat} {f0 : List Int} {f1 : Int} {W1 : World} {S : Nat → Prop} (h : IsS77 w0 W g f0 f1) (hk : Kept W W1 S) (hne : ¬ S g) : IsS77 w0 W1 g f0 f1 := by
 obtain ⟨A0, c0, hb, hg, hr0⟩ := h
 exact ⟨A0, c0, blk_kept hb hk hne, hg, hr0⟩
theorem IsS77.below {w0 W : World} {g : Nat} {f0 : List Int} {f1 : Int} {W1 : World} (h : IsS77 w0 W g f0 f1) (hw : Below W.heap.size W W1) : IsS77 w0 W1 g f0 f1 := h.grown (grown_of_below hw none) (by simp)
theorem IsS77.alloc {w0 W : World} {g : Nat} {f0 : List Int} {f1 : Int} (h : IsS77 w0 W g f0 f1) (o : Obj) : IsS77 w0 (W.alloc o) g f0 f1 := h.below (below_alloc (Below.refl _ _) o)
theorem IsS77.drewN {w0 W : World} {g : Nat} {f0 : List Int} {f1 : Int} (h : IsS77 w0 W g f0 f1) (m : Nat) : IsS77 w0 (W.drewN m) g f0 f1 := h
theorem IsS77.drew {w0 W : World} {g : Nat} {f0 : List Int} {f1 : Int} (h : IsS77 w0 W g f0 f1) : IsS77 w0 W.drew g f0 f1 := h
theorem IsS77.at_ {w0 W : World} {g : Nat} {f0 : List Int} {f1 : Int} {w' : World} {m : Nat} (hq : W.drewN m = w') (h : IsS77 w0 W g f0 f1) : IsS77 w0 w' g f0 f1 := by subst hq; exact IsS77.drewN h m
theorem IsS77.apart {w0 W : World} {g : Nat} {f0 : List Int} {f1 : Int} {α : Type} {d : Kd α} {e : Nat} {base : Nat} {ok : Nat → Prop} {v : Value} {xs : List α} (h : IsS77 w0 W g f0 f1) (ho : d.R e W base ok v xs) (ht : ∀ q, q ∈ e :: d.E → q ≠ 77) : d.R e W base (fun k => ok k ∧ k ≠ g) v xs := by
 obtain ⟨A0, c0, hb, hg, hr0⟩ := h
 exact Kd.R_types ho hb ht
theorem IsS77.own_ne {w0 W : World} {g : Nat} {f0 : List Int} {f1 : Int} {α : Type} {d : Kd α} {e : Nat} {base : Nat} {ok : Nat → Prop} {v : Value} {xs : List α} (h : IsS77 w0 W g f0 f1) (ho : d.R e W base ok v xs) (ht : e ≠ 77) : some g ≠ v.ownBlock := by
 obtain ⟨A0, c0, hb, hg, hr0⟩ := h
 exact Kd.R_ne ho hb ht
theorem IsS77.apartQ {w0 W : World} {g : Nat} {f0 : List Int} {f1 : Int} {α : Type} {d : Kd α} {e : Nat} {base : Nat} {ok : Nat → Prop} {v : Value} {xs : List α} (h : IsS77 w0 W g f0 f1) (ho : d.Q e W base ok v xs) (ht : ∀ q, q ∈ e :: d.E → q ≠ 77) : d.Q e W base (fun k => ok k ∧ k ≠ g) v xs := by
 obtain ⟨A0, c0, hb, hg, hr0⟩ := h
 exact Kd.Q_types ho hb ht
theorem IsS77.own_neQ {w0 W : World} {g : Nat} {f0 : List Int} {f1 : Int} {α : Type} {d : Kd α} {e : Nat} {base : Nat} {ok : Nat → Prop} {v : Value} {xs : List α} (h : IsS77 w0 W g f0 f1) (ho : d.Q e W base ok v xs) (ht : e ≠ 77) : some g ≠ v.ownBlock := by
 obtain ⟨A0, c0, hb, hg, hr0⟩ := h
 exact Kd.Q_ne ho hb ht
theorem IsS77.apartS {w0 W : World} {g : Nat} {f0 : List Int} {f1 : Int} {α : Type} {d : Kd α} {e : Nat} {base : Nat} {ok : Nat → Prop} {v : Value} {xs : List α} (h : IsS77 w0 W g f0 f1) (ho : d.S e W base ok v xs) (ht : ∀ q, q ∈ e :: d.E → q ≠ 77) : d.S e W base (fun k => ok k ∧ k ≠ g) v xs := by
 obtain ⟨A0, c0, hb, hg, hr0⟩ := h
 exact Kd.S_types ho hb ht
theorem IsS77.own_neS {w0 W : World} {g : Nat} {f0 : List Int} {f1 : Int} {α : Type} {d : Kd α} {e : Nat} {base : Nat} {ok : Nat → Prop} {v : Value} {xs : List α} (h : IsS77 w0 W g f0 f1) (ho : d.S e W base ok v xs) (ht : e ≠ 77) : some g ≠ v.ownBlock := by
 obtain ⟨A0, c0, hb, hg, hr0⟩ := h
 exact Kd.S_ne ho hb ht
theorem IsS77.lt {w0 W : World} {g : Nat} {f0 : List Int} {f1 : Int} (h : IsS77 w0 W g f0 f1) : g < W.heap.size := by
 obtain ⟨A0, c0, hb, hg, hr0⟩ := h
 exact blk_lt hb
theorem IsS77.ge {w0 W : World} {g : Nat} {f0 : List Int} {f1 : Int} (h : IsS77 w0 W g f0 f1) : w0.heap.size ≤ g := by
 obtain ⟨A0, c0, hb, hg, hr0⟩ := h
 exact hg
theorem IsS77.ne_blk {w0 W : World} {g : Nat} {f0 : List Int} {f1 : Int} {a : Nat} {cs : Array Value} {t : TypeId} {fr : Nat × Nat} (h : IsS77 w0 W g f0 f1) (hb2 : W.heap[a]? = some (.cells cs t fr)) (ht : t ≠ 77) : g ≠ a := by
 obtain ⟨A0, c0, hb, hg, hr0⟩ := h
 rintro rfl
 rw [hb] at hb2
 injection hb2 with hb2
 injection hb2 with _ ht2
 exact ht ht2.symm
theorem IsS77.far {w0 W : World} {g : Nat} {f0 : List Int} {f1 : Int} {p : Addr} (h : IsS77 w0 W g f0 f1) (hne : g ≠ p.block) (u : Value) : IsS77 w0 (W.setCell p u) g f0 f1 := by
 obtain ⟨A0, c0, hb, hg, hr0⟩ := h
 exact ⟨A0, c0, blk_far hb hne u, hg, hr0⟩
theorem cellS77_0 {W : World} {g : Nat} {A0 : Option Addr} {c0 : Nat} {f0 : List Int} {f1 : Int} (h : W.heap[g]? = some (.cells #[.slice A0 f0.length c0, .int .i64 f1] 77 (0, 0))) : W.cell? ⟨g, 0, none⟩ = some (.slice A0 f0.length c0) := (blk_cell h 0).trans rfl
theorem cellS77_1 {W : World} {g : Nat} {A0 : Option Addr} {c0 : Nat} {f0 : List Int} {f1 : Int} (h : W.heap[g]? = some (.cells #[.slice A0 f0.length c0, .int .i64 f1] 77 (0, 0))) : W.cell? ⟨g, 1, none⟩ = some (.int .i64 f1) := (blk_cell h 1).trans rfl
theorem IsS77.set_1 {w0 W : World} {g : Nat} {f0 : List Int} {f1 : Int} (h : IsS77 w0 W g f0 f1) (x : Int) : IsS77 w0 (W.setCell ⟨g, 1, none⟩ (.int .i64 x)) g f0 x := by
 obtain ⟨A0, c0, hb, hg, hr0⟩ := h
 exact ⟨A0, c0, by simpa using blk_set hb 1 (.int .i64 x), hg, hr0⟩
theorem IsS77.new (w0 W : World) (A0 : Option Addr) (c0 : Nat) (f0 : List Int) (f1 : Int) (hB : Below w0.heap.size w0 W) (hr0 : Kd.C (Kd.int .u8) w0 A0 f0.length f0) : IsS77 w0 (W.alloc (.cells #[.slice A0 f0.length c0, .int .i64 f1] 77)) W.heap.size f0 f1 := ⟨A0, c0, by simpa using heap_alloc_new W _, hB.size, hr0⟩

/-! ### spec_l1Open: function 43 -/
def spec_l1Open.f (l0 : List Int) : Option (List Int × Int) := some (l0, 0)
set_option maxHeartbeats 8000000 in
set_option maxRecDepth 100000 in
theorem spec_l1Open.calls (A0 : Option Addr) (c0 : Nat) (l0 : List Int) (r1 : List Int) (r2 : Int) (w0 w : World) (hB : Below w0.heap.size w0 w) (hr0 : Kd.C (Kd.int .u8) w0 A0 l0.length l0) (hc0 : l0.length ≤ c0) (h : spec_l1Open.f l0 = some (r1, r2)) :
  Calls Try.prog 43 #[.slice A0 l0.length c0] w fun e w' => ∃ g_ : Nat, e = .returned (.pointer (some ⟨g_, 0, none⟩)) ∧ IsS77 w0 w' g_ r1 r2 ∧ Below w0.heap.size w0 w' ∧ Below w.heap.size w w' := by
 have hu77 := Try.underlying77; have HR0 := Aside0.mk hr0; have HC0 := Aside0.mk hc0; clear hr0 hc0
 have HBW := Aside0.mk (Below.refl w.heap.size w)
 have HW0 := Aside0.mk hB.size; have HB := Aside0.mk hB; clear hB
 have H : (some (l0, 0)) = some (r1, r2) := h
 clear h
 simp only [Option.some.injEq, Prod.mk.injEq] at H
 obtain ⟨rfl, rfl⟩ := H
 go_enter Try.func43, Try.ntmps43
 go_wp2_with (first | ((with_reducible refine gate_dst (N := 5) rfl ?_); refine box_event ?hg (N := 5) ?hd (cs := #[.slice A0 l0.length c0, .int .i64 0]) (t := 77) ?hr ?_; (case hd => rfl); (case hg => rfl); (case hr => first | (go_simp; done) | (go_simp; rfl)); intro gb246 hg w2 hbox hb; replace HB := bS_ HB hb; have BK246 := Aside0.mk (hbox); have GW246 := Aside0.mk ((by rw [hg]; exact (below_size sABelo_10) : w.heap.size ≤ gb246)); have GE246 := Aside0.mk ((Nat.le_trans HW0.out (by rw [hg]; exact (below_size sABelo_10) : w.heap.size ≤ gb246) : w0.heap.size ≤ gb246)); replace HBW := Aside0.mk (below_step HBW.out hb); clear hb hbox hg))
 go_ret
 exact ⟨_, rfl, (show IsS77 w0 _ gb246 l0 0 from ⟨_, _, by exact bT_ BK246, GE246.out, HR0.out⟩), sABelo_10, sABelo_10⟩

/-! ### spec_l1Rd_next: function 52 -/
def spec_l1Rd_next.f (s0_0 : List Int) (s0_1 : Int) : Option (Int × Int) := if s0_1 ≥ (s0_0.length : Int) then (some (0, s0_1)) else (if 0 ≤ (wrap64 ((wrap64 (s0_1 + 1)) - 1)) then (if (wrap64 ((wrap64 (s0_1 + 1)) - 1)) < (s0_0.length : Int) then (some (wrap64 (rd s0_0 (wrap64 ((wrap64 (s0_1 + 1)) - 1))), wrap64 (s0_1 + 1))) else (none)) else (none))
set_option maxHeartbeats 8000000 in
set_option maxRecDepth 100000 in
theorem spec_l1Rd_next.calls (g : Nat) (s0_0 : List Int) (s0_1 : Int) (r1 : Int) (r2 : Int) (w0 w : World) (hI : IsS77 w0 w g s0_0 s0_1) (hB : Below w0.heap.size w0 w) (h : spec_l1Rd_next.f s0_0 s0_1 = some (r1, r2)) :
  Calls Try.prog 52 #[.pointer (some ⟨g, 0, none⟩)] w fun e w' => e = .returned (.int .i64 r1) ∧ IsS77 w0 w' g s0_0 r2 ∧ Below w0.heap.size w0 w' ∧ KeepBut w w' g none := by
 have HI0 := Aside0.mk hI
 have HK := Aside0.mk (KeepBut.refl w g none)
 have HL := Aside0.mk hB.size; clear hI; have HW0 := Aside0.mk hB.size; have HB := Aside0.mk hB; clear hB
 have H : (if s0_1 ≥ (s0_0.length : Int) then (some (0, s0_1)) else (if 0 ≤ (wrap64 ((wrap64 (s0_1 + 1)) - 1)) then (if (wrap64 ((wrap64 (s0_1 + 1)) - 1)) < (s0_0.length : Int) then (some (wrap64 (rd s0_0 (wrap64 ((wrap64 (s0_1 + 1)) - 1))), wrap64 (s0_1 + 1))) else (none)) else (none))) = some (r1, r2) := h
 clear h
 by_cases c2 : s0_1 ≥ (s0_0.length : Int)
 ·rw [if_pos c2] at H
  have c2b0 : decide ((s0_0.length : Int) ≤ s0_1) = true := decide_eq_true c2
  clear c2
  simp only [Option.some.injEq, Prod.mk.injEq] at H
  obtain ⟨rfl, rfl⟩ := H
  obtain ⟨ASz3_0, cSz3_0, HGz3, hgz3, HSz3_0⟩ := HI0.out
  have hcz3_0 := cellS77_0 HGz3; have hcz3_1 := cellS77_1 HGz3; have hfz3_1 := blk_frozen HGz3 1; clear HGz3 hgz3
  go_enter Try.func52, Try.ntmps52
  go_wp2
  repeat (go_quiet (fail); try go_wp2)
  go_ret
  exact ⟨by first | rfl | (simp [errW_none, errW_some] <;> rfl) | (simp [*, errW_none, errW_some] <;> rfl), by repeat (first | (with_reducible first | exact HI0.out | apply IsS77.alloc | apply IsS77.drewN | apply IsS77.drew | apply IsS77.set_1) | exact HI0.out), by repeat (first | (with_reducible first | exact HB.out | apply below_alloc | apply pw_below_drewN | apply below_drew1 | refine below_set ?_ (IsS77.ge HI0.out)) | exact HB.out), sAKeep_10⟩
 ·rw [if_neg c2] at H
  have c2b0 : decide ((s0_0.length : Int) ≤ s0_1) = false := decide_eq_false c2
  clear c2
  obtain ⟨ji4, hji4⟩ : ∃ j_ : Int, (wrap64 ((wrap64 (s0_1 + 1)) - 1)) = j_ := ⟨_, rfl⟩
  replace H : (if 0 ≤ (ji4) then (if (ji4) < (s0_0.length : Int) then (some (wrap64 (rd s0_0 (ji4)), wrap64 (s0_1 + 1))) else (none)) else (none)) = some (r1, r2) := by first | (rw [hji4] at H; exact H) | (simp only [hji4] at H ⊢; exact H)
  have hji4w : (IntKind.i64.wrap ((wrap64 (s0_1 + 1)) - 1)) = ji4 := (i64_w _).trans hji4
  obtain ⟨c5, H⟩ := ifS_ H
  have c5b0 : decide (0 ≤ (ji4)) = true := decide_eq_true c5
  clear c5
  obtain ⟨c6, H⟩ := ifS_ H
  have c6b0 : decide ((ji4) < (s0_0.length : Int)) = true := decide_eq_true c6
  clear c6
  simp only [Option.some.injEq, Prod.mk.injEq] at H
  obtain ⟨rfl, rfl⟩ := H
  obtain ⟨ASz7_0, cSz7_0, HGz7, hgz7, HSz7_0⟩ := HI0.out
  have hcz7_0 := cellS77_0 HGz7; have hcz7_1 := cellS77_1 HGz7; have hfz7_1 := blk_frozen HGz7 1; clear HGz7 hgz7
  have p247 : 0 ≤ ((ji4) : Int) := dA_
  have q247 : (ji4) < (s0_0.length : Int) := dA_
  obtain ⟨ad247, e247, hx247_0⟩ := Kd.at_int HSz7_0 (ji4) p247 q247
  cases e247
  have hn247_0 : ad247.block ≠ g := Nat.ne_of_lt (Nat.lt_of_lt_of_le (by have := World.block_lt_of_cell? _ _ hx247_0; first | rwa [add_block] at this | exact this) (IsS77.ge HI0.out))
  replace hx247_0 := pw_cell_below HB.out hx247_0
  replace hx247_0 := (cell_far (p := ⟨g, 1, none⟩) (by first | (rw [add_block]; exact hn247_0) | (show (Addr.add _ _).block ≠ _; rw [add_block]; exact hn247_0) | exact hn247_0) (.int .i64 (wrap64 (s0_1 + 1)))).trans hx247_0
  (try have hy247_0 := fun (n_ : Nat) => (show (((w.drewN n_).setCell ⟨g, 1, none⟩ (.int .i64 (wrap64 (s0_1 + 1))))).cell? _ = some _ from hx247_0))
  clear hn247_0; replace p247 := eq_true p247; replace q247 := eq_true q247
  go_enter Try.func52, Try.ntmps52
  go_wp2
  repeat (go_quiet (fail); try go_wp2)
  go_ret
  exact ⟨by first | rfl | (simp [errW_none, errW_some] <;> rfl) | (simp only [← hji4]; first | rfl | (simp [errW_none, errW_some] <;> rfl)) | (simp [*, errW_none, errW_some] <;> rfl), by repeat (first | (with_reducible first | exact HI0.out | apply IsS77.alloc | apply IsS77.drewN | apply IsS77.drew | apply IsS77.set_1) | exact HI0.out), by repeat (first | (with_reducible first | exact HB.out | apply below_alloc | apply pw_below_drewN | apply below_drew1 | refine below_set ?_ (IsS77.ge HI0.out)) | exact HB.out), sAKeep_10⟩

/-! ### spec_l1Rd_below: function 45 -/
def spec_l1Rd_below.f (s0_0 : List Int) (s0_1 : Int) (a1 : Int) : Option (Int × Int) := if a1 ≤ 1 then (some (0, s0_1)) else (if a1 ≤ 256 then ((spec_l1Rd_next.f s0_0 s0_1).bind fun bt248 => (if a1 = 0 then (none) else (some (Int.tmod bt248.1 a1, bt248.2)))) else ((spec_l1Rd_next.f s0_0 s0_1).bind fun bt250 => ((spec_l1Rd_next.f s0_0 bt250.2).bind fun bt252 => (if a1 = 0 then (none) else (some (Int.tmod (wrap64 ((wrap64 (bt250.1 * 256)) + bt252.1)) a1, bt252.2))))))
set_option maxHeartbeats 8000000 in
set_option maxRecDepth 100000 in
theorem spec_l1Rd_below.calls (g : Nat) (s0_0 : List Int) (s0_1 : Int) (a1 : Int) (r1 : Int) (r2 : Int) (w0 w : World) (hI : IsS77 w0 w g s0_0 s0_1) (hB : Below w0.heap.size w0 w) (h : spec_l1Rd_below.f s0_0 s0_1 a1 = some (r1, r2)) :
  Calls Try.prog 45 #[.pointer (some ⟨g, 0, none⟩), .int .i64 a1] w fun e w' => e = .returned (.int .i64 r1) ∧ IsS77 w0 w' g s0_0 r2 ∧ Below w0.heap.size w0 w' ∧ KeepBut w w' g none := by
 have HI0 := Aside0.mk hI
 have HK := Aside0.mk (KeepBut.refl w g none)
 have HL := Aside0.mk hB.size; clear hI; have HW0 := Aside0.mk hB.size; have HB := Aside0.mk hB; clear hB
 have H : (if a1 ≤ 1 then (some (0, s0_1)) else (if a1 ≤ 256 then ((spec_l1Rd_next.f s0_0 s0_1).bind fun bt248 => (if a1 = 0 then (none) else (some (Int.tmod bt248.1 a1, bt248.2)))) else ((spec_l1Rd_next.f s0_0 s0_1).bind fun bt250 => ((spec_l1Rd_next.f s0_0 bt250.2).bind fun bt252 => (if a1 = 0 then (none) else (some (Int.tmod (wrap64 ((wrap64 (bt250.1 * 256)) + bt252.1)) a1, bt252.2))))))) = some (r1, r2) := h
 clear h
 by_cases c3 : a1 ≤ 1
 ·rw [if_pos c3] at H
  have c3b0 := decide_eq_true c3
  clear c3
  simp only [Option.some.injEq, Prod.mk.injEq] at H
  obtain ⟨rfl, rfl⟩ := H
  go_enter Try.func45, Try.ntmps45
  go_wp2
  go_ret
  exact ⟨by first | rfl | (simp [errW_none, errW_some] <;> rfl) | (simp [*, errW_none, errW_some] <;> rfl), by repeat (first | (with_reducible first | exact HI0.out | apply IsS77.alloc | apply IsS77.drewN | apply IsS77.drew | apply IsS77.set_1) | exact HI0.out), by repeat (first | (with_reducible first | exact HB.out | apply below_alloc | apply pw_below_drewN | apply below_drew1 | refine below_set ?_ (IsS77.ge HI0.out)) | exact HB.out), sAKeep_10⟩
 ·rw [if_neg c3] at H
  have c3b0 := decide_eq_false c3
  clear c3
  by_cases c4 : a1 ≤ 256
  ·rw [if_pos c4] at H
   have c4b0 := decide_eq_true c4
   clear c4; replace H := Option.bind_eq_some_iff.mp H
   obtain ⟨⟨t248, t249⟩, A50, H⟩ := H
   replace H : (if a1 = 0 then (none) else (some (Int.tmod t248 a1, t249))) = some (r1, r2) := H
   have A5 := Aside0.mk A50; clear A50
   by_cases c6 : a1 = 0
   ·rw [if_pos c6] at H
    exact absurd H (by simp)
   ·rw [if_neg c6] at H
    have c6b0 := beq_eq_false_iff_ne.mpr c6
    have c6b1 := bne_iff_ne.mpr c6
    simp only [Option.some.injEq, Prod.mk.injEq] at H
    obtain ⟨rfl, rfl⟩ := H
    go_enter Try.func45, Try.ntmps45
    go_wp2_with (first | ((with_reducible refine gate_callee (f := 52) rfl ?_); refine gL_ (some 11) Try.func52 #[.pointer (some ⟨g, 0, none⟩)] ?_; (with_reducible refine (spec_l1Rd_next.calls g s0_0 s0_1 t248 t249 w0 _ ?side1 ?side2 A5.out).mono ?_); (case side1 => repeat (first | (with_reducible first | exact HI0.out | apply IsS77.alloc | apply IsS77.drewN | apply IsS77.drew | apply IsS77.set_1) | exact HI0.out)); (case side2 => repeat (first | (with_reducible first | exact HB.out | apply below_alloc | apply pw_below_drewN | apply below_drew1 | refine below_set ?_ (IsS77.ge HI0.out)) | exact HB.out)); rintro e w7 ⟨rfl, hi, hb, hk⟩; refine ⟨_, rfl, ?_⟩; replace HK := Aside0.mk (KeepBut.trans (w := w) (row := none) sAKeep_10 hk (.inl rfl)); replace HB := Aside0.mk (hb); replace HI0 := Aside0.mk (hi); (try clear hb); (try clear hk); (try clear hi)))
    go_ret
    exact ⟨by first | rfl | (simp [errW_none, errW_some] <;> rfl) | (simp [*, errW_none, errW_some] <;> rfl), by repeat (first | (with_reducible first | exact HI0.out | apply IsS77.alloc | apply IsS77.drewN | apply IsS77.drew | apply IsS77.set_1) | exact HI0.out), by repeat (first | (with_reducible first | exact HB.out | apply below_alloc | apply pw_below_drewN | apply below_drew1 | refine below_set ?_ (IsS77.ge HI0.out)) | exact HB.out), sAKeep_10⟩
  ·rw [if_neg c4] at H
   have c4b0 := decide_eq_false c4
   clear c4; replace H := Option.bind_eq_some_iff.mp H
   obtain ⟨⟨t250, t251⟩, A80, H⟩ := H
   replace H : ((spec_l1Rd_next.f s0_0 t251).bind fun bt252 => (if a1 = 0 then (none) else (some (Int.tmod (wrap64 ((wrap64 (t250 * 256)) + bt252.1)) a1, bt252.2)))) = some (r1, r2) := H
   have A8 := Aside0.mk A80; clear A80; replace H := Option.bind_eq_some_iff.mp H
   obtain ⟨⟨t252, t253⟩, A90, H⟩ := H
   replace H : (if a1 = 0 then (none) else (some (Int.tmod (wrap64 ((wrap64 (t250 * 256)) + t252)) a1, t253))) = some (r1, r2) := H
   have A9 := Aside0.mk A90; clear A90
   by_cases c10 : a1 = 0
   ·rw [if_pos c10] at H
    exact absurd H (by simp)
   ·rw [if_neg c10] at H
    have c10b0 := beq_eq_false_iff_ne.mpr c10
    have c10b1 := bne_iff_ne.mpr c10
    simp only [Option.some.injEq, Prod.mk.injEq] at H
    obtain ⟨rfl, rfl⟩ := H
    go_enter Try.func45, Try.ntmps45
    go_wp2_with (first | ((with_reducible refine gate_callee (f := 52) rfl ?_); refine gL_ (some 15) Try.func52 #[.pointer (some ⟨g, 0, none⟩)] ?_; (with_reducible refine (spec_l1Rd_next.calls g s0_0 s0_1 t250 t251 w0 _ ?side1 ?side2 A8.out).mono ?_); (case side1 => repeat (first | (with_reducible first | exact HI0.out | apply IsS77.alloc | apply IsS77.drewN | apply IsS77.drew | apply IsS77.set_1) | exact HI0.out)); (case side2 => repeat (first | (with_reducible first | exact HB.out | apply below_alloc | apply pw_below_drewN | apply below_drew1 | refine below_set ?_ (IsS77.ge HI0.out)) | exact HB.out)); rintro e w11 ⟨rfl, hi, hb, hk⟩; refine ⟨_, rfl, ?_⟩; replace HK := Aside0.mk (KeepBut.trans (w := w) (row := none) sAKeep_10 hk (.inl rfl)); replace HB := Aside0.mk (hb); replace HI0 := Aside0.mk (hi); (try clear hb); (try clear hk); (try clear hi)) | ((with_reducible refine gate_callee (f := 52) rfl ?_); refine gL_ (some 19) Try.func52 #[.pointer (some ⟨g, 0, none⟩)] ?_; (with_reducible refine (spec_l1Rd_next.calls g s0_0 t251 t252 t253 w0 _ ?side1 ?side2 A9.out).mono ?_); (case side1 => repeat (first | (with_reducible first | exact HI0.out | apply IsS77.alloc | apply IsS77.drewN | apply IsS77.drew | apply IsS77.set_1) | exact HI0.out)); (case side2 => repeat (first | (with_reducible first | exact HB.out | apply below_alloc | apply pw_below_drewN | apply below_drew1 | refine below_set ?_ (IsS77.ge HI0.out)) | exact HB.out)); rintro e w12 ⟨rfl, hi, hb, hk⟩; refine ⟨_, rfl, ?_⟩; replace HK := Aside0.mk (KeepBut.trans (w := w) (row := none) sAKeep_10 hk (.inl rfl)); replace HB := Aside0.mk (hb); replace HI0 := Aside0.mk (hi); (try clear hb); (try clear hk); (try clear hi)))
    go_ret
    exact ⟨by first | rfl | (simp [errW_none, errW_some] <;> rfl) | (simp [*, errW_none, errW_some] <;> rfl), by repeat (first | (with_reducible first | exact HI0.out | apply IsS77.alloc | apply IsS77.drewN | apply IsS77.drew | apply IsS77.set_1) | exact HI0.out), by repeat (first | (with_reducible first | exact HB.out | apply below_alloc | apply pw_below_drewN | apply below_drew1 | refine below_set ?_ (IsS77.ge HI0.out)) | exact HB.out), sAKeep_10⟩

/-! ### spec_l1Rd_size: function 53 -/
def spec_l1Rd_size.f (s0_0 : List Int) (s0_1 : Int) (a1 : Int) (a2 : Int) : Option (Int × Int) := if a1 = 0 then (none) else (if (wrap64 (1 + (wrap64 ((s0_0.length : Int) / a1)))) > a2 then ((spec_l1Rd_below.f s0_0 s0_1 a2).bind fun bt254 => (some (wrap64 (1 + bt254.1), bt254.2))) else ((spec_l1Rd_below.f s0_0 s0_1 (wrap64 (1 + (wrap64 ((s0_0.length : Int) / a1))))).bind fun bt256 => (some (wrap64 (1 + bt256.1), bt256.2))))
set_option maxHeartbeats 8000000 in
set_option maxRecDepth 100000 in
theorem spec_l1Rd_size.calls (g : Nat) (s0_0 : List Int) (s0_1 : Int) (a1 : Int) (a2 : Int) (r1 : Int) (r2 : Int) (w0 w : World) (hI : IsS77 w0 w g s0_0 s0_1) (hB : Below w0.heap.size w0 w) (h : spec_l1Rd_size.f s0_0 s0_1 a1 a2 = some (r1, r2)) :
  Calls Try.prog 53 #[.pointer (some ⟨g, 0, none⟩), .int .i64 a1, .int .i64 a2] w fun e w' => e = .returned (.int .i64 r1) ∧ IsS77 w0 w' g s0_0 r2 ∧ Below w0.heap.size w0 w' ∧ KeepBut w w' g none := by
 have HI0 := Aside0.mk hI
 have HK := Aside0.mk (KeepBut.refl w g none)
 have HL := Aside0.mk hB.size; clear hI; have HW0 := Aside0.mk hB.size; have HB := Aside0.mk hB; clear hB
 have H : (if a1 = 0 then (none) else (if (wrap64 (1 + (wrap64 ((s0_0.length : Int) / a1)))) > a2 then ((spec_l1Rd_below.f s0_0 s0_1 a2).bind fun bt254 => (some (wrap64 (1 + bt254.1), bt254.2))) else ((spec_l1Rd_below.f s0_0 s0_1 (wrap64 (1 + (wrap64 ((s0_0.length : Int) / a1))))).bind fun bt256 => (some (wrap64 (1 + bt256.1), bt256.2))))) = some (r1, r2) := h
 clear h
 by_cases c4 : a1 = 0
 ·rw [if_pos c4] at H
  exact absurd H (by simp)
 ·rw [if_neg c4] at H
  have c4b0 := beq_eq_false_iff_ne.mpr c4
  have c4b1 := bne_iff_ne.mpr c4
  by_cases c5 : (wrap64 (1 + (wrap64 ((s0_0.length : Int) / a1)))) > a2
  ·rw [if_pos c5] at H
   have c5b0 : decide (a2 < (wrap64 (1 + (wrap64 ((s0_0.length : Int) / a1))))) = true := decide_eq_true c5
   clear c5; replace H := Option.bind_eq_some_iff.mp H
   obtain ⟨⟨t254, t255⟩, A60, H⟩ := H
   replace H : (some (wrap64 (1 + t254), t255)) = some (r1, r2) := H
   have A6 := Aside0.mk A60; clear A60
   simp only [Option.some.injEq, Prod.mk.injEq] at H
   obtain ⟨rfl, rfl⟩ := H
   obtain ⟨ASz7_0, cSz7_0, HGz7, hgz7, HSz7_0⟩ := HI0.out
   have hcz7_0 := cellS77_0 HGz7; have hcz7_1 := cellS77_1 HGz7; have hfz7_1 := blk_frozen HGz7 1; clear HGz7 hgz7
   go_enter Try.func53, Try.ntmps53
   go_wp2_with (first | ((with_reducible refine gate_callee (f := 45) rfl ?_); refine gL_ (some 22) Try.func45 #[.pointer (some ⟨g, 0, none⟩), .int .i64 a2] ?_; (with_reducible refine (spec_l1Rd_below.calls g s0_0 s0_1 a2 t254 t255 w0 _ ?side1 ?side2 A6.out).mono ?_); (case side1 => repeat (first | (with_reducible first | exact HI0.out | apply IsS77.alloc | apply IsS77.drewN | apply IsS77.drew | apply IsS77.set_1) | exact HI0.out)); (case side2 => repeat (first | (with_reducible first | exact HB.out | apply below_alloc | apply pw_below_drewN | apply below_drew1 | refine below_set ?_ (IsS77.ge HI0.out)) | exact HB.out)); rintro e w8 ⟨rfl, hi, hb, hk⟩; refine ⟨_, rfl, ?_⟩; replace HK := Aside0.mk (KeepBut.trans (w := w) (row := none) sAKeep_10 hk (.inl rfl)); replace HB := Aside0.mk (hb); replace HI0 := Aside0.mk (hi); (try clear hb); (try clear hk); (try clear hi)))
   go_ret
   exact ⟨by first | rfl | (simp [errW_none, errW_some] <;> rfl) | (simp [*, errW_none, errW_some] <;> rfl), by repeat (first | (with_reducible first | exact HI0.out | apply IsS77.alloc | apply IsS77.drewN | apply IsS77.drew | apply IsS77.set_1) | exact HI0.out), by repeat (first | (with_reducible first | exact HB.out | apply below_alloc | apply pw_below_drewN | apply below_drew1 | refine below_set ?_ (IsS77.ge HI0.out)) | exact HB.out), sAKeep_10⟩
  ·rw [if_neg c5] at H
   have c5b0 : decide (a2 < (wrap64 (1 + (wrap64 ((s0_0.length : Int) / a1))))) = false := decide_eq_false c5
   clear c5; replace H := Option.bind_eq_some_iff.mp H
   obtain ⟨⟨t256, t257⟩, A90, H⟩ := H
   replace H : (some (wrap64 (1 + t256), t257)) = some (r1, r2) := H
   have A9 := Aside0.mk A90; clear A90
   simp only [Option.some.injEq, Prod.mk.injEq] at H
   obtain ⟨rfl, rfl⟩ := H
   obtain ⟨ASz10_0, cSz10_0, HGz10, hgz10, HSz10_0⟩ := HI0.out
   have hcz10_0 := cellS77_0 HGz10; have hcz10_1 := cellS77_1 HGz10; have hfz10_1 := blk_frozen HGz10 1; clear HGz10 hgz10
   go_enter Try.func53, Try.ntmps53
   go_wp2_with (first | ((with_reducible refine gate_callee (f := 45) rfl ?_); refine gL_ (some 22) Try.func45 #[.pointer (some ⟨g, 0, none⟩), .int .i64 (wrap64 (1 + (wrap64 ((s0_0.length : Int) / a1))))] ?_; (with_reducible refine (spec_l1Rd_below.calls g s0_0 s0_1 (wrap64 (1 + (wrap64 ((s0_0.length : Int) / a1)))) t256 t257 w0 _ ?side1 ?side2 A9.out).mono ?_); (case side1 => repeat (first | (with_reducible first | exact HI0.out | apply IsS77.alloc | apply IsS77.drewN | apply IsS77.drew | apply IsS77.set_1) | exact HI0.out)); (case side2 => repeat (first | (with_reducible first | exact HB.out | apply below_alloc | apply pw_below_drewN | apply below_drew1 | refine below_set ?_ (IsS77.ge HI0.out)) | exact HB.out)); rintro e w11 ⟨rfl, hi, hb, hk⟩; refine ⟨_, rfl, ?_⟩; replace HK := Aside0.mk (KeepBut.trans (w := w) (row := none) sAKeep_10 hk (.inl rfl)); replace HB := Aside0.mk (hb); replace HI0 := Aside0.mk (hi); (try clear hb); (try clear hk); (try clear hi)))
   go_ret
   exact ⟨by first | rfl | (simp [errW_none, errW_some] <;> rfl) | (simp [*, errW_none, errW_some] <;> rfl), by repeat (first | (with_reducible first | exact HI0.out | apply IsS77.alloc | apply IsS77.drewN | apply IsS77.drew | apply IsS77.set_1) | exact HI0.out), by repeat (first | (with_reducible first | exact HB.out | apply below_alloc | apply pw_below_drewN | apply below_drew1 | refine below_set ?_ (IsS77.ge HI0.out)) | exact HB.out), sAKeep_10⟩

end Go.Proofs.Ytcjhbmjimjbphaa.QFnDescends
