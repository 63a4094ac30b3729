-- Written by a program of this session out of the printer's texts and contracts of its own.
import Derived.Test.YtmjfmhbklifafaaSq
import Derived.Test.YtmjfmhbklifafaaQFnSteadyx0
import Derived.Test.YtmjfmhbklifafaaQFnSteadyx2
import Derived.Test.YtmjfmhbklifafaaQFnSteadyx3
namespace Go.Proofs.Ytmjfmhbklifafaa.QFnSteady
open Go.RowKit Go.Proofs.YtmjfmhbklifafaaW.PrintWords Go.Proofs.YtmjfmhbklifafaaW.PrintLast Go.Proofs.YtmjfmhbklifafaaW.PrintMore Go.Proofs.Ytmjfmhbklifafaa.Sq
attribute [local go_sem] max2_int min2_int max_two min_two max_three min_three max_four min_four   -- for this text's walks alone
set_option linter.unusedVariables false
set_option linter.unusedSimpArgs false

/-! ### spec_Levels: function 17 -/
mutual
def spec_Levels.j0 : Nat → List Int → List Int → List Int → Int → List Int → Bool → Option (List Int × Bool)
 | 0, _, _, _, _, _, _ => none
 | k + 1, x0, x1, x2, x3, x10, x25 => if x25 = true then (some (x10, false)) else (spec_Levels.l0 k x0 x1 x2 x3 x10 0 0 0)
def spec_Levels.l0 : Nat → List Int → List Int → List Int → Int → List Int → Int → Int → Int → Option (List Int × Bool)
 | 0, _, _, _, _, _, _, _, _ => none
 | k + 1, x0, x1, x2, x3, x10, x11, x12, x13 => if x13 < (x0.length : Int) then (if 0 ≤ x13 then ((spec_l22Top.f k x1 (rd x0 x13)).bind fun t238 => (if t238 > x11 then ((spec_l22Top.f k x1 (rd x0 x13)).bind fun t239 => (if x10.length < 17592186044416 then (spec_Levels.l0 k x0 x1 x2 x3 (x10 ++ [t239]) t239 0 (wrap64 (x13 + 1))) else (none))) else (if x11 > 0 then (if 0 ≤ (wrap64 (x11 - 1)) then (if (wrap64 (x11 - 1)) < (x2.length : Int) then (spec_Levels.j2 k x0 x1 x2 x3 x10 x11 x12 x13 (rd x0 x13) (decide ((rd x0 x13) < (rd x2 (wrap64 (x11 - 1)))))) else (none)) else (none)) else (spec_Levels.j2 k x0 x1 x2 x3 x10 x11 x12 x13 (rd x0 x13) false)))) else (none)) else (some (x10, true))
def spec_Levels.j2 : Nat → List Int → List Int → List Int → Int → List Int → Int → Int → Int → Int → Bool → Option (List Int × Bool)
 | 0, _, _, _, _, _, _, _, _, _, _ => none
 | k + 1, x0, x1, x2, x3, x10, x11, x12, x13, x14, x46 => if x46 = true then (if (wrap64 (x12 + 1)) = x3 then ((spec_l22Top.f k x2 x14).bind fun t244 => (if x10.length < 17592186044416 then (spec_Levels.l0 k x0 x1 x2 x3 (x10 ++ [t244]) t244 0 (wrap64 (x13 + 1))) else (none))) else (if x10.length < 17592186044416 then (spec_Levels.l0 k x0 x1 x2 x3 (x10 ++ [x11]) x11 (wrap64 (x12 + 1)) (wrap64 (x13 + 1))) else (none))) else (if x10.length < 17592186044416 then (spec_Levels.l0 k x0 x1 x2 x3 (x10 ++ [x11]) x11 0 (wrap64 (x13 + 1))) else (none))
end
def spec_Levels.f (k : Nat) (l0 : List Int) (l1 : List Int) (l2 : List Int) (a3 : Int) : Option (List Int × Bool) := (some (([] : List Int) : List Int)).bind fun y232 => ((spec_l19Ok.f k l0).bind fun t235 => (if t235 = true then ((spec_l22LimitsOk.f k l1 l2 a3).bind fun t236 => (spec_Levels.j0 k l0 l1 l2 a3 y232 (!t236))) else (spec_Levels.j0 k l0 l1 l2 a3 y232 true)))
theorem spec_Levels.mono_l : ∀ k, (∀ y0 y1 y2 y3 y4 y5, LeO (spec_Levels.j0 k y0 y1 y2 y3 y4 y5) (spec_Levels.j0 (k + 1) y0 y1 y2 y3 y4 y5)) ∧ (∀ y0 y1 y2 y3 y4 y5 y6 y7, LeO (spec_Levels.l0 k y0 y1 y2 y3 y4 y5 y6 y7) (spec_Levels.l0 (k + 1) y0 y1 y2 y3 y4 y5 y6 y7)) ∧ (∀ y0 y1 y2 y3 y4 y5 y6 y7 y8 y9, LeO (spec_Levels.j2 k y0 y1 y2 y3 y4 y5 y6 y7 y8 y9) (spec_Levels.j2 (k + 1) y0 y1 y2 y3 y4 y5 y6 y7 y8 y9))
 | 0 => ⟨fun _ _ _ _ _ _ r h => by simp [spec_Levels.j0] at h, fun _ _ _ _ _ _ _ _ r h => by simp [spec_Levels.l0] at h, fun _ _ _ _ _ _ _ _ _ _ r h => by simp [spec_Levels.j2] at h⟩
 | k + 1 => by
  obtain ⟨ih0, ih1, ih2⟩ := spec_Levels.mono_l k
  refine ⟨?_, ?_, ?_⟩
  intro y0 y1 y2 y3 y4 y5; unfold spec_Levels.j0; rotate_left
  intro y0 y1 y2 y3 y4 y5 y6 y7; unfold spec_Levels.l0; rotate_left
  intro y0 y1 y2 y3 y4 y5 y6 y7 y8 y9; unfold spec_Levels.j2; rotate_left
  all_goals repeat' first
  | (with_reducible exact ih0 _ _ _ _ _ _)
  | (with_reducible exact ih1 _ _ _ _ _ _ _ _)
  | (with_reducible exact ih2 _ _ _ _ _ _ _ _ _ _)
  | (with_reducible exact spec_l19Ok.mono _ _)
  | (with_reducible exact spec_l22LimitsOk.mono _ _ _ _)
  | (with_reducible exact spec_l22Top.mono _ _ _)
  | (with_reducible exact LeO.refl _)
  | (with_reducible exact LeO.none _)
  | (with_reducible refine LeO.ite ?_ ?_)
  | (with_reducible refine LeO.bind ?_ (fun _ => ?_))
  | exact ih0 _ _ _ _ _ _
  | exact ih1 _ _ _ _ _ _ _ _
  | exact ih2 _ _ _ _ _ _ _ _ _ _
  | exact spec_l19Ok.mono _ _
  | exact spec_l22LimitsOk.mono _ _ _ _
  | exact spec_l22Top.mono _ _ _
  | exact LeO.none _
  | refine LeO.ite ?_ ?_
  | refine LeO.bind ?_ (fun _ => ?_)
theorem spec_Levels.mono : ∀ a0 a1 a2 a3 k, LeO (spec_Levels.f k a0 a1 a2 a3) (spec_Levels.f (k + 1) a0 a1 a2 a3) := by
 intro a0 a1 a2 a3 k
 obtain ⟨ih0, ih1, ih2⟩ := spec_Levels.mono_l k
 unfold spec_Levels.f
 repeat' first
   | (with_reducible exact ih0 _ _ _ _ _ _)
   | (with_reducible exact ih1 _ _ _ _ _ _ _ _)
   | (with_reducible exact ih2 _ _ _ _ _ _ _ _ _ _)
   | (with_reducible exact spec_l19Ok.mono _ _)
   | (with_reducible exact spec_l22LimitsOk.mono _ _ _ _)
   | (with_reducible exact spec_l22Top.mono _ _ _)
   | (with_reducible exact LeO.refl _)
   | (with_reducible exact LeO.none _)
   | (with_reducible refine LeO.ite ?_ ?_)
   | (with_reducible refine LeO.bind ?_ (fun _ => ?_))
   | exact ih0 _ _ _ _ _ _
   | exact ih1 _ _ _ _ _ _ _ _
   | exact ih2 _ _ _ _ _ _ _ _ _ _
   | exact spec_l19Ok.mono _ _
   | exact spec_l22LimitsOk.mono _ _ _ _
   | exact spec_l22Top.mono _ _ _
   | exact LeO.none _
   | refine LeO.ite ?_ ?_
   | refine LeO.bind ?_ (fun _ => ?_)
set_option maxHeartbeats 8000000 in
set_option maxRecDepth 100000 in
theorem spec_Levels.calls (k : Nat) (A0 : Option Addr) (c0 : Nat) (l0 : List Int) (A1 : Option Addr) (c1 : Nat) (l1 : List Int) (A2 : Option Addr) (c2 : Nat) (l2 : List Int) (a3 : Int) (r1 : List Int) (r2 : Bool) (w : World) (hr0 : Kd.C (Kd.int .i64) w A0 l0.length l0) (hc0 : l0.length ≤ c0) (hr1 : Kd.C (Kd.int .i64) w A1 l1.length l1) (hc1 : l1.length ≤ c1) (hr2 : Kd.C (Kd.int .i64) w A2 l2.length l2) (hc2 : l2.length ≤ c2) (h : spec_Levels.f k l0 l1 l2 a3 = some (r1, r2)) :
  Calls Try.prog 17 #[.slice A0 l0.length c0, .slice A1 l1.length c1, .slice A2 l2.length c2, .int .i64 a3] w fun e w' => ∃ v0_ : Value, e = .returned (.tuple #[v0_, .bool r2]) ∧ Kd.R (Kd.int .i64) 2 w' w.heap.size (fun _ => True) v0_ r1 ∧ Below w.heap.size w w' := by
 have HR0 := Aside0.mk hr0; have HC0 := Aside0.mk hc0; clear hr0 hc0; have HR1 := Aside0.mk hr1; have HC1 := Aside0.mk hc1; clear hr1 hc1; have HR2 := Aside0.mk hr2; have HC2 := Aside0.mk hc2; clear hr2 hc2
 have HB := Aside0.mk (Below.refl w.heap.size w)
 have H : ((some (([] : List Int) : List Int)).bind fun y232 => ((spec_l19Ok.f k l0).bind fun t235 => (if t235 = true then ((spec_l22LimitsOk.f k l1 l2 a3).bind fun t236 => (spec_Levels.j0 k l0 l1 l2 a3 y232 (!t236))) else (spec_Levels.j0 k l0 l1 l2 a3 y232 true)))) = some (r1, r2) := h
 clear h
 obtain ⟨y232, hy232⟩ : ∃ y_ : List Int, y_ = (([] : List Int)) := ⟨_, rfl⟩
 replace H : ((spec_l19Ok.f k l0).bind fun t235 => (if t235 = true then ((spec_l22LimitsOk.f k l1 l2 a3).bind fun t236 => (spec_Levels.j0 k l0 l1 l2 a3 y232 (!t236))) else (spec_Levels.j0 k l0 l1 l2 a3 y232 true))) = some (r1, r2) := by first | (rw [hy232]; with_reducible exact H) | (have H2_ := (Option.bind_some _ _).symm.trans H; rw [hy232]; with_reducible exact H2_) | (have H2_ := (Option.bind_some _ _).symm.trans H; with_reducible exact H2_) | with_reducible exact H | (rw [hy232]; exact H) | exact H
 have Ny232 := Aside0.mk hy232; clear hy232; have HC5 := Aside0.mk H; clear H
 go_enter Try.func17, Try.ntmps17
 go_upto_region 2 with (first | ((with_reducible refine gate_dst (N := 15) rfl ?_); refine Kd.R_lit (Kd.int .i64) _ 2 ?hg (N := 15) ?hd (xs := ([] : List Int)) (inner := []) (ok := fun _ => True) (okp := fun _ => True) ?hr ?hp (fun _ hk => hk) trivial (Below.refl _ _) (Nat.le_refl _) (by simp) ?_; (case hd => rfl); (case hg => rfl); (case hr => first | (go_simp; done) | (go_simp; rfl)); (case hp => exact (Reps.none _ _)); intro v233 w6 ho7 hb hg_ hnew_; clear hg_ hnew_; (first | rw [← Ny232.out] at ho7 | (simp only [Int.reduceToNat] at ho7; rw [← Ny232.out] at ho7)); have HO234 := rL_ ho7 HB; replace HB := bS_ HB hb; clear hb ho7))
 (try simp only [Act.put, List.setIfInBounds_toArray, List.set_cons_zero, List.set_cons_succ])
 go_cut [25] (fun v25 wc => ∃ (kq : Nat) (x25_4 : Bool), v25 = .bool x25_4 ∧ Aside0 (spec_Levels.j0 kq l0 l1 l2 a3 y232 x25_4 = some (r1, r2)) ∧ Aside0 (kq ≤ k) ∧ Aside0 (Kd.R (Kd.int .i64) 2 wc w.heap.size (fun _ => True) v233 y232) ∧ Aside0 (Below w.heap.size w wc))
 case first =>
  have H := HC5.out; clear HC5; replace H := Option.bind_eq_some_iff.mp H
  obtain ⟨t235, A80, H⟩ := H
  replace H : (if t235 = true then ((spec_l22LimitsOk.f k l1 l2 a3).bind fun t236 => (spec_Levels.j0 k l0 l1 l2 a3 y232 (!t236))) else (spec_Levels.j0 k l0 l1 l2 a3 y232 true)) = some (r1, r2) := H
  have A8 := Aside0.mk A80; clear A80
  by_cases c9 : t235 = true
  ·subst c9
   have H1 : ((spec_l22LimitsOk.f k l1 l2 a3).bind fun t236 => (spec_Levels.j0 k l0 l1 l2 a3 y232 (!t236))) = some (r1, r2) := by rw [if_pos rfl] at H; exact H
   clear H; have H := H1; clear H1; replace H := Option.bind_eq_some_iff.mp H
   obtain ⟨t236, A100, H⟩ := H
   replace H : (spec_Levels.j0 k l0 l1 l2 a3 y232 (!t236)) = some (r1, r2) := H
   have A10 := Aside0.mk A100; clear A100; have H' := Aside0.mk H; clear H
   go_wp2_with (first | ((with_reducible refine gate_callee (f := 29) rfl ?_); refine gL_ (some 17) Try.func29 #[.slice A0 l0.length c0] ?_; (with_reducible refine (spec_l19Ok.calls k _ _ l0 true _ ?side1 ?side2 A8.out).mono ?_); (case side1 => exact cB_ HR0 HB); (case side2 => exact HC0.out); rintro e w' ⟨rfl, ⟨nd, rfl⟩⟩; refine ⟨_, rfl, ?_⟩) | (go_at_call 38; (with_reducible refine (spec_l22LimitsOk.calls k _ _ l1 _ _ l2 a3 t236 _ ?side1 ?side2 ?side3 ?side4 A10.out).mono ?_); (case side1 => repeat (first | exact (Kd.C_below HR1.out (by repeat (first | (with_reducible first | exact HB.out | apply below_alloc | apply pw_below_drewN | apply below_drew1) | exact HB.out))) | (with_reducible refine Kd.C_alloc ?_ _) | (with_reducible refine Kd.C_drewN ?_ _) | (with_reducible refine Kd.C_drew ?_))); (case side2 => exact HC1.out); (case side3 => repeat (first | exact (Kd.C_below HR2.out (by repeat (first | (with_reducible first | exact HB.out | apply below_alloc | apply pw_below_drewN | apply below_drew1) | exact HB.out))) | (with_reducible refine Kd.C_alloc ?_ _) | (with_reducible refine Kd.C_drewN ?_ _) | (with_reducible refine Kd.C_drew ?_))); (case side4 => exact HC2.out); rintro e w' ⟨rfl, ⟨nd, rfl⟩⟩))
   go_meet
   case rel => exact ⟨_, (!t236), (by first | rfl | (simp; done) | (simp [*]; done)), H', ⟨by first | omega | exact Nat.le_refl _⟩, ⟨by (with_reducible repeat (first | apply Kd.R_alloc | apply Kd.R_drewN | apply Kd.R_drew)); exact HO234.out⟩, ⟨by repeat (first | (with_reducible first | exact HB.out | apply below_alloc | apply pw_below_drewN | apply below_drew1) | exact HB.out)⟩⟩
  ·replace c9 := Bool.eq_false_iff.mpr c9
   subst c9
   have H1 : (spec_Levels.j0 k l0 l1 l2 a3 y232 true) = some (r1, r2) := by rw [if_neg (show ¬ (false = true) by decide)] at H; exact H
   clear H; have H := H1; clear H1; have H' := Aside0.mk H; clear H
   go_wp2_with (first | ((with_reducible refine gate_callee (f := 29) rfl ?_); refine gL_ (some 17) Try.func29 #[.slice A0 l0.length c0] ?_; (with_reducible refine (spec_l19Ok.calls k _ _ l0 false _ ?side1 ?side2 A8.out).mono ?_); (case side1 => exact cB_ HR0 HB); (case side2 => exact HC0.out); rintro e w' ⟨rfl, ⟨nd, rfl⟩⟩; refine ⟨_, rfl, ?_⟩))
   go_meet
   case rel => exact ⟨_, (true), (by first | rfl | (simp; done) | (simp [*]; done)), H', ⟨by first | omega | exact Nat.le_refl _⟩, ⟨by (with_reducible repeat (first | apply Kd.R_alloc | apply Kd.R_drewN | apply Kd.R_drew)); exact HO234.out⟩, ⟨by repeat (first | (with_reducible first | exact HB.out | apply below_alloc | apply pw_below_drewN | apply below_drew1) | exact HB.out)⟩⟩
 case rest =>
  clear HC5; (try clear c1); (try clear c2); (try clear p2); (try clear c9)
  obtain ⟨kq, x25_4, rfl, HA, HJ4, HO_10, HB⟩ := hcut
  cases kq with
  | zero => exact absurd HA.out (by simp [spec_Levels.j0])
  | succ kj4 =>
   have H := HA.out; clear HA
   simp only [spec_Levels.j0] at H
   by_cases c11 : x25_4 = true
   ·subst c11
    have H1 : (some (y232, false)) = some (r1, r2) := by rw [if_pos rfl] at H; exact H
    clear H; have H := H1; clear H1
    simp only [Option.some.injEq, Prod.mk.injEq] at H
    obtain ⟨rfl, rfl⟩ := H
    go_wp2
    go_ret2
    exact ⟨_, by first | rfl | (simp [errW_none, errW_some] <;> rfl) | (simp [*, errW_none, errW_some] <;> rfl), by (with_reducible repeat (first | apply Kd.R_alloc | apply Kd.R_drewN | apply Kd.R_drew)); exact HO_10.out, by repeat (first | (with_reducible first | exact HB.out | apply below_alloc | apply pw_below_drewN | apply below_drew1) | exact HB.out)⟩
   ·replace c11 := Bool.eq_false_iff.mpr c11
    subst c11
    have H1 : (spec_Levels.l0 kj4 l0 l1 l2 a3 y232 0 0 0) = some (r1, r2) := by rw [if_neg (show ¬ (false = true) by decide)] at H; exact H
    clear H; have H := H1; clear H1; have H' := Aside0.mk H; clear H
    go_wp2
    go_loopg [10, 11, 12, 13] kj4 (fun kq v10 v11 v12 v13 w' => ∃ (x10_2 : List Int) (x11_2 : Int) (x12_2 : Int) (x13_2 : Int), v11 = .int .i64 x11_2 ∧ v12 = .int .i64 x12_2 ∧ v13 = .int .i64 x13_2 ∧ Aside0 (spec_Levels.l0 kq l0 l1 l2 a3 x10_2 x11_2 x12_2 x13_2 = some (r1, r2)) ∧ Aside0 (kq ≤ kj4) ∧ Aside0 (Kd.R (Kd.int .i64) 2 w' w.heap.size (fun _ => True) v10 x10_2) ∧ Aside0 (Below w.heap.size w w'))
    case atStart => exact ⟨(y232), (0), (0), (0), (by first | rfl | (simp; done) | (simp [*]; done)), (by first | rfl | (simp; done) | (simp [*]; done)), (by first | rfl | (simp; done) | (simp [*]; done)), H', ⟨Nat.le_refl _⟩, ⟨by (with_reducible repeat (first | apply Kd.R_alloc | apply Kd.R_drewN | apply Kd.R_drew)); exact HO_10.out⟩, ⟨by repeat (first | (with_reducible first | exact HB.out | apply below_alloc | apply pw_below_drewN | apply below_drew1) | exact HB.out)⟩⟩
    case round =>
     clear H'; (try clear c1); (try clear c2); (try clear p2); (try clear c9); (try clear c11); (try clear p2)
     obtain ⟨x10_2, x11_2, x12_2, x13_2, rfl, rfl, rfl, HA, HK2, HO_10, HB⟩ := hrel
     cases gk with
     | zero => exact absurd HA.out (by simp [spec_Levels.l0])
     | succ k2 =>
      have H := HA.out; clear HA
      simp only [spec_Levels.l0] at H
      by_cases c12 : x13_2 < (l0.length : Int)
      ·rw [if_pos c12] at H
       have c12b0 : decide (x13_2 < (l0.length : Int)) = true := decide_eq_true c12
       clear c12
       by_cases c13 : 0 ≤ x13_2
       ·rw [if_pos c13] at H
        have c13b0 : decide (0 ≤ x13_2) = true := decide_eq_true c13
        clear c13; replace H := Option.bind_eq_some_iff.mp H
        obtain ⟨t238, A140, H⟩ := H
        replace H : (if t238 > x11_2 then ((spec_l22Top.f k2 l1 (rd l0 x13_2)).bind fun t239 => (if x10_2.length < 17592186044416 then (spec_Levels.l0 k2 l0 l1 l2 a3 (x10_2 ++ [t239]) t239 0 (wrap64 (x13_2 + 1))) else (none))) else (if x11_2 > 0 then (if 0 ≤ (wrap64 (x11_2 - 1)) then (if (wrap64 (x11_2 - 1)) < (l2.length : Int) then (spec_Levels.j2 k2 l0 l1 l2 a3 x10_2 x11_2 x12_2 x13_2 (rd l0 x13_2) (decide ((rd l0 x13_2) < (rd l2 (wrap64 (x11_2 - 1)))))) else (none)) else (none)) else (spec_Levels.j2 k2 l0 l1 l2 a3 x10_2 x11_2 x12_2 x13_2 (rd l0 x13_2) false))) = some (r1, r2) := H
        have A14 := Aside0.mk A140; clear A140
        by_cases c15 : t238 > x11_2
        ·rw [if_pos c15] at H
         have c15b0 : decide (x11_2 < t238) = true := decide_eq_true c15
         clear c15; replace H := Option.bind_eq_some_iff.mp H
         obtain ⟨t239, A160, H⟩ := H
         replace H : (if x10_2.length < 17592186044416 then (spec_Levels.l0 k2 l0 l1 l2 a3 (x10_2 ++ [t239]) t239 0 (wrap64 (x13_2 + 1))) else (none)) = some (r1, r2) := H
         have A16 := Aside0.mk A160; clear A160
         by_cases c17 : x10_2.length < 17592186044416
         ·rw [if_pos c17] at H
          have LMc17 := Aside0.mk c17; clear c17
          obtain ⟨y240, hy240⟩ : ∃ y_ : List Int, y_ = (x10_2 ++ [t239]) := ⟨_, rfl⟩
          replace H : (spec_Levels.l0 k2 l0 l1 l2 a3 y240 t239 0 (wrap64 (x13_2 + 1))) = some (r1, r2) := by first | (rw [hy240]; with_reducible exact H) | (have H2_ := (Option.bind_some _ _).symm.trans H; rw [hy240]; with_reducible exact H2_) | (have H2_ := (Option.bind_some _ _).symm.trans H; with_reducible exact H2_) | with_reducible exact H | (rw [hy240]; exact H) | exact H
          have Ny240 := Aside0.mk hy240; clear hy240; have H' := Aside0.mk H; clear H
          have p237 : 0 ≤ (x13_2 : Int) := of_decide_eq_true (by first | (with_reducible assumption) | assumption)
          have q237 : x13_2 < (l0.length : Int) := of_decide_eq_true (by first | (with_reducible assumption) | assumption)
          obtain ⟨ad237, e237, hx237_0⟩ := Kd.at_int HR0.out x13_2 p237 q237
          cases e237
          replace hx237_0 := (HB.out.cell (World.block_lt_of_cell? w _ hx237_0)).trans hx237_0
          replace p237 := eq_true p237; replace q237 := eq_true q237
          go_wp2_with (first | ((with_reducible refine gate_callee (f := 39) rfl ?_); refine gL_ (some 40) Try.func39 #[.slice A1 l1.length c1, .int .i64 (rd l0 x13_2)] ?_; (with_reducible refine (spec_l22Top.calls k2 _ _ l1 (rd l0 x13_2) t238 _ ?side1 ?side2 A14.out).mono ?_); (case side1 => exact cB_ HR1 HB); (case side2 => exact HC1.out); rintro e w' ⟨rfl, ⟨nd, rfl⟩⟩; refine ⟨_, rfl, ?_⟩) | ((with_reducible refine gate_callee (f := 39) rfl ?_); refine gL_ (some 45) Try.func39 #[.slice A1 l1.length c1, .int .i64 (rd l0 x13_2)] ?_; (with_reducible refine (spec_l22Top.calls k2 _ _ l1 (rd l0 x13_2) t239 _ ?side1 ?side2 A16.out).mono ?_); (case side1 => repeat (first | exact (Kd.C_below HR1.out (by repeat (first | (with_reducible first | exact HB.out | apply below_alloc | apply pw_below_drewN | apply below_drew1) | exact HB.out))) | (with_reducible refine Kd.C_alloc ?_ _) | (with_reducible refine Kd.C_drewN ?_ _) | (with_reducible refine Kd.C_drew ?_))); (case side2 => exact HC1.out); rintro e w' ⟨rfl, ⟨nd, rfl⟩⟩; refine ⟨_, rfl, ?_⟩) | ((with_reducible refine gate_builtin (b := .append) (xs := #[.tmp 66, .tmp 68]) rfl ?_); at_builtin; refine Kd.R_append (Kd.int .i64) (w0 := w) w.heap.size rfl (.tmp 66) (.tmp 68) 24 2 (.int .i64 0) 8 rfl Try.underlying24 info2 rfl (by decide) (by omega) u10 x10_2 t239 [.int .i64 t239] (fun _ => True) (fun _ => False) rfl rfl ?aP (fun _ hk => hk.elim) ?aF ?aO ?aB ?aS ?aL ?_; (case aP => exact rfl); (case aB => exact (by repeat (first | (with_reducible first | exact HB.out | apply below_alloc | apply pw_below_drewN | apply below_drew1) | exact HB.out))); (case aF => exact (fun _ _ => trivial)); (case aO => exact (rT_ HO_10)); (case aS => exact (below_size (by repeat (first | (with_reducible first | exact HB.out | apply below_alloc | apply pw_below_drewN | apply below_drew1) | exact HB.out)))); (case aL => have := LMc17.out; omega); intro v241 w18 ho hb hg hat; rw [← Ny240.out] at ho; replace HB := Aside0.mk (hb); have HO242 := Aside0.mk (ho); clear HO_10; clear ho hb hg hat))
          go_roundg k2
          case measure => have := HJ4.out; have := HK2.out; omega
          case rel => exact ⟨(y240), (t239), (0), (wrap64 (x13_2 + 1)), (by first | rfl | (simp; done) | (simp [*]; done)), (by first | rfl | (simp; done) | (simp [*]; done)), (by first | rfl | (simp; done) | (simp [*]; done)), H', ⟨by have := HJ4.out; have := HK2.out; omega⟩, ⟨by (with_reducible repeat (first | apply Kd.R_alloc | apply Kd.R_drewN | apply Kd.R_drew)); exact HO242.out⟩, ⟨by repeat (first | (with_reducible first | exact HB.out | apply below_alloc | apply pw_below_drewN | apply below_drew1) | exact HB.out)⟩⟩
         ·rw [if_neg c17] at H
          exact absurd H (by simp)
        ·rw [if_neg c15] at H
         have c15b0 : decide (x11_2 < t238) = false := decide_eq_false c15
         clear c15; have HC19 := Aside0.mk H; clear H
         have p237 : 0 ≤ (x13_2 : Int) := of_decide_eq_true (by first | (with_reducible assumption) | assumption)
         have q237 : x13_2 < (l0.length : Int) := of_decide_eq_true (by first | (with_reducible assumption) | assumption)
         obtain ⟨ad237, e237, hx237_0⟩ := Kd.at_int HR0.out x13_2 p237 q237
         cases e237
         replace hx237_0 := (HB.out.cell (World.block_lt_of_cell? w _ hx237_0)).trans hx237_0
         replace p237 := eq_true p237; replace q237 := eq_true q237
         go_upto_region 14 with (first | ((with_reducible refine gate_callee (f := 39) rfl ?_); refine gL_ (some 40) Try.func39 #[.slice A1 l1.length c1, .int .i64 (rd l0 x13_2)] ?_; (with_reducible refine (spec_l22Top.calls k2 _ _ l1 (rd l0 x13_2) t238 _ ?side1 ?side2 A14.out).mono ?_); (case side1 => exact cB_ HR1 HB); (case side2 => exact HC1.out); rintro e w' ⟨rfl, ⟨nd, rfl⟩⟩; refine ⟨_, rfl, ?_⟩))
         (try simp only [Act.put, List.setIfInBounds_toArray, List.set_cons_zero, List.set_cons_succ])
         go_cut [46] (fun v46 wc => ∃ (kq : Nat) (x46_18 : Bool), v46 = .bool x46_18 ∧ Aside0 (spec_Levels.j2 kq l0 l1 l2 a3 x10_2 x11_2 x12_2 x13_2 (rd l0 x13_2) x46_18 = some (r1, r2)) ∧ Aside0 (kq ≤ k2) ∧ Aside0 (Kd.R (Kd.int .i64) 2 wc w.heap.size (fun _ => True) u10 x10_2) ∧ Aside0 (Below w.heap.size w wc))
         case first =>
          have H := HC19.out; clear HC19
          by_cases c20 : x11_2 > 0
          ·rw [if_pos c20] at H
           have c20b0 : decide (0 < x11_2) = true := decide_eq_true c20
           clear c20
           (first | rw [c20b0] | (simp only [i64_w, i32_w]; rw [c20b0]) | skip)
           obtain ⟨ji21, hji21⟩ : ∃ j_ : Int, (wrap64 (x11_2 - 1)) = j_ := ⟨_, rfl⟩
           replace H : (if 0 ≤ (ji21) then (if (ji21) < (l2.length : Int) then (spec_Levels.j2 k2 l0 l1 l2 a3 x10_2 x11_2 x12_2 x13_2 (rd l0 x13_2) (decide ((rd l0 x13_2) < (rd l2 (ji21))))) else (none)) else (none)) = some (r1, r2) := by first | (rw [hji21] at H; exact H) | (simp only [hji21] at H ⊢; exact H)
           have hji21w : (IntKind.i64.wrap (x11_2 - 1)) = ji21 := (i64_w _).trans hji21
           by_cases c22 : 0 ≤ (ji21)
           ·rw [if_pos c22] at H
            have c22b0 : decide (0 ≤ (ji21)) = true := decide_eq_true c22
            clear c22
            by_cases c23 : (ji21) < (l2.length : Int)
            ·rw [if_pos c23] at H
             have c23b0 : decide ((ji21) < (l2.length : Int)) = true := decide_eq_true c23
             clear c23; have H' := Aside0.mk H; clear H
             have p243 : 0 ≤ ((ji21) : Int) := of_decide_eq_true (by first | (with_reducible assumption) | assumption)
             have q243 : (ji21) < (l2.length : Int) := of_decide_eq_true (by first | (with_reducible assumption) | assumption)
             obtain ⟨ad243, e243, hx243_0⟩ := Kd.at_int HR2.out (ji21) p243 q243
             cases e243
             replace hx243_0 := (HB.out.cell (World.block_lt_of_cell? w _ hx243_0)).trans hx243_0
             replace p243 := eq_true p243; replace q243 := eq_true q243
             go_wp2
             go_meet
             case rel => exact ⟨_, (decide ((rd l0 x13_2) < (rd l2 (ji21)))), (by first | rfl | (simp; done) | (simp only [← hji21] <;> (first | rfl | simp)) | (simp [*]; done)), H', ⟨by have := HJ4.out; have := HK2.out; first | omega | exact Nat.le_refl _⟩, ⟨by (with_reducible repeat (first | apply Kd.R_alloc | apply Kd.R_drewN | apply Kd.R_drew)); exact HO_10.out⟩, ⟨by repeat (first | (with_reducible first | exact HB.out | apply below_alloc | apply pw_below_drewN | apply below_drew1) | exact HB.out)⟩⟩
            ·rw [if_neg c23] at H
             exact absurd H (by simp)
           ·rw [if_neg c22] at H
            exact absurd H (by simp)
          ·rw [if_neg c20] at H
           have c20b0 : decide (0 < x11_2) = false := decide_eq_false c20
           clear c20
           (first | rw [c20b0] | (simp only [i64_w, i32_w]; rw [c20b0]) | skip)
           have H' := Aside0.mk H; clear H
           go_wp2
           go_meet
           case rel => exact ⟨_, (false), (by first | rfl | (simp; done) | (simp [*]; done)), H', ⟨by have := HJ4.out; have := HK2.out; first | omega | exact Nat.le_refl _⟩, ⟨by (with_reducible repeat (first | apply Kd.R_alloc | apply Kd.R_drewN | apply Kd.R_drew)); exact HO_10.out⟩, ⟨by repeat (first | (with_reducible first | exact HB.out | apply below_alloc | apply pw_below_drewN | apply below_drew1) | exact HB.out)⟩⟩
         case rest =>
          clear HC19; (try clear c1); (try clear c2); (try clear p2); (try clear q2); (try clear hx2); (try clear c3); (try clear p6); (try clear c9); (try clear c11); (try clear c12); (try clear c12b0); (try clear c13); (try clear c13b0); (try clear c15); (try clear c15b0); (try clear c17); (try clear c20); (try clear c20b0); (try clear c22); (try clear c22b0); (try clear c23); (try clear c23b0); (try clear p23); (try clear q23); (try clear hx23); (try clear hx237_0); (try clear hx243_0); (try clear p2); (try clear p237); (try clear p243); (try clear q237); (try clear q243)
          obtain ⟨kq, x46_18, rfl, HA, HJ18, HO_10, HB⟩ := hcut
          cases kq with
          | zero => exact absurd HA.out (by simp [spec_Levels.j2])
          | succ kj18 =>
           have H := HA.out; clear HA
           simp only [spec_Levels.j2] at H
           by_cases c24 : x46_18 = true
           ·subst c24
            have H1 : (if (wrap64 (x12_2 + 1)) = a3 then ((spec_l22Top.f kj18 l2 (rd l0 x13_2)).bind fun t244 => (if x10_2.length < 17592186044416 then (spec_Levels.l0 kj18 l0 l1 l2 a3 (x10_2 ++ [t244]) t244 0 (wrap64 (x13_2 + 1))) else (none))) else (if x10_2.length < 17592186044416 then (spec_Levels.l0 kj18 l0 l1 l2 a3 (x10_2 ++ [x11_2]) x11_2 (wrap64 (x12_2 + 1)) (wrap64 (x13_2 + 1))) else (none))) = some (r1, r2) := by rw [if_pos rfl] at H; exact H
            clear H; have H := H1; clear H1
            by_cases c25 : (wrap64 (x12_2 + 1)) = a3
            ·rw [if_pos c25] at H
             have c25b0 : ((wrap64 (x12_2 + 1)) == a3) = true := beq_iff_eq.mpr c25
             have c25b1 : ((wrap64 (x12_2 + 1)) != a3) = false := bne_eq_false_iff_eq.mpr c25
             clear c25; replace H := Option.bind_eq_some_iff.mp H
             obtain ⟨t244, A260, H⟩ := H
             replace H : (if x10_2.length < 17592186044416 then (spec_Levels.l0 kj18 l0 l1 l2 a3 (x10_2 ++ [t244]) t244 0 (wrap64 (x13_2 + 1))) else (none)) = some (r1, r2) := H
             have A26 := Aside0.mk A260; clear A260
             by_cases c27 : x10_2.length < 17592186044416
             ·rw [if_pos c27] at H
              have LMc27 := Aside0.mk c27; clear c27
              obtain ⟨y245, hy245⟩ : ∃ y_ : List Int, y_ = (x10_2 ++ [t244]) := ⟨_, rfl⟩
              replace H : (spec_Levels.l0 kj18 l0 l1 l2 a3 y245 t244 0 (wrap64 (x13_2 + 1))) = some (r1, r2) := by first | (rw [hy245]; with_reducible exact H) | (have H2_ := (Option.bind_some _ _).symm.trans H; rw [hy245]; with_reducible exact H2_) | (have H2_ := (Option.bind_some _ _).symm.trans H; with_reducible exact H2_) | with_reducible exact H | (rw [hy245]; exact H) | exact H
              have Ny245 := Aside0.mk hy245; clear hy245; have H' := Aside0.mk H; clear H
              go_wp2_with (first | ((with_reducible refine gate_callee (f := 39) rfl ?_); refine gL_ (some 65) Try.func39 #[.slice A2 l2.length c2, .int .i64 (rd l0 x13_2)] ?_; (with_reducible refine (spec_l22Top.calls kj18 _ _ l2 (rd l0 x13_2) t244 _ ?side1 ?side2 A26.out).mono ?_); (case side1 => exact cB_ HR2 HB); (case side2 => exact HC2.out); rintro e w' ⟨rfl, ⟨nd, rfl⟩⟩; refine ⟨_, rfl, ?_⟩) | ((with_reducible refine gate_builtin (b := .append) (xs := #[.tmp 66, .tmp 68]) rfl ?_); at_builtin; refine Kd.R_append (Kd.int .i64) (w0 := w) w.heap.size rfl (.tmp 66) (.tmp 68) 24 2 (.int .i64 0) 8 rfl Try.underlying24 info2 rfl (by decide) (by omega) u10 x10_2 t244 [.int .i64 t244] (fun _ => True) (fun _ => False) rfl rfl ?aP (fun _ hk => hk.elim) ?aF ?aO ?aB ?aS ?aL ?_; (case aP => exact rfl); (case aB => exact (by repeat (first | (with_reducible first | exact HB.out | apply below_alloc | apply pw_below_drewN | apply below_drew1) | exact HB.out))); (case aF => exact (fun _ _ => trivial)); (case aO => exact (rT_ HO_10)); (case aS => exact (below_size (by repeat (first | (with_reducible first | exact HB.out | apply below_alloc | apply pw_below_drewN | apply below_drew1) | exact HB.out)))); (case aL => have := LMc27.out; omega); intro v246 w28 ho hb hg hat; rw [← Ny245.out] at ho; replace HB := Aside0.mk (hb); have HO247 := Aside0.mk (ho); clear HO_10; clear ho hb hg hat))
              go_roundg kj18
              case measure => have := HJ4.out; have := HK2.out; have := HJ18.out; omega
              case rel => exact ⟨(y245), (t244), (0), (wrap64 (x13_2 + 1)), (by first | rfl | (simp; done) | (simp [*]; done)), (by first | rfl | (simp; done) | (simp [*]; done)), (by first | rfl | (simp; done) | (simp [*]; done)), H', ⟨by have := HJ4.out; have := HK2.out; have := HJ18.out; omega⟩, ⟨by (with_reducible repeat (first | apply Kd.R_alloc | apply Kd.R_drewN | apply Kd.R_drew)); exact HO247.out⟩, ⟨by repeat (first | (with_reducible first | exact HB.out | apply below_alloc | apply pw_below_drewN | apply below_drew1) | exact HB.out)⟩⟩
             ·rw [if_neg c27] at H
              exact absurd H (by simp)
            ·rw [if_neg c25] at H
             have c25b0 : ((wrap64 (x12_2 + 1)) == a3) = false := beq_eq_false_iff_ne.mpr c25
             have c25b1 : ((wrap64 (x12_2 + 1)) != a3) = true := bne_iff_ne.mpr c25
             by_cases c29 : x10_2.length < 17592186044416
             ·rw [if_pos c29] at H
              have LMc29 := Aside0.mk c29; clear c29
              obtain ⟨y248, hy248⟩ : ∃ y_ : List Int, y_ = (x10_2 ++ [x11_2]) := ⟨_, rfl⟩
              replace H : (spec_Levels.l0 kj18 l0 l1 l2 a3 y248 x11_2 (wrap64 (x12_2 + 1)) (wrap64 (x13_2 + 1))) = some (r1, r2) := by first | (rw [hy248]; with_reducible exact H) | (have H2_ := (Option.bind_some _ _).symm.trans H; rw [hy248]; with_reducible exact H2_) | (have H2_ := (Option.bind_some _ _).symm.trans H; with_reducible exact H2_) | with_reducible exact H | (rw [hy248]; exact H) | exact H
              have Ny248 := Aside0.mk hy248; clear hy248; have H' := Aside0.mk H; clear H
              go_wp2_with (first | ((with_reducible refine gate_builtin (b := .append) (xs := #[.tmp 66, .tmp 68]) rfl ?_); at_builtin; refine Kd.R_append (Kd.int .i64) (w0 := w) w.heap.size rfl (.tmp 66) (.tmp 68) 24 2 (.int .i64 0) 8 rfl Try.underlying24 info2 rfl (by decide) (by omega) u10 x10_2 x11_2 [.int .i64 x11_2] (fun _ => True) (fun _ => False) rfl rfl ?aP (fun _ hk => hk.elim) ?aF ?aO ?aB ?aS ?aL ?_; (case aP => exact rfl); (case aB => exact (by repeat (first | (with_reducible first | exact HB.out | apply below_alloc | apply pw_below_drewN | apply below_drew1) | exact HB.out))); (case aF => exact (fun _ _ => trivial)); (case aO => exact (rT_ HO_10)); (case aS => exact (below_size (by repeat (first | (with_reducible first | exact HB.out | apply below_alloc | apply pw_below_drewN | apply below_drew1) | exact HB.out)))); (case aL => have := LMc29.out; omega); intro v249 w30 ho hb hg hat; rw [← Ny248.out] at ho; replace HB := Aside0.mk (hb); have HO250 := Aside0.mk (ho); clear HO_10; clear ho hb hg hat))
              go_roundg kj18
              case measure => have := HJ4.out; have := HK2.out; have := HJ18.out; omega
              case rel => exact ⟨(y248), (x11_2), (wrap64 (x12_2 + 1)), (wrap64 (x13_2 + 1)), (by first | rfl | (simp; done) | (simp [*]; done)), (by first | rfl | (simp; done) | (simp [*]; done)), (by first | rfl | (simp; done) | (simp [*]; done)), H', ⟨by have := HJ4.out; have := HK2.out; have := HJ18.out; omega⟩, ⟨by (with_reducible repeat (first | apply Kd.R_alloc | apply Kd.R_drewN | apply Kd.R_drew)); exact HO250.out⟩, ⟨by repeat (first | (with_reducible first | exact HB.out | apply below_alloc | apply pw_below_drewN | apply below_drew1) | exact HB.out)⟩⟩
             ·rw [if_neg c29] at H
              exact absurd H (by simp)
           ·replace c24 := Bool.eq_false_iff.mpr c24
            subst c24
            have H1 : (if x10_2.length < 17592186044416 then (spec_Levels.l0 kj18 l0 l1 l2 a3 (x10_2 ++ [x11_2]) x11_2 0 (wrap64 (x13_2 + 1))) else (none)) = some (r1, r2) := by rw [if_neg (show ¬ (false = true) by decide)] at H; exact H
            clear H; have H := H1; clear H1
            by_cases c31 : x10_2.length < 17592186044416
            ·rw [if_pos c31] at H
             have LMc31 := Aside0.mk c31; clear c31
             obtain ⟨y251, hy251⟩ : ∃ y_ : List Int, y_ = (x10_2 ++ [x11_2]) := ⟨_, rfl⟩
             replace H : (spec_Levels.l0 kj18 l0 l1 l2 a3 y251 x11_2 0 (wrap64 (x13_2 + 1))) = some (r1, r2) := by first | (rw [hy251]; with_reducible exact H) | (have H2_ := (Option.bind_some _ _).symm.trans H; rw [hy251]; with_reducible exact H2_) | (have H2_ := (Option.bind_some _ _).symm.trans H; with_reducible exact H2_) | with_reducible exact H | (rw [hy251]; exact H) | exact H
             have Ny251 := Aside0.mk hy251; clear hy251; have H' := Aside0.mk H; clear H
             go_wp2_with (first | ((with_reducible refine gate_builtin (b := .append) (xs := #[.tmp 66, .tmp 68]) rfl ?_); at_builtin; refine Kd.R_append (Kd.int .i64) (w0 := w) w.heap.size rfl (.tmp 66) (.tmp 68) 24 2 (.int .i64 0) 8 rfl Try.underlying24 info2 rfl (by decide) (by omega) u10 x10_2 x11_2 [.int .i64 x11_2] (fun _ => True) (fun _ => False) rfl rfl ?aP (fun _ hk => hk.elim) ?aF ?aO ?aB ?aS ?aL ?_; (case aP => exact rfl); (case aB => exact (by repeat (first | (with_reducible first | exact HB.out | apply below_alloc | apply pw_below_drewN | apply below_drew1) | exact HB.out))); (case aF => exact (fun _ _ => trivial)); (case aO => exact (rT_ HO_10)); (case aS => exact (below_size (by repeat (first | (with_reducible first | exact HB.out | apply below_alloc | apply pw_below_drewN | apply below_drew1) | exact HB.out)))); (case aL => have := LMc31.out; omega); intro v252 w32 ho hb hg hat; rw [← Ny251.out] at ho; replace HB := Aside0.mk (hb); have HO253 := Aside0.mk (ho); clear HO_10; clear ho hb hg hat))
             go_roundg kj18
             case measure => have := HJ4.out; have := HK2.out; have := HJ18.out; omega
             case rel => exact ⟨(y251), (x11_2), (0), (wrap64 (x13_2 + 1)), (by first | rfl | (simp; done) | (simp [*]; done)), (by first | rfl | (simp; done) | (simp [*]; done)), (by first | rfl | (simp; done) | (simp [*]; done)), H', ⟨by have := HJ4.out; have := HK2.out; have := HJ18.out; omega⟩, ⟨by (with_reducible repeat (first | apply Kd.R_alloc | apply Kd.R_drewN | apply Kd.R_drew)); exact HO253.out⟩, ⟨by repeat (first | (with_reducible first | exact HB.out | apply below_alloc | apply pw_below_drewN | apply below_drew1) | exact HB.out)⟩⟩
            ·rw [if_neg c31] at H
             exact absurd H (by simp)
       ·rw [if_neg c13] at H
        exact absurd H (by simp)
      ·rw [if_neg c12] at H
       have c12b0 : decide (x13_2 < (l0.length : Int)) = false := decide_eq_false c12
       clear c12
       simp only [Option.some.injEq, Prod.mk.injEq] at H
       obtain ⟨rfl, rfl⟩ := H
       go_wp2
       go_ret2
       exact ⟨_, by first | rfl | (simp [errW_none, errW_some] <;> rfl) | (simp [*, errW_none, errW_some] <;> rfl), by (with_reducible repeat (first | apply Kd.R_alloc | apply Kd.R_drewN | apply Kd.R_drew)); exact HO_10.out, by repeat (first | (with_reducible first | exact HB.out | apply below_alloc | apply pw_below_drewN | apply below_drew1) | exact HB.out)⟩

/-! ### impl_in: function 34 -/
def impl_in.f (a0 : Int) (a1 : Int) (a2 : Int) : Option (Bool) := if a0 ≥ a1 then (some (decide (a0 ≤ a2))) else (some false)
set_option maxHeartbeats 8000000 in
set_option maxRecDepth 100000 in
theorem impl_in.calls (a0 : Int) (a1 : Int) (a2 : Int) (r : Bool) (w : World) (h : impl_in.f a0 a1 a2 = some r) :
  Calls Try.prog 34 #[.int .i64 a0, .int .i64 a1, .int .i64 a2] w fun e w' => e = .returned (.bool r) ∧ Drawn0 w w' := by
 have H : (if a0 ≥ a1 then (some (decide (a0 ≤ a2))) else (some false)) = some r := h
 clear h
 by_cases c4 : a0 ≥ a1
 ·rw [if_pos c4] at H
  have c4b0 : decide (a1 ≤ a0) = true := decide_eq_true c4
  clear c4
  obtain rfl := Option.some.inj H
  go_enter Try.func34, Try.ntmps34
  go_wp2
  go_ret
  exact ⟨by first | rfl | (simp; done) | (simp [*]; done), by repeat (first | exact Drawn0.refl _ | apply Drawn0.step)⟩
 ·rw [if_neg c4] at H
  have c4b0 : decide (a1 ≤ a0) = false := decide_eq_false c4
  clear c4
  obtain rfl := Option.some.inj H
  go_enter Try.func34, Try.ntmps34
  go_wp2
  go_ret
  exact ⟨by first | rfl | (simp; done) | (simp [*]; done), by repeat (first | exact Drawn0.refl _ | apply Drawn0.step)⟩

/-! ### impl_each: function 40 -/
def impl_each.l0 : Nat → Int → Int → List Int → Int → Int → Option (Bool)
 | 0, _, _, _, _, _ => none
 | k + 1, x2, x3, x15, x16, x17 => if x17 < x16 then (if 0 ≤ x17 then (if x17 < (x15.length : Int) then ((impl_in.f (rd x15 x17) x2 x3).bind fun t255 => (if t255 = true then (impl_each.l0 k x2 x3 x15 x16 (wrap64 (x17 + 1))) else (some false))) else (none)) else (none)) else (some true)
def impl_each.f (k : Nat) (l0 : List Int) (a1 : Int) (a2 : Int) (a3 : Int) : Option (Bool) := if (l0.length : Int) = a1 then (impl_each.l0 k a2 a3 l0 (l0.length : Int) 0) else (some false)
theorem impl_each.mono_l : ∀ k, (∀ y0 y1 y2 y3 y4, LeO (impl_each.l0 k y0 y1 y2 y3 y4) (impl_each.l0 (k + 1) y0 y1 y2 y3 y4))
 | 0 => fun _ _ _ _ _ r h => by simp [impl_each.l0] at h
 | k + 1 => by
  have ih0 := impl_each.mono_l k
  ·intro y0 y1 y2 y3 y4
   unfold impl_each.l0
   repeat' first
   | (with_reducible exact ih0 _ _ _ _ _)
   | (with_reducible exact LeO.refl _)
   | (with_reducible exact LeO.none _)
   | (with_reducible refine LeO.ite ?_ ?_)
   | (with_reducible refine LeO.bind ?_ (fun _ => ?_))
   | exact ih0 _ _ _ _ _
   | exact LeO.none _
   | refine LeO.ite ?_ ?_
   | refine LeO.bind ?_ (fun _ => ?_)
theorem impl_each.mono : ∀ a0 a1 a2 a3 k, LeO (impl_each.f k a0 a1 a2 a3) (impl_each.f (k + 1) a0 a1 a2 a3) := by
 intro a0 a1 a2 a3 k
 have ih0 := impl_each.mono_l k
 unfold impl_each.f
 repeat' first
   | (with_reducible exact ih0 _ _ _ _ _)
   | (with_reducible exact LeO.refl _)
   | (with_reducible exact LeO.none _)
   | (with_reducible refine LeO.ite ?_ ?_)
   | (with_reducible refine LeO.bind ?_ (fun _ => ?_))
   | exact ih0 _ _ _ _ _
   | exact LeO.none _
   | refine LeO.ite ?_ ?_
   | refine LeO.bind ?_ (fun _ => ?_)
set_option maxHeartbeats 8000000 in
set_option maxRecDepth 100000 in
theorem impl_each.calls (k : Nat) (A0 : Option Addr) (c0 : Nat) (l0 : List Int) (a1 : Int) (a2 : Int) (a3 : Int) (r : Bool) (w : World) (hr0 : Kd.C (Kd.int .i64) w A0 l0.length l0) (hc0 : l0.length ≤ c0) (h : impl_each.f k l0 a1 a2 a3 = some r) :
  Calls Try.prog 40 #[.slice A0 l0.length c0, .int .i64 a1, .int .i64 a2, .int .i64 a3] w fun e w' => e = .returned (.bool r) ∧ Drawn0 w w' := by
 have HR0 := Aside0.mk hr0; have HC0 := Aside0.mk hc0; clear hr0 hc0
 have H : (if (l0.length : Int) = a1 then (impl_each.l0 k a2 a3 l0 (l0.length : Int) 0) else (some false)) = some r := h
 clear h
 by_cases c5 : (l0.length : Int) = a1
 ·rw [if_pos c5] at H
  have c5b0 : ((l0.length : Int) == a1) = true := beq_iff_eq.mpr c5
  have c5b1 : ((l0.length : Int) != a1) = false := bne_eq_false_iff_eq.mpr c5
  clear c5; have H' := Aside0.mk H; clear H
  go_enter Try.func40, Try.ntmps40
  go_wp2
  go_loopg [17] k (fun kq v17 w' => ∃ (x17_1 : Int), v17 = .int .i64 x17_1 ∧ Aside0 (impl_each.l0 kq a2 a3 l0 (l0.length : Int) x17_1 = some r) ∧ Aside0 (kq ≤ k) ∧ Drawn0 w w')
  case atStart => exact ⟨(0), (by first | rfl | (simp; done) | (simp [*]; done)), H', ⟨Nat.le_refl _⟩, by repeat (first | exact Drawn0.refl _ | apply Drawn0.step)⟩
  case round =>
   clear H'; (try clear p2); (try clear c4); (try clear c5); (try clear c5b0); (try clear c5b1)
   obtain ⟨x17_1, rfl, HA, HK1, ⟨m1, rfl⟩⟩ := hrel
   cases gk with
   | zero => exact absurd HA.out (by simp [impl_each.l0])
   | succ k1 =>
    have H := HA.out; clear HA
    simp only [impl_each.l0] at H
    by_cases c6 : x17_1 < (l0.length : Int)
    ·rw [if_pos c6] at H
     have c6b0 : decide (x17_1 < (l0.length : Int)) = true := decide_eq_true c6
     clear c6
     by_cases c7 : 0 ≤ x17_1
     ·rw [if_pos c7] at H
      have c7b0 : decide (0 ≤ x17_1) = true := decide_eq_true c7
      clear c7
      by_cases c8 : x17_1 < (l0.length : Int)
      ·rw [if_pos c8] at H
       have c8b0 : decide (x17_1 < (l0.length : Int)) = true := decide_eq_true c8
       clear c8; replace H := Option.bind_eq_some_iff.mp H
       obtain ⟨t255, A90, H⟩ := H
       replace H : (if t255 = true then (impl_each.l0 k1 a2 a3 l0 (l0.length : Int) (wrap64 (x17_1 + 1))) else (some false)) = some r := H
       have A9 := Aside0.mk A90; clear A90
       by_cases c10 : t255 = true
       ·subst c10
        have H1 : (impl_each.l0 k1 a2 a3 l0 (l0.length : Int) (wrap64 (x17_1 + 1))) = some r := by rw [if_pos rfl] at H; exact H
        clear H; have H := H1; clear H1; have H' := Aside0.mk H; clear H
        have p254 : 0 ≤ (x17_1 : Int) := of_decide_eq_true (by first | (with_reducible assumption) | assumption)
        have q254 : x17_1 < (l0.length : Int) := of_decide_eq_true (by first | (with_reducible assumption) | assumption)
        obtain ⟨ad254, e254, hx254_0⟩ := Kd.at_int HR0.out x17_1 p254 q254
        cases e254
        replace p254 := eq_true p254; replace q254 := eq_true q254
        go_wp2_with (first | ((with_reducible refine gate_callee (f := 34) rfl ?_); refine gL_ (some 24) Try.func34 #[.int .i64 (rd l0 x17_1), .int .i64 a2, .int .i64 a3] ?_; (with_reducible refine (impl_in.calls (rd l0 x17_1) a2 a3 true _ A9.out).mono ?_); rintro e w' ⟨rfl, ⟨nd, rfl⟩⟩; refine ⟨_, rfl, ?_⟩))
        go_roundg k1
        case measure => have := HK1.out; omega
        case rel => exact ⟨(wrap64 (x17_1 + 1)), (by first | rfl | (simp; done) | (simp [*]; done)), H', ⟨by have := HK1.out; omega⟩, by repeat (first | exact Drawn0.refl _ | apply Drawn0.step)⟩
       ·replace c10 := Bool.eq_false_iff.mpr c10
        subst c10
        have H1 : (some false) = some r := by rw [if_neg (show ¬ (false = true) by decide)] at H; exact H
        clear H; have H := H1; clear H1
        obtain rfl := Option.some.inj H
        have p254 : 0 ≤ (x17_1 : Int) := of_decide_eq_true (by first | (with_reducible assumption) | assumption)
        have q254 : x17_1 < (l0.length : Int) := of_decide_eq_true (by first | (with_reducible assumption) | assumption)
        obtain ⟨ad254, e254, hx254_0⟩ := Kd.at_int HR0.out x17_1 p254 q254
        cases e254
        replace p254 := eq_true p254; replace q254 := eq_true q254
        go_wp2_with (first | ((with_reducible refine gate_callee (f := 34) rfl ?_); refine gL_ (some 24) Try.func34 #[.int .i64 (rd l0 x17_1), .int .i64 a2, .int .i64 a3] ?_; (with_reducible refine (impl_in.calls (rd l0 x17_1) a2 a3 false _ A9.out).mono ?_); rintro e w' ⟨rfl, ⟨nd, rfl⟩⟩; refine ⟨_, rfl, ?_⟩))
        go_ret
        exact ⟨by first | rfl | (simp; done) | (simp [*]; done), by repeat (first | exact Drawn0.refl _ | apply Drawn0.step)⟩
      ·rw [if_neg c8] at H
       exact absurd H (by simp)
     ·rw [if_neg c7] at H
      exact absurd H (by simp)
    ·rw [if_neg c6] at H
     have c6b0 : decide (x17_1 < (l0.length : Int)) = false := decide_eq_false c6
     clear c6
     obtain rfl := Option.some.inj H
     go_wp2
     go_ret
     exact ⟨by first | rfl | (simp; done) | (simp [*]; done), by repeat (first | exact Drawn0.refl _ | apply Drawn0.step)⟩
 ·rw [if_neg c5] at H
  have c5b0 : ((l0.length : Int) == a1) = false := beq_eq_false_iff_ne.mpr c5
  have c5b1 : ((l0.length : Int) != a1) = true := bne_iff_ne.mpr c5
  obtain rfl := Option.some.inj H
  go_enter Try.func40, Try.ntmps40
  go_wp2
  go_ret
  exact ⟨by first | rfl | (simp; done) | (simp [*]; done), by repeat (first | exact Drawn0.refl _ | apply Drawn0.step)⟩

/-! ### impl_seriesOk: function 32 -/
def impl_seriesOk.f (k : Nat) (l0 : List Int) : Option (Bool) := (impl_in.f (l0.length : Int) 1 500).bind fun t256 => (if t256 = true then ((impl_each.f k l0 (l0.length : Int) (-100000) 100000).bind fun t257 => (some t257)) else (some false))
theorem impl_seriesOk.mono : ∀ a0 k, LeO (impl_seriesOk.f k a0) (impl_seriesOk.f (k + 1) a0) := by
 intro a0 k
 unfold impl_seriesOk.f
 repeat' first
   | (with_reducible exact impl_each.mono _ _ _ _ _)
   | (with_reducible exact LeO.refl _)
   | (with_reducible exact LeO.none _)
   | (with_reducible refine LeO.ite ?_ ?_)
   | (with_reducible refine LeO.bind ?_ (fun _ => ?_))
   | exact impl_each.mono _ _ _ _ _
   | exact LeO.none _
   | refine LeO.ite ?_ ?_
   | refine LeO.bind ?_ (fun _ => ?_)
set_option maxHeartbeats 8000000 in
set_option maxRecDepth 100000 in
theorem impl_seriesOk.calls (k : Nat) (A0 : Option Addr) (c0 : Nat) (l0 : List Int) (r : Bool) (w : World) (hr0 : Kd.C (Kd.int .i64) w A0 l0.length l0) (hc0 : l0.length ≤ c0) (h : impl_seriesOk.f k l0 = some r) :
  Calls Try.prog 32 #[.slice A0 l0.length c0] w fun e w' => e = .returned (.bool r) ∧ Drawn0 w w' := by
 have HR0 := Aside0.mk hr0; have HC0 := Aside0.mk hc0; clear hr0 hc0
 have H : ((impl_in.f (l0.length : Int) 1 500).bind fun t256 => (if t256 = true then ((impl_each.f k l0 (l0.length : Int) (-100000) 100000).bind fun t257 => (some t257)) else (some false))) = some r := h
 clear h; replace H := Option.bind_eq_some_iff.mp H
 obtain ⟨t256, A20, H⟩ := H
 replace H : (if t256 = true then ((impl_each.f k l0 (l0.length : Int) (-100000) 100000).bind fun t257 => (some t257)) else (some false)) = some r := H
 have A2 := Aside0.mk A20; clear A20
 by_cases c3 : t256 = true
 ·subst c3
  have H1 : ((impl_each.f k l0 (l0.length : Int) (-100000) 100000).bind fun t257 => (some t257)) = some r := by rw [if_pos rfl] at H; exact H
  clear H; have H := H1; clear H1; replace H := Option.bind_eq_some_iff.mp H
  obtain ⟨t257, A40, H⟩ := H
  replace H : (some t257) = some r := H
  have A4 := Aside0.mk A40; clear A40
  obtain rfl := Option.some.inj H
  go_enter Try.func32, Try.ntmps32
  go_wp2_with (first | ((with_reducible refine gate_callee (f := 34) rfl ?_); refine gL_ (some 5) Try.func34 #[.int .i64 (l0.length : Int), .int .i64 1, .int .i64 500] ?_; (with_reducible refine (impl_in.calls (l0.length : Int) 1 500 true _ A2.out).mono ?_); rintro e w' ⟨rfl, ⟨nd, rfl⟩⟩; refine ⟨_, rfl, ?_⟩) | (go_at_call 40; (with_reducible refine (impl_each.calls k _ _ l0 (l0.length : Int) (-100000) 100000 t257 _ ?side1 ?side2 A4.out).mono ?_); (case side1 => repeat (first | exact HR0.out | (with_reducible refine Kd.C_alloc ?_ _) | (with_reducible refine Kd.C_drewN ?_ _) | (with_reducible refine Kd.C_drew ?_))); (case side2 => exact HC0.out); rintro e w' ⟨rfl, ⟨nd, rfl⟩⟩))
  go_ret
  exact ⟨by first | rfl | (simp; done) | (simp [*]; done), by repeat (first | exact Drawn0.refl _ | apply Drawn0.step)⟩
 ·replace c3 := Bool.eq_false_iff.mpr c3
  subst c3
  have H1 : (some false) = some r := by rw [if_neg (show ¬ (false = true) by decide)] at H; exact H
  clear H; have H := H1; clear H1
  obtain rfl := Option.some.inj H
  go_enter Try.func32, Try.ntmps32
  go_wp2_with (first | ((with_reducible refine gate_callee (f := 34) rfl ?_); refine gL_ (some 5) Try.func34 #[.int .i64 (l0.length : Int), .int .i64 1, .int .i64 500] ?_; (with_reducible refine (impl_in.calls (l0.length : Int) 1 500 false _ A2.out).mono ?_); rintro e w' ⟨rfl, ⟨nd, rfl⟩⟩; refine ⟨_, rfl, ?_⟩))
  go_ret
  exact ⟨by first | rfl | (simp; done) | (simp [*]; done), by repeat (first | exact Drawn0.refl _ | apply Drawn0.step)⟩

/-! ### impl_Levels_1: function 41 -/
def impl_Levels_1.l0 : Nat → List Int → Int → Int → Option (Int)
 | 0, _, _, _ => none
 | k + 1, x0, x1, x6 => if x6 > 0 then (if 0 ≤ (wrap64 (x6 - 1)) then (if (wrap64 (x6 - 1)) < (x0.length : Int) then (if x1 ≥ (rd x0 (wrap64 (x6 - 1))) then (some x6) else (impl_Levels_1.l0 k x0 x1 (wrap64 (x6 - 1)))) else (none)) else (none)) else (some 0)
def impl_Levels_1.f (k : Nat) (l0 : List Int) (a1 : Int) (a2 : Int) : Option (Int) := impl_Levels_1.l0 k l0 a1 a2
theorem impl_Levels_1.mono_l : ∀ k, (∀ y0 y1 y2, LeO (impl_Levels_1.l0 k y0 y1 y2) (impl_Levels_1.l0 (k + 1) y0 y1 y2))
 | 0 => fun _ _ _ r h => by simp [impl_Levels_1.l0] at h
 | k + 1 => by
  have ih0 := impl_Levels_1.mono_l k
  ·intro y0 y1 y2
   unfold impl_Levels_1.l0
   repeat' first
   | (with_reducible exact ih0 _ _ _)
   | (with_reducible exact LeO.refl _)
   | (with_reducible exact LeO.none _)
   | (with_reducible refine LeO.ite ?_ ?_)
   | (with_reducible refine LeO.bind ?_ (fun _ => ?_))
   | exact ih0 _ _ _
   | exact LeO.none _
   | refine LeO.ite ?_ ?_
   | refine LeO.bind ?_ (fun _ => ?_)
theorem impl_Levels_1.mono : ∀ a0 a1 a2 k, LeO (impl_Levels_1.f k a0 a1 a2) (impl_Levels_1.f (k + 1) a0 a1 a2) := by
 intro a0 a1 a2 k
 have ih0 := impl_Levels_1.mono_l k
 unfold impl_Levels_1.f
 repeat' first
   | (with_reducible exact ih0 _ _ _)
   | (with_reducible exact LeO.refl _)
   | (with_reducible exact LeO.none _)
   | (with_reducible refine LeO.ite ?_ ?_)
   | (with_reducible refine LeO.bind ?_ (fun _ => ?_))
   | exact ih0 _ _ _
   | exact LeO.none _
   | refine LeO.ite ?_ ?_
   | refine LeO.bind ?_ (fun _ => ?_)
set_option maxHeartbeats 8000000 in
set_option maxRecDepth 100000 in
theorem impl_Levels_1.calls (k : Nat) (A0 : Option Addr) (c0 : Nat) (l0 : List Int) (a1 : Int) (a2 : Int) (r : Int) (w : World) (gq : Nat) (hcq : w.cell? ⟨gq, 0, none⟩ = some (.int .i64 a2)) (hr0 : Kd.C (Kd.int .i64) w A0 l0.length l0) (hc0 : l0.length ≤ c0) (h : impl_Levels_1.f k l0 a1 a2 = some r) :
  Calls Try.prog 41 #[.slice A0 l0.length c0, .int .i64 a1, .pointer (some ⟨gq, 0, none⟩)] w fun e w' => e = .returned (.int .i64 r) ∧ Drawn0 w w' := by
 have HR0 := Aside0.mk hr0; have HC0 := Aside0.mk hc0; clear hr0 hc0
 have H : (impl_Levels_1.l0 k l0 a1 a2) = some r := h
 clear h; have H' := Aside0.mk H; clear H
 go_enter Try.func41, Try.ntmps41
 go_wp2
 go_loopg [6] k (fun kq v6 w' => ∃ (x6_1 : Int), v6 = .int .i64 x6_1 ∧ Aside0 (impl_Levels_1.l0 kq l0 a1 x6_1 = some r) ∧ Aside0 (kq ≤ k) ∧ Drawn0 w w')
 case atStart => exact ⟨(a2), (by first | rfl | (simp; done) | (simp [*]; done)), H', ⟨Nat.le_refl _⟩, by repeat (first | exact Drawn0.refl _ | apply Drawn0.step)⟩
 case round =>
  clear H'; (try clear p2)
  obtain ⟨x6_1, rfl, HA, HK1, ⟨m1, rfl⟩⟩ := hrel
  cases gk with
  | zero => exact absurd HA.out (by simp [impl_Levels_1.l0])
  | succ k1 =>
   have H := HA.out; clear HA
   simp only [impl_Levels_1.l0] at H
   by_cases c4 : x6_1 > 0
   ·rw [if_pos c4] at H
    have c4b0 : decide (0 < x6_1) = true := decide_eq_true c4
    clear c4
    obtain ⟨ji5, hji5⟩ : ∃ j_ : Int, (wrap64 (x6_1 - 1)) = j_ := ⟨_, rfl⟩
    replace H : (if 0 ≤ (ji5) then (if (ji5) < (l0.length : Int) then (if a1 ≥ (rd l0 (ji5)) then (some x6_1) else (impl_Levels_1.l0 k1 l0 a1 ji5)) else (none)) else (none)) = some r := by first | (rw [hji5] at H; exact H) | (simp only [hji5] at H ⊢; exact H)
    have hji5w : (IntKind.i64.wrap (x6_1 - 1)) = ji5 := (i64_w _).trans hji5
    by_cases c6 : 0 ≤ (ji5)
    ·rw [if_pos c6] at H
     have c6b0 : decide (0 ≤ (ji5)) = true := decide_eq_true c6
     clear c6
     by_cases c7 : (ji5) < (l0.length : Int)
     ·rw [if_pos c7] at H
      have c7b0 : decide ((ji5) < (l0.length : Int)) = true := decide_eq_true c7
      clear c7
      by_cases c8 : a1 ≥ (rd l0 (ji5))
      ·rw [if_pos c8] at H
       have c8b0 : decide ((rd l0 (ji5)) ≤ a1) = true := decide_eq_true c8
       clear c8
       obtain rfl := Option.some.inj H
       have p258 : 0 ≤ ((ji5) : Int) := of_decide_eq_true (by first | (with_reducible assumption) | assumption)
       have q258 : (ji5) < (l0.length : Int) := of_decide_eq_true (by first | (with_reducible assumption) | assumption)
       obtain ⟨ad258, e258, hx258_0⟩ := Kd.at_int HR0.out (ji5) p258 q258
       cases e258
       replace p258 := eq_true p258; replace q258 := eq_true q258
       go_wp2
       go_ret
       exact ⟨by first | rfl | (simp; done) | (simp only [← hji5] <;> (first | rfl | simp)) | (simp [*]; done), by repeat (first | exact Drawn0.refl _ | apply Drawn0.step)⟩
      ·rw [if_neg c8] at H
       have c8b0 : decide ((rd l0 (ji5)) ≤ a1) = false := decide_eq_false c8
       clear c8; have H' := Aside0.mk H; clear H
       have p258 : 0 ≤ ((ji5) : Int) := of_decide_eq_true (by first | (with_reducible assumption) | assumption)
       have q258 : (ji5) < (l0.length : Int) := of_decide_eq_true (by first | (with_reducible assumption) | assumption)
       obtain ⟨ad258, e258, hx258_0⟩ := Kd.at_int HR0.out (ji5) p258 q258
       cases e258
       replace p258 := eq_true p258; replace q258 := eq_true q258
       go_wp2
       go_roundg k1
       case measure => have := HK1.out; omega
       case rel => exact ⟨(ji5), (by first | rfl | (simp; done) | (simp only [← hji5] <;> (first | rfl | simp)) | (simp [*]; done)), H', ⟨by have := HK1.out; omega⟩, by repeat (first | exact Drawn0.refl _ | apply Drawn0.step)⟩
     ·rw [if_neg c7] at H
      exact absurd H (by simp)
    ·rw [if_neg c6] at H
     exact absurd H (by simp)
   ·rw [if_neg c4] at H
    have c4b0 : decide (0 < x6_1) = false := decide_eq_false c4
    clear c4
    obtain rfl := Option.some.inj H
    go_wp2
    go_ret
    exact ⟨by first | rfl | (simp; done) | (simp [*]; done), by repeat (first | exact Drawn0.refl _ | apply Drawn0.step)⟩

end Go.Proofs.Ytmjfmhbklifafaa.QFnSteady
