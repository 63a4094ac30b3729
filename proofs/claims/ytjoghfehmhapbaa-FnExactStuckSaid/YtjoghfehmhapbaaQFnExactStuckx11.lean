-- Written by a program of this session out of the printer's texts and contracts of its own.
import Derived.Test.YtjoghfehmhapbaaSq
import Derived.Test.YtjoghfehmhapbaaQFnExactStuckx0
import Derived.Test.YtjoghfehmhapbaaQFnExactStuckx10
namespace Go.Proofs.Ytjoghfehmhapbaa.QFnExactStuck
open Go.RowKit Go.Proofs.YtjoghfehmhapbaaW.PrintWords Go.Proofs.YtjoghfehmhapbaaW.PrintLast Go.Proofs.YtjoghfehmhapbaaW.PrintMore Go.Proofs.Ytjoghfehmhapbaa.Sq
attribute [local go_sem] max2_int min2_int max_two min_two max_three min_three max_four min_four   -- for this text's walks alone
set_option linter.unusedVariables false
set_option linter.unusedSimpArgs false
theorem sABelo_11 {b : Nat} {w W : World} (h : Below b w W := by repeat (first | (with_reducible first | exact Aside0.out (by assumption) | apply below_alloc | apply pw_below_drewN | apply below_drew1 | refine below_set ?_ (Aside0.out (by assumption))) | exact Aside0.out (by assumption))) : Below b w W := h

/-! ### laws_heldTaskS: function 89 -/
def laws_heldTaskS.l0 : Nat → List (S39) → Int → Int → Option (Int)
 | 0, _, _, _ => none
 | k + 1, x0, x1, x5 => if x5 < (x0.length : Int) then (if 0 ≤ x5 then ((laws_heldInt64S.f k ((rd_T39 x0 x5).f0) x1).bind fun t212 => (if t212 < 0 then (some (-1)) else (if ((rd_T39 x0 x5).f1) = t212 then (if ((rd_T39 x0 x5).f2) = (wrap64 (t212 + 1)) then (if ((rd_T39 x0 x5).f3) = (wrap64 ((wrap64 (t212 + 1)) + 1)) then (laws_heldTaskS.l0 k x0 (wrap64 ((wrap64 ((wrap64 (t212 + 1)) + 1)) + 1)) (wrap64 (x5 + 1))) else (some (-1))) else (some (-1))) else (some (-1))))) else (none)) else (some x1)
def laws_heldTaskS.f (k : Nat) (l0 : List (S39)) (a1 : Int) : Option (Int) := laws_heldTaskS.l0 k l0 a1 0
theorem laws_heldTaskS.mono_l : ∀ k, (∀ y0 y1 y2, LeO (laws_heldTaskS.l0 k y0 y1 y2) (laws_heldTaskS.l0 (k + 1) y0 y1 y2))
 | 0 => fun _ _ _ r h => by simp [laws_heldTaskS.l0] at h
 | k + 1 => by
  have ih0 := laws_heldTaskS.mono_l k
  ·intro y0 y1 y2
   unfold laws_heldTaskS.l0
   repeat' first
   | (with_reducible exact ih0 _ _ _)
   | (with_reducible exact laws_heldInt64S.mono _ _ _)
   | (with_reducible exact LeO.refl _)
   | (with_reducible exact LeO.none _)
   | (with_reducible refine LeO.ite ?_ ?_)
   | (with_reducible refine LeO.bind ?_ (fun _ => ?_))
   | exact ih0 _ _ _
   | exact laws_heldInt64S.mono _ _ _
   | exact LeO.none _
   | refine LeO.ite ?_ ?_
   | refine LeO.bind ?_ (fun _ => ?_)
theorem laws_heldTaskS.mono : ∀ a0 a1 k, LeO (laws_heldTaskS.f k a0 a1) (laws_heldTaskS.f (k + 1) a0 a1) := by
 intro a0 a1 k
 have ih0 := laws_heldTaskS.mono_l k
 unfold laws_heldTaskS.f
 repeat' first
   | (with_reducible exact ih0 _ _ _)
   | (with_reducible exact laws_heldInt64S.mono _ _ _)
   | (with_reducible exact LeO.refl _)
   | (with_reducible exact LeO.none _)
   | (with_reducible refine LeO.ite ?_ ?_)
   | (with_reducible refine LeO.bind ?_ (fun _ => ?_))
   | exact ih0 _ _ _
   | exact laws_heldInt64S.mono _ _ _
   | exact LeO.none _
   | refine LeO.ite ?_ ?_
   | refine LeO.bind ?_ (fun _ => ?_)
set_option maxHeartbeats 8000000 in
set_option maxRecDepth 100000 in
theorem laws_heldTaskS.calls (k : Nat) (A0 : Option Addr) (c0 : Nat) (l0 : List (S39)) (a1 : Int) (r : Int) (w : World) (hr0 : Kd.C k39 w A0 l0.length l0) (hc0 : l0.length ≤ c0) (h : laws_heldTaskS.f k l0 a1 = some r) :
  Calls Try.prog 89 #[.slice A0 l0.length c0, .int .i64 a1] w fun e w' => e = .returned (.int .i64 r) ∧ Drawn0 w w' := by
 have HR0 := Aside0.mk hr0; have HC0 := Aside0.mk hc0; clear hr0 hc0
 have H : (laws_heldTaskS.l0 k l0 a1 0) = some r := h
 clear h; have H' := Aside0.mk H; clear H
 go_enter Try.func89, Try.ntmps89
 go_wp2
 go_loopg [1, 5] k (fun kq v1 v5 w' => ∃ (x1_1 : Int) (x5_1 : Int), v1 = .int .i64 x1_1 ∧ v5 = .int .i64 x5_1 ∧ Aside0 (laws_heldTaskS.l0 kq l0 x1_1 x5_1 = some r) ∧ Aside0 (kq ≤ k) ∧ Drawn0 w w')
 case atStart => exact ⟨(a1), (0), (by first | rfl | (simp; done) | (simp [*]; done)), (by first | rfl | (simp; done) | (simp [*]; done)), H', ⟨Nat.le_refl _⟩, by repeat (first | exact Drawn0.refl _ | apply Drawn0.step)⟩
 case round =>
  clear H'
  obtain ⟨x1_1, x5_1, rfl, rfl, HA, HK1, ⟨m1, rfl⟩⟩ := hrel
  cases gk with
  | zero => exact absurd HA.out (by simp [laws_heldTaskS.l0])
  | succ k1 =>
   have H := HA.out; clear HA
   simp only [laws_heldTaskS.l0] at H
   by_cases c3 : x5_1 < (l0.length : Int)
   ·rw [if_pos c3] at H
    have c3b0 := decide_eq_true c3
    clear c3
    obtain ⟨c4, H⟩ := ifS_ H
    have c4b0 : decide (0 ≤ x5_1) = true := decide_eq_true c4
    clear c4; replace H := Option.bind_eq_some_iff.mp H
    obtain ⟨t212, A50, H⟩ := H
    replace H : (if t212 < 0 then (some (-1)) else (if ((rd_T39 l0 x5_1).f1) = t212 then (if ((rd_T39 l0 x5_1).f2) = (wrap64 (t212 + 1)) then (if ((rd_T39 l0 x5_1).f3) = (wrap64 ((wrap64 (t212 + 1)) + 1)) then (laws_heldTaskS.l0 k1 l0 (wrap64 ((wrap64 ((wrap64 (t212 + 1)) + 1)) + 1)) (wrap64 (x5_1 + 1))) else (some (-1))) else (some (-1))) else (some (-1)))) = some r := H
    have A5 := Aside0.mk A50; clear A50
    by_cases c6 : t212 < 0
    ·rw [if_pos c6] at H
     have c6b0 := decide_eq_true c6
     clear c6
     obtain rfl := Option.some.inj H
     have p211 : 0 ≤ (x5_1 : Int) := dA_
     have q211 : x5_1 < (l0.length : Int) := dA_
     obtain ⟨ad211, A211_0, c211_0, e211, hx211_0, hx211_1, hx211_2, hx211_3, hl211_0, hi211_0⟩ := at_T39 HR0.out x5_1 p211 q211
     cases e211
     have HR211_0 := Aside0.mk hi211_0; have HC211_0 := Aside0.mk hl211_0; clear hi211_0 hl211_0; replace p211 := eq_true p211; replace q211 := eq_true q211
     go_wp2_with (first | ((with_reducible refine gate_callee (f := 39) rfl ?_); refine gL_ (some 18) Try.func39 #[.slice A211_0 ((rd_T39 l0 x5_1).f0).length c211_0, .int .i64 x1_1] ?_; (with_reducible refine (laws_heldInt64S.calls k1 _ _ ((rd_T39 l0 x5_1).f0) x1_1 t212 _ ?side1 ?side2 A5.out).mono ?_); (case side1 => repeat (first | exact HR211_0.out | (with_reducible refine Kd.C_alloc ?_ _) | (with_reducible refine Kd.C_drewN ?_ _) | (with_reducible refine Kd.C_drew ?_))); (case side2 => exact HC211_0.out); rintro e w' ⟨rfl, ⟨nd, rfl⟩⟩; refine ⟨_, rfl, ?_⟩))
     go_ret
     exact ⟨by first | rfl | (simp; done) | (simp [*]; done), by repeat (first | exact Drawn0.refl _ | apply Drawn0.step)⟩
    ·rw [if_neg c6] at H
     have c6b0 := decide_eq_false c6
     clear c6
     by_cases c7 : ((rd_T39 l0 x5_1).f1) = t212
     ·rw [if_pos c7] at H
      have c7b0 := beq_iff_eq.mpr c7
      have c7b1 := bne_eq_false_iff_eq.mpr c7
      clear c7
      by_cases c8 : ((rd_T39 l0 x5_1).f2) = (wrap64 (t212 + 1))
      ·rw [if_pos c8] at H
       have c8b0 := beq_iff_eq.mpr c8
       have c8b1 := bne_eq_false_iff_eq.mpr c8
       clear c8
       by_cases c9 : ((rd_T39 l0 x5_1).f3) = (wrap64 ((wrap64 (t212 + 1)) + 1))
       ·rw [if_pos c9] at H
        have c9b0 := beq_iff_eq.mpr c9
        have c9b1 := bne_eq_false_iff_eq.mpr c9
        clear c9; have H' := Aside0.mk H; clear H
        have p211 : 0 ≤ (x5_1 : Int) := dA_
        have q211 : x5_1 < (l0.length : Int) := dA_
        obtain ⟨ad211, A211_0, c211_0, e211, hx211_0, hx211_1, hx211_2, hx211_3, hl211_0, hi211_0⟩ := at_T39 HR0.out x5_1 p211 q211
        cases e211
        have HR211_0 := Aside0.mk hi211_0; have HC211_0 := Aside0.mk hl211_0; clear hi211_0 hl211_0; replace p211 := eq_true p211; replace q211 := eq_true q211
        go_wp2_with (first | ((with_reducible refine gate_callee (f := 39) rfl ?_); refine gL_ (some 18) Try.func39 #[.slice A211_0 ((rd_T39 l0 x5_1).f0).length c211_0, .int .i64 x1_1] ?_; (with_reducible refine (laws_heldInt64S.calls k1 _ _ ((rd_T39 l0 x5_1).f0) x1_1 t212 _ ?side1 ?side2 A5.out).mono ?_); (case side1 => repeat (first | exact HR211_0.out | (with_reducible refine Kd.C_alloc ?_ _) | (with_reducible refine Kd.C_drewN ?_ _) | (with_reducible refine Kd.C_drew ?_))); (case side2 => exact HC211_0.out); rintro e w' ⟨rfl, ⟨nd, rfl⟩⟩; refine ⟨_, rfl, ?_⟩; have p213 : 0 ≤ (x5_1 : Int) := dA_; have q213 : x5_1 < (l0.length : Int) := dA_; obtain ⟨ad213, A213_0, c213_0, e213, hx213_0, hx213_1, hx213_2, hx213_3, hl213_0, hi213_0⟩ := at_T39 HR0.out x5_1 p213 q213; obtain rfl : ad211 = ad213 := (by injection e213); have HR213_0 := Aside0.mk hi213_0; have HC213_0 := Aside0.mk hl213_0; clear hi213_0 hl213_0; replace p213 := eq_true p213; replace q213 := eq_true q213; have ea_ := Option.some.inj (hx211_0.symm.trans hx213_0); injection ea_ with ea_ en_ ec_; subst ea_; subst ec_; clear en_; have p214 : 0 ≤ (x5_1 : Int) := dA_; have q214 : x5_1 < (l0.length : Int) := dA_; obtain ⟨ad214, A214_0, c214_0, e214, hx214_0, hx214_1, hx214_2, hx214_3, hl214_0, hi214_0⟩ := at_T39 HR0.out x5_1 p214 q214; obtain rfl : ad211 = ad214 := (by injection e214); have HR214_0 := Aside0.mk hi214_0; have HC214_0 := Aside0.mk hl214_0; clear hi214_0 hl214_0; replace p214 := eq_true p214; replace q214 := eq_true q214; have ea_ := Option.some.inj (hx211_0.symm.trans hx214_0); injection ea_ with ea_ en_ ec_; subst ea_; subst ec_; clear en_; have p215 : 0 ≤ (x5_1 : Int) := dA_; have q215 : x5_1 < (l0.length : Int) := dA_; obtain ⟨ad215, A215_0, c215_0, e215, hx215_0, hx215_1, hx215_2, hx215_3, hl215_0, hi215_0⟩ := at_T39 HR0.out x5_1 p215 q215; obtain rfl : ad211 = ad215 := (by injection e215); have HR215_0 := Aside0.mk hi215_0; have HC215_0 := Aside0.mk hl215_0; clear hi215_0 hl215_0; replace p215 := eq_true p215; replace q215 := eq_true q215; have ea_ := Option.some.inj (hx211_0.symm.trans hx215_0); injection ea_ with ea_ en_ ec_; subst ea_; subst ec_; clear en_))
        go_roundg k1
        case measure => have := HK1.out; omega
        case rel => exact ⟨(wrap64 ((wrap64 ((wrap64 (t212 + 1)) + 1)) + 1)), (wrap64 (x5_1 + 1)), (by first | rfl | (simp; done) | (simp [*]; done)), (by first | rfl | (simp; done) | (simp [*]; done)), H', ⟨by have := HK1.out; omega⟩, by repeat (first | exact Drawn0.refl _ | apply Drawn0.step)⟩
       ·rw [if_neg c9] at H
        have c9b0 := beq_eq_false_iff_ne.mpr c9
        have c9b1 := bne_iff_ne.mpr c9
        obtain rfl := Option.some.inj H
        have p211 : 0 ≤ (x5_1 : Int) := dA_
        have q211 : x5_1 < (l0.length : Int) := dA_
        obtain ⟨ad211, A211_0, c211_0, e211, hx211_0, hx211_1, hx211_2, hx211_3, hl211_0, hi211_0⟩ := at_T39 HR0.out x5_1 p211 q211
        cases e211
        have HR211_0 := Aside0.mk hi211_0; have HC211_0 := Aside0.mk hl211_0; clear hi211_0 hl211_0; replace p211 := eq_true p211; replace q211 := eq_true q211
        go_wp2_with (first | ((with_reducible refine gate_callee (f := 39) rfl ?_); refine gL_ (some 18) Try.func39 #[.slice A211_0 ((rd_T39 l0 x5_1).f0).length c211_0, .int .i64 x1_1] ?_; (with_reducible refine (laws_heldInt64S.calls k1 _ _ ((rd_T39 l0 x5_1).f0) x1_1 t212 _ ?side1 ?side2 A5.out).mono ?_); (case side1 => repeat (first | exact HR211_0.out | (with_reducible refine Kd.C_alloc ?_ _) | (with_reducible refine Kd.C_drewN ?_ _) | (with_reducible refine Kd.C_drew ?_))); (case side2 => exact HC211_0.out); rintro e w' ⟨rfl, ⟨nd, rfl⟩⟩; refine ⟨_, rfl, ?_⟩; have p213 : 0 ≤ (x5_1 : Int) := dA_; have q213 : x5_1 < (l0.length : Int) := dA_; obtain ⟨ad213, A213_0, c213_0, e213, hx213_0, hx213_1, hx213_2, hx213_3, hl213_0, hi213_0⟩ := at_T39 HR0.out x5_1 p213 q213; obtain rfl : ad211 = ad213 := (by injection e213); have HR213_0 := Aside0.mk hi213_0; have HC213_0 := Aside0.mk hl213_0; clear hi213_0 hl213_0; replace p213 := eq_true p213; replace q213 := eq_true q213; have ea_ := Option.some.inj (hx211_0.symm.trans hx213_0); injection ea_ with ea_ en_ ec_; subst ea_; subst ec_; clear en_; have p214 : 0 ≤ (x5_1 : Int) := dA_; have q214 : x5_1 < (l0.length : Int) := dA_; obtain ⟨ad214, A214_0, c214_0, e214, hx214_0, hx214_1, hx214_2, hx214_3, hl214_0, hi214_0⟩ := at_T39 HR0.out x5_1 p214 q214; obtain rfl : ad211 = ad214 := (by injection e214); have HR214_0 := Aside0.mk hi214_0; have HC214_0 := Aside0.mk hl214_0; clear hi214_0 hl214_0; replace p214 := eq_true p214; replace q214 := eq_true q214; have ea_ := Option.some.inj (hx211_0.symm.trans hx214_0); injection ea_ with ea_ en_ ec_; subst ea_; subst ec_; clear en_; have p215 : 0 ≤ (x5_1 : Int) := dA_; have q215 : x5_1 < (l0.length : Int) := dA_; obtain ⟨ad215, A215_0, c215_0, e215, hx215_0, hx215_1, hx215_2, hx215_3, hl215_0, hi215_0⟩ := at_T39 HR0.out x5_1 p215 q215; obtain rfl : ad211 = ad215 := (by injection e215); have HR215_0 := Aside0.mk hi215_0; have HC215_0 := Aside0.mk hl215_0; clear hi215_0 hl215_0; replace p215 := eq_true p215; replace q215 := eq_true q215; have ea_ := Option.some.inj (hx211_0.symm.trans hx215_0); injection ea_ with ea_ en_ ec_; subst ea_; subst ec_; clear en_))
        go_ret
        exact ⟨by first | rfl | (simp; done) | (simp [*]; done), by repeat (first | exact Drawn0.refl _ | apply Drawn0.step)⟩
      ·rw [if_neg c8] at H
       have c8b0 := beq_eq_false_iff_ne.mpr c8
       have c8b1 := bne_iff_ne.mpr c8
       obtain rfl := Option.some.inj H
       have p211 : 0 ≤ (x5_1 : Int) := dA_
       have q211 : x5_1 < (l0.length : Int) := dA_
       obtain ⟨ad211, A211_0, c211_0, e211, hx211_0, hx211_1, hx211_2, hx211_3, hl211_0, hi211_0⟩ := at_T39 HR0.out x5_1 p211 q211
       cases e211
       have HR211_0 := Aside0.mk hi211_0; have HC211_0 := Aside0.mk hl211_0; clear hi211_0 hl211_0; replace p211 := eq_true p211; replace q211 := eq_true q211
       go_wp2_with (first | ((with_reducible refine gate_callee (f := 39) rfl ?_); refine gL_ (some 18) Try.func39 #[.slice A211_0 ((rd_T39 l0 x5_1).f0).length c211_0, .int .i64 x1_1] ?_; (with_reducible refine (laws_heldInt64S.calls k1 _ _ ((rd_T39 l0 x5_1).f0) x1_1 t212 _ ?side1 ?side2 A5.out).mono ?_); (case side1 => repeat (first | exact HR211_0.out | (with_reducible refine Kd.C_alloc ?_ _) | (with_reducible refine Kd.C_drewN ?_ _) | (with_reducible refine Kd.C_drew ?_))); (case side2 => exact HC211_0.out); rintro e w' ⟨rfl, ⟨nd, rfl⟩⟩; refine ⟨_, rfl, ?_⟩; have p213 : 0 ≤ (x5_1 : Int) := dA_; have q213 : x5_1 < (l0.length : Int) := dA_; obtain ⟨ad213, A213_0, c213_0, e213, hx213_0, hx213_1, hx213_2, hx213_3, hl213_0, hi213_0⟩ := at_T39 HR0.out x5_1 p213 q213; obtain rfl : ad211 = ad213 := (by injection e213); have HR213_0 := Aside0.mk hi213_0; have HC213_0 := Aside0.mk hl213_0; clear hi213_0 hl213_0; replace p213 := eq_true p213; replace q213 := eq_true q213; have ea_ := Option.some.inj (hx211_0.symm.trans hx213_0); injection ea_ with ea_ en_ ec_; subst ea_; subst ec_; clear en_; have p214 : 0 ≤ (x5_1 : Int) := dA_; have q214 : x5_1 < (l0.length : Int) := dA_; obtain ⟨ad214, A214_0, c214_0, e214, hx214_0, hx214_1, hx214_2, hx214_3, hl214_0, hi214_0⟩ := at_T39 HR0.out x5_1 p214 q214; obtain rfl : ad211 = ad214 := (by injection e214); have HR214_0 := Aside0.mk hi214_0; have HC214_0 := Aside0.mk hl214_0; clear hi214_0 hl214_0; replace p214 := eq_true p214; replace q214 := eq_true q214; have ea_ := Option.some.inj (hx211_0.symm.trans hx214_0); injection ea_ with ea_ en_ ec_; subst ea_; subst ec_; clear en_))
       go_ret
       exact ⟨by first | rfl | (simp; done) | (simp [*]; done), by repeat (first | exact Drawn0.refl _ | apply Drawn0.step)⟩
     ·rw [if_neg c7] at H
      have c7b0 := beq_eq_false_iff_ne.mpr c7
      have c7b1 := bne_iff_ne.mpr c7
      obtain rfl := Option.some.inj H
      have p211 : 0 ≤ (x5_1 : Int) := dA_
      have q211 : x5_1 < (l0.length : Int) := dA_
      obtain ⟨ad211, A211_0, c211_0, e211, hx211_0, hx211_1, hx211_2, hx211_3, hl211_0, hi211_0⟩ := at_T39 HR0.out x5_1 p211 q211
      cases e211
      have HR211_0 := Aside0.mk hi211_0; have HC211_0 := Aside0.mk hl211_0; clear hi211_0 hl211_0; replace p211 := eq_true p211; replace q211 := eq_true q211
      go_wp2_with (first | ((with_reducible refine gate_callee (f := 39) rfl ?_); refine gL_ (some 18) Try.func39 #[.slice A211_0 ((rd_T39 l0 x5_1).f0).length c211_0, .int .i64 x1_1] ?_; (with_reducible refine (laws_heldInt64S.calls k1 _ _ ((rd_T39 l0 x5_1).f0) x1_1 t212 _ ?side1 ?side2 A5.out).mono ?_); (case side1 => repeat (first | exact HR211_0.out | (with_reducible refine Kd.C_alloc ?_ _) | (with_reducible refine Kd.C_drewN ?_ _) | (with_reducible refine Kd.C_drew ?_))); (case side2 => exact HC211_0.out); rintro e w' ⟨rfl, ⟨nd, rfl⟩⟩; refine ⟨_, rfl, ?_⟩; have p213 : 0 ≤ (x5_1 : Int) := dA_; have q213 : x5_1 < (l0.length : Int) := dA_; obtain ⟨ad213, A213_0, c213_0, e213, hx213_0, hx213_1, hx213_2, hx213_3, hl213_0, hi213_0⟩ := at_T39 HR0.out x5_1 p213 q213; obtain rfl : ad211 = ad213 := (by injection e213); have HR213_0 := Aside0.mk hi213_0; have HC213_0 := Aside0.mk hl213_0; clear hi213_0 hl213_0; replace p213 := eq_true p213; replace q213 := eq_true q213; have ea_ := Option.some.inj (hx211_0.symm.trans hx213_0); injection ea_ with ea_ en_ ec_; subst ea_; subst ec_; clear en_))
      go_ret
      exact ⟨by first | rfl | (simp; done) | (simp [*]; done), by repeat (first | exact Drawn0.refl _ | apply Drawn0.step)⟩
   ·rw [if_neg c3] at H
    have c3b0 := decide_eq_false c3
    clear c3
    obtain rfl := Option.some.inj H
    go_wp2
    go_ret
    exact ⟨by first | rfl | (simp; done) | (simp [*]; done), by repeat (first | exact Drawn0.refl _ | apply Drawn0.step)⟩

/-! ### laws_heldSuite: function 70 -/
def laws_heldSuite.f (k : Nat) (l0_0 : List (S39)) (l0_1 : List Int) (a1 : Int) : Option (Int) := (laws_heldTaskS.f k l0_0 a1).bind fun t217 => (if t217 < 0 then (some (-1)) else ((laws_heldInt64S.f k l0_1 t217).bind fun t218 => (if t218 < 0 then (some (-1)) else (some t218))))
theorem laws_heldSuite.mono : ∀ a0 a1 a2 k, LeO (laws_heldSuite.f k a0 a1 a2) (laws_heldSuite.f (k + 1) a0 a1 a2) := by
 intro a0 a1 a2 k
 unfold laws_heldSuite.f
 repeat' first
   | (with_reducible exact laws_heldInt64S.mono _ _ _)
   | (with_reducible exact laws_heldTaskS.mono _ _ _)
   | (with_reducible exact LeO.refl _)
   | (with_reducible exact LeO.none _)
   | (with_reducible refine LeO.ite ?_ ?_)
   | (with_reducible refine LeO.bind ?_ (fun _ => ?_))
   | exact laws_heldInt64S.mono _ _ _
   | exact laws_heldTaskS.mono _ _ _
   | exact LeO.none _
   | refine LeO.ite ?_ ?_
   | refine LeO.bind ?_ (fun _ => ?_)
set_option maxHeartbeats 8000000 in
set_option maxRecDepth 100000 in
theorem laws_heldSuite.calls (k : Nat) (A0_0 : Option Addr) (c0_0 : Nat) (l0_0 : List (S39)) (A0_1 : Option Addr) (c0_1 : Nat) (l0_1 : List Int) (a1 : Int) (r : Int) (w : World) (hr0_0 : Kd.C k39 w A0_0 l0_0.length l0_0) (hc0_0 : l0_0.length ≤ c0_0) (hr0_1 : Kd.C (Kd.int .i64) w A0_1 l0_1.length l0_1) (hc0_1 : l0_1.length ≤ c0_1) (h : laws_heldSuite.f k l0_0 l0_1 a1 = some r) :
  Calls Try.prog 70 #[.agg #[.slice A0_0 l0_0.length c0_0, .slice A0_1 l0_1.length c0_1], .int .i64 a1] w fun e w' => e = .returned (.int .i64 r) ∧ Below w.heap.size w w' := by
 have hu27 := Try.underlying27; have HR0_0 := Aside0.mk hr0_0; have HC0_0 := Aside0.mk hc0_0; clear hr0_0 hc0_0; have HR0_1 := Aside0.mk hr0_1; have HC0_1 := Aside0.mk hc0_1; clear hr0_1 hc0_1
 have HB := Aside0.mk (Below.refl w.heap.size w)
 have H : ((laws_heldTaskS.f k l0_0 a1).bind fun t217 => (if t217 < 0 then (some (-1)) else ((laws_heldInt64S.f k l0_1 t217).bind fun t218 => (if t218 < 0 then (some (-1)) else (some t218))))) = some r := h
 clear h; replace H := Option.bind_eq_some_iff.mp H
 obtain ⟨t217, A30, H⟩ := H
 replace H : (if t217 < 0 then (some (-1)) else ((laws_heldInt64S.f k l0_1 t217).bind fun t218 => (if t218 < 0 then (some (-1)) else (some t218)))) = some r := H
 have A3 := Aside0.mk A30; clear A30
 by_cases c4 : t217 < 0
 ·rw [if_pos c4] at H
  have c4b0 := decide_eq_true c4
  clear c4
  obtain rfl := Option.some.inj H
  go_enter Try.func70, Try.ntmps70
  go_wp2_with (first | ((with_reducible refine gate_dst (N := 2) rfl ?_); refine box_event ?hg (N := 2) ?hd (cs := #[.slice A0_0 l0_0.length c0_0, .slice A0_1 l0_1.length c0_1]) (t := 27) ?hr ?_; (case hd => rfl); (case hg => rfl); (case hr => first | (go_simp; done) | (go_simp; rfl)); intro gb216 hg w5 hbox hb; have BK216 := Aside0.mk (hbox); have GW216 := gE_ HB hg; have GE216 := gE_ HB hg; replace HB := bS_ HB hb; clear hb hbox hg; obtain ⟨hcz6_0, hcz6_1, hfz6_0, hfz6_1⟩ := cf2_ BK216) | ((with_reducible refine gate_callee (f := 89) rfl ?_); refine gL_ (some 8) Try.func89 #[.slice A0_0 l0_0.length c0_0, .int .i64 a1] ?_; (with_reducible refine (laws_heldTaskS.calls k _ _ l0_0 a1 t217 _ ?side1 ?side2 A3.out).mono ?_); (case side1 => exact cB_ HR0_0 HB); (case side2 => exact HC0_0.out); rintro e w' ⟨rfl, ⟨nd, rfl⟩⟩; refine ⟨_, rfl, ?_⟩))
  go_ret
  exact ⟨by first | rfl | (simp [errW_none, errW_some] <;> rfl) | (simp [*, errW_none, errW_some] <;> rfl), sABelo_11⟩
 ·rw [if_neg c4] at H
  have c4b0 := decide_eq_false c4
  clear c4; replace H := Option.bind_eq_some_iff.mp H
  obtain ⟨t218, A70, H⟩ := H
  replace H : (if t218 < 0 then (some (-1)) else (some t218)) = some r := H
  have A7 := Aside0.mk A70; clear A70
  by_cases c8 : t218 < 0
  ·rw [if_pos c8] at H
   have c8b0 := decide_eq_true c8
   clear c8
   obtain rfl := Option.some.inj H
   go_enter Try.func70, Try.ntmps70
   go_wp2_with (first | ((with_reducible refine gate_dst (N := 2) rfl ?_); refine box_event ?hg (N := 2) ?hd (cs := #[.slice A0_0 l0_0.length c0_0, .slice A0_1 l0_1.length c0_1]) (t := 27) ?hr ?_; (case hd => rfl); (case hg => rfl); (case hr => first | (go_simp; done) | (go_simp; rfl)); intro gb216 hg w9 hbox hb; have BK216 := Aside0.mk (hbox); have GW216 := gE_ HB hg; have GE216 := gE_ HB hg; replace HB := bS_ HB hb; clear hb hbox hg; obtain ⟨hcz10_0, hcz10_1, hfz10_0, hfz10_1⟩ := cf2_ BK216) | ((with_reducible refine gate_callee (f := 89) rfl ?_); refine gL_ (some 8) Try.func89 #[.slice A0_0 l0_0.length c0_0, .int .i64 a1] ?_; (with_reducible refine (laws_heldTaskS.calls k _ _ l0_0 a1 t217 _ ?side1 ?side2 A3.out).mono ?_); (case side1 => exact cB_ HR0_0 HB); (case side2 => exact HC0_0.out); rintro e w' ⟨rfl, ⟨nd, rfl⟩⟩; refine ⟨_, rfl, ?_⟩) | ((with_reducible refine gate_callee (f := 39) rfl ?_); refine gL_ (some 14) Try.func39 #[.slice A0_1 l0_1.length c0_1, .int .i64 t217] ?_; (with_reducible refine (laws_heldInt64S.calls k _ _ l0_1 t217 t218 _ ?side1 ?side2 A7.out).mono ?_); (case side1 => repeat (first | exact (Kd.C_below HR0_1.out sABelo_11) | (with_reducible refine Kd.C_alloc ?_ _) | (with_reducible refine Kd.C_drewN ?_ _) | (with_reducible refine Kd.C_drew ?_))); (case side2 => exact HC0_1.out); rintro e w' ⟨rfl, ⟨nd, rfl⟩⟩; refine ⟨_, rfl, ?_⟩))
   go_ret
   exact ⟨by first | rfl | (simp [errW_none, errW_some] <;> rfl) | (simp [*, errW_none, errW_some] <;> rfl), sABelo_11⟩
  ·rw [if_neg c8] at H
   have c8b0 := decide_eq_false c8
   clear c8
   obtain rfl := Option.some.inj H
   go_enter Try.func70, Try.ntmps70
   go_wp2_with (first | ((with_reducible refine gate_dst (N := 2) rfl ?_); refine box_event ?hg (N := 2) ?hd (cs := #[.slice A0_0 l0_0.length c0_0, .slice A0_1 l0_1.length c0_1]) (t := 27) ?hr ?_; (case hd => rfl); (case hg => rfl); (case hr => first | (go_simp; done) | (go_simp; rfl)); intro gb216 hg w11 hbox hb; have BK216 := Aside0.mk (hbox); have GW216 := gE_ HB hg; have GE216 := gE_ HB hg; replace HB := bS_ HB hb; clear hb hbox hg; obtain ⟨hcz12_0, hcz12_1, hfz12_0, hfz12_1⟩ := cf2_ BK216) | ((with_reducible refine gate_callee (f := 89) rfl ?_); refine gL_ (some 8) Try.func89 #[.slice A0_0 l0_0.length c0_0, .int .i64 a1] ?_; (with_reducible refine (laws_heldTaskS.calls k _ _ l0_0 a1 t217 _ ?side1 ?side2 A3.out).mono ?_); (case side1 => exact cB_ HR0_0 HB); (case side2 => exact HC0_0.out); rintro e w' ⟨rfl, ⟨nd, rfl⟩⟩; refine ⟨_, rfl, ?_⟩) | ((with_reducible refine gate_callee (f := 39) rfl ?_); refine gL_ (some 14) Try.func39 #[.slice A0_1 l0_1.length c0_1, .int .i64 t217] ?_; (with_reducible refine (laws_heldInt64S.calls k _ _ l0_1 t217 t218 _ ?side1 ?side2 A7.out).mono ?_); (case side1 => repeat (first | exact (Kd.C_below HR0_1.out sABelo_11) | (with_reducible refine Kd.C_alloc ?_ _) | (with_reducible refine Kd.C_drewN ?_ _) | (with_reducible refine Kd.C_drew ?_))); (case side2 => exact HC0_1.out); rintro e w' ⟨rfl, ⟨nd, rfl⟩⟩; refine ⟨_, rfl, ?_⟩))
   go_ret
   exact ⟨by first | rfl | (simp [errW_none, errW_some] <;> rfl) | (simp [*, errW_none, errW_some] <;> rfl), sABelo_11⟩

/-! ### laws_heldJobS: function 71 -/
def laws_heldJobS.l0 : Nat → List (S43) → Int → Int → Option (Int)
 | 0, _, _, _ => none
 | k + 1, x0, x1, x5 => if x5 < (x0.length : Int) then (if 0 ≤ x5 then (if ((rd_T43 x0 x5).f0) = x1 then (if ((rd_T43 x0 x5).f1) = (wrap64 (x1 + 1)) then (laws_heldJobS.l0 k x0 (wrap64 ((wrap64 (x1 + 1)) + 1)) (wrap64 (x5 + 1))) else (some (-1))) else (some (-1))) else (none)) else (some x1)
def laws_heldJobS.f (k : Nat) (l0 : List (S43)) (a1 : Int) : Option (Int) := laws_heldJobS.l0 k l0 a1 0
theorem laws_heldJobS.mono_l : ∀ k, (∀ y0 y1 y2, LeO (laws_heldJobS.l0 k y0 y1 y2) (laws_heldJobS.l0 (k + 1) y0 y1 y2))
 | 0 => fun _ _ _ r h => by simp [laws_heldJobS.l0] at h
 | k + 1 => by
  have ih0 := laws_heldJobS.mono_l k
  ·intro y0 y1 y2
   unfold laws_heldJobS.l0
   repeat' first
   | (with_reducible exact ih0 _ _ _)
   | (with_reducible exact LeO.refl _)
   | (with_reducible exact LeO.none _)
   | (with_reducible refine LeO.ite ?_ ?_)
   | (with_reducible refine LeO.bind ?_ (fun _ => ?_))
   | exact ih0 _ _ _
   | exact LeO.none _
   | refine LeO.ite ?_ ?_
   | refine LeO.bind ?_ (fun _ => ?_)
theorem laws_heldJobS.mono : ∀ a0 a1 k, LeO (laws_heldJobS.f k a0 a1) (laws_heldJobS.f (k + 1) a0 a1) := by
 intro a0 a1 k
 have ih0 := laws_heldJobS.mono_l k
 unfold laws_heldJobS.f
 repeat' first
   | (with_reducible exact ih0 _ _ _)
   | (with_reducible exact LeO.refl _)
   | (with_reducible exact LeO.none _)
   | (with_reducible refine LeO.ite ?_ ?_)
   | (with_reducible refine LeO.bind ?_ (fun _ => ?_))
   | exact ih0 _ _ _
   | exact LeO.none _
   | refine LeO.ite ?_ ?_
   | refine LeO.bind ?_ (fun _ => ?_)
set_option maxHeartbeats 8000000 in
set_option maxRecDepth 100000 in
theorem laws_heldJobS.calls (k : Nat) (A0 : Option Addr) (c0 : Nat) (l0 : List (S43)) (a1 : Int) (r : Int) (w : World) (hr0 : Kd.C k43 w A0 l0.length l0) (hc0 : l0.length ≤ c0) (h : laws_heldJobS.f k l0 a1 = some r) :
  Calls Try.prog 71 #[.slice A0 l0.length c0, .int .i64 a1] w fun e w' => e = .returned (.int .i64 r) ∧ Drawn0 w w' := by
 have HR0 := Aside0.mk hr0; have HC0 := Aside0.mk hc0; clear hr0 hc0
 have H : (laws_heldJobS.l0 k l0 a1 0) = some r := h
 clear h; have H' := Aside0.mk H; clear H
 go_enter Try.func71, Try.ntmps71
 go_wp2
 go_loopg [1, 5] k (fun kq v1 v5 w' => ∃ (x1_1 : Int) (x5_1 : Int), v1 = .int .i64 x1_1 ∧ v5 = .int .i64 x5_1 ∧ Aside0 (laws_heldJobS.l0 kq l0 x1_1 x5_1 = some r) ∧ Aside0 (kq ≤ k) ∧ Drawn0 w w')
 case atStart => exact ⟨(a1), (0), (by first | rfl | (simp; done) | (simp [*]; done)), (by first | rfl | (simp; done) | (simp [*]; done)), H', ⟨Nat.le_refl _⟩, by repeat (first | exact Drawn0.refl _ | apply Drawn0.step)⟩
 case round =>
  clear H'
  obtain ⟨x1_1, x5_1, rfl, rfl, HA, HK1, ⟨m1, rfl⟩⟩ := hrel
  cases gk with
  | zero => exact absurd HA.out (by simp [laws_heldJobS.l0])
  | succ k1 =>
   have H := HA.out; clear HA
   simp only [laws_heldJobS.l0] at H
   by_cases c3 : x5_1 < (l0.length : Int)
   ·rw [if_pos c3] at H
    have c3b0 := decide_eq_true c3
    clear c3
    obtain ⟨c4, H⟩ := ifS_ H
    have c4b0 : decide (0 ≤ x5_1) = true := decide_eq_true c4
    clear c4
    by_cases c5 : ((rd_T43 l0 x5_1).f0) = x1_1
    ·rw [if_pos c5] at H
     have c5b0 := beq_iff_eq.mpr c5
     have c5b1 := bne_eq_false_iff_eq.mpr c5
     clear c5
     by_cases c6 : ((rd_T43 l0 x5_1).f1) = (wrap64 (x1_1 + 1))
     ·rw [if_pos c6] at H
      have c6b0 := beq_iff_eq.mpr c6
      have c6b1 := bne_eq_false_iff_eq.mpr c6
      clear c6; have H' := Aside0.mk H; clear H
      have p219 : 0 ≤ (x5_1 : Int) := dA_
      have q219 : x5_1 < (l0.length : Int) := dA_
      obtain ⟨ad219, e219, hx219_0, hx219_1⟩ := at_T43 HR0.out x5_1 p219 q219
      cases e219
      replace p219 := eq_true p219; replace q219 := eq_true q219
      have p220 : 0 ≤ (x5_1 : Int) := dA_
      have q220 : x5_1 < (l0.length : Int) := dA_
      obtain ⟨ad220, e220, hx220_0, hx220_1⟩ := at_T43 HR0.out x5_1 p220 q220
      obtain rfl : ad219 = ad220 := (by injection e220)
      replace p220 := eq_true p220; replace q220 := eq_true q220
      go_wp2
      go_roundg k1
      case measure => have := HK1.out; omega
      case rel => exact ⟨(wrap64 ((wrap64 (x1_1 + 1)) + 1)), (wrap64 (x5_1 + 1)), (by first | rfl | (simp; done) | (simp [*]; done)), (by first | rfl | (simp; done) | (simp [*]; done)), H', ⟨by have := HK1.out; omega⟩, by repeat (first | exact Drawn0.refl _ | apply Drawn0.step)⟩
     ·rw [if_neg c6] at H
      have c6b0 := beq_eq_false_iff_ne.mpr c6
      have c6b1 := bne_iff_ne.mpr c6
      obtain rfl := Option.some.inj H
      have p219 : 0 ≤ (x5_1 : Int) := dA_
      have q219 : x5_1 < (l0.length : Int) := dA_
      obtain ⟨ad219, e219, hx219_0, hx219_1⟩ := at_T43 HR0.out x5_1 p219 q219
      cases e219
      replace p219 := eq_true p219; replace q219 := eq_true q219
      have p220 : 0 ≤ (x5_1 : Int) := dA_
      have q220 : x5_1 < (l0.length : Int) := dA_
      obtain ⟨ad220, e220, hx220_0, hx220_1⟩ := at_T43 HR0.out x5_1 p220 q220
      obtain rfl : ad219 = ad220 := (by injection e220)
      replace p220 := eq_true p220; replace q220 := eq_true q220
      go_wp2
      go_ret
      exact ⟨by first | rfl | (simp; done) | (simp [*]; done), by repeat (first | exact Drawn0.refl _ | apply Drawn0.step)⟩
    ·rw [if_neg c5] at H
     have c5b0 := beq_eq_false_iff_ne.mpr c5
     have c5b1 := bne_iff_ne.mpr c5
     obtain rfl := Option.some.inj H
     have p219 : 0 ≤ (x5_1 : Int) := dA_
     have q219 : x5_1 < (l0.length : Int) := dA_
     obtain ⟨ad219, e219, hx219_0, hx219_1⟩ := at_T43 HR0.out x5_1 p219 q219
     cases e219
     replace p219 := eq_true p219; replace q219 := eq_true q219
     go_wp2
     go_ret
     exact ⟨by first | rfl | (simp; done) | (simp [*]; done), by repeat (first | exact Drawn0.refl _ | apply Drawn0.step)⟩
   ·rw [if_neg c3] at H
    have c3b0 := decide_eq_false c3
    clear c3
    obtain rfl := Option.some.inj H
    go_wp2
    go_ret
    exact ⟨by first | rfl | (simp; done) | (simp [*]; done), by repeat (first | exact Drawn0.refl _ | apply Drawn0.step)⟩

/-! ### laws_szInt64S: function 63 -/
def laws_szInt64S.f (l0 : List Int) (a1 : Int) : Option (Int) := if (wrap64 (a1 - (l0.length : Int))) < 0 then (some (-1)) else (some (wrap64 (a1 - (l0.length : Int))))
set_option maxHeartbeats 8000000 in
set_option maxRecDepth 100000 in
theorem laws_szInt64S.calls (A0 : Option Addr) (c0 : Nat) (l0 : List Int) (a1 : Int) (r : Int) (w : World) (hr0 : Kd.C (Kd.int .i64) w A0 l0.length l0) (hc0 : l0.length ≤ c0) (h : laws_szInt64S.f l0 a1 = some r) :
  Calls Try.prog 63 #[.slice A0 l0.length c0, .int .i64 a1] w fun e w' => e = .returned (.int .i64 r) ∧ Drawn0 w w' := by
 have HR0 := Aside0.mk hr0; have HC0 := Aside0.mk hc0; clear hr0 hc0
 have H : (if (wrap64 (a1 - (l0.length : Int))) < 0 then (some (-1)) else (some (wrap64 (a1 - (l0.length : Int))))) = some r := h
 clear h
 by_cases c3 : (wrap64 (a1 - (l0.length : Int))) < 0
 ·rw [if_pos c3] at H
  have c3b0 := decide_eq_true c3
  clear c3
  obtain rfl := Option.some.inj H
  go_enter Try.func63, Try.ntmps63
  go_wp2
  go_ret
  exact ⟨by first | rfl | (simp; done) | (simp [*]; done), by repeat (first | exact Drawn0.refl _ | apply Drawn0.step)⟩
 ·rw [if_neg c3] at H
  have c3b0 := decide_eq_false c3
  clear c3
  obtain rfl := Option.some.inj H
  go_enter Try.func63, Try.ntmps63
  go_wp2
  go_ret
  exact ⟨by first | rfl | (simp; done) | (simp [*]; done), by repeat (first | exact Drawn0.refl _ | apply Drawn0.step)⟩

/-! ### laws_szTask: function 85 -/
def laws_szTask.f (l0_0 : List Int) (a0_1 : Int) (a0_2 : Int) (a0_3 : Int) (a1 : Int) : Option (Int) := (laws_szInt64S.f l0_0 a1).bind fun t225 => (if t225 < 0 then (some (-1)) else (some t225))
set_option maxHeartbeats 8000000 in
set_option maxRecDepth 100000 in
theorem laws_szTask.calls (A0_0 : Option Addr) (c0_0 : Nat) (l0_0 : List Int) (a0_1 : Int) (a0_2 : Int) (a0_3 : Int) (a1 : Int) (r : Int) (w : World) (hr0_0 : Kd.C (Kd.int .i64) w A0_0 l0_0.length l0_0) (hc0_0 : l0_0.length ≤ c0_0) (h : laws_szTask.f l0_0 a0_1 a0_2 a0_3 a1 = some r) :
  Calls Try.prog 85 #[.agg #[.slice A0_0 l0_0.length c0_0, .int .i64 a0_1, .int .i64 a0_2, .int .i64 a0_3], .int .i64 a1] w fun e w' => e = .returned (.int .i64 r) ∧ Below w.heap.size w w' := by
 have hu110 := Try.underlying110; have HR0_0 := Aside0.mk hr0_0; have HC0_0 := Aside0.mk hc0_0; clear hr0_0 hc0_0
 have HB := Aside0.mk (Below.refl w.heap.size w)
 have H : ((laws_szInt64S.f l0_0 a1).bind fun t225 => (if t225 < 0 then (some (-1)) else (some t225))) = some r := h
 clear h; replace H := Option.bind_eq_some_iff.mp H
 obtain ⟨t225, A30, H⟩ := H
 replace H : (if t225 < 0 then (some (-1)) else (some t225)) = some r := H
 have A3 := Aside0.mk A30; clear A30
 by_cases c4 : t225 < 0
 ·rw [if_pos c4] at H
  have c4b0 := decide_eq_true c4
  clear c4
  obtain rfl := Option.some.inj H
  go_enter Try.func85, Try.ntmps85
  go_wp2_with (first | ((with_reducible refine gate_dst (N := 2) rfl ?_); refine box_event ?hg (N := 2) ?hd (cs := #[.slice A0_0 l0_0.length c0_0, .int .i64 a0_1, .int .i64 a0_2, .int .i64 a0_3]) (t := 110) ?hr ?_; (case hd => rfl); (case hg => rfl); (case hr => first | (go_simp; done) | (go_simp; rfl)); intro gb224 hg w5 hbox hb; have BK224 := Aside0.mk (hbox); have GW224 := gE_ HB hg; have GE224 := gE_ HB hg; replace HB := bS_ HB hb; clear hb hbox hg; obtain ⟨hcz6_0, hcz6_1, hcz6_2, hcz6_3, hfz6_0, hfz6_1, hfz6_2, hfz6_3⟩ := cf4_ BK224) | ((with_reducible refine gate_callee (f := 63) rfl ?_); refine gL_ (some 8) Try.func63 #[.slice A0_0 l0_0.length c0_0, .int .i64 a1] ?_; (with_reducible refine (laws_szInt64S.calls _ _ l0_0 a1 t225 _ ?side1 ?side2 A3.out).mono ?_); (case side1 => exact cB_ HR0_0 HB); (case side2 => exact HC0_0.out); rintro e w' ⟨rfl, ⟨nd, rfl⟩⟩; refine ⟨_, rfl, ?_⟩))
  go_ret
  exact ⟨by first | rfl | (simp [errW_none, errW_some] <;> rfl) | (simp [*, errW_none, errW_some] <;> rfl), sABelo_11⟩
 ·rw [if_neg c4] at H
  have c4b0 := decide_eq_false c4
  clear c4
  obtain rfl := Option.some.inj H
  go_enter Try.func85, Try.ntmps85
  go_wp2_with (first | ((with_reducible refine gate_dst (N := 2) rfl ?_); refine box_event ?hg (N := 2) ?hd (cs := #[.slice A0_0 l0_0.length c0_0, .int .i64 a0_1, .int .i64 a0_2, .int .i64 a0_3]) (t := 110) ?hr ?_; (case hd => rfl); (case hg => rfl); (case hr => first | (go_simp; done) | (go_simp; rfl)); intro gb224 hg w7 hbox hb; have BK224 := Aside0.mk (hbox); have GW224 := gE_ HB hg; have GE224 := gE_ HB hg; replace HB := bS_ HB hb; clear hb hbox hg; obtain ⟨hcz8_0, hcz8_1, hcz8_2, hcz8_3, hfz8_0, hfz8_1, hfz8_2, hfz8_3⟩ := cf4_ BK224) | ((with_reducible refine gate_callee (f := 63) rfl ?_); refine gL_ (some 8) Try.func63 #[.slice A0_0 l0_0.length c0_0, .int .i64 a1] ?_; (with_reducible refine (laws_szInt64S.calls _ _ l0_0 a1 t225 _ ?side1 ?side2 A3.out).mono ?_); (case side1 => exact cB_ HR0_0 HB); (case side2 => exact HC0_0.out); rintro e w' ⟨rfl, ⟨nd, rfl⟩⟩; refine ⟨_, rfl, ?_⟩))
  go_ret
  exact ⟨by first | rfl | (simp [errW_none, errW_some] <;> rfl) | (simp [*, errW_none, errW_some] <;> rfl), sABelo_11⟩

/-! ### laws_szTaskS: function 62 -/
def laws_szTaskS.l0 : Nat → List (S110) → Int → Int → Option (Int)
 | 0, _, _, _ => none
 | k + 1, x0, x1, x5 => if x5 < (x0.length : Int) then (if 0 ≤ x5 then ((laws_szTask.f ((rd_T110 x0 x5).f0) ((rd_T110 x0 x5).f1) ((rd_T110 x0 x5).f2) ((rd_T110 x0 x5).f3) x1).bind fun t227 => (if t227 < 0 then (some (-1)) else (laws_szTaskS.l0 k x0 t227 (wrap64 (x5 + 1))))) else (none)) else (some x1)
def laws_szTaskS.f (k : Nat) (l0 : List (S110)) (a1 : Int) : Option (Int) := if (wrap64 (a1 - (l0.length : Int))) < 0 then (some (-1)) else (laws_szTaskS.l0 k l0 (wrap64 (a1 - (l0.length : Int))) 0)
theorem laws_szTaskS.mono_l : ∀ k, (∀ y0 y1 y2, LeO (laws_szTaskS.l0 k y0 y1 y2) (laws_szTaskS.l0 (k + 1) y0 y1 y2))
 | 0 => fun _ _ _ r h => by simp [laws_szTaskS.l0] at h
 | k + 1 => by
  have ih0 := laws_szTaskS.mono_l k
  ·intro y0 y1 y2
   unfold laws_szTaskS.l0
   repeat' first
   | (with_reducible exact ih0 _ _ _)
   | (with_reducible exact LeO.refl _)
   | (with_reducible exact LeO.none _)
   | (with_reducible refine LeO.ite ?_ ?_)
   | (with_reducible refine LeO.bind ?_ (fun _ => ?_))
   | exact ih0 _ _ _
   | exact LeO.none _
   | refine LeO.ite ?_ ?_
   | refine LeO.bind ?_ (fun _ => ?_)
theorem laws_szTaskS.mono : ∀ a0 a1 k, LeO (laws_szTaskS.f k a0 a1) (laws_szTaskS.f (k + 1) a0 a1) := by
 intro a0 a1 k
 have ih0 := laws_szTaskS.mono_l k
 unfold laws_szTaskS.f
 repeat' first
   | (with_reducible exact ih0 _ _ _)
   | (with_reducible exact LeO.refl _)
   | (with_reducible exact LeO.none _)
   | (with_reducible refine LeO.ite ?_ ?_)
   | (with_reducible refine LeO.bind ?_ (fun _ => ?_))
   | exact ih0 _ _ _
   | exact LeO.none _
   | refine LeO.ite ?_ ?_
   | refine LeO.bind ?_ (fun _ => ?_)
set_option maxHeartbeats 8000000 in
set_option maxRecDepth 100000 in
theorem laws_szTaskS.calls (k : Nat) (A0 : Option Addr) (c0 : Nat) (l0 : List (S110)) (a1 : Int) (r : Int) (w : World) (hr0 : Kd.C k110 w A0 l0.length l0) (hc0 : l0.length ≤ c0) (h : laws_szTaskS.f k l0 a1 = some r) :
  Calls Try.prog 62 #[.slice A0 l0.length c0, .int .i64 a1] w fun e w' => e = .returned (.int .i64 r) ∧ Below w.heap.size w w' := by
 have hu110 := Try.underlying110; have HR0 := Aside0.mk hr0; have HC0 := Aside0.mk hc0; clear hr0 hc0
 have HB := Aside0.mk (Below.refl w.heap.size w)
 have H : (if (wrap64 (a1 - (l0.length : Int))) < 0 then (some (-1)) else (laws_szTaskS.l0 k l0 (wrap64 (a1 - (l0.length : Int))) 0)) = some r := h
 clear h
 by_cases c3 : (wrap64 (a1 - (l0.length : Int))) < 0
 ·rw [if_pos c3] at H
  have c3b0 := decide_eq_true c3
  clear c3
  obtain rfl := Option.some.inj H
  go_enter Try.func62, Try.ntmps62
  go_wp2
  go_ret
  exact ⟨by first | rfl | (simp [errW_none, errW_some] <;> rfl) | (simp [*, errW_none, errW_some] <;> rfl), sABelo_11⟩
 ·rw [if_neg c3] at H
  have c3b0 := decide_eq_false c3
  clear c3; have H' := Aside0.mk H; clear H
  go_enter Try.func62, Try.ntmps62
  go_wp2
  go_loopg [1, 5] k (fun kq v1 v5 w' => ∃ (x1_1 : Int) (x5_1 : Int), v1 = .int .i64 x1_1 ∧ v5 = .int .i64 x5_1 ∧ Aside0 (laws_szTaskS.l0 kq l0 x1_1 x5_1 = some r) ∧ Aside0 (kq ≤ k) ∧ Aside0 (Below w.heap.size w w'))
  case atStart => exact ⟨(wrap64 (a1 - (l0.length : Int))), (0), (by first | rfl | (simp; done) | (simp [*]; done)), (by first | rfl | (simp; done) | (simp [*]; done)), H', ⟨Nat.le_refl _⟩, ⟨sABelo_11⟩⟩
  case round =>
   clear H'; (try clear c3); (try clear c3b0)
   obtain ⟨x1_1, x5_1, rfl, rfl, HA, HK1, HB⟩ := hrel
   cases gk with
   | zero => exact absurd HA.out (by simp [laws_szTaskS.l0])
   | succ k1 =>
    have H := HA.out; clear HA
    simp only [laws_szTaskS.l0] at H
    by_cases c4 : x5_1 < (l0.length : Int)
    ·rw [if_pos c4] at H
     have c4b0 := decide_eq_true c4
     clear c4
     obtain ⟨c5, H⟩ := ifS_ H
     have c5b0 : decide (0 ≤ x5_1) = true := decide_eq_true c5
     clear c5; replace H := Option.bind_eq_some_iff.mp H
     obtain ⟨t227, A60, H⟩ := H
     replace H : (if t227 < 0 then (some (-1)) else (laws_szTaskS.l0 k1 l0 t227 (wrap64 (x5_1 + 1)))) = some r := H
     have A6 := Aside0.mk A60; clear A60
     by_cases c7 : t227 < 0
     ·rw [if_pos c7] at H
      have c7b0 := decide_eq_true c7
      clear c7
      obtain rfl := Option.some.inj H
      have p226 : 0 ≤ (x5_1 : Int) := dA_
      have q226 : x5_1 < (l0.length : Int) := dA_
      obtain ⟨ad226, A226_0, c226_0, e226, hx226_0, hx226_1, hx226_2, hx226_3, hl226_0, hi226_0⟩ := at_T110 HR0.out x5_1 p226 q226
      cases e226
      replace hx226_0 := hX_ HB hx226_0
      replace hx226_1 := hX_ HB hx226_1
      replace hx226_2 := hX_ HB hx226_2
      replace hx226_3 := hX_ HB hx226_3
      have HR226_0 := Aside0.mk hi226_0; have HC226_0 := Aside0.mk hl226_0; clear hi226_0 hl226_0; replace p226 := eq_true p226; replace q226 := eq_true q226
      go_wp2_with (first | ((with_reducible refine gate_callee (f := 85) rfl ?_); refine gL_ (some 23) Try.func85 #[.agg #[.slice A226_0 ((rd_T110 l0 x5_1).f0).length c226_0, .int .i64 ((rd_T110 l0 x5_1).f1), .int .i64 ((rd_T110 l0 x5_1).f2), .int .i64 ((rd_T110 l0 x5_1).f3)], .int .i64 x1_1] ?_; (with_reducible refine (laws_szTask.calls _ _ ((rd_T110 l0 x5_1).f0) ((rd_T110 l0 x5_1).f1) ((rd_T110 l0 x5_1).f2) ((rd_T110 l0 x5_1).f3) x1_1 t227 _ ?side1 ?side2 A6.out).mono ?_); (case side1 => exact cB_ HR226_0 HB); (case side2 => exact HC226_0.out); rintro e w8 ⟨rfl, hb⟩; refine ⟨_, rfl, ?_⟩; replace HB := bS_ HB hb; (try clear hb)))
      go_ret
      exact ⟨by first | rfl | (simp [errW_none, errW_some] <;> rfl) | (simp [*, errW_none, errW_some] <;> rfl), sABelo_11⟩
     ·rw [if_neg c7] at H
      have c7b0 := decide_eq_false c7
      clear c7; have H' := Aside0.mk H; clear H
      have p226 : 0 ≤ (x5_1 : Int) := dA_
      have q226 : x5_1 < (l0.length : Int) := dA_
      obtain ⟨ad226, A226_0, c226_0, e226, hx226_0, hx226_1, hx226_2, hx226_3, hl226_0, hi226_0⟩ := at_T110 HR0.out x5_1 p226 q226
      cases e226
      replace hx226_0 := hX_ HB hx226_0
      replace hx226_1 := hX_ HB hx226_1
      replace hx226_2 := hX_ HB hx226_2
      replace hx226_3 := hX_ HB hx226_3
      have HR226_0 := Aside0.mk hi226_0; have HC226_0 := Aside0.mk hl226_0; clear hi226_0 hl226_0; replace p226 := eq_true p226; replace q226 := eq_true q226
      go_wp2_with (first | ((with_reducible refine gate_callee (f := 85) rfl ?_); refine gL_ (some 23) Try.func85 #[.agg #[.slice A226_0 ((rd_T110 l0 x5_1).f0).length c226_0, .int .i64 ((rd_T110 l0 x5_1).f1), .int .i64 ((rd_T110 l0 x5_1).f2), .int .i64 ((rd_T110 l0 x5_1).f3)], .int .i64 x1_1] ?_; (with_reducible refine (laws_szTask.calls _ _ ((rd_T110 l0 x5_1).f0) ((rd_T110 l0 x5_1).f1) ((rd_T110 l0 x5_1).f2) ((rd_T110 l0 x5_1).f3) x1_1 t227 _ ?side1 ?side2 A6.out).mono ?_); (case side1 => exact cB_ HR226_0 HB); (case side2 => exact HC226_0.out); rintro e w9 ⟨rfl, hb⟩; refine ⟨_, rfl, ?_⟩; replace HB := bS_ HB hb; (try clear hb)))
      go_roundg k1
      case measure => have := HK1.out; omega
      case rel => exact ⟨(t227), (wrap64 (x5_1 + 1)), (by first | rfl | (simp; done) | (simp [*]; done)), (by first | rfl | (simp; done) | (simp [*]; done)), H', ⟨by have := HK1.out; omega⟩, ⟨sABelo_11⟩⟩
    ·rw [if_neg c4] at H
     have c4b0 := decide_eq_false c4
     clear c4
     obtain rfl := Option.some.inj H
     go_wp2
     go_ret
     exact ⟨by first | rfl | (simp [errW_none, errW_some] <;> rfl) | (simp [*, errW_none, errW_some] <;> rfl), sABelo_11⟩

/-! ### laws_szSuite: function 27 -/
def laws_szSuite.f (k : Nat) (l0_0 : List (S110)) (l0_1 : List Int) (a1 : Int) : Option (Int) := (laws_szTaskS.f k l0_0 a1).bind fun t229 => (if t229 < 0 then (some (-1)) else ((laws_szInt64S.f l0_1 t229).bind fun t230 => (if t230 < 0 then (some (-1)) else (some t230))))
theorem laws_szSuite.mono : ∀ a0 a1 a2 k, LeO (laws_szSuite.f k a0 a1 a2) (laws_szSuite.f (k + 1) a0 a1 a2) := by
 intro a0 a1 a2 k
 unfold laws_szSuite.f
 repeat' first
   | (with_reducible exact laws_szTaskS.mono _ _ _)
   | (with_reducible exact LeO.refl _)
   | (with_reducible exact LeO.none _)
   | (with_reducible refine LeO.ite ?_ ?_)
   | (with_reducible refine LeO.bind ?_ (fun _ => ?_))
   | exact laws_szTaskS.mono _ _ _
   | exact LeO.none _
   | refine LeO.ite ?_ ?_
   | refine LeO.bind ?_ (fun _ => ?_)
set_option maxHeartbeats 8000000 in
set_option maxRecDepth 100000 in
theorem laws_szSuite.calls (k : Nat) (A0_0 : Option Addr) (c0_0 : Nat) (l0_0 : List (S110)) (A0_1 : Option Addr) (c0_1 : Nat) (l0_1 : List Int) (a1 : Int) (r : Int) (w : World) (hr0_0 : Kd.C k110 w A0_0 l0_0.length l0_0) (hc0_0 : l0_0.length ≤ c0_0) (hr0_1 : Kd.C (Kd.int .i64) w A0_1 l0_1.length l0_1) (hc0_1 : l0_1.length ≤ c0_1) (h : laws_szSuite.f k l0_0 l0_1 a1 = some r) :
  Calls Try.prog 27 #[.agg #[.slice A0_0 l0_0.length c0_0, .slice A0_1 l0_1.length c0_1], .int .i64 a1] w fun e w' => e = .returned (.int .i64 r) ∧ Below w.heap.size w w' := by
 have hu54 := Try.underlying54; have HR0_0 := Aside0.mk hr0_0; have HC0_0 := Aside0.mk hc0_0; clear hr0_0 hc0_0; have HR0_1 := Aside0.mk hr0_1; have HC0_1 := Aside0.mk hc0_1; clear hr0_1 hc0_1
 have HB := Aside0.mk (Below.refl w.heap.size w)
 have H : ((laws_szTaskS.f k l0_0 a1).bind fun t229 => (if t229 < 0 then (some (-1)) else ((laws_szInt64S.f l0_1 t229).bind fun t230 => (if t230 < 0 then (some (-1)) else (some t230))))) = some r := h
 clear h; replace H := Option.bind_eq_some_iff.mp H
 obtain ⟨t229, A30, H⟩ := H
 replace H : (if t229 < 0 then (some (-1)) else ((laws_szInt64S.f l0_1 t229).bind fun t230 => (if t230 < 0 then (some (-1)) else (some t230)))) = some r := H
 have A3 := Aside0.mk A30; clear A30
 by_cases c4 : t229 < 0
 ·rw [if_pos c4] at H
  have c4b0 := decide_eq_true c4
  clear c4
  obtain rfl := Option.some.inj H
  go_enter Try.func27, Try.ntmps27
  go_wp2_with (first | ((with_reducible refine gate_dst (N := 2) rfl ?_); refine box_event ?hg (N := 2) ?hd (cs := #[.slice A0_0 l0_0.length c0_0, .slice A0_1 l0_1.length c0_1]) (t := 54) ?hr ?_; (case hd => rfl); (case hg => rfl); (case hr => first | (go_simp; done) | (go_simp; rfl)); intro gb228 hg w5 hbox hb; have BK228 := Aside0.mk (hbox); have GW228 := gE_ HB hg; have GE228 := gE_ HB hg; replace HB := bS_ HB hb; clear hb hbox hg; obtain ⟨hcz6_0, hcz6_1, hfz6_0, hfz6_1⟩ := cf2_ BK228) | ((with_reducible refine gate_callee (f := 62) rfl ?_); refine gL_ (some 8) Try.func62 #[.slice A0_0 l0_0.length c0_0, .int .i64 a1] ?_; (with_reducible refine (laws_szTaskS.calls k _ _ l0_0 a1 t229 _ ?side1 ?side2 A3.out).mono ?_); (case side1 => exact cB_ HR0_0 HB); (case side2 => exact HC0_0.out); rintro e w7 ⟨rfl, hb⟩; refine ⟨_, rfl, ?_⟩; replace BK228 := bB_ BK228 hb; replace HB := bS_ HB hb; (try clear hb)))
  go_ret
  exact ⟨by first | rfl | (simp [errW_none, errW_some] <;> rfl) | (simp [*, errW_none, errW_some] <;> rfl), sABelo_11⟩
 ·rw [if_neg c4] at H
  have c4b0 := decide_eq_false c4
  clear c4; replace H := Option.bind_eq_some_iff.mp H
  obtain ⟨t230, A80, H⟩ := H
  replace H : (if t230 < 0 then (some (-1)) else (some t230)) = some r := H
  have A8 := Aside0.mk A80; clear A80
  by_cases c9 : t230 < 0
  ·rw [if_pos c9] at H
   have c9b0 := decide_eq_true c9
   clear c9
   obtain rfl := Option.some.inj H
   go_enter Try.func27, Try.ntmps27
   go_wp2_with (first | ((with_reducible refine gate_dst (N := 2) rfl ?_); refine box_event ?hg (N := 2) ?hd (cs := #[.slice A0_0 l0_0.length c0_0, .slice A0_1 l0_1.length c0_1]) (t := 54) ?hr ?_; (case hd => rfl); (case hg => rfl); (case hr => first | (go_simp; done) | (go_simp; rfl)); intro gb228 hg w10 hbox hb; have BK228 := Aside0.mk (hbox); have GW228 := gE_ HB hg; have GE228 := gE_ HB hg; replace HB := bS_ HB hb; clear hb hbox hg; obtain ⟨hcz11_0, hcz11_1, hfz11_0, hfz11_1⟩ := cf2_ BK228) | ((with_reducible refine gate_callee (f := 62) rfl ?_); refine gL_ (some 8) Try.func62 #[.slice A0_0 l0_0.length c0_0, .int .i64 a1] ?_; (with_reducible refine (laws_szTaskS.calls k _ _ l0_0 a1 t229 _ ?side1 ?side2 A3.out).mono ?_); (case side1 => exact cB_ HR0_0 HB); (case side2 => exact HC0_0.out); rintro e w12 ⟨rfl, hb⟩; refine ⟨_, rfl, ?_⟩; replace BK228 := bB_ BK228 hb; replace HB := bS_ HB hb; (try clear hb); obtain ⟨hcz13_0, hcz13_1, hfz13_0, hfz13_1⟩ := cf2_ BK228) | ((with_reducible refine gate_callee (f := 63) rfl ?_); refine gL_ (some 14) Try.func63 #[.slice A0_1 l0_1.length c0_1, .int .i64 t229] ?_; (with_reducible refine (laws_szInt64S.calls _ _ l0_1 t229 t230 _ ?side1 ?side2 A8.out).mono ?_); (case side1 => exact cB_ HR0_1 HB); (case side2 => exact HC0_1.out); rintro e w' ⟨rfl, ⟨nd, rfl⟩⟩; refine ⟨_, rfl, ?_⟩))
   go_ret
   exact ⟨by first | rfl | (simp [errW_none, errW_some] <;> rfl) | (simp [*, errW_none, errW_some] <;> rfl), sABelo_11⟩
  ·rw [if_neg c9] at H
   have c9b0 := decide_eq_false c9
   clear c9
   obtain rfl := Option.some.inj H
   go_enter Try.func27, Try.ntmps27
   go_wp2_with (first | ((with_reducible refine gate_dst (N := 2) rfl ?_); refine box_event ?hg (N := 2) ?hd (cs := #[.slice A0_0 l0_0.length c0_0, .slice A0_1 l0_1.length c0_1]) (t := 54) ?hr ?_; (case hd => rfl); (case hg => rfl); (case hr => first | (go_simp; done) | (go_simp; rfl)); intro gb228 hg w14 hbox hb; have BK228 := Aside0.mk (hbox); have GW228 := gE_ HB hg; have GE228 := gE_ HB hg; replace HB := bS_ HB hb; clear hb hbox hg; obtain ⟨hcz15_0, hcz15_1, hfz15_0, hfz15_1⟩ := cf2_ BK228) | ((with_reducible refine gate_callee (f := 62) rfl ?_); refine gL_ (some 8) Try.func62 #[.slice A0_0 l0_0.length c0_0, .int .i64 a1] ?_; (with_reducible refine (laws_szTaskS.calls k _ _ l0_0 a1 t229 _ ?side1 ?side2 A3.out).mono ?_); (case side1 => exact cB_ HR0_0 HB); (case side2 => exact HC0_0.out); rintro e w16 ⟨rfl, hb⟩; refine ⟨_, rfl, ?_⟩; replace BK228 := bB_ BK228 hb; replace HB := bS_ HB hb; (try clear hb); obtain ⟨hcz17_0, hcz17_1, hfz17_0, hfz17_1⟩ := cf2_ BK228) | ((with_reducible refine gate_callee (f := 63) rfl ?_); refine gL_ (some 14) Try.func63 #[.slice A0_1 l0_1.length c0_1, .int .i64 t229] ?_; (with_reducible refine (laws_szInt64S.calls _ _ l0_1 t229 t230 _ ?side1 ?side2 A8.out).mono ?_); (case side1 => exact cB_ HR0_1 HB); (case side2 => exact HC0_1.out); rintro e w' ⟨rfl, ⟨nd, rfl⟩⟩; refine ⟨_, rfl, ?_⟩))
   go_ret
   exact ⟨by first | rfl | (simp [errW_none, errW_some] <;> rfl) | (simp [*, errW_none, errW_some] <;> rfl), sABelo_11⟩

/-! ### laws_szJobS: function 72 -/
def laws_szJobS.f (l0 : List (S115)) (a1 : Int) : Option (Int) := if (wrap64 (a1 - (l0.length : Int))) < 0 then (some (-1)) else (some (wrap64 (a1 - (l0.length : Int))))
set_option maxHeartbeats 8000000 in
set_option maxRecDepth 100000 in
theorem laws_szJobS.calls (A0 : Option Addr) (c0 : Nat) (l0 : List (S115)) (a1 : Int) (r : Int) (w : World) (hr0 : Kd.C k115 w A0 l0.length l0) (hc0 : l0.length ≤ c0) (h : laws_szJobS.f l0 a1 = some r) :
  Calls Try.prog 72 #[.slice A0 l0.length c0, .int .i64 a1] w fun e w' => e = .returned (.int .i64 r) ∧ Drawn0 w w' := by
 have HR0 := Aside0.mk hr0; have HC0 := Aside0.mk hc0; clear hr0 hc0
 have H : (if (wrap64 (a1 - (l0.length : Int))) < 0 then (some (-1)) else (some (wrap64 (a1 - (l0.length : Int))))) = some r := h
 clear h
 by_cases c3 : (wrap64 (a1 - (l0.length : Int))) < 0
 ·rw [if_pos c3] at H
  have c3b0 := decide_eq_true c3
  clear c3
  obtain rfl := Option.some.inj H
  go_enter Try.func72, Try.ntmps72
  go_wp2
  go_ret
  exact ⟨by first | rfl | (simp; done) | (simp [*]; done), by repeat (first | exact Drawn0.refl _ | apply Drawn0.step)⟩
 ·rw [if_neg c3] at H
  have c3b0 := decide_eq_false c3
  clear c3
  obtain rfl := Option.some.inj H
  go_enter Try.func72, Try.ntmps72
  go_wp2
  go_ret
  exact ⟨by first | rfl | (simp; done) | (simp [*]; done), by repeat (first | exact Drawn0.refl _ | apply Drawn0.step)⟩

/-! ### laws_szRun: function 34 -/
def laws_szRun.f (k : Nat) (l0_0 : List (S110)) (l0_1 : List Int) (a0_2 : Int) (l0_3 : List (S115)) (a1 : Int) : Option (Int) := (laws_szSuite.f k l0_0 l0_1 a1).bind fun t232 => (if t232 < 0 then (some (-1)) else ((laws_szJobS.f l0_3 t232).bind fun t233 => (if t233 < 0 then (some (-1)) else (some t233))))
theorem laws_szRun.mono : ∀ a0 a1 a2 a3 a4 k, LeO (laws_szRun.f k a0 a1 a2 a3 a4) (laws_szRun.f (k + 1) a0 a1 a2 a3 a4) := by
 intro a0 a1 a2 a3 a4 k
 unfold laws_szRun.f
 repeat' first
   | (with_reducible exact laws_szSuite.mono _ _ _ _)
   | (with_reducible exact LeO.refl _)
   | (with_reducible exact LeO.none _)
   | (with_reducible refine LeO.ite ?_ ?_)
   | (with_reducible refine LeO.bind ?_ (fun _ => ?_))
   | exact laws_szSuite.mono _ _ _ _
   | exact LeO.none _
   | refine LeO.ite ?_ ?_
   | refine LeO.bind ?_ (fun _ => ?_)
set_option maxHeartbeats 8000000 in
set_option maxRecDepth 100000 in
theorem laws_szRun.calls (k : Nat) (A0_0 : Option Addr) (c0_0 : Nat) (l0_0 : List (S110)) (A0_1 : Option Addr) (c0_1 : Nat) (l0_1 : List Int) (a0_2 : Int) (A0_3 : Option Addr) (c0_3 : Nat) (l0_3 : List (S115)) (a1 : Int) (r : Int) (w : World) (hr0_0 : Kd.C k110 w A0_0 l0_0.length l0_0) (hc0_0 : l0_0.length ≤ c0_0) (hr0_1 : Kd.C (Kd.int .i64) w A0_1 l0_1.length l0_1) (hc0_1 : l0_1.length ≤ c0_1) (hr0_3 : Kd.C k115 w A0_3 l0_3.length l0_3) (hc0_3 : l0_3.length ≤ c0_3) (h : laws_szRun.f k l0_0 l0_1 a0_2 l0_3 a1 = some r) :
  Calls Try.prog 34 #[.agg #[.slice A0_0 l0_0.length c0_0, .slice A0_1 l0_1.length c0_1, .int .i64 a0_2, .slice A0_3 l0_3.length c0_3], .int .i64 a1] w fun e w' => e = .returned (.int .i64 r) ∧ Below w.heap.size w w' := by
 have hu64 := Try.underlying64; have hu54 := Try.underlying54; have HR0_0 := Aside0.mk hr0_0; have HC0_0 := Aside0.mk hc0_0; clear hr0_0 hc0_0; have HR0_1 := Aside0.mk hr0_1; have HC0_1 := Aside0.mk hc0_1; clear hr0_1 hc0_1; have HR0_3 := Aside0.mk hr0_3; have HC0_3 := Aside0.mk hc0_3; clear hr0_3 hc0_3
 have HB := Aside0.mk (Below.refl w.heap.size w)
 have H : ((laws_szSuite.f k l0_0 l0_1 a1).bind fun t232 => (if t232 < 0 then (some (-1)) else ((laws_szJobS.f l0_3 t232).bind fun t233 => (if t233 < 0 then (some (-1)) else (some t233))))) = some r := h
 clear h; replace H := Option.bind_eq_some_iff.mp H
 obtain ⟨t232, A30, H⟩ := H
 replace H : (if t232 < 0 then (some (-1)) else ((laws_szJobS.f l0_3 t232).bind fun t233 => (if t233 < 0 then (some (-1)) else (some t233)))) = some r := H
 have A3 := Aside0.mk A30; clear A30
 by_cases c4 : t232 < 0
 ·rw [if_pos c4] at H
  have c4b0 := decide_eq_true c4
  clear c4
  obtain rfl := Option.some.inj H
  go_enter Try.func34, Try.ntmps34
  go_wp2_with (first | ((with_reducible refine gate_dst (N := 2) rfl ?_); refine box_event ?hg (N := 2) ?hd (cs := #[.slice A0_0 l0_0.length c0_0, .slice A0_1 l0_1.length c0_1, .int .i64 a0_2, .slice A0_3 l0_3.length c0_3]) (t := 64) ?hr ?_; (case hd => rfl); (case hg => rfl); (case hr => first | (go_simp; done) | (go_simp; rfl)); intro gb231 hg w5 hbox hb; have BK231 := Aside0.mk (hbox); have GW231 := gE_ HB hg; have GE231 := gE_ HB hg; replace HB := bS_ HB hb; clear hb hbox hg; obtain ⟨hcz6_0, hcz6_1, hcz6_2, hcz6_3, hfz6_0, hfz6_1, hfz6_2, hfz6_3⟩ := cf4_ BK231) | ((with_reducible refine gate_callee (f := 27) rfl ?_); refine gL_ (some 8) Try.func27 #[.agg #[.slice A0_0 l0_0.length c0_0, .slice A0_1 l0_1.length c0_1], .int .i64 a1] ?_; (with_reducible refine (laws_szSuite.calls k _ _ l0_0 _ _ l0_1 a1 t232 _ ?side1 ?side2 ?side3 ?side4 A3.out).mono ?_); (case side1 => exact cB_ HR0_0 HB); (case side2 => exact HC0_0.out); (case side3 => exact cB_ HR0_1 HB); (case side4 => exact HC0_1.out); rintro e w7 ⟨rfl, hb⟩; refine ⟨_, rfl, ?_⟩; replace BK231 := bB_ BK231 hb; replace HB := bS_ HB hb; (try clear hb)))
  go_ret
  exact ⟨by first | rfl | (simp [errW_none, errW_some] <;> rfl) | (simp [*, errW_none, errW_some] <;> rfl), sABelo_11⟩
 ·rw [if_neg c4] at H
  have c4b0 := decide_eq_false c4
  clear c4; replace H := Option.bind_eq_some_iff.mp H
  obtain ⟨t233, A80, H⟩ := H
  replace H : (if t233 < 0 then (some (-1)) else (some t233)) = some r := H
  have A8 := Aside0.mk A80; clear A80
  by_cases c9 : t233 < 0
  ·rw [if_pos c9] at H
   have c9b0 := decide_eq_true c9
   clear c9
   obtain rfl := Option.some.inj H
   go_enter Try.func34, Try.ntmps34
   go_wp2_with (first | ((with_reducible refine gate_dst (N := 2) rfl ?_); refine box_event ?hg (N := 2) ?hd (cs := #[.slice A0_0 l0_0.length c0_0, .slice A0_1 l0_1.length c0_1, .int .i64 a0_2, .slice A0_3 l0_3.length c0_3]) (t := 64) ?hr ?_; (case hd => rfl); (case hg => rfl); (case hr => first | (go_simp; done) | (go_simp; rfl)); intro gb231 hg w10 hbox hb; have BK231 := Aside0.mk (hbox); have GW231 := gE_ HB hg; have GE231 := gE_ HB hg; replace HB := bS_ HB hb; clear hb hbox hg; obtain ⟨hcz11_0, hcz11_1, hcz11_2, hcz11_3, hfz11_0, hfz11_1, hfz11_2, hfz11_3⟩ := cf4_ BK231) | ((with_reducible refine gate_callee (f := 27) rfl ?_); refine gL_ (some 8) Try.func27 #[.agg #[.slice A0_0 l0_0.length c0_0, .slice A0_1 l0_1.length c0_1], .int .i64 a1] ?_; (with_reducible refine (laws_szSuite.calls k _ _ l0_0 _ _ l0_1 a1 t232 _ ?side1 ?side2 ?side3 ?side4 A3.out).mono ?_); (case side1 => exact cB_ HR0_0 HB); (case side2 => exact HC0_0.out); (case side3 => exact cB_ HR0_1 HB); (case side4 => exact HC0_1.out); rintro e w12 ⟨rfl, hb⟩; refine ⟨_, rfl, ?_⟩; replace BK231 := bB_ BK231 hb; replace HB := bS_ HB hb; (try clear hb); obtain ⟨hcz13_0, hcz13_1, hcz13_2, hcz13_3, hfz13_0, hfz13_1, hfz13_2, hfz13_3⟩ := cf4_ BK231) | ((with_reducible refine gate_callee (f := 72) rfl ?_); refine gL_ (some 14) Try.func72 #[.slice A0_3 l0_3.length c0_3, .int .i64 t232] ?_; (with_reducible refine (laws_szJobS.calls _ _ l0_3 t232 t233 _ ?side1 ?side2 A8.out).mono ?_); (case side1 => exact cB_ HR0_3 HB); (case side2 => exact HC0_3.out); rintro e w' ⟨rfl, ⟨nd, rfl⟩⟩; refine ⟨_, rfl, ?_⟩))
   go_ret
   exact ⟨by first | rfl | (simp [errW_none, errW_some] <;> rfl) | (simp [*, errW_none, errW_some] <;> rfl), sABelo_11⟩
  ·rw [if_neg c9] at H
   have c9b0 := decide_eq_false c9
   clear c9
   obtain rfl := Option.some.inj H
   go_enter Try.func34, Try.ntmps34
   go_wp2_with (first | ((with_reducible refine gate_dst (N := 2) rfl ?_); refine box_event ?hg (N := 2) ?hd (cs := #[.slice A0_0 l0_0.length c0_0, .slice A0_1 l0_1.length c0_1, .int .i64 a0_2, .slice A0_3 l0_3.length c0_3]) (t := 64) ?hr ?_; (case hd => rfl); (case hg => rfl); (case hr => first | (go_simp; done) | (go_simp; rfl)); intro gb231 hg w14 hbox hb; have BK231 := Aside0.mk (hbox); have GW231 := gE_ HB hg; have GE231 := gE_ HB hg; replace HB := bS_ HB hb; clear hb hbox hg; obtain ⟨hcz15_0, hcz15_1, hcz15_2, hcz15_3, hfz15_0, hfz15_1, hfz15_2, hfz15_3⟩ := cf4_ BK231) | ((with_reducible refine gate_callee (f := 27) rfl ?_); refine gL_ (some 8) Try.func27 #[.agg #[.slice A0_0 l0_0.length c0_0, .slice A0_1 l0_1.length c0_1], .int .i64 a1] ?_; (with_reducible refine (laws_szSuite.calls k _ _ l0_0 _ _ l0_1 a1 t232 _ ?side1 ?side2 ?side3 ?side4 A3.out).mono ?_); (case side1 => exact cB_ HR0_0 HB); (case side2 => exact HC0_0.out); (case side3 => exact cB_ HR0_1 HB); (case side4 => exact HC0_1.out); rintro e w16 ⟨rfl, hb⟩; refine ⟨_, rfl, ?_⟩; replace BK231 := bB_ BK231 hb; replace HB := bS_ HB hb; (try clear hb); obtain ⟨hcz17_0, hcz17_1, hcz17_2, hcz17_3, hfz17_0, hfz17_1, hfz17_2, hfz17_3⟩ := cf4_ BK231) | ((with_reducible refine gate_callee (f := 72) rfl ?_); refine gL_ (some 14) Try.func72 #[.slice A0_3 l0_3.length c0_3, .int .i64 t232] ?_; (with_reducible refine (laws_szJobS.calls _ _ l0_3 t232 t233 _ ?side1 ?side2 A8.out).mono ?_); (case side1 => exact cB_ HR0_3 HB); (case side2 => exact HC0_3.out); rintro e w' ⟨rfl, ⟨nd, rfl⟩⟩; refine ⟨_, rfl, ?_⟩))
   go_ret
   exact ⟨by first | rfl | (simp [errW_none, errW_some] <;> rfl) | (simp [*, errW_none, errW_some] <;> rfl), sABelo_11⟩

end Go.Proofs.Ytjoghfehmhapbaa.QFnExactStuck
