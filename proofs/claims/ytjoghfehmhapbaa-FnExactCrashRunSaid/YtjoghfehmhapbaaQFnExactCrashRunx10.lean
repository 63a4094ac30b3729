-- Written by a program of this session out of the printer's texts and contracts of its own.
import Derived.Test.YtjoghfehmhapbaaSq
import Derived.Test.YtjoghfehmhapbaaQFnExactCrashRunx0
import Derived.Test.YtjoghfehmhapbaaQFnExactCrashRunx9
namespace Go.Proofs.Ytjoghfehmhapbaa.QFnExactCrashRun
open Go.RowKit Go.Proofs.YtjoghfehmhapbaaW.PrintWords Go.Proofs.YtjoghfehmhapbaaW.PrintLast Go.Proofs.YtjoghfehmhapbaaW.PrintMore Go.Proofs.Ytjoghfehmhapbaa.Sq
attribute [local go_sem] max2_int min2_int max_two min_two max_three min_three max_four min_four   -- for this text's walks alone
set_option linter.unusedVariables false
set_option linter.unusedSimpArgs false
theorem sABelo_10 {b : Nat} {w W : World} (h : Below b w W := by repeat (first | (with_reducible first | exact Aside0.out (by assumption) | apply below_alloc | apply pw_below_drewN | apply below_drew1 | refine below_set ?_ (Aside0.out (by assumption))) | exact Aside0.out (by assumption))) : Below b w W := h

/-! ### laws_heldTaskS: function 89 -/
def laws_heldTaskS.l0 : Nat → List (S39) → Int → Int → Option (Int)
 | 0, _, _, _ => none
 | k + 1, x0, x1, x5 => if x5 < (x0.length : Int) then (if 0 ≤ x5 then ((laws_heldInt64S.f k ((rd_T39 x0 x5).f0) x1).bind fun t229 => (if t229 < 0 then (some (-1)) else (if ((rd_T39 x0 x5).f1) = t229 then (if ((rd_T39 x0 x5).f2) = (wrap64 (t229 + 1)) then (if ((rd_T39 x0 x5).f3) = (wrap64 ((wrap64 (t229 + 1)) + 1)) then (laws_heldTaskS.l0 k x0 (wrap64 ((wrap64 ((wrap64 (t229 + 1)) + 1)) + 1)) (wrap64 (x5 + 1))) else (some (-1))) else (some (-1))) else (some (-1))))) else (none)) else (some x1)
def laws_heldTaskS.f (k : Nat) (l0 : List (S39)) (a1 : Int) : Option (Int) := laws_heldTaskS.l0 k l0 a1 0
theorem laws_heldTaskS.mono_l : ∀ k, (∀ y0 y1 y2, LeO (laws_heldTaskS.l0 k y0 y1 y2) (laws_heldTaskS.l0 (k + 1) y0 y1 y2))
 | 0 => fun _ _ _ r h => by simp [laws_heldTaskS.l0] at h
 | k + 1 => by
  have ih0 := laws_heldTaskS.mono_l k
  ·intro y0 y1 y2
   unfold laws_heldTaskS.l0
   repeat' first
   | (with_reducible exact ih0 _ _ _)
   | (with_reducible exact laws_heldInt64S.mono _ _ _)
   | (with_reducible exact LeO.refl _)
   | (with_reducible exact LeO.none _)
   | (with_reducible refine LeO.ite ?_ ?_)
   | (with_reducible refine LeO.bind ?_ (fun _ => ?_))
   | exact ih0 _ _ _
   | exact laws_heldInt64S.mono _ _ _
   | exact LeO.none _
   | refine LeO.ite ?_ ?_
   | refine LeO.bind ?_ (fun _ => ?_)
theorem laws_heldTaskS.mono : ∀ a0 a1 k, LeO (laws_heldTaskS.f k a0 a1) (laws_heldTaskS.f (k + 1) a0 a1) := by
 intro a0 a1 k
 have ih0 := laws_heldTaskS.mono_l k
 unfold laws_heldTaskS.f
 repeat' first
   | (with_reducible exact ih0 _ _ _)
   | (with_reducible exact laws_heldInt64S.mono _ _ _)
   | (with_reducible exact LeO.refl _)
   | (with_reducible exact LeO.none _)
   | (with_reducible refine LeO.ite ?_ ?_)
   | (with_reducible refine LeO.bind ?_ (fun _ => ?_))
   | exact ih0 _ _ _
   | exact laws_heldInt64S.mono _ _ _
   | exact LeO.none _
   | refine LeO.ite ?_ ?_
   | refine LeO.bind ?_ (fun _ => ?_)
set_option maxHeartbeats 8000000 in
set_option maxRecDepth 100000 in
theorem laws_heldTaskS.calls (k : Nat) (A0 : Option Addr) (c0 : Nat) (l0 : List (S39)) (a1 : Int) (r : Int) (w : World) (hr0 : Kd.C k39 w A0 l0.length l0) (hc0 : l0.length ≤ c0) (h : laws_heldTaskS.f k l0 a1 = some r) :
  Calls Try.prog 89 #[.slice A0 l0.length c0, .int .i64 a1] w fun e w' => e = .returned (.int .i64 r) ∧ Drawn0 w w' := by
 have HR0 := Aside0.mk hr0; have HC0 := Aside0.mk hc0; clear hr0 hc0
 have H : (laws_heldTaskS.l0 k l0 a1 0) = some r := h
 clear h; have H' := Aside0.mk H; clear H
 go_enter Try.func89, Try.ntmps89
 go_wp2
 go_loopg [1, 5] k (fun kq v1 v5 w' => ∃ (x1_1 : Int) (x5_1 : Int), v1 = .int .i64 x1_1 ∧ v5 = .int .i64 x5_1 ∧ Aside0 (laws_heldTaskS.l0 kq l0 x1_1 x5_1 = some r) ∧ Aside0 (kq ≤ k) ∧ Drawn0 w w')
 case atStart => exact ⟨(a1), (0), (by first | rfl | (simp; done) | (simp [*]; done)), (by first | rfl | (simp; done) | (simp [*]; done)), H', ⟨Nat.le_refl _⟩, by repeat (first | exact Drawn0.refl _ | apply Drawn0.step)⟩
 case round =>
  clear H'; (try clear p2)
  obtain ⟨x1_1, x5_1, rfl, rfl, HA, HK1, ⟨m1, rfl⟩⟩ := hrel
  cases gk with
  | zero => exact absurd HA.out (by simp [laws_heldTaskS.l0])
  | succ k1 =>
   have H := HA.out; clear HA
   simp only [laws_heldTaskS.l0] at H
   by_cases c3 : x5_1 < (l0.length : Int)
   ·rw [if_pos c3] at H
    have c3b0 : decide (x5_1 < (l0.length : Int)) = true := decide_eq_true c3
    clear c3
    obtain ⟨c4, H⟩ := ifS_ H
    have c4b0 : decide (0 ≤ x5_1) = true := decide_eq_true c4
    clear c4; replace H := Option.bind_eq_some_iff.mp H
    obtain ⟨t229, A50, H⟩ := H
    replace H : (if t229 < 0 then (some (-1)) else (if ((rd_T39 l0 x5_1).f1) = t229 then (if ((rd_T39 l0 x5_1).f2) = (wrap64 (t229 + 1)) then (if ((rd_T39 l0 x5_1).f3) = (wrap64 ((wrap64 (t229 + 1)) + 1)) then (laws_heldTaskS.l0 k1 l0 (wrap64 ((wrap64 ((wrap64 (t229 + 1)) + 1)) + 1)) (wrap64 (x5_1 + 1))) else (some (-1))) else (some (-1))) else (some (-1)))) = some r := H
    have A5 := Aside0.mk A50; clear A50
    by_cases c6 : t229 < 0
    ·rw [if_pos c6] at H
     have c6b0 : decide (t229 < 0) = true := decide_eq_true c6
     clear c6
     obtain rfl := Option.some.inj H
     have p228 : 0 ≤ (x5_1 : Int) := of_decide_eq_true (by first | (with_reducible assumption) | assumption)
     have q228 : x5_1 < (l0.length : Int) := of_decide_eq_true (by first | (with_reducible assumption) | assumption)
     obtain ⟨ad228, A228_0, c228_0, e228, hx228_0, hx228_1, hx228_2, hx228_3, hl228_0, hi228_0⟩ := at_T39 HR0.out x5_1 p228 q228
     cases e228
     have HR228_0 := Aside0.mk hi228_0; have HC228_0 := Aside0.mk hl228_0; clear hi228_0 hl228_0; replace p228 := eq_true p228; replace q228 := eq_true q228
     go_wp2_with (first | ((with_reducible refine gate_callee (f := 39) rfl ?_); refine gL_ (some 18) Try.func39 #[.slice A228_0 ((rd_T39 l0 x5_1).f0).length c228_0, .int .i64 x1_1] ?_; (with_reducible refine (laws_heldInt64S.calls k1 _ _ ((rd_T39 l0 x5_1).f0) x1_1 t229 _ ?side1 ?side2 A5.out).mono ?_); (case side1 => repeat (first | exact HR228_0.out | (with_reducible refine Kd.C_alloc ?_ _) | (with_reducible refine Kd.C_drewN ?_ _) | (with_reducible refine Kd.C_drew ?_))); (case side2 => exact HC228_0.out); rintro e w' ⟨rfl, ⟨nd, rfl⟩⟩; refine ⟨_, rfl, ?_⟩))
     go_ret
     exact ⟨by first | rfl | (simp; done) | (simp [*]; done), by repeat (first | exact Drawn0.refl _ | apply Drawn0.step)⟩
    ·rw [if_neg c6] at H
     have c6b0 : decide (t229 < 0) = false := decide_eq_false c6
     clear c6
     by_cases c7 : ((rd_T39 l0 x5_1).f1) = t229
     ·rw [if_pos c7] at H
      have c7b0 : (((rd_T39 l0 x5_1).f1) == t229) = true := beq_iff_eq.mpr c7
      have c7b1 : (((rd_T39 l0 x5_1).f1) != t229) = false := bne_eq_false_iff_eq.mpr c7
      clear c7
      by_cases c8 : ((rd_T39 l0 x5_1).f2) = (wrap64 (t229 + 1))
      ·rw [if_pos c8] at H
       have c8b0 : (((rd_T39 l0 x5_1).f2) == (wrap64 (t229 + 1))) = true := beq_iff_eq.mpr c8
       have c8b1 : (((rd_T39 l0 x5_1).f2) != (wrap64 (t229 + 1))) = false := bne_eq_false_iff_eq.mpr c8
       clear c8
       by_cases c9 : ((rd_T39 l0 x5_1).f3) = (wrap64 ((wrap64 (t229 + 1)) + 1))
       ·rw [if_pos c9] at H
        have c9b0 : (((rd_T39 l0 x5_1).f3) == (wrap64 ((wrap64 (t229 + 1)) + 1))) = true := beq_iff_eq.mpr c9
        have c9b1 : (((rd_T39 l0 x5_1).f3) != (wrap64 ((wrap64 (t229 + 1)) + 1))) = false := bne_eq_false_iff_eq.mpr c9
        clear c9; have H' := Aside0.mk H; clear H
        have p228 : 0 ≤ (x5_1 : Int) := of_decide_eq_true (by first | (with_reducible assumption) | assumption)
        have q228 : x5_1 < (l0.length : Int) := of_decide_eq_true (by first | (with_reducible assumption) | assumption)
        obtain ⟨ad228, A228_0, c228_0, e228, hx228_0, hx228_1, hx228_2, hx228_3, hl228_0, hi228_0⟩ := at_T39 HR0.out x5_1 p228 q228
        cases e228
        have HR228_0 := Aside0.mk hi228_0; have HC228_0 := Aside0.mk hl228_0; clear hi228_0 hl228_0; replace p228 := eq_true p228; replace q228 := eq_true q228
        go_wp2_with (first | ((with_reducible refine gate_callee (f := 39) rfl ?_); refine gL_ (some 18) Try.func39 #[.slice A228_0 ((rd_T39 l0 x5_1).f0).length c228_0, .int .i64 x1_1] ?_; (with_reducible refine (laws_heldInt64S.calls k1 _ _ ((rd_T39 l0 x5_1).f0) x1_1 t229 _ ?side1 ?side2 A5.out).mono ?_); (case side1 => repeat (first | exact HR228_0.out | (with_reducible refine Kd.C_alloc ?_ _) | (with_reducible refine Kd.C_drewN ?_ _) | (with_reducible refine Kd.C_drew ?_))); (case side2 => exact HC228_0.out); rintro e w' ⟨rfl, ⟨nd, rfl⟩⟩; refine ⟨_, rfl, ?_⟩; have p230 : 0 ≤ (x5_1 : Int) := of_decide_eq_true (by first | (with_reducible assumption) | assumption); have q230 : x5_1 < (l0.length : Int) := of_decide_eq_true (by first | (with_reducible assumption) | assumption); obtain ⟨ad230, A230_0, c230_0, e230, hx230_0, hx230_1, hx230_2, hx230_3, hl230_0, hi230_0⟩ := at_T39 HR0.out x5_1 p230 q230; obtain rfl : ad228 = ad230 := (by injection e230); have HR230_0 := Aside0.mk hi230_0; have HC230_0 := Aside0.mk hl230_0; clear hi230_0 hl230_0; replace p230 := eq_true p230; replace q230 := eq_true q230; have ea_ := Option.some.inj (hx228_0.symm.trans hx230_0); injection ea_ with ea_ en_ ec_; subst ea_; subst ec_; clear en_; have p231 : 0 ≤ (x5_1 : Int) := of_decide_eq_true (by first | (with_reducible assumption) | assumption); have q231 : x5_1 < (l0.length : Int) := of_decide_eq_true (by first | (with_reducible assumption) | assumption); obtain ⟨ad231, A231_0, c231_0, e231, hx231_0, hx231_1, hx231_2, hx231_3, hl231_0, hi231_0⟩ := at_T39 HR0.out x5_1 p231 q231; obtain rfl : ad228 = ad231 := (by injection e231); have HR231_0 := Aside0.mk hi231_0; have HC231_0 := Aside0.mk hl231_0; clear hi231_0 hl231_0; replace p231 := eq_true p231; replace q231 := eq_true q231; have ea_ := Option.some.inj (hx228_0.symm.trans hx231_0); injection ea_ with ea_ en_ ec_; subst ea_; subst ec_; clear en_; have p232 : 0 ≤ (x5_1 : Int) := of_decide_eq_true (by first | (with_reducible assumption) | assumption); have q232 : x5_1 < (l0.length : Int) := of_decide_eq_true (by first | (with_reducible assumption) | assumption); obtain ⟨ad232, A232_0, c232_0, e232, hx232_0, hx232_1, hx232_2, hx232_3, hl232_0, hi232_0⟩ := at_T39 HR0.out x5_1 p232 q232; obtain rfl : ad228 = ad232 := (by injection e232); have HR232_0 := Aside0.mk hi232_0; have HC232_0 := Aside0.mk hl232_0; clear hi232_0 hl232_0; replace p232 := eq_true p232; replace q232 := eq_true q232; have ea_ := Option.some.inj (hx228_0.symm.trans hx232_0); injection ea_ with ea_ en_ ec_; subst ea_; subst ec_; clear en_))
        go_roundg k1
        case measure => have := HK1.out; omega
        case rel => exact ⟨(wrap64 ((wrap64 ((wrap64 (t229 + 1)) + 1)) + 1)), (wrap64 (x5_1 + 1)), (by first | rfl | (simp; done) | (simp [*]; done)), (by first | rfl | (simp; done) | (simp [*]; done)), H', ⟨by have := HK1.out; omega⟩, by repeat (first | exact Drawn0.refl _ | apply Drawn0.step)⟩
       ·rw [if_neg c9] at H
        have c9b0 : (((rd_T39 l0 x5_1).f3) == (wrap64 ((wrap64 (t229 + 1)) + 1))) = false := beq_eq_false_iff_ne.mpr c9
        have c9b1 : (((rd_T39 l0 x5_1).f3) != (wrap64 ((wrap64 (t229 + 1)) + 1))) = true := bne_iff_ne.mpr c9
        obtain rfl := Option.some.inj H
        have p228 : 0 ≤ (x5_1 : Int) := of_decide_eq_true (by first | (with_reducible assumption) | assumption)
        have q228 : x5_1 < (l0.length : Int) := of_decide_eq_true (by first | (with_reducible assumption) | assumption)
        obtain ⟨ad228, A228_0, c228_0, e228, hx228_0, hx228_1, hx228_2, hx228_3, hl228_0, hi228_0⟩ := at_T39 HR0.out x5_1 p228 q228
        cases e228
        have HR228_0 := Aside0.mk hi228_0; have HC228_0 := Aside0.mk hl228_0; clear hi228_0 hl228_0; replace p228 := eq_true p228; replace q228 := eq_true q228
        go_wp2_with (first | ((with_reducible refine gate_callee (f := 39) rfl ?_); refine gL_ (some 18) Try.func39 #[.slice A228_0 ((rd_T39 l0 x5_1).f0).length c228_0, .int .i64 x1_1] ?_; (with_reducible refine (laws_heldInt64S.calls k1 _ _ ((rd_T39 l0 x5_1).f0) x1_1 t229 _ ?side1 ?side2 A5.out).mono ?_); (case side1 => repeat (first | exact HR228_0.out | (with_reducible refine Kd.C_alloc ?_ _) | (with_reducible refine Kd.C_drewN ?_ _) | (with_reducible refine Kd.C_drew ?_))); (case side2 => exact HC228_0.out); rintro e w' ⟨rfl, ⟨nd, rfl⟩⟩; refine ⟨_, rfl, ?_⟩; have p230 : 0 ≤ (x5_1 : Int) := of_decide_eq_true (by first | (with_reducible assumption) | assumption); have q230 : x5_1 < (l0.length : Int) := of_decide_eq_true (by first | (with_reducible assumption) | assumption); obtain ⟨ad230, A230_0, c230_0, e230, hx230_0, hx230_1, hx230_2, hx230_3, hl230_0, hi230_0⟩ := at_T39 HR0.out x5_1 p230 q230; obtain rfl : ad228 = ad230 := (by injection e230); have HR230_0 := Aside0.mk hi230_0; have HC230_0 := Aside0.mk hl230_0; clear hi230_0 hl230_0; replace p230 := eq_true p230; replace q230 := eq_true q230; have ea_ := Option.some.inj (hx228_0.symm.trans hx230_0); injection ea_ with ea_ en_ ec_; subst ea_; subst ec_; clear en_; have p231 : 0 ≤ (x5_1 : Int) := of_decide_eq_true (by first | (with_reducible assumption) | assumption); have q231 : x5_1 < (l0.length : Int) := of_decide_eq_true (by first | (with_reducible assumption) | assumption); obtain ⟨ad231, A231_0, c231_0, e231, hx231_0, hx231_1, hx231_2, hx231_3, hl231_0, hi231_0⟩ := at_T39 HR0.out x5_1 p231 q231; obtain rfl : ad228 = ad231 := (by injection e231); have HR231_0 := Aside0.mk hi231_0; have HC231_0 := Aside0.mk hl231_0; clear hi231_0 hl231_0; replace p231 := eq_true p231; replace q231 := eq_true q231; have ea_ := Option.some.inj (hx228_0.symm.trans hx231_0); injection ea_ with ea_ en_ ec_; subst ea_; subst ec_; clear en_; have p232 : 0 ≤ (x5_1 : Int) := of_decide_eq_true (by first | (with_reducible assumption) | assumption); have q232 : x5_1 < (l0.length : Int) := of_decide_eq_true (by first | (with_reducible assumption) | assumption); obtain ⟨ad232, A232_0, c232_0, e232, hx232_0, hx232_1, hx232_2, hx232_3, hl232_0, hi232_0⟩ := at_T39 HR0.out x5_1 p232 q232; obtain rfl : ad228 = ad232 := (by injection e232); have HR232_0 := Aside0.mk hi232_0; have HC232_0 := Aside0.mk hl232_0; clear hi232_0 hl232_0; replace p232 := eq_true p232; replace q232 := eq_true q232; have ea_ := Option.some.inj (hx228_0.symm.trans hx232_0); injection ea_ with ea_ en_ ec_; subst ea_; subst ec_; clear en_))
        go_ret
        exact ⟨by first | rfl | (simp; done) | (simp [*]; done), by repeat (first | exact Drawn0.refl _ | apply Drawn0.step)⟩
      ·rw [if_neg c8] at H
       have c8b0 : (((rd_T39 l0 x5_1).f2) == (wrap64 (t229 + 1))) = false := beq_eq_false_iff_ne.mpr c8
       have c8b1 : (((rd_T39 l0 x5_1).f2) != (wrap64 (t229 + 1))) = true := bne_iff_ne.mpr c8
       obtain rfl := Option.some.inj H
       have p228 : 0 ≤ (x5_1 : Int) := of_decide_eq_true (by first | (with_reducible assumption) | assumption)
       have q228 : x5_1 < (l0.length : Int) := of_decide_eq_true (by first | (with_reducible assumption) | assumption)
       obtain ⟨ad228, A228_0, c228_0, e228, hx228_0, hx228_1, hx228_2, hx228_3, hl228_0, hi228_0⟩ := at_T39 HR0.out x5_1 p228 q228
       cases e228
       have HR228_0 := Aside0.mk hi228_0; have HC228_0 := Aside0.mk hl228_0; clear hi228_0 hl228_0; replace p228 := eq_true p228; replace q228 := eq_true q228
       go_wp2_with (first | ((with_reducible refine gate_callee (f := 39) rfl ?_); refine gL_ (some 18) Try.func39 #[.slice A228_0 ((rd_T39 l0 x5_1).f0).length c228_0, .int .i64 x1_1] ?_; (with_reducible refine (laws_heldInt64S.calls k1 _ _ ((rd_T39 l0 x5_1).f0) x1_1 t229 _ ?side1 ?side2 A5.out).mono ?_); (case side1 => repeat (first | exact HR228_0.out | (with_reducible refine Kd.C_alloc ?_ _) | (with_reducible refine Kd.C_drewN ?_ _) | (with_reducible refine Kd.C_drew ?_))); (case side2 => exact HC228_0.out); rintro e w' ⟨rfl, ⟨nd, rfl⟩⟩; refine ⟨_, rfl, ?_⟩; have p230 : 0 ≤ (x5_1 : Int) := of_decide_eq_true (by first | (with_reducible assumption) | assumption); have q230 : x5_1 < (l0.length : Int) := of_decide_eq_true (by first | (with_reducible assumption) | assumption); obtain ⟨ad230, A230_0, c230_0, e230, hx230_0, hx230_1, hx230_2, hx230_3, hl230_0, hi230_0⟩ := at_T39 HR0.out x5_1 p230 q230; obtain rfl : ad228 = ad230 := (by injection e230); have HR230_0 := Aside0.mk hi230_0; have HC230_0 := Aside0.mk hl230_0; clear hi230_0 hl230_0; replace p230 := eq_true p230; replace q230 := eq_true q230; have ea_ := Option.some.inj (hx228_0.symm.trans hx230_0); injection ea_ with ea_ en_ ec_; subst ea_; subst ec_; clear en_; have p231 : 0 ≤ (x5_1 : Int) := of_decide_eq_true (by first | (with_reducible assumption) | assumption); have q231 : x5_1 < (l0.length : Int) := of_decide_eq_true (by first | (with_reducible assumption) | assumption); obtain ⟨ad231, A231_0, c231_0, e231, hx231_0, hx231_1, hx231_2, hx231_3, hl231_0, hi231_0⟩ := at_T39 HR0.out x5_1 p231 q231; obtain rfl : ad228 = ad231 := (by injection e231); have HR231_0 := Aside0.mk hi231_0; have HC231_0 := Aside0.mk hl231_0; clear hi231_0 hl231_0; replace p231 := eq_true p231; replace q231 := eq_true q231; have ea_ := Option.some.inj (hx228_0.symm.trans hx231_0); injection ea_ with ea_ en_ ec_; subst ea_; subst ec_; clear en_))
       go_ret
       exact ⟨by first | rfl | (simp; done) | (simp [*]; done), by repeat (first | exact Drawn0.refl _ | apply Drawn0.step)⟩
     ·rw [if_neg c7] at H
      have c7b0 : (((rd_T39 l0 x5_1).f1) == t229) = false := beq_eq_false_iff_ne.mpr c7
      have c7b1 : (((rd_T39 l0 x5_1).f1) != t229) = true := bne_iff_ne.mpr c7
      obtain rfl := Option.some.inj H
      have p228 : 0 ≤ (x5_1 : Int) := of_decide_eq_true (by first | (with_reducible assumption) | assumption)
      have q228 : x5_1 < (l0.length : Int) := of_decide_eq_true (by first | (with_reducible assumption) | assumption)
      obtain ⟨ad228, A228_0, c228_0, e228, hx228_0, hx228_1, hx228_2, hx228_3, hl228_0, hi228_0⟩ := at_T39 HR0.out x5_1 p228 q228
      cases e228
      have HR228_0 := Aside0.mk hi228_0; have HC228_0 := Aside0.mk hl228_0; clear hi228_0 hl228_0; replace p228 := eq_true p228; replace q228 := eq_true q228
      go_wp2_with (first | ((with_reducible refine gate_callee (f := 39) rfl ?_); refine gL_ (some 18) Try.func39 #[.slice A228_0 ((rd_T39 l0 x5_1).f0).length c228_0, .int .i64 x1_1] ?_; (with_reducible refine (laws_heldInt64S.calls k1 _ _ ((rd_T39 l0 x5_1).f0) x1_1 t229 _ ?side1 ?side2 A5.out).mono ?_); (case side1 => repeat (first | exact HR228_0.out | (with_reducible refine Kd.C_alloc ?_ _) | (with_reducible refine Kd.C_drewN ?_ _) | (with_reducible refine Kd.C_drew ?_))); (case side2 => exact HC228_0.out); rintro e w' ⟨rfl, ⟨nd, rfl⟩⟩; refine ⟨_, rfl, ?_⟩; have p230 : 0 ≤ (x5_1 : Int) := of_decide_eq_true (by first | (with_reducible assumption) | assumption); have q230 : x5_1 < (l0.length : Int) := of_decide_eq_true (by first | (with_reducible assumption) | assumption); obtain ⟨ad230, A230_0, c230_0, e230, hx230_0, hx230_1, hx230_2, hx230_3, hl230_0, hi230_0⟩ := at_T39 HR0.out x5_1 p230 q230; obtain rfl : ad228 = ad230 := (by injection e230); have HR230_0 := Aside0.mk hi230_0; have HC230_0 := Aside0.mk hl230_0; clear hi230_0 hl230_0; replace p230 := eq_true p230; replace q230 := eq_true q230; have ea_ := Option.some.inj (hx228_0.symm.trans hx230_0); injection ea_ with ea_ en_ ec_; subst ea_; subst ec_; clear en_))
      go_ret
      exact ⟨by first | rfl | (simp; done) | (simp [*]; done), by repeat (first | exact Drawn0.refl _ | apply Drawn0.step)⟩
   ·rw [if_neg c3] at H
    have c3b0 : decide (x5_1 < (l0.length : Int)) = false := decide_eq_false c3
    clear c3
    obtain rfl := Option.some.inj H
    go_wp2
    go_ret
    exact ⟨by first | rfl | (simp; done) | (simp [*]; done), by repeat (first | exact Drawn0.refl _ | apply Drawn0.step)⟩

/-! ### laws_heldSuite: function 70 -/
def laws_heldSuite.f (k : Nat) (l0_0 : List (S39)) (l0_1 : List Int) (a1 : Int) : Option (Int) := (laws_heldTaskS.f k l0_0 a1).bind fun t234 => (if t234 < 0 then (some (-1)) else ((laws_heldInt64S.f k l0_1 t234).bind fun t235 => (if t235 < 0 then (some (-1)) else (some t235))))
theorem laws_heldSuite.mono : ∀ a0 a1 a2 k, LeO (laws_heldSuite.f k a0 a1 a2) (laws_heldSuite.f (k + 1) a0 a1 a2) := by
 intro a0 a1 a2 k
 unfold laws_heldSuite.f
 repeat' first
   | (with_reducible exact laws_heldInt64S.mono _ _ _)
   | (with_reducible exact laws_heldTaskS.mono _ _ _)
   | (with_reducible exact LeO.refl _)
   | (with_reducible exact LeO.none _)
   | (with_reducible refine LeO.ite ?_ ?_)
   | (with_reducible refine LeO.bind ?_ (fun _ => ?_))
   | exact laws_heldInt64S.mono _ _ _
   | exact laws_heldTaskS.mono _ _ _
   | exact LeO.none _
   | refine LeO.ite ?_ ?_
   | refine LeO.bind ?_ (fun _ => ?_)
set_option maxHeartbeats 8000000 in
set_option maxRecDepth 100000 in
theorem laws_heldSuite.calls (k : Nat) (A0_0 : Option Addr) (c0_0 : Nat) (l0_0 : List (S39)) (A0_1 : Option Addr) (c0_1 : Nat) (l0_1 : List Int) (a1 : Int) (r : Int) (w : World) (hr0_0 : Kd.C k39 w A0_0 l0_0.length l0_0) (hc0_0 : l0_0.length ≤ c0_0) (hr0_1 : Kd.C (Kd.int .i64) w A0_1 l0_1.length l0_1) (hc0_1 : l0_1.length ≤ c0_1) (h : laws_heldSuite.f k l0_0 l0_1 a1 = some r) :
  Calls Try.prog 70 #[.agg #[.slice A0_0 l0_0.length c0_0, .slice A0_1 l0_1.length c0_1], .int .i64 a1] w fun e w' => e = .returned (.int .i64 r) ∧ Below w.heap.size w w' := by
 have hu27 := Try.underlying27; have HR0_0 := Aside0.mk hr0_0; have HC0_0 := Aside0.mk hc0_0; clear hr0_0 hc0_0; have HR0_1 := Aside0.mk hr0_1; have HC0_1 := Aside0.mk hc0_1; clear hr0_1 hc0_1
 have HB := Aside0.mk (Below.refl w.heap.size w)
 have H : ((laws_heldTaskS.f k l0_0 a1).bind fun t234 => (if t234 < 0 then (some (-1)) else ((laws_heldInt64S.f k l0_1 t234).bind fun t235 => (if t235 < 0 then (some (-1)) else (some t235))))) = some r := h
 clear h; replace H := Option.bind_eq_some_iff.mp H
 obtain ⟨t234, A30, H⟩ := H
 replace H : (if t234 < 0 then (some (-1)) else ((laws_heldInt64S.f k l0_1 t234).bind fun t235 => (if t235 < 0 then (some (-1)) else (some t235)))) = some r := H
 have A3 := Aside0.mk A30; clear A30
 by_cases c4 : t234 < 0
 ·rw [if_pos c4] at H
  have c4b0 : decide (t234 < 0) = true := decide_eq_true c4
  clear c4
  obtain rfl := Option.some.inj H
  go_enter Try.func70, Try.ntmps70
  go_wp2_with (first | ((with_reducible refine gate_dst (N := 2) rfl ?_); refine box_event ?hg (N := 2) ?hd (cs := #[.slice A0_0 l0_0.length c0_0, .slice A0_1 l0_1.length c0_1]) (t := 27) ?hr ?_; (case hd => rfl); (case hg => rfl); (case hr => first | (go_simp; done) | (go_simp; rfl)); intro gb233 hg w5 hbox hb; have BK233 := Aside0.mk (hbox); have GW233 := gE_ HB hg; have GE233 := gE_ HB hg; replace HB := bS_ HB hb; clear hb hbox hg; have hcz6_0 : w5.cell? ⟨gb233, 0, none⟩ = some (.slice A0_0 l0_0.length c0_0) := (blk_cell BK233.out 0).trans rfl; have hcz6_1 : w5.cell? ⟨gb233, 1, none⟩ = some (.slice A0_1 l0_1.length c0_1) := (blk_cell BK233.out 1).trans rfl; have hfz6_0 := blk_frozen BK233.out 0; have hfz6_1 := blk_frozen BK233.out 1) | ((with_reducible refine gate_callee (f := 89) rfl ?_); refine gL_ (some 8) Try.func89 #[.slice A0_0 l0_0.length c0_0, .int .i64 a1] ?_; (with_reducible refine (laws_heldTaskS.calls k _ _ l0_0 a1 t234 _ ?side1 ?side2 A3.out).mono ?_); (case side1 => exact cB_ HR0_0 HB); (case side2 => exact HC0_0.out); rintro e w' ⟨rfl, ⟨nd, rfl⟩⟩; refine ⟨_, rfl, ?_⟩))
  go_ret
  exact ⟨by first | rfl | (simp [errW_none, errW_some] <;> rfl) | (simp [*, errW_none, errW_some] <;> rfl), sABelo_10⟩
 ·rw [if_neg c4] at H
  have c4b0 : decide (t234 < 0) = false := decide_eq_false c4
  clear c4; replace H := Option.bind_eq_some_iff.mp H
  obtain ⟨t235, A70, H⟩ := H
  replace H : (if t235 < 0 then (some (-1)) else (some t235)) = some r := H
  have A7 := Aside0.mk A70; clear A70
  by_cases c8 : t235 < 0
  ·rw [if_pos c8] at H
   have c8b0 : decide (t235 < 0) = true := decide_eq_true c8
   clear c8
   obtain rfl := Option.some.inj H
   go_enter Try.func70, Try.ntmps70
   go_wp2_with (first | ((with_reducible refine gate_dst (N := 2) rfl ?_); refine box_event ?hg (N := 2) ?hd (cs := #[.slice A0_0 l0_0.length c0_0, .slice A0_1 l0_1.length c0_1]) (t := 27) ?hr ?_; (case hd => rfl); (case hg => rfl); (case hr => first | (go_simp; done) | (go_simp; rfl)); intro gb233 hg w9 hbox hb; have BK233 := Aside0.mk (hbox); have GW233 := gE_ HB hg; have GE233 := gE_ HB hg; replace HB := bS_ HB hb; clear hb hbox hg; have hcz10_0 : w9.cell? ⟨gb233, 0, none⟩ = some (.slice A0_0 l0_0.length c0_0) := (blk_cell BK233.out 0).trans rfl; have hcz10_1 : w9.cell? ⟨gb233, 1, none⟩ = some (.slice A0_1 l0_1.length c0_1) := (blk_cell BK233.out 1).trans rfl; have hfz10_0 := blk_frozen BK233.out 0; have hfz10_1 := blk_frozen BK233.out 1) | ((with_reducible refine gate_callee (f := 89) rfl ?_); refine gL_ (some 8) Try.func89 #[.slice A0_0 l0_0.length c0_0, .int .i64 a1] ?_; (with_reducible refine (laws_heldTaskS.calls k _ _ l0_0 a1 t234 _ ?side1 ?side2 A3.out).mono ?_); (case side1 => exact cB_ HR0_0 HB); (case side2 => exact HC0_0.out); rintro e w' ⟨rfl, ⟨nd, rfl⟩⟩; refine ⟨_, rfl, ?_⟩) | ((with_reducible refine gate_callee (f := 39) rfl ?_); refine gL_ (some 14) Try.func39 #[.slice A0_1 l0_1.length c0_1, .int .i64 t234] ?_; (with_reducible refine (laws_heldInt64S.calls k _ _ l0_1 t234 t235 _ ?side1 ?side2 A7.out).mono ?_); (case side1 => repeat (first | exact (Kd.C_below HR0_1.out sABelo_10) | (with_reducible refine Kd.C_alloc ?_ _) | (with_reducible refine Kd.C_drewN ?_ _) | (with_reducible refine Kd.C_drew ?_))); (case side2 => exact HC0_1.out); rintro e w' ⟨rfl, ⟨nd, rfl⟩⟩; refine ⟨_, rfl, ?_⟩))
   go_ret
   exact ⟨by first | rfl | (simp [errW_none, errW_some] <;> rfl) | (simp [*, errW_none, errW_some] <;> rfl), sABelo_10⟩
  ·rw [if_neg c8] at H
   have c8b0 : decide (t235 < 0) = false := decide_eq_false c8
   clear c8
   obtain rfl := Option.some.inj H
   go_enter Try.func70, Try.ntmps70
   go_wp2_with (first | ((with_reducible refine gate_dst (N := 2) rfl ?_); refine box_event ?hg (N := 2) ?hd (cs := #[.slice A0_0 l0_0.length c0_0, .slice A0_1 l0_1.length c0_1]) (t := 27) ?hr ?_; (case hd => rfl); (case hg => rfl); (case hr => first | (go_simp; done) | (go_simp; rfl)); intro gb233 hg w11 hbox hb; have BK233 := Aside0.mk (hbox); have GW233 := gE_ HB hg; have GE233 := gE_ HB hg; replace HB := bS_ HB hb; clear hb hbox hg; have hcz12_0 : w11.cell? ⟨gb233, 0, none⟩ = some (.slice A0_0 l0_0.length c0_0) := (blk_cell BK233.out 0).trans rfl; have hcz12_1 : w11.cell? ⟨gb233, 1, none⟩ = some (.slice A0_1 l0_1.length c0_1) := (blk_cell BK233.out 1).trans rfl; have hfz12_0 := blk_frozen BK233.out 0; have hfz12_1 := blk_frozen BK233.out 1) | ((with_reducible refine gate_callee (f := 89) rfl ?_); refine gL_ (some 8) Try.func89 #[.slice A0_0 l0_0.length c0_0, .int .i64 a1] ?_; (with_reducible refine (laws_heldTaskS.calls k _ _ l0_0 a1 t234 _ ?side1 ?side2 A3.out).mono ?_); (case side1 => exact cB_ HR0_0 HB); (case side2 => exact HC0_0.out); rintro e w' ⟨rfl, ⟨nd, rfl⟩⟩; refine ⟨_, rfl, ?_⟩) | ((with_reducible refine gate_callee (f := 39) rfl ?_); refine gL_ (some 14) Try.func39 #[.slice A0_1 l0_1.length c0_1, .int .i64 t234] ?_; (with_reducible refine (laws_heldInt64S.calls k _ _ l0_1 t234 t235 _ ?side1 ?side2 A7.out).mono ?_); (case side1 => repeat (first | exact (Kd.C_below HR0_1.out sABelo_10) | (with_reducible refine Kd.C_alloc ?_ _) | (with_reducible refine Kd.C_drewN ?_ _) | (with_reducible refine Kd.C_drew ?_))); (case side2 => exact HC0_1.out); rintro e w' ⟨rfl, ⟨nd, rfl⟩⟩; refine ⟨_, rfl, ?_⟩))
   go_ret
   exact ⟨by first | rfl | (simp [errW_none, errW_some] <;> rfl) | (simp [*, errW_none, errW_some] <;> rfl), sABelo_10⟩

/-! ### laws_heldJobS: function 71 -/
def laws_heldJobS.l0 : Nat → List (S43) → Int → Int → Option (Int)
 | 0, _, _, _ => none
 | k + 1, x0, x1, x5 => if x5 < (x0.length : Int) then (if 0 ≤ x5 then (if ((rd_T43 x0 x5).f0) = x1 then (if ((rd_T43 x0 x5).f1) = (wrap64 (x1 + 1)) then (laws_heldJobS.l0 k x0 (wrap64 ((wrap64 (x1 + 1)) + 1)) (wrap64 (x5 + 1))) else (some (-1))) else (some (-1))) else (none)) else (some x1)
def laws_heldJobS.f (k : Nat) (l0 : List (S43)) (a1 : Int) : Option (Int) := laws_heldJobS.l0 k l0 a1 0
theorem laws_heldJobS.mono_l : ∀ k, (∀ y0 y1 y2, LeO (laws_heldJobS.l0 k y0 y1 y2) (laws_heldJobS.l0 (k + 1) y0 y1 y2))
 | 0 => fun _ _ _ r h => by simp [laws_heldJobS.l0] at h
 | k + 1 => by
  have ih0 := laws_heldJobS.mono_l k
  ·intro y0 y1 y2
   unfold laws_heldJobS.l0
   repeat' first
   | (with_reducible exact ih0 _ _ _)
   | (with_reducible exact LeO.refl _)
   | (with_reducible exact LeO.none _)
   | (with_reducible refine LeO.ite ?_ ?_)
   | (with_reducible refine LeO.bind ?_ (fun _ => ?_))
   | exact ih0 _ _ _
   | exact LeO.none _
   | refine LeO.ite ?_ ?_
   | refine LeO.bind ?_ (fun _ => ?_)
theorem laws_heldJobS.mono : ∀ a0 a1 k, LeO (laws_heldJobS.f k a0 a1) (laws_heldJobS.f (k + 1) a0 a1) := by
 intro a0 a1 k
 have ih0 := laws_heldJobS.mono_l k
 unfold laws_heldJobS.f
 repeat' first
   | (with_reducible exact ih0 _ _ _)
   | (with_reducible exact LeO.refl _)
   | (with_reducible exact LeO.none _)
   | (with_reducible refine LeO.ite ?_ ?_)
   | (with_reducible refine LeO.bind ?_ (fun _ => ?_))
   | exact ih0 _ _ _
   | exact LeO.none _
   | refine LeO.ite ?_ ?_
   | refine LeO.bind ?_ (fun _ => ?_)
set_option maxHeartbeats 8000000 in
set_option maxRecDepth 100000 in
theorem laws_heldJobS.calls (k : Nat) (A0 : Option Addr) (c0 : Nat) (l0 : List (S43)) (a1 : Int) (r : Int) (w : World) (hr0 : Kd.C k43 w A0 l0.length l0) (hc0 : l0.length ≤ c0) (h : laws_heldJobS.f k l0 a1 = some r) :
  Calls Try.prog 71 #[.slice A0 l0.length c0, .int .i64 a1] w fun e w' => e = .returned (.int .i64 r) ∧ Drawn0 w w' := by
 have HR0 := Aside0.mk hr0; have HC0 := Aside0.mk hc0; clear hr0 hc0
 have H : (laws_heldJobS.l0 k l0 a1 0) = some r := h
 clear h; have H' := Aside0.mk H; clear H
 go_enter Try.func71, Try.ntmps71
 go_wp2
 go_loopg [1, 5] k (fun kq v1 v5 w' => ∃ (x1_1 : Int) (x5_1 : Int), v1 = .int .i64 x1_1 ∧ v5 = .int .i64 x5_1 ∧ Aside0 (laws_heldJobS.l0 kq l0 x1_1 x5_1 = some r) ∧ Aside0 (kq ≤ k) ∧ Drawn0 w w')
 case atStart => exact ⟨(a1), (0), (by first | rfl | (simp; done) | (simp [*]; done)), (by first | rfl | (simp; done) | (simp [*]; done)), H', ⟨Nat.le_refl _⟩, by repeat (first | exact Drawn0.refl _ | apply Drawn0.step)⟩
 case round =>
  clear H'; (try clear p2)
  obtain ⟨x1_1, x5_1, rfl, rfl, HA, HK1, ⟨m1, rfl⟩⟩ := hrel
  cases gk with
  | zero => exact absurd HA.out (by simp [laws_heldJobS.l0])
  | succ k1 =>
   have H := HA.out; clear HA
   simp only [laws_heldJobS.l0] at H
   by_cases c3 : x5_1 < (l0.length : Int)
   ·rw [if_pos c3] at H
    have c3b0 : decide (x5_1 < (l0.length : Int)) = true := decide_eq_true c3
    clear c3
    obtain ⟨c4, H⟩ := ifS_ H
    have c4b0 : decide (0 ≤ x5_1) = true := decide_eq_true c4
    clear c4
    by_cases c5 : ((rd_T43 l0 x5_1).f0) = x1_1
    ·rw [if_pos c5] at H
     have c5b0 : (((rd_T43 l0 x5_1).f0) == x1_1) = true := beq_iff_eq.mpr c5
     have c5b1 : (((rd_T43 l0 x5_1).f0) != x1_1) = false := bne_eq_false_iff_eq.mpr c5
     clear c5
     by_cases c6 : ((rd_T43 l0 x5_1).f1) = (wrap64 (x1_1 + 1))
     ·rw [if_pos c6] at H
      have c6b0 : (((rd_T43 l0 x5_1).f1) == (wrap64 (x1_1 + 1))) = true := beq_iff_eq.mpr c6
      have c6b1 : (((rd_T43 l0 x5_1).f1) != (wrap64 (x1_1 + 1))) = false := bne_eq_false_iff_eq.mpr c6
      clear c6; have H' := Aside0.mk H; clear H
      have p236 : 0 ≤ (x5_1 : Int) := of_decide_eq_true (by first | (with_reducible assumption) | assumption)
      have q236 : x5_1 < (l0.length : Int) := of_decide_eq_true (by first | (with_reducible assumption) | assumption)
      obtain ⟨ad236, e236, hx236_0, hx236_1⟩ := at_T43 HR0.out x5_1 p236 q236
      cases e236
      replace p236 := eq_true p236; replace q236 := eq_true q236
      have p237 : 0 ≤ (x5_1 : Int) := of_decide_eq_true (by first | (with_reducible assumption) | assumption)
      have q237 : x5_1 < (l0.length : Int) := of_decide_eq_true (by first | (with_reducible assumption) | assumption)
      obtain ⟨ad237, e237, hx237_0, hx237_1⟩ := at_T43 HR0.out x5_1 p237 q237
      obtain rfl : ad236 = ad237 := (by injection e237)
      replace p237 := eq_true p237; replace q237 := eq_true q237
      go_wp2
      go_roundg k1
      case measure => have := HK1.out; omega
      case rel => exact ⟨(wrap64 ((wrap64 (x1_1 + 1)) + 1)), (wrap64 (x5_1 + 1)), (by first | rfl | (simp; done) | (simp [*]; done)), (by first | rfl | (simp; done) | (simp [*]; done)), H', ⟨by have := HK1.out; omega⟩, by repeat (first | exact Drawn0.refl _ | apply Drawn0.step)⟩
     ·rw [if_neg c6] at H
      have c6b0 : (((rd_T43 l0 x5_1).f1) == (wrap64 (x1_1 + 1))) = false := beq_eq_false_iff_ne.mpr c6
      have c6b1 : (((rd_T43 l0 x5_1).f1) != (wrap64 (x1_1 + 1))) = true := bne_iff_ne.mpr c6
      obtain rfl := Option.some.inj H
      have p236 : 0 ≤ (x5_1 : Int) := of_decide_eq_true (by first | (with_reducible assumption) | assumption)
      have q236 : x5_1 < (l0.length : Int) := of_decide_eq_true (by first | (with_reducible assumption) | assumption)
      obtain ⟨ad236, e236, hx236_0, hx236_1⟩ := at_T43 HR0.out x5_1 p236 q236
      cases e236
      replace p236 := eq_true p236; replace q236 := eq_true q236
      have p237 : 0 ≤ (x5_1 : Int) := of_decide_eq_true (by first | (with_reducible assumption) | assumption)
      have q237 : x5_1 < (l0.length : Int) := of_decide_eq_true (by first | (with_reducible assumption) | assumption)
      obtain ⟨ad237, e237, hx237_0, hx237_1⟩ := at_T43 HR0.out x5_1 p237 q237
      obtain rfl : ad236 = ad237 := (by injection e237)
      replace p237 := eq_true p237; replace q237 := eq_true q237
      go_wp2
      go_ret
      exact ⟨by first | rfl | (simp; done) | (simp [*]; done), by repeat (first | exact Drawn0.refl _ | apply Drawn0.step)⟩
    ·rw [if_neg c5] at H
     have c5b0 : (((rd_T43 l0 x5_1).f0) == x1_1) = false := beq_eq_false_iff_ne.mpr c5
     have c5b1 : (((rd_T43 l0 x5_1).f0) != x1_1) = true := bne_iff_ne.mpr c5
     obtain rfl := Option.some.inj H
     have p236 : 0 ≤ (x5_1 : Int) := of_decide_eq_true (by first | (with_reducible assumption) | assumption)
     have q236 : x5_1 < (l0.length : Int) := of_decide_eq_true (by first | (with_reducible assumption) | assumption)
     obtain ⟨ad236, e236, hx236_0, hx236_1⟩ := at_T43 HR0.out x5_1 p236 q236
     cases e236
     replace p236 := eq_true p236; replace q236 := eq_true q236
     go_wp2
     go_ret
     exact ⟨by first | rfl | (simp; done) | (simp [*]; done), by repeat (first | exact Drawn0.refl _ | apply Drawn0.step)⟩
   ·rw [if_neg c3] at H
    have c3b0 : decide (x5_1 < (l0.length : Int)) = false := decide_eq_false c3
    clear c3
    obtain rfl := Option.some.inj H
    go_wp2
    go_ret
    exact ⟨by first | rfl | (simp; done) | (simp [*]; done), by repeat (first | exact Drawn0.refl _ | apply Drawn0.step)⟩

/-! ### laws_heldRun: function 33 -/
def laws_heldRun.f (k : Nat) (l0_0 : List (S39)) (l0_1 : List Int) (a0_2 : Int) (l0_3 : List (S43)) (a1 : Int) : Option (Int) := (laws_heldSuite.f k l0_0 l0_1 a1).bind fun t242 => (if t242 < 0 then (some (-1)) else ((laws_heldJobS.f k l0_3 t242).bind fun t243 => (if t243 < 0 then (some (-1)) else (some t243))))
theorem laws_heldRun.mono : ∀ a0 a1 a2 a3 a4 k, LeO (laws_heldRun.f k a0 a1 a2 a3 a4) (laws_heldRun.f (k + 1) a0 a1 a2 a3 a4) := by
 intro a0 a1 a2 a3 a4 k
 unfold laws_heldRun.f
 repeat' first
   | (with_reducible exact laws_heldJobS.mono _ _ _)
   | (with_reducible exact laws_heldSuite.mono _ _ _ _)
   | (with_reducible exact LeO.refl _)
   | (with_reducible exact LeO.none _)
   | (with_reducible refine LeO.ite ?_ ?_)
   | (with_reducible refine LeO.bind ?_ (fun _ => ?_))
   | exact laws_heldJobS.mono _ _ _
   | exact laws_heldSuite.mono _ _ _ _
   | exact LeO.none _
   | refine LeO.ite ?_ ?_
   | refine LeO.bind ?_ (fun _ => ?_)
set_option maxHeartbeats 8000000 in
set_option maxRecDepth 100000 in
theorem laws_heldRun.calls (k : Nat) (A0_0 : Option Addr) (c0_0 : Nat) (l0_0 : List (S39)) (A0_1 : Option Addr) (c0_1 : Nat) (l0_1 : List Int) (a0_2 : Int) (A0_3 : Option Addr) (c0_3 : Nat) (l0_3 : List (S43)) (a1 : Int) (r : Int) (w : World) (hr0_0 : Kd.C k39 w A0_0 l0_0.length l0_0) (hc0_0 : l0_0.length ≤ c0_0) (hr0_1 : Kd.C (Kd.int .i64) w A0_1 l0_1.length l0_1) (hc0_1 : l0_1.length ≤ c0_1) (hr0_3 : Kd.C k43 w A0_3 l0_3.length l0_3) (hc0_3 : l0_3.length ≤ c0_3) (h : laws_heldRun.f k l0_0 l0_1 a0_2 l0_3 a1 = some r) :
  Calls Try.prog 33 #[.agg #[.slice A0_0 l0_0.length c0_0, .slice A0_1 l0_1.length c0_1, .int .i64 a0_2, .slice A0_3 l0_3.length c0_3], .int .i64 a1] w fun e w' => e = .returned (.int .i64 r) ∧ Below w.heap.size w w' := by
 have hu31 := Try.underlying31; have hu27 := Try.underlying27; have HR0_0 := Aside0.mk hr0_0; have HC0_0 := Aside0.mk hc0_0; clear hr0_0 hc0_0; have HR0_1 := Aside0.mk hr0_1; have HC0_1 := Aside0.mk hc0_1; clear hr0_1 hc0_1; have HR0_3 := Aside0.mk hr0_3; have HC0_3 := Aside0.mk hc0_3; clear hr0_3 hc0_3
 have HB := Aside0.mk (Below.refl w.heap.size w)
 have H : ((laws_heldSuite.f k l0_0 l0_1 a1).bind fun t242 => (if t242 < 0 then (some (-1)) else ((laws_heldJobS.f k l0_3 t242).bind fun t243 => (if t243 < 0 then (some (-1)) else (some t243))))) = some r := h
 clear h; replace H := Option.bind_eq_some_iff.mp H
 obtain ⟨t242, A30, H⟩ := H
 replace H : (if t242 < 0 then (some (-1)) else ((laws_heldJobS.f k l0_3 t242).bind fun t243 => (if t243 < 0 then (some (-1)) else (some t243)))) = some r := H
 have A3 := Aside0.mk A30; clear A30
 by_cases c4 : t242 < 0
 ·rw [if_pos c4] at H
  have c4b0 : decide (t242 < 0) = true := decide_eq_true c4
  clear c4
  obtain rfl := Option.some.inj H
  go_enter Try.func33, Try.ntmps33
  go_wp2_with (first | ((with_reducible refine gate_dst (N := 2) rfl ?_); refine box_event ?hg (N := 2) ?hd (cs := #[.slice A0_0 l0_0.length c0_0, .slice A0_1 l0_1.length c0_1, .int .i64 a0_2, .slice A0_3 l0_3.length c0_3]) (t := 31) ?hr ?_; (case hd => rfl); (case hg => rfl); (case hr => first | (go_simp; done) | (go_simp; rfl)); intro gb241 hg w5 hbox hb; have BK241 := Aside0.mk (hbox); have GW241 := gE_ HB hg; have GE241 := gE_ HB hg; replace HB := bS_ HB hb; clear hb hbox hg; have hcz6_0 : w5.cell? ⟨gb241, 0, none⟩ = some (.slice A0_0 l0_0.length c0_0) := (blk_cell BK241.out 0).trans rfl; have hcz6_1 : w5.cell? ⟨gb241, 1, none⟩ = some (.slice A0_1 l0_1.length c0_1) := (blk_cell BK241.out 1).trans rfl; have hcz6_2 : w5.cell? ⟨gb241, 2, none⟩ = some (.int .i64 a0_2) := (blk_cell BK241.out 2).trans rfl; have hcz6_3 : w5.cell? ⟨gb241, 3, none⟩ = some (.slice A0_3 l0_3.length c0_3) := (blk_cell BK241.out 3).trans rfl; have hfz6_0 := blk_frozen BK241.out 0; have hfz6_1 := blk_frozen BK241.out 1; have hfz6_2 := blk_frozen BK241.out 2; have hfz6_3 := blk_frozen BK241.out 3) | ((with_reducible refine gate_callee (f := 70) rfl ?_); refine gL_ (some 8) Try.func70 #[.agg #[.slice A0_0 l0_0.length c0_0, .slice A0_1 l0_1.length c0_1], .int .i64 a1] ?_; (with_reducible refine (laws_heldSuite.calls k _ _ l0_0 _ _ l0_1 a1 t242 _ ?side1 ?side2 ?side3 ?side4 A3.out).mono ?_); (case side1 => exact cB_ HR0_0 HB); (case side2 => exact HC0_0.out); (case side3 => exact cB_ HR0_1 HB); (case side4 => exact HC0_1.out); rintro e w7 ⟨rfl, hb⟩; refine ⟨_, rfl, ?_⟩; replace BK241 := bB_ BK241 hb; replace HB := bS_ HB hb; (try clear hb); (try clear hb2); (try clear hk); (try clear hi)))
  go_ret
  exact ⟨by first | rfl | (simp [errW_none, errW_some] <;> rfl) | (simp [*, errW_none, errW_some] <;> rfl), sABelo_10⟩
 ·rw [if_neg c4] at H
  have c4b0 : decide (t242 < 0) = false := decide_eq_false c4
  clear c4; replace H := Option.bind_eq_some_iff.mp H
  obtain ⟨t243, A80, H⟩ := H
  replace H : (if t243 < 0 then (some (-1)) else (some t243)) = some r := H
  have A8 := Aside0.mk A80; clear A80
  by_cases c9 : t243 < 0
  ·rw [if_pos c9] at H
   have c9b0 : decide (t243 < 0) = true := decide_eq_true c9
   clear c9
   obtain rfl := Option.some.inj H
   go_enter Try.func33, Try.ntmps33
   go_wp2_with (first | ((with_reducible refine gate_dst (N := 2) rfl ?_); refine box_event ?hg (N := 2) ?hd (cs := #[.slice A0_0 l0_0.length c0_0, .slice A0_1 l0_1.length c0_1, .int .i64 a0_2, .slice A0_3 l0_3.length c0_3]) (t := 31) ?hr ?_; (case hd => rfl); (case hg => rfl); (case hr => first | (go_simp; done) | (go_simp; rfl)); intro gb241 hg w10 hbox hb; have BK241 := Aside0.mk (hbox); have GW241 := gE_ HB hg; have GE241 := gE_ HB hg; replace HB := bS_ HB hb; clear hb hbox hg; have hcz11_0 : w10.cell? ⟨gb241, 0, none⟩ = some (.slice A0_0 l0_0.length c0_0) := (blk_cell BK241.out 0).trans rfl; have hcz11_1 : w10.cell? ⟨gb241, 1, none⟩ = some (.slice A0_1 l0_1.length c0_1) := (blk_cell BK241.out 1).trans rfl; have hcz11_2 : w10.cell? ⟨gb241, 2, none⟩ = some (.int .i64 a0_2) := (blk_cell BK241.out 2).trans rfl; have hcz11_3 : w10.cell? ⟨gb241, 3, none⟩ = some (.slice A0_3 l0_3.length c0_3) := (blk_cell BK241.out 3).trans rfl; have hfz11_0 := blk_frozen BK241.out 0; have hfz11_1 := blk_frozen BK241.out 1; have hfz11_2 := blk_frozen BK241.out 2; have hfz11_3 := blk_frozen BK241.out 3) | ((with_reducible refine gate_callee (f := 70) rfl ?_); refine gL_ (some 8) Try.func70 #[.agg #[.slice A0_0 l0_0.length c0_0, .slice A0_1 l0_1.length c0_1], .int .i64 a1] ?_; (with_reducible refine (laws_heldSuite.calls k _ _ l0_0 _ _ l0_1 a1 t242 _ ?side1 ?side2 ?side3 ?side4 A3.out).mono ?_); (case side1 => exact cB_ HR0_0 HB); (case side2 => exact HC0_0.out); (case side3 => exact cB_ HR0_1 HB); (case side4 => exact HC0_1.out); rintro e w12 ⟨rfl, hb⟩; refine ⟨_, rfl, ?_⟩; replace BK241 := bB_ BK241 hb; replace HB := bS_ HB hb; (try clear hb); (try clear hb2); (try clear hk); (try clear hi); have hcz13_0 : w12.cell? ⟨gb241, 0, none⟩ = some (.slice A0_0 l0_0.length c0_0) := (blk_cell BK241.out 0).trans rfl; have hcz13_1 : w12.cell? ⟨gb241, 1, none⟩ = some (.slice A0_1 l0_1.length c0_1) := (blk_cell BK241.out 1).trans rfl; have hcz13_2 : w12.cell? ⟨gb241, 2, none⟩ = some (.int .i64 a0_2) := (blk_cell BK241.out 2).trans rfl; have hcz13_3 : w12.cell? ⟨gb241, 3, none⟩ = some (.slice A0_3 l0_3.length c0_3) := (blk_cell BK241.out 3).trans rfl; have hfz13_0 := blk_frozen BK241.out 0; have hfz13_1 := blk_frozen BK241.out 1; have hfz13_2 := blk_frozen BK241.out 2; have hfz13_3 := blk_frozen BK241.out 3) | ((with_reducible refine gate_callee (f := 71) rfl ?_); refine gL_ (some 14) Try.func71 #[.slice A0_3 l0_3.length c0_3, .int .i64 t242] ?_; (with_reducible refine (laws_heldJobS.calls k _ _ l0_3 t242 t243 _ ?side1 ?side2 A8.out).mono ?_); (case side1 => exact cB_ HR0_3 HB); (case side2 => exact HC0_3.out); rintro e w' ⟨rfl, ⟨nd, rfl⟩⟩; refine ⟨_, rfl, ?_⟩))
   go_ret
   exact ⟨by first | rfl | (simp [errW_none, errW_some] <;> rfl) | (simp [*, errW_none, errW_some] <;> rfl), sABelo_10⟩
  ·rw [if_neg c9] at H
   have c9b0 : decide (t243 < 0) = false := decide_eq_false c9
   clear c9
   obtain rfl := Option.some.inj H
   go_enter Try.func33, Try.ntmps33
   go_wp2_with (first | ((with_reducible refine gate_dst (N := 2) rfl ?_); refine box_event ?hg (N := 2) ?hd (cs := #[.slice A0_0 l0_0.length c0_0, .slice A0_1 l0_1.length c0_1, .int .i64 a0_2, .slice A0_3 l0_3.length c0_3]) (t := 31) ?hr ?_; (case hd => rfl); (case hg => rfl); (case hr => first | (go_simp; done) | (go_simp; rfl)); intro gb241 hg w14 hbox hb; have BK241 := Aside0.mk (hbox); have GW241 := gE_ HB hg; have GE241 := gE_ HB hg; replace HB := bS_ HB hb; clear hb hbox hg; have hcz15_0 : w14.cell? ⟨gb241, 0, none⟩ = some (.slice A0_0 l0_0.length c0_0) := (blk_cell BK241.out 0).trans rfl; have hcz15_1 : w14.cell? ⟨gb241, 1, none⟩ = some (.slice A0_1 l0_1.length c0_1) := (blk_cell BK241.out 1).trans rfl; have hcz15_2 : w14.cell? ⟨gb241, 2, none⟩ = some (.int .i64 a0_2) := (blk_cell BK241.out 2).trans rfl; have hcz15_3 : w14.cell? ⟨gb241, 3, none⟩ = some (.slice A0_3 l0_3.length c0_3) := (blk_cell BK241.out 3).trans rfl; have hfz15_0 := blk_frozen BK241.out 0; have hfz15_1 := blk_frozen BK241.out 1; have hfz15_2 := blk_frozen BK241.out 2; have hfz15_3 := blk_frozen BK241.out 3) | ((with_reducible refine gate_callee (f := 70) rfl ?_); refine gL_ (some 8) Try.func70 #[.agg #[.slice A0_0 l0_0.length c0_0, .slice A0_1 l0_1.length c0_1], .int .i64 a1] ?_; (with_reducible refine (laws_heldSuite.calls k _ _ l0_0 _ _ l0_1 a1 t242 _ ?side1 ?side2 ?side3 ?side4 A3.out).mono ?_); (case side1 => exact cB_ HR0_0 HB); (case side2 => exact HC0_0.out); (case side3 => exact cB_ HR0_1 HB); (case side4 => exact HC0_1.out); rintro e w16 ⟨rfl, hb⟩; refine ⟨_, rfl, ?_⟩; replace BK241 := bB_ BK241 hb; replace HB := bS_ HB hb; (try clear hb); (try clear hb2); (try clear hk); (try clear hi); have hcz17_0 : w16.cell? ⟨gb241, 0, none⟩ = some (.slice A0_0 l0_0.length c0_0) := (blk_cell BK241.out 0).trans rfl; have hcz17_1 : w16.cell? ⟨gb241, 1, none⟩ = some (.slice A0_1 l0_1.length c0_1) := (blk_cell BK241.out 1).trans rfl; have hcz17_2 : w16.cell? ⟨gb241, 2, none⟩ = some (.int .i64 a0_2) := (blk_cell BK241.out 2).trans rfl; have hcz17_3 : w16.cell? ⟨gb241, 3, none⟩ = some (.slice A0_3 l0_3.length c0_3) := (blk_cell BK241.out 3).trans rfl; have hfz17_0 := blk_frozen BK241.out 0; have hfz17_1 := blk_frozen BK241.out 1; have hfz17_2 := blk_frozen BK241.out 2; have hfz17_3 := blk_frozen BK241.out 3) | ((with_reducible refine gate_callee (f := 71) rfl ?_); refine gL_ (some 14) Try.func71 #[.slice A0_3 l0_3.length c0_3, .int .i64 t242] ?_; (with_reducible refine (laws_heldJobS.calls k _ _ l0_3 t242 t243 _ ?side1 ?side2 A8.out).mono ?_); (case side1 => exact cB_ HR0_3 HB); (case side2 => exact HC0_3.out); rintro e w' ⟨rfl, ⟨nd, rfl⟩⟩; refine ⟨_, rfl, ?_⟩))
   go_ret
   exact ⟨by first | rfl | (simp [errW_none, errW_some] <;> rfl) | (simp [*, errW_none, errW_some] <;> rfl), sABelo_10⟩

/-! ### laws_szInt64S: function 63 -/
def laws_szInt64S.f (l0 : List Int) (a1 : Int) : Option (Int) := if (wrap64 (a1 - (l0.length : Int))) < 0 then (some (-1)) else (some (wrap64 (a1 - (l0.length : Int))))
set_option maxHeartbeats 8000000 in
set_option maxRecDepth 100000 in
theorem laws_szInt64S.calls (A0 : Option Addr) (c0 : Nat) (l0 : List Int) (a1 : Int) (r : Int) (w : World) (hr0 : Kd.C (Kd.int .i64) w A0 l0.length l0) (hc0 : l0.length ≤ c0) (h : laws_szInt64S.f l0 a1 = some r) :
  Calls Try.prog 63 #[.slice A0 l0.length c0, .int .i64 a1] w fun e w' => e = .returned (.int .i64 r) ∧ Drawn0 w w' := by
 have HR0 := Aside0.mk hr0; have HC0 := Aside0.mk hc0; clear hr0 hc0
 have H : (if (wrap64 (a1 - (l0.length : Int))) < 0 then (some (-1)) else (some (wrap64 (a1 - (l0.length : Int))))) = some r := h
 clear h
 by_cases c3 : (wrap64 (a1 - (l0.length : Int))) < 0
 ·rw [if_pos c3] at H
  have c3b0 : decide ((wrap64 (a1 - (l0.length : Int))) < 0) = true := decide_eq_true c3
  clear c3
  obtain rfl := Option.some.inj H
  go_enter Try.func63, Try.ntmps63
  go_wp2
  go_ret
  exact ⟨by first | rfl | (simp; done) | (simp [*]; done), by repeat (first | exact Drawn0.refl _ | apply Drawn0.step)⟩
 ·rw [if_neg c3] at H
  have c3b0 : decide ((wrap64 (a1 - (l0.length : Int))) < 0) = false := decide_eq_false c3
  clear c3
  obtain rfl := Option.some.inj H
  go_enter Try.func63, Try.ntmps63
  go_wp2
  go_ret
  exact ⟨by first | rfl | (simp; done) | (simp [*]; done), by repeat (first | exact Drawn0.refl _ | apply Drawn0.step)⟩

/-! ### laws_szTask: function 85 -/
def laws_szTask.f (l0_0 : List Int) (a0_1 : Int) (a0_2 : Int) (a0_3 : Int) (a1 : Int) : Option (Int) := (laws_szInt64S.f l0_0 a1).bind fun t245 => (if t245 < 0 then (some (-1)) else (some t245))
set_option maxHeartbeats 8000000 in
set_option maxRecDepth 100000 in
theorem laws_szTask.calls (A0_0 : Option Addr) (c0_0 : Nat) (l0_0 : List Int) (a0_1 : Int) (a0_2 : Int) (a0_3 : Int) (a1 : Int) (r : Int) (w : World) (hr0_0 : Kd.C (Kd.int .i64) w A0_0 l0_0.length l0_0) (hc0_0 : l0_0.length ≤ c0_0) (h : laws_szTask.f l0_0 a0_1 a0_2 a0_3 a1 = some r) :
  Calls Try.prog 85 #[.agg #[.slice A0_0 l0_0.length c0_0, .int .i64 a0_1, .int .i64 a0_2, .int .i64 a0_3], .int .i64 a1] w fun e w' => e = .returned (.int .i64 r) ∧ Below w.heap.size w w' := by
 have hu110 := Try.underlying110; have HR0_0 := Aside0.mk hr0_0; have HC0_0 := Aside0.mk hc0_0; clear hr0_0 hc0_0
 have HB := Aside0.mk (Below.refl w.heap.size w)
 have H : ((laws_szInt64S.f l0_0 a1).bind fun t245 => (if t245 < 0 then (some (-1)) else (some t245))) = some r := h
 clear h; replace H := Option.bind_eq_some_iff.mp H
 obtain ⟨t245, A30, H⟩ := H
 replace H : (if t245 < 0 then (some (-1)) else (some t245)) = some r := H
 have A3 := Aside0.mk A30; clear A30
 by_cases c4 : t245 < 0
 ·rw [if_pos c4] at H
  have c4b0 : decide (t245 < 0) = true := decide_eq_true c4
  clear c4
  obtain rfl := Option.some.inj H
  go_enter Try.func85, Try.ntmps85
  go_wp2_with (first | ((with_reducible refine gate_dst (N := 2) rfl ?_); refine box_event ?hg (N := 2) ?hd (cs := #[.slice A0_0 l0_0.length c0_0, .int .i64 a0_1, .int .i64 a0_2, .int .i64 a0_3]) (t := 110) ?hr ?_; (case hd => rfl); (case hg => rfl); (case hr => first | (go_simp; done) | (go_simp; rfl)); intro gb244 hg w5 hbox hb; have BK244 := Aside0.mk (hbox); have GW244 := gE_ HB hg; have GE244 := gE_ HB hg; replace HB := bS_ HB hb; clear hb hbox hg; have hcz6_0 : w5.cell? ⟨gb244, 0, none⟩ = some (.slice A0_0 l0_0.length c0_0) := (blk_cell BK244.out 0).trans rfl; have hcz6_1 : w5.cell? ⟨gb244, 1, none⟩ = some (.int .i64 a0_1) := (blk_cell BK244.out 1).trans rfl; have hcz6_2 : w5.cell? ⟨gb244, 2, none⟩ = some (.int .i64 a0_2) := (blk_cell BK244.out 2).trans rfl; have hcz6_3 : w5.cell? ⟨gb244, 3, none⟩ = some (.int .i64 a0_3) := (blk_cell BK244.out 3).trans rfl; have hfz6_0 := blk_frozen BK244.out 0; have hfz6_1 := blk_frozen BK244.out 1; have hfz6_2 := blk_frozen BK244.out 2; have hfz6_3 := blk_frozen BK244.out 3) | ((with_reducible refine gate_callee (f := 63) rfl ?_); refine gL_ (some 8) Try.func63 #[.slice A0_0 l0_0.length c0_0, .int .i64 a1] ?_; (with_reducible refine (laws_szInt64S.calls _ _ l0_0 a1 t245 _ ?side1 ?side2 A3.out).mono ?_); (case side1 => exact cB_ HR0_0 HB); (case side2 => exact HC0_0.out); rintro e w' ⟨rfl, ⟨nd, rfl⟩⟩; refine ⟨_, rfl, ?_⟩))
  go_ret
  exact ⟨by first | rfl | (simp [errW_none, errW_some] <;> rfl) | (simp [*, errW_none, errW_some] <;> rfl), sABelo_10⟩
 ·rw [if_neg c4] at H
  have c4b0 : decide (t245 < 0) = false := decide_eq_false c4
  clear c4
  obtain rfl := Option.some.inj H
  go_enter Try.func85, Try.ntmps85
  go_wp2_with (first | ((with_reducible refine gate_dst (N := 2) rfl ?_); refine box_event ?hg (N := 2) ?hd (cs := #[.slice A0_0 l0_0.length c0_0, .int .i64 a0_1, .int .i64 a0_2, .int .i64 a0_3]) (t := 110) ?hr ?_; (case hd => rfl); (case hg => rfl); (case hr => first | (go_simp; done) | (go_simp; rfl)); intro gb244 hg w7 hbox hb; have BK244 := Aside0.mk (hbox); have GW244 := gE_ HB hg; have GE244 := gE_ HB hg; replace HB := bS_ HB hb; clear hb hbox hg; have hcz8_0 : w7.cell? ⟨gb244, 0, none⟩ = some (.slice A0_0 l0_0.length c0_0) := (blk_cell BK244.out 0).trans rfl; have hcz8_1 : w7.cell? ⟨gb244, 1, none⟩ = some (.int .i64 a0_1) := (blk_cell BK244.out 1).trans rfl; have hcz8_2 : w7.cell? ⟨gb244, 2, none⟩ = some (.int .i64 a0_2) := (blk_cell BK244.out 2).trans rfl; have hcz8_3 : w7.cell? ⟨gb244, 3, none⟩ = some (.int .i64 a0_3) := (blk_cell BK244.out 3).trans rfl; have hfz8_0 := blk_frozen BK244.out 0; have hfz8_1 := blk_frozen BK244.out 1; have hfz8_2 := blk_frozen BK244.out 2; have hfz8_3 := blk_frozen BK244.out 3) | ((with_reducible refine gate_callee (f := 63) rfl ?_); refine gL_ (some 8) Try.func63 #[.slice A0_0 l0_0.length c0_0, .int .i64 a1] ?_; (with_reducible refine (laws_szInt64S.calls _ _ l0_0 a1 t245 _ ?side1 ?side2 A3.out).mono ?_); (case side1 => exact cB_ HR0_0 HB); (case side2 => exact HC0_0.out); rintro e w' ⟨rfl, ⟨nd, rfl⟩⟩; refine ⟨_, rfl, ?_⟩))
  go_ret
  exact ⟨by first | rfl | (simp [errW_none, errW_some] <;> rfl) | (simp [*, errW_none, errW_some] <;> rfl), sABelo_10⟩

/-! ### laws_szTaskS: function 62 -/
def laws_szTaskS.l0 : Nat → List (S110) → Int → Int → Option (Int)
 | 0, _, _, _ => none
 | k + 1, x0, x1, x5 => if x5 < (x0.length : Int) then (if 0 ≤ x5 then ((laws_szTask.f ((rd_T110 x0 x5).f0) ((rd_T110 x0 x5).f1) ((rd_T110 x0 x5).f2) ((rd_T110 x0 x5).f3) x1).bind fun t247 => (if t247 < 0 then (some (-1)) else (laws_szTaskS.l0 k x0 t247 (wrap64 (x5 + 1))))) else (none)) else (some x1)
def laws_szTaskS.f (k : Nat) (l0 : List (S110)) (a1 : Int) : Option (Int) := if (wrap64 (a1 - (l0.length : Int))) < 0 then (some (-1)) else (laws_szTaskS.l0 k l0 (wrap64 (a1 - (l0.length : Int))) 0)
theorem laws_szTaskS.mono_l : ∀ k, (∀ y0 y1 y2, LeO (laws_szTaskS.l0 k y0 y1 y2) (laws_szTaskS.l0 (k + 1) y0 y1 y2))
 | 0 => fun _ _ _ r h => by simp [laws_szTaskS.l0] at h
 | k + 1 => by
  have ih0 := laws_szTaskS.mono_l k
  ·intro y0 y1 y2
   unfold laws_szTaskS.l0
   repeat' first
   | (with_reducible exact ih0 _ _ _)
   | (with_reducible exact LeO.refl _)
   | (with_reducible exact LeO.none _)
   | (with_reducible refine LeO.ite ?_ ?_)
   | (with_reducible refine LeO.bind ?_ (fun _ => ?_))
   | exact ih0 _ _ _
   | exact LeO.none _
   | refine LeO.ite ?_ ?_
   | refine LeO.bind ?_ (fun _ => ?_)
theorem laws_szTaskS.mono : ∀ a0 a1 k, LeO (laws_szTaskS.f k a0 a1) (laws_szTaskS.f (k + 1) a0 a1) := by
 intro a0 a1 k
 have ih0 := laws_szTaskS.mono_l k
 unfold laws_szTaskS.f
 repeat' first
   | (with_reducible exact ih0 _ _ _)
   | (with_reducible exact LeO.refl _)
   | (with_reducible exact LeO.none _)
   | (with_reducible refine LeO.ite ?_ ?_)
   | (with_reducible refine LeO.bind ?_ (fun _ => ?_))
   | exact ih0 _ _ _
   | exact LeO.none _
   | refine LeO.ite ?_ ?_
   | refine LeO.bind ?_ (fun _ => ?_)
set_option maxHeartbeats 8000000 in
set_option maxRecDepth 100000 in
theorem laws_szTaskS.calls (k : Nat) (A0 : Option Addr) (c0 : Nat) (l0 : List (S110)) (a1 : Int) (r : Int) (w : World) (hr0 : Kd.C k110 w A0 l0.length l0) (hc0 : l0.length ≤ c0) (h : laws_szTaskS.f k l0 a1 = some r) :
  Calls Try.prog 62 #[.slice A0 l0.length c0, .int .i64 a1] w fun e w' => e = .returned (.int .i64 r) ∧ Below w.heap.size w w' := by
 have hu110 := Try.underlying110; have HR0 := Aside0.mk hr0; have HC0 := Aside0.mk hc0; clear hr0 hc0
 have HB := Aside0.mk (Below.refl w.heap.size w)
 have H : (if (wrap64 (a1 - (l0.length : Int))) < 0 then (some (-1)) else (laws_szTaskS.l0 k l0 (wrap64 (a1 - (l0.length : Int))) 0)) = some r := h
 clear h
 by_cases c3 : (wrap64 (a1 - (l0.length : Int))) < 0
 ·rw [if_pos c3] at H
  have c3b0 : decide ((wrap64 (a1 - (l0.length : Int))) < 0) = true := decide_eq_true c3
  clear c3
  obtain rfl := Option.some.inj H
  go_enter Try.func62, Try.ntmps62
  go_wp2
  go_ret
  exact ⟨by first | rfl | (simp [errW_none, errW_some] <;> rfl) | (simp [*, errW_none, errW_some] <;> rfl), sABelo_10⟩
 ·rw [if_neg c3] at H
  have c3b0 : decide ((wrap64 (a1 - (l0.length : Int))) < 0) = false := decide_eq_false c3
  clear c3; have H' := Aside0.mk H; clear H
  go_enter Try.func62, Try.ntmps62
  go_wp2
  go_loopg [1, 5] k (fun kq v1 v5 w' => ∃ (x1_1 : Int) (x5_1 : Int), v1 = .int .i64 x1_1 ∧ v5 = .int .i64 x5_1 ∧ Aside0 (laws_szTaskS.l0 kq l0 x1_1 x5_1 = some r) ∧ Aside0 (kq ≤ k) ∧ Aside0 (Below w.heap.size w w'))
  case atStart => exact ⟨(wrap64 (a1 - (l0.length : Int))), (0), (by first | rfl | (simp; done) | (simp [*]; done)), (by first | rfl | (simp; done) | (simp [*]; done)), H', ⟨Nat.le_refl _⟩, ⟨sABelo_10⟩⟩
  case round =>
   clear H'; (try clear p2); (try clear c3); (try clear c3b0)
   obtain ⟨x1_1, x5_1, rfl, rfl, HA, HK1, HB⟩ := hrel
   cases gk with
   | zero => exact absurd HA.out (by simp [laws_szTaskS.l0])
   | succ k1 =>
    have H := HA.out; clear HA
    simp only [laws_szTaskS.l0] at H
    by_cases c4 : x5_1 < (l0.length : Int)
    ·rw [if_pos c4] at H
     have c4b0 : decide (x5_1 < (l0.length : Int)) = true := decide_eq_true c4
     clear c4
     obtain ⟨c5, H⟩ := ifS_ H
     have c5b0 : decide (0 ≤ x5_1) = true := decide_eq_true c5
     clear c5; replace H := Option.bind_eq_some_iff.mp H
     obtain ⟨t247, A60, H⟩ := H
     replace H : (if t247 < 0 then (some (-1)) else (laws_szTaskS.l0 k1 l0 t247 (wrap64 (x5_1 + 1)))) = some r := H
     have A6 := Aside0.mk A60; clear A60
     by_cases c7 : t247 < 0
     ·rw [if_pos c7] at H
      have c7b0 : decide (t247 < 0) = true := decide_eq_true c7
      clear c7
      obtain rfl := Option.some.inj H
      have p246 : 0 ≤ (x5_1 : Int) := of_decide_eq_true (by first | (with_reducible assumption) | assumption)
      have q246 : x5_1 < (l0.length : Int) := of_decide_eq_true (by first | (with_reducible assumption) | assumption)
      obtain ⟨ad246, A246_0, c246_0, e246, hx246_0, hx246_1, hx246_2, hx246_3, hl246_0, hi246_0⟩ := at_T110 HR0.out x5_1 p246 q246
      cases e246
      replace hx246_0 := (HB.out.cell (World.block_lt_of_cell? w _ hx246_0)).trans hx246_0
      replace hx246_1 := (HB.out.cell (World.block_lt_of_cell? w _ hx246_1)).trans hx246_1
      replace hx246_2 := (HB.out.cell (World.block_lt_of_cell? w _ hx246_2)).trans hx246_2
      replace hx246_3 := (HB.out.cell (World.block_lt_of_cell? w _ hx246_3)).trans hx246_3
      have HR246_0 := Aside0.mk hi246_0; have HC246_0 := Aside0.mk hl246_0; clear hi246_0 hl246_0; replace p246 := eq_true p246; replace q246 := eq_true q246
      go_wp2_with (first | ((with_reducible refine gate_callee (f := 85) rfl ?_); refine gL_ (some 23) Try.func85 #[.agg #[.slice A246_0 ((rd_T110 l0 x5_1).f0).length c246_0, .int .i64 ((rd_T110 l0 x5_1).f1), .int .i64 ((rd_T110 l0 x5_1).f2), .int .i64 ((rd_T110 l0 x5_1).f3)], .int .i64 x1_1] ?_; (with_reducible refine (laws_szTask.calls _ _ ((rd_T110 l0 x5_1).f0) ((rd_T110 l0 x5_1).f1) ((rd_T110 l0 x5_1).f2) ((rd_T110 l0 x5_1).f3) x1_1 t247 _ ?side1 ?side2 A6.out).mono ?_); (case side1 => exact cB_ HR246_0 HB); (case side2 => exact HC246_0.out); rintro e w8 ⟨rfl, hb⟩; refine ⟨_, rfl, ?_⟩; replace HB := bS_ HB hb; (try clear hb); (try clear hb2); (try clear hk); (try clear hi)))
      go_ret
      exact ⟨by first | rfl | (simp [errW_none, errW_some] <;> rfl) | (simp [*, errW_none, errW_some] <;> rfl), sABelo_10⟩
     ·rw [if_neg c7] at H
      have c7b0 : decide (t247 < 0) = false := decide_eq_false c7
      clear c7; have H' := Aside0.mk H; clear H
      have p246 : 0 ≤ (x5_1 : Int) := of_decide_eq_true (by first | (with_reducible assumption) | assumption)
      have q246 : x5_1 < (l0.length : Int) := of_decide_eq_true (by first | (with_reducible assumption) | assumption)
      obtain ⟨ad246, A246_0, c246_0, e246, hx246_0, hx246_1, hx246_2, hx246_3, hl246_0, hi246_0⟩ := at_T110 HR0.out x5_1 p246 q246
      cases e246
      replace hx246_0 := (HB.out.cell (World.block_lt_of_cell? w _ hx246_0)).trans hx246_0
      replace hx246_1 := (HB.out.cell (World.block_lt_of_cell? w _ hx246_1)).trans hx246_1
      replace hx246_2 := (HB.out.cell (World.block_lt_of_cell? w _ hx246_2)).trans hx246_2
      replace hx246_3 := (HB.out.cell (World.block_lt_of_cell? w _ hx246_3)).trans hx246_3
      have HR246_0 := Aside0.mk hi246_0; have HC246_0 := Aside0.mk hl246_0; clear hi246_0 hl246_0; replace p246 := eq_true p246; replace q246 := eq_true q246
      go_wp2_with (first | ((with_reducible refine gate_callee (f := 85) rfl ?_); refine gL_ (some 23) Try.func85 #[.agg #[.slice A246_0 ((rd_T110 l0 x5_1).f0).length c246_0, .int .i64 ((rd_T110 l0 x5_1).f1), .int .i64 ((rd_T110 l0 x5_1).f2), .int .i64 ((rd_T110 l0 x5_1).f3)], .int .i64 x1_1] ?_; (with_reducible refine (laws_szTask.calls _ _ ((rd_T110 l0 x5_1).f0) ((rd_T110 l0 x5_1).f1) ((rd_T110 l0 x5_1).f2) ((rd_T110 l0 x5_1).f3) x1_1 t247 _ ?side1 ?side2 A6.out).mono ?_); (case side1 => exact cB_ HR246_0 HB); (case side2 => exact HC246_0.out); rintro e w9 ⟨rfl, hb⟩; refine ⟨_, rfl, ?_⟩; replace HB := bS_ HB hb; (try clear hb); (try clear hb2); (try clear hk); (try clear hi)))
      go_roundg k1
      case measure => have := HK1.out; omega
      case rel => exact ⟨(t247), (wrap64 (x5_1 + 1)), (by first | rfl | (simp; done) | (simp [*]; done)), (by first | rfl | (simp; done) | (simp [*]; done)), H', ⟨by have := HK1.out; omega⟩, ⟨sABelo_10⟩⟩
    ·rw [if_neg c4] at H
     have c4b0 : decide (x5_1 < (l0.length : Int)) = false := decide_eq_false c4
     clear c4
     obtain rfl := Option.some.inj H
     go_wp2
     go_ret
     exact ⟨by first | rfl | (simp [errW_none, errW_some] <;> rfl) | (simp [*, errW_none, errW_some] <;> rfl), sABelo_10⟩

/-! ### laws_szSuite: function 27 -/
def laws_szSuite.f (k : Nat) (l0_0 : List (S110)) (l0_1 : List Int) (a1 : Int) : Option (Int) := (laws_szTaskS.f k l0_0 a1).bind fun t249 => (if t249 < 0 then (some (-1)) else ((laws_szInt64S.f l0_1 t249).bind fun t250 => (if t250 < 0 then (some (-1)) else (some t250))))
theorem laws_szSuite.mono : ∀ a0 a1 a2 k, LeO (laws_szSuite.f k a0 a1 a2) (laws_szSuite.f (k + 1) a0 a1 a2) := by
 intro a0 a1 a2 k
 unfold laws_szSuite.f
 repeat' first
   | (with_reducible exact laws_szTaskS.mono _ _ _)
   | (with_reducible exact LeO.refl _)
   | (with_reducible exact LeO.none _)
   | (with_reducible refine LeO.ite ?_ ?_)
   | (with_reducible refine LeO.bind ?_ (fun _ => ?_))
   | exact laws_szTaskS.mono _ _ _
   | exact LeO.none _
   | refine LeO.ite ?_ ?_
   | refine LeO.bind ?_ (fun _ => ?_)
set_option maxHeartbeats 8000000 in
set_option maxRecDepth 100000 in
theorem laws_szSuite.calls (k : Nat) (A0_0 : Option Addr) (c0_0 : Nat) (l0_0 : List (S110)) (A0_1 : Option Addr) (c0_1 : Nat) (l0_1 : List Int) (a1 : Int) (r : Int) (w : World) (hr0_0 : Kd.C k110 w A0_0 l0_0.length l0_0) (hc0_0 : l0_0.length ≤ c0_0) (hr0_1 : Kd.C (Kd.int .i64) w A0_1 l0_1.length l0_1) (hc0_1 : l0_1.length ≤ c0_1) (h : laws_szSuite.f k l0_0 l0_1 a1 = some r) :
  Calls Try.prog 27 #[.agg #[.slice A0_0 l0_0.length c0_0, .slice A0_1 l0_1.length c0_1], .int .i64 a1] w fun e w' => e = .returned (.int .i64 r) ∧ Below w.heap.size w w' := by
 have hu54 := Try.underlying54; have HR0_0 := Aside0.mk hr0_0; have HC0_0 := Aside0.mk hc0_0; clear hr0_0 hc0_0; have HR0_1 := Aside0.mk hr0_1; have HC0_1 := Aside0.mk hc0_1; clear hr0_1 hc0_1
 have HB := Aside0.mk (Below.refl w.heap.size w)
 have H : ((laws_szTaskS.f k l0_0 a1).bind fun t249 => (if t249 < 0 then (some (-1)) else ((laws_szInt64S.f l0_1 t249).bind fun t250 => (if t250 < 0 then (some (-1)) else (some t250))))) = some r := h
 clear h; replace H := Option.bind_eq_some_iff.mp H
 obtain ⟨t249, A30, H⟩ := H
 replace H : (if t249 < 0 then (some (-1)) else ((laws_szInt64S.f l0_1 t249).bind fun t250 => (if t250 < 0 then (some (-1)) else (some t250)))) = some r := H
 have A3 := Aside0.mk A30; clear A30
 by_cases c4 : t249 < 0
 ·rw [if_pos c4] at H
  have c4b0 : decide (t249 < 0) = true := decide_eq_true c4
  clear c4
  obtain rfl := Option.some.inj H
  go_enter Try.func27, Try.ntmps27
  go_wp2_with (first | ((with_reducible refine gate_dst (N := 2) rfl ?_); refine box_event ?hg (N := 2) ?hd (cs := #[.slice A0_0 l0_0.length c0_0, .slice A0_1 l0_1.length c0_1]) (t := 54) ?hr ?_; (case hd => rfl); (case hg => rfl); (case hr => first | (go_simp; done) | (go_simp; rfl)); intro gb248 hg w5 hbox hb; have BK248 := Aside0.mk (hbox); have GW248 := gE_ HB hg; have GE248 := gE_ HB hg; replace HB := bS_ HB hb; clear hb hbox hg; have hcz6_0 : w5.cell? ⟨gb248, 0, none⟩ = some (.slice A0_0 l0_0.length c0_0) := (blk_cell BK248.out 0).trans rfl; have hcz6_1 : w5.cell? ⟨gb248, 1, none⟩ = some (.slice A0_1 l0_1.length c0_1) := (blk_cell BK248.out 1).trans rfl; have hfz6_0 := blk_frozen BK248.out 0; have hfz6_1 := blk_frozen BK248.out 1) | ((with_reducible refine gate_callee (f := 62) rfl ?_); refine gL_ (some 8) Try.func62 #[.slice A0_0 l0_0.length c0_0, .int .i64 a1] ?_; (with_reducible refine (laws_szTaskS.calls k _ _ l0_0 a1 t249 _ ?side1 ?side2 A3.out).mono ?_); (case side1 => exact cB_ HR0_0 HB); (case side2 => exact HC0_0.out); rintro e w7 ⟨rfl, hb⟩; refine ⟨_, rfl, ?_⟩; replace BK248 := bB_ BK248 hb; replace HB := bS_ HB hb; (try clear hb); (try clear hb2); (try clear hk); (try clear hi)))
  go_ret
  exact ⟨by first | rfl | (simp [errW_none, errW_some] <;> rfl) | (simp [*, errW_none, errW_some] <;> rfl), sABelo_10⟩
 ·rw [if_neg c4] at H
  have c4b0 : decide (t249 < 0) = false := decide_eq_false c4
  clear c4; replace H := Option.bind_eq_some_iff.mp H
  obtain ⟨t250, A80, H⟩ := H
  replace H : (if t250 < 0 then (some (-1)) else (some t250)) = some r := H
  have A8 := Aside0.mk A80; clear A80
  by_cases c9 : t250 < 0
  ·rw [if_pos c9] at H
   have c9b0 : decide (t250 < 0) = true := decide_eq_true c9
   clear c9
   obtain rfl := Option.some.inj H
   go_enter Try.func27, Try.ntmps27
   go_wp2_with (first | ((with_reducible refine gate_dst (N := 2) rfl ?_); refine box_event ?hg (N := 2) ?hd (cs := #[.slice A0_0 l0_0.length c0_0, .slice A0_1 l0_1.length c0_1]) (t := 54) ?hr ?_; (case hd => rfl); (case hg => rfl); (case hr => first | (go_simp; done) | (go_simp; rfl)); intro gb248 hg w10 hbox hb; have BK248 := Aside0.mk (hbox); have GW248 := gE_ HB hg; have GE248 := gE_ HB hg; replace HB := bS_ HB hb; clear hb hbox hg; have hcz11_0 : w10.cell? ⟨gb248, 0, none⟩ = some (.slice A0_0 l0_0.length c0_0) := (blk_cell BK248.out 0).trans rfl; have hcz11_1 : w10.cell? ⟨gb248, 1, none⟩ = some (.slice A0_1 l0_1.length c0_1) := (blk_cell BK248.out 1).trans rfl; have hfz11_0 := blk_frozen BK248.out 0; have hfz11_1 := blk_frozen BK248.out 1) | ((with_reducible refine gate_callee (f := 62) rfl ?_); refine gL_ (some 8) Try.func62 #[.slice A0_0 l0_0.length c0_0, .int .i64 a1] ?_; (with_reducible refine (laws_szTaskS.calls k _ _ l0_0 a1 t249 _ ?side1 ?side2 A3.out).mono ?_); (case side1 => exact cB_ HR0_0 HB); (case side2 => exact HC0_0.out); rintro e w12 ⟨rfl, hb⟩; refine ⟨_, rfl, ?_⟩; replace BK248 := bB_ BK248 hb; replace HB := bS_ HB hb; (try clear hb); (try clear hb2); (try clear hk); (try clear hi); have hcz13_0 : w12.cell? ⟨gb248, 0, none⟩ = some (.slice A0_0 l0_0.length c0_0) := (blk_cell BK248.out 0).trans rfl; have hcz13_1 : w12.cell? ⟨gb248, 1, none⟩ = some (.slice A0_1 l0_1.length c0_1) := (blk_cell BK248.out 1).trans rfl; have hfz13_0 := blk_frozen BK248.out 0; have hfz13_1 := blk_frozen BK248.out 1) | ((with_reducible refine gate_callee (f := 63) rfl ?_); refine gL_ (some 14) Try.func63 #[.slice A0_1 l0_1.length c0_1, .int .i64 t249] ?_; (with_reducible refine (laws_szInt64S.calls _ _ l0_1 t249 t250 _ ?side1 ?side2 A8.out).mono ?_); (case side1 => exact cB_ HR0_1 HB); (case side2 => exact HC0_1.out); rintro e w' ⟨rfl, ⟨nd, rfl⟩⟩; refine ⟨_, rfl, ?_⟩))
   go_ret
   exact ⟨by first | rfl | (simp [errW_none, errW_some] <;> rfl) | (simp [*, errW_none, errW_some] <;> rfl), sABelo_10⟩
  ·rw [if_neg c9] at H
   have c9b0 : decide (t250 < 0) = false := decide_eq_false c9
   clear c9
   obtain rfl := Option.some.inj H
   go_enter Try.func27, Try.ntmps27
   go_wp2_with (first | ((with_reducible refine gate_dst (N := 2) rfl ?_); refine box_event ?hg (N := 2) ?hd (cs := #[.slice A0_0 l0_0.length c0_0, .slice A0_1 l0_1.length c0_1]) (t := 54) ?hr ?_; (case hd => rfl); (case hg => rfl); (case hr => first | (go_simp; done) | (go_simp; rfl)); intro gb248 hg w14 hbox hb; have BK248 := Aside0.mk (hbox); have GW248 := gE_ HB hg; have GE248 := gE_ HB hg; replace HB := bS_ HB hb; clear hb hbox hg; have hcz15_0 : w14.cell? ⟨gb248, 0, none⟩ = some (.slice A0_0 l0_0.length c0_0) := (blk_cell BK248.out 0).trans rfl; have hcz15_1 : w14.cell? ⟨gb248, 1, none⟩ = some (.slice A0_1 l0_1.length c0_1) := (blk_cell BK248.out 1).trans rfl; have hfz15_0 := blk_frozen BK248.out 0; have hfz15_1 := blk_frozen BK248.out 1) | ((with_reducible refine gate_callee (f := 62) rfl ?_); refine gL_ (some 8) Try.func62 #[.slice A0_0 l0_0.length c0_0, .int .i64 a1] ?_; (with_reducible refine (laws_szTaskS.calls k _ _ l0_0 a1 t249 _ ?side1 ?side2 A3.out).mono ?_); (case side1 => exact cB_ HR0_0 HB); (case side2 => exact HC0_0.out); rintro e w16 ⟨rfl, hb⟩; refine ⟨_, rfl, ?_⟩; replace BK248 := bB_ BK248 hb; replace HB := bS_ HB hb; (try clear hb); (try clear hb2); (try clear hk); (try clear hi); have hcz17_0 : w16.cell? ⟨gb248, 0, none⟩ = some (.slice A0_0 l0_0.length c0_0) := (blk_cell BK248.out 0).trans rfl; have hcz17_1 : w16.cell? ⟨gb248, 1, none⟩ = some (.slice A0_1 l0_1.length c0_1) := (blk_cell BK248.out 1).trans rfl; have hfz17_0 := blk_frozen BK248.out 0; have hfz17_1 := blk_frozen BK248.out 1) | ((with_reducible refine gate_callee (f := 63) rfl ?_); refine gL_ (some 14) Try.func63 #[.slice A0_1 l0_1.length c0_1, .int .i64 t249] ?_; (with_reducible refine (laws_szInt64S.calls _ _ l0_1 t249 t250 _ ?side1 ?side2 A8.out).mono ?_); (case side1 => exact cB_ HR0_1 HB); (case side2 => exact HC0_1.out); rintro e w' ⟨rfl, ⟨nd, rfl⟩⟩; refine ⟨_, rfl, ?_⟩))
   go_ret
   exact ⟨by first | rfl | (simp [errW_none, errW_some] <;> rfl) | (simp [*, errW_none, errW_some] <;> rfl), sABelo_10⟩

/-! ### laws_szJobS: function 72 -/
def laws_szJobS.f (l0 : List (S115)) (a1 : Int) : Option (Int) := if (wrap64 (a1 - (l0.length : Int))) < 0 then (some (-1)) else (some (wrap64 (a1 - (l0.length : Int))))
set_option maxHeartbeats 8000000 in
set_option maxRecDepth 100000 in
theorem laws_szJobS.calls (A0 : Option Addr) (c0 : Nat) (l0 : List (S115)) (a1 : Int) (r : Int) (w : World) (hr0 : Kd.C k115 w A0 l0.length l0) (hc0 : l0.length ≤ c0) (h : laws_szJobS.f l0 a1 = some r) :
  Calls Try.prog 72 #[.slice A0 l0.length c0, .int .i64 a1] w fun e w' => e = .returned (.int .i64 r) ∧ Drawn0 w w' := by
 have HR0 := Aside0.mk hr0; have HC0 := Aside0.mk hc0; clear hr0 hc0
 have H : (if (wrap64 (a1 - (l0.length : Int))) < 0 then (some (-1)) else (some (wrap64 (a1 - (l0.length : Int))))) = some r := h
 clear h
 by_cases c3 : (wrap64 (a1 - (l0.length : Int))) < 0
 ·rw [if_pos c3] at H
  have c3b0 : decide ((wrap64 (a1 - (l0.length : Int))) < 0) = true := decide_eq_true c3
  clear c3
  obtain rfl := Option.some.inj H
  go_enter Try.func72, Try.ntmps72
  go_wp2
  go_ret
  exact ⟨by first | rfl | (simp; done) | (simp [*]; done), by repeat (first | exact Drawn0.refl _ | apply Drawn0.step)⟩
 ·rw [if_neg c3] at H
  have c3b0 : decide ((wrap64 (a1 - (l0.length : Int))) < 0) = false := decide_eq_false c3
  clear c3
  obtain rfl := Option.some.inj H
  go_enter Try.func72, Try.ntmps72
  go_wp2
  go_ret
  exact ⟨by first | rfl | (simp; done) | (simp [*]; done), by repeat (first | exact Drawn0.refl _ | apply Drawn0.step)⟩

end Go.Proofs.Ytjoghfehmhapbaa.QFnExactCrashRun
