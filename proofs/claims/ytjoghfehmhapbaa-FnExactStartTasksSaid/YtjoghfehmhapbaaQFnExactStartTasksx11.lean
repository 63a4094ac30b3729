-- Written by a program of this session out of the printer's texts and contracts of its own.
import Derived.Test.YtjoghfehmhapbaaSq
import Derived.Test.YtjoghfehmhapbaaQFnExactStartTasksx0
import Derived.Test.YtjoghfehmhapbaaQFnExactStartTasksx10
namespace Go.Proofs.Ytjoghfehmhapbaa.QFnExactStartTasks
open Go.RowKit Go.Proofs.YtjoghfehmhapbaaW.PrintWords Go.Proofs.YtjoghfehmhapbaaW.PrintLast Go.Proofs.YtjoghfehmhapbaaW.PrintMore Go.Proofs.Ytjoghfehmhapbaa.Sq
attribute [local go_sem] max2_int min2_int max_two min_two max_three min_three max_four min_four   -- for this text's walks alone
set_option linter.unusedVariables false
set_option linter.unusedSimpArgs false
theorem sABelo_11 {b : Nat} {w W : World} (h : Below b w W := by repeat (first | (with_reducible first | exact Aside0.out (by assumption) | apply below_alloc | apply pw_below_drewN | apply below_drew1 | refine below_set ?_ (Aside0.out (by assumption))) | exact Aside0.out (by assumption))) : Below b w W := h

/-! ### laws_heldTaskS: function 89 -/
def laws_heldTaskS.l0 : Nat → List (S39) → Int → Int → Option (Int)
 | 0, _, _, _ => none
 | k + 1, x0, x1, x5 => if x5 < (x0.length : Int) then (if 0 ≤ x5 then ((laws_heldInt64S.f k ((rd_T39 x0 x5).f0) x1).bind fun t240 => (if t240 < 0 then (some (-1)) else (if ((rd_T39 x0 x5).f1) = t240 then (if ((rd_T39 x0 x5).f2) = (wrap64 (t240 + 1)) then (if ((rd_T39 x0 x5).f3) = (wrap64 ((wrap64 (t240 + 1)) + 1)) then (laws_heldTaskS.l0 k x0 (wrap64 ((wrap64 ((wrap64 (t240 + 1)) + 1)) + 1)) (wrap64 (x5 + 1))) else (some (-1))) else (some (-1))) else (some (-1))))) else (none)) else (some x1)
def laws_heldTaskS.f (k : Nat) (l0 : List (S39)) (a1 : Int) : Option (Int) := laws_heldTaskS.l0 k l0 a1 0
theorem laws_heldTaskS.mono_l : ∀ k, (∀ y0 y1 y2, LeO (laws_heldTaskS.l0 k y0 y1 y2) (laws_heldTaskS.l0 (k + 1) y0 y1 y2))
 | 0 => fun _ _ _ r h => by simp [laws_heldTaskS.l0] at h
 | k + 1 => by
  have ih0 := laws_heldTaskS.mono_l k
  ·intro y0 y1 y2
   unfold laws_heldTaskS.l0
   repeat' first
   | (with_reducible exact ih0 _ _ _)
   | (with_reducible exact laws_heldInt64S.mono _ _ _)
   | (with_reducible exact LeO.refl _)
   | (with_reducible exact LeO.none _)
   | (with_reducible refine LeO.ite ?_ ?_)
   | (with_reducible refine LeO.bind ?_ (fun _ => ?_))
   | exact ih0 _ _ _
   | exact laws_heldInt64S.mono _ _ _
   | exact LeO.none _
   | refine LeO.ite ?_ ?_
   | refine LeO.bind ?_ (fun _ => ?_)
theorem laws_heldTaskS.mono : ∀ a0 a1 k, LeO (laws_heldTaskS.f k a0 a1) (laws_heldTaskS.f (k + 1) a0 a1) := by
 intro a0 a1 k
 have ih0 := laws_heldTaskS.mono_l k
 unfold laws_heldTaskS.f
 repeat' first
   | (with_reducible exact ih0 _ _ _)
   | (with_reducible exact laws_heldInt64S.mono _ _ _)
   | (with_reducible exact LeO.refl _)
   | (with_reducible exact LeO.none _)
   | (with_reducible refine LeO.ite ?_ ?_)
   | (with_reducible refine LeO.bind ?_ (fun _ => ?_))
   | exact ih0 _ _ _
   | exact laws_heldInt64S.mono _ _ _
   | exact LeO.none _
   | refine LeO.ite ?_ ?_
   | refine LeO.bind ?_ (fun _ => ?_)
set_option maxHeartbeats 8000000 in
set_option maxRecDepth 100000 in
theorem laws_heldTaskS.calls (k : Nat) (A0 : Option Addr) (c0 : Nat) (l0 : List (S39)) (a1 : Int) (r : Int) (w : World) (hr0 : Kd.C k39 w A0 l0.length l0) (hc0 : l0.length ≤ c0) (h : laws_heldTaskS.f k l0 a1 = some r) :
  Calls Try.prog 89 #[.slice A0 l0.length c0, .int .i64 a1] w fun e w' => e = .returned (.int .i64 r) ∧ Drawn0 w w' := by
 have HR0 := Aside0.mk hr0; have HC0 := Aside0.mk hc0; clear hr0 hc0
 have H : (laws_heldTaskS.l0 k l0 a1 0) = some r := h
 clear h; have H' := Aside0.mk H; clear H
 go_enter Try.func89, Try.ntmps89
 go_wp2
 go_loopg [1, 5] k (fun kq v1 v5 w' => ∃ (x1_1 : Int) (x5_1 : Int), v1 = .int .i64 x1_1 ∧ v5 = .int .i64 x5_1 ∧ Aside0 (laws_heldTaskS.l0 kq l0 x1_1 x5_1 = some r) ∧ Aside0 (kq ≤ k) ∧ Drawn0 w w')
 case atStart => exact ⟨(a1), (0), (by first | rfl | (simp; done) | (simp [*]; done)), (by first | rfl | (simp; done) | (simp [*]; done)), H', ⟨Nat.le_refl _⟩, by repeat (first | exact Drawn0.refl _ | apply Drawn0.step)⟩
 case round =>
  clear H'
  obtain ⟨x1_1, x5_1, rfl, rfl, HA, HK1, ⟨m1, rfl⟩⟩ := hrel
  cases gk with
  | zero => exact absurd HA.out (by simp [laws_heldTaskS.l0])
  | succ k1 =>
   have H := HA.out; clear HA
   simp only [laws_heldTaskS.l0] at H
   by_cases c3 : x5_1 < (l0.length : Int)
   ·rw [if_pos c3] at H
    have c3b0 := decide_eq_true c3
    clear c3
    obtain ⟨c4, H⟩ := ifS_ H
    have c4b0 : decide (0 ≤ x5_1) = true := decide_eq_true c4
    clear c4; replace H := Option.bind_eq_some_iff.mp H
    obtain ⟨t240, A50, H⟩ := H
    replace H : (if t240 < 0 then (some (-1)) else (if ((rd_T39 l0 x5_1).f1) = t240 then (if ((rd_T39 l0 x5_1).f2) = (wrap64 (t240 + 1)) then (if ((rd_T39 l0 x5_1).f3) = (wrap64 ((wrap64 (t240 + 1)) + 1)) then (laws_heldTaskS.l0 k1 l0 (wrap64 ((wrap64 ((wrap64 (t240 + 1)) + 1)) + 1)) (wrap64 (x5_1 + 1))) else (some (-1))) else (some (-1))) else (some (-1)))) = some r := H
    have A5 := Aside0.mk A50; clear A50
    by_cases c6 : t240 < 0
    ·rw [if_pos c6] at H
     have c6b0 := decide_eq_true c6
     clear c6
     obtain rfl := Option.some.inj H
     have p239 : 0 ≤ (x5_1 : Int) := dA_
     have q239 : x5_1 < (l0.length : Int) := dA_
     obtain ⟨ad239, A239_0, c239_0, e239, hx239_0, hx239_1, hx239_2, hx239_3, hl239_0, hi239_0⟩ := at_T39 HR0.out x5_1 p239 q239
     cases e239
     have HR239_0 := Aside0.mk hi239_0; have HC239_0 := Aside0.mk hl239_0; clear hi239_0 hl239_0; replace p239 := eq_true p239; replace q239 := eq_true q239
     go_wp2_with (first | ((with_reducible refine gate_callee (f := 39) rfl ?_); refine gL_ (some 18) Try.func39 #[.slice A239_0 ((rd_T39 l0 x5_1).f0).length c239_0, .int .i64 x1_1] ?_; (with_reducible refine (laws_heldInt64S.calls k1 _ _ ((rd_T39 l0 x5_1).f0) x1_1 t240 _ ?side1 ?side2 A5.out).mono ?_); (case side1 => repeat (first | exact HR239_0.out | (with_reducible refine Kd.C_alloc ?_ _) | (with_reducible refine Kd.C_drewN ?_ _) | (with_reducible refine Kd.C_drew ?_))); (case side2 => exact HC239_0.out); rintro e w' ⟨rfl, ⟨nd, rfl⟩⟩; refine ⟨_, rfl, ?_⟩))
     go_ret
     exact ⟨by first | rfl | (simp; done) | (simp [*]; done), by repeat (first | exact Drawn0.refl _ | apply Drawn0.step)⟩
    ·rw [if_neg c6] at H
     have c6b0 := decide_eq_false c6
     clear c6
     by_cases c7 : ((rd_T39 l0 x5_1).f1) = t240
     ·rw [if_pos c7] at H
      have c7b0 := beq_iff_eq.mpr c7
      have c7b1 := bne_eq_false_iff_eq.mpr c7
      clear c7
      by_cases c8 : ((rd_T39 l0 x5_1).f2) = (wrap64 (t240 + 1))
      ·rw [if_pos c8] at H
       have c8b0 := beq_iff_eq.mpr c8
       have c8b1 := bne_eq_false_iff_eq.mpr c8
       clear c8
       by_cases c9 : ((rd_T39 l0 x5_1).f3) = (wrap64 ((wrap64 (t240 + 1)) + 1))
       ·rw [if_pos c9] at H
        have c9b0 := beq_iff_eq.mpr c9
        have c9b1 := bne_eq_false_iff_eq.mpr c9
        clear c9; have H' := Aside0.mk H; clear H
        have p239 : 0 ≤ (x5_1 : Int) := dA_
        have q239 : x5_1 < (l0.length : Int) := dA_
        obtain ⟨ad239, A239_0, c239_0, e239, hx239_0, hx239_1, hx239_2, hx239_3, hl239_0, hi239_0⟩ := at_T39 HR0.out x5_1 p239 q239
        cases e239
        have HR239_0 := Aside0.mk hi239_0; have HC239_0 := Aside0.mk hl239_0; clear hi239_0 hl239_0; replace p239 := eq_true p239; replace q239 := eq_true q239
        go_wp2_with (first | ((with_reducible refine gate_callee (f := 39) rfl ?_); refine gL_ (some 18) Try.func39 #[.slice A239_0 ((rd_T39 l0 x5_1).f0).length c239_0, .int .i64 x1_1] ?_; (with_reducible refine (laws_heldInt64S.calls k1 _ _ ((rd_T39 l0 x5_1).f0) x1_1 t240 _ ?side1 ?side2 A5.out).mono ?_); (case side1 => repeat (first | exact HR239_0.out | (with_reducible refine Kd.C_alloc ?_ _) | (with_reducible refine Kd.C_drewN ?_ _) | (with_reducible refine Kd.C_drew ?_))); (case side2 => exact HC239_0.out); rintro e w' ⟨rfl, ⟨nd, rfl⟩⟩; refine ⟨_, rfl, ?_⟩; have p241 : 0 ≤ (x5_1 : Int) := dA_; have q241 : x5_1 < (l0.length : Int) := dA_; obtain ⟨ad241, A241_0, c241_0, e241, hx241_0, hx241_1, hx241_2, hx241_3, hl241_0, hi241_0⟩ := at_T39 HR0.out x5_1 p241 q241; obtain rfl : ad239 = ad241 := (by injection e241); have HR241_0 := Aside0.mk hi241_0; have HC241_0 := Aside0.mk hl241_0; clear hi241_0 hl241_0; replace p241 := eq_true p241; replace q241 := eq_true q241; have ea_ := Option.some.inj (hx239_0.symm.trans hx241_0); injection ea_ with ea_ en_ ec_; subst ea_; subst ec_; clear en_; have p242 : 0 ≤ (x5_1 : Int) := dA_; have q242 : x5_1 < (l0.length : Int) := dA_; obtain ⟨ad242, A242_0, c242_0, e242, hx242_0, hx242_1, hx242_2, hx242_3, hl242_0, hi242_0⟩ := at_T39 HR0.out x5_1 p242 q242; obtain rfl : ad239 = ad242 := (by injection e242); have HR242_0 := Aside0.mk hi242_0; have HC242_0 := Aside0.mk hl242_0; clear hi242_0 hl242_0; replace p242 := eq_true p242; replace q242 := eq_true q242; have ea_ := Option.some.inj (hx239_0.symm.trans hx242_0); injection ea_ with ea_ en_ ec_; subst ea_; subst ec_; clear en_; have p243 : 0 ≤ (x5_1 : Int) := dA_; have q243 : x5_1 < (l0.length : Int) := dA_; obtain ⟨ad243, A243_0, c243_0, e243, hx243_0, hx243_1, hx243_2, hx243_3, hl243_0, hi243_0⟩ := at_T39 HR0.out x5_1 p243 q243; obtain rfl : ad239 = ad243 := (by injection e243); have HR243_0 := Aside0.mk hi243_0; have HC243_0 := Aside0.mk hl243_0; clear hi243_0 hl243_0; replace p243 := eq_true p243; replace q243 := eq_true q243; have ea_ := Option.some.inj (hx239_0.symm.trans hx243_0); injection ea_ with ea_ en_ ec_; subst ea_; subst ec_; clear en_))
        go_roundg k1
        case measure => have := HK1.out; omega
        case rel => exact ⟨(wrap64 ((wrap64 ((wrap64 (t240 + 1)) + 1)) + 1)), (wrap64 (x5_1 + 1)), (by first | rfl | (simp; done) | (simp [*]; done)), (by first | rfl | (simp; done) | (simp [*]; done)), H', ⟨by have := HK1.out; omega⟩, by repeat (first | exact Drawn0.refl _ | apply Drawn0.step)⟩
       ·rw [if_neg c9] at H
        have c9b0 := beq_eq_false_iff_ne.mpr c9
        have c9b1 := bne_iff_ne.mpr c9
        obtain rfl := Option.some.inj H
        have p239 : 0 ≤ (x5_1 : Int) := dA_
        have q239 : x5_1 < (l0.length : Int) := dA_
        obtain ⟨ad239, A239_0, c239_0, e239, hx239_0, hx239_1, hx239_2, hx239_3, hl239_0, hi239_0⟩ := at_T39 HR0.out x5_1 p239 q239
        cases e239
        have HR239_0 := Aside0.mk hi239_0; have HC239_0 := Aside0.mk hl239_0; clear hi239_0 hl239_0; replace p239 := eq_true p239; replace q239 := eq_true q239
        go_wp2_with (first | ((with_reducible refine gate_callee (f := 39) rfl ?_); refine gL_ (some 18) Try.func39 #[.slice A239_0 ((rd_T39 l0 x5_1).f0).length c239_0, .int .i64 x1_1] ?_; (with_reducible refine (laws_heldInt64S.calls k1 _ _ ((rd_T39 l0 x5_1).f0) x1_1 t240 _ ?side1 ?side2 A5.out).mono ?_); (case side1 => repeat (first | exact HR239_0.out | (with_reducible refine Kd.C_alloc ?_ _) | (with_reducible refine Kd.C_drewN ?_ _) | (with_reducible refine Kd.C_drew ?_))); (case side2 => exact HC239_0.out); rintro e w' ⟨rfl, ⟨nd, rfl⟩⟩; refine ⟨_, rfl, ?_⟩; have p241 : 0 ≤ (x5_1 : Int) := dA_; have q241 : x5_1 < (l0.length : Int) := dA_; obtain ⟨ad241, A241_0, c241_0, e241, hx241_0, hx241_1, hx241_2, hx241_3, hl241_0, hi241_0⟩ := at_T39 HR0.out x5_1 p241 q241; obtain rfl : ad239 = ad241 := (by injection e241); have HR241_0 := Aside0.mk hi241_0; have HC241_0 := Aside0.mk hl241_0; clear hi241_0 hl241_0; replace p241 := eq_true p241; replace q241 := eq_true q241; have ea_ := Option.some.inj (hx239_0.symm.trans hx241_0); injection ea_ with ea_ en_ ec_; subst ea_; subst ec_; clear en_; have p242 : 0 ≤ (x5_1 : Int) := dA_; have q242 : x5_1 < (l0.length : Int) := dA_; obtain ⟨ad242, A242_0, c242_0, e242, hx242_0, hx242_1, hx242_2, hx242_3, hl242_0, hi242_0⟩ := at_T39 HR0.out x5_1 p242 q242; obtain rfl : ad239 = ad242 := (by injection e242); have HR242_0 := Aside0.mk hi242_0; have HC242_0 := Aside0.mk hl242_0; clear hi242_0 hl242_0; replace p242 := eq_true p242; replace q242 := eq_true q242; have ea_ := Option.some.inj (hx239_0.symm.trans hx242_0); injection ea_ with ea_ en_ ec_; subst ea_; subst ec_; clear en_; have p243 : 0 ≤ (x5_1 : Int) := dA_; have q243 : x5_1 < (l0.length : Int) := dA_; obtain ⟨ad243, A243_0, c243_0, e243, hx243_0, hx243_1, hx243_2, hx243_3, hl243_0, hi243_0⟩ := at_T39 HR0.out x5_1 p243 q243; obtain rfl : ad239 = ad243 := (by injection e243); have HR243_0 := Aside0.mk hi243_0; have HC243_0 := Aside0.mk hl243_0; clear hi243_0 hl243_0; replace p243 := eq_true p243; replace q243 := eq_true q243; have ea_ := Option.some.inj (hx239_0.symm.trans hx243_0); injection ea_ with ea_ en_ ec_; subst ea_; subst ec_; clear en_))
        go_ret
        exact ⟨by first | rfl | (simp; done) | (simp [*]; done), by repeat (first | exact Drawn0.refl _ | apply Drawn0.step)⟩
      ·rw [if_neg c8] at H
       have c8b0 := beq_eq_false_iff_ne.mpr c8
       have c8b1 := bne_iff_ne.mpr c8
       obtain rfl := Option.some.inj H
       have p239 : 0 ≤ (x5_1 : Int) := dA_
       have q239 : x5_1 < (l0.length : Int) := dA_
       obtain ⟨ad239, A239_0, c239_0, e239, hx239_0, hx239_1, hx239_2, hx239_3, hl239_0, hi239_0⟩ := at_T39 HR0.out x5_1 p239 q239
       cases e239
       have HR239_0 := Aside0.mk hi239_0; have HC239_0 := Aside0.mk hl239_0; clear hi239_0 hl239_0; replace p239 := eq_true p239; replace q239 := eq_true q239
       go_wp2_with (first | ((with_reducible refine gate_callee (f := 39) rfl ?_); refine gL_ (some 18) Try.func39 #[.slice A239_0 ((rd_T39 l0 x5_1).f0).length c239_0, .int .i64 x1_1] ?_; (with_reducible refine (laws_heldInt64S.calls k1 _ _ ((rd_T39 l0 x5_1).f0) x1_1 t240 _ ?side1 ?side2 A5.out).mono ?_); (case side1 => repeat (first | exact HR239_0.out | (with_reducible refine Kd.C_alloc ?_ _) | (with_reducible refine Kd.C_drewN ?_ _) | (with_reducible refine Kd.C_drew ?_))); (case side2 => exact HC239_0.out); rintro e w' ⟨rfl, ⟨nd, rfl⟩⟩; refine ⟨_, rfl, ?_⟩; have p241 : 0 ≤ (x5_1 : Int) := dA_; have q241 : x5_1 < (l0.length : Int) := dA_; obtain ⟨ad241, A241_0, c241_0, e241, hx241_0, hx241_1, hx241_2, hx241_3, hl241_0, hi241_0⟩ := at_T39 HR0.out x5_1 p241 q241; obtain rfl : ad239 = ad241 := (by injection e241); have HR241_0 := Aside0.mk hi241_0; have HC241_0 := Aside0.mk hl241_0; clear hi241_0 hl241_0; replace p241 := eq_true p241; replace q241 := eq_true q241; have ea_ := Option.some.inj (hx239_0.symm.trans hx241_0); injection ea_ with ea_ en_ ec_; subst ea_; subst ec_; clear en_; have p242 : 0 ≤ (x5_1 : Int) := dA_; have q242 : x5_1 < (l0.length : Int) := dA_; obtain ⟨ad242, A242_0, c242_0, e242, hx242_0, hx242_1, hx242_2, hx242_3, hl242_0, hi242_0⟩ := at_T39 HR0.out x5_1 p242 q242; obtain rfl : ad239 = ad242 := (by injection e242); have HR242_0 := Aside0.mk hi242_0; have HC242_0 := Aside0.mk hl242_0; clear hi242_0 hl242_0; replace p242 := eq_true p242; replace q242 := eq_true q242; have ea_ := Option.some.inj (hx239_0.symm.trans hx242_0); injection ea_ with ea_ en_ ec_; subst ea_; subst ec_; clear en_))
       go_ret
       exact ⟨by first | rfl | (simp; done) | (simp [*]; done), by repeat (first | exact Drawn0.refl _ | apply Drawn0.step)⟩
     ·rw [if_neg c7] at H
      have c7b0 := beq_eq_false_iff_ne.mpr c7
      have c7b1 := bne_iff_ne.mpr c7
      obtain rfl := Option.some.inj H
      have p239 : 0 ≤ (x5_1 : Int) := dA_
      have q239 : x5_1 < (l0.length : Int) := dA_
      obtain ⟨ad239, A239_0, c239_0, e239, hx239_0, hx239_1, hx239_2, hx239_3, hl239_0, hi239_0⟩ := at_T39 HR0.out x5_1 p239 q239
      cases e239
      have HR239_0 := Aside0.mk hi239_0; have HC239_0 := Aside0.mk hl239_0; clear hi239_0 hl239_0; replace p239 := eq_true p239; replace q239 := eq_true q239
      go_wp2_with (first | ((with_reducible refine gate_callee (f := 39) rfl ?_); refine gL_ (some 18) Try.func39 #[.slice A239_0 ((rd_T39 l0 x5_1).f0).length c239_0, .int .i64 x1_1] ?_; (with_reducible refine (laws_heldInt64S.calls k1 _ _ ((rd_T39 l0 x5_1).f0) x1_1 t240 _ ?side1 ?side2 A5.out).mono ?_); (case side1 => repeat (first | exact HR239_0.out | (with_reducible refine Kd.C_alloc ?_ _) | (with_reducible refine Kd.C_drewN ?_ _) | (with_reducible refine Kd.C_drew ?_))); (case side2 => exact HC239_0.out); rintro e w' ⟨rfl, ⟨nd, rfl⟩⟩; refine ⟨_, rfl, ?_⟩; have p241 : 0 ≤ (x5_1 : Int) := dA_; have q241 : x5_1 < (l0.length : Int) := dA_; obtain ⟨ad241, A241_0, c241_0, e241, hx241_0, hx241_1, hx241_2, hx241_3, hl241_0, hi241_0⟩ := at_T39 HR0.out x5_1 p241 q241; obtain rfl : ad239 = ad241 := (by injection e241); have HR241_0 := Aside0.mk hi241_0; have HC241_0 := Aside0.mk hl241_0; clear hi241_0 hl241_0; replace p241 := eq_true p241; replace q241 := eq_true q241; have ea_ := Option.some.inj (hx239_0.symm.trans hx241_0); injection ea_ with ea_ en_ ec_; subst ea_; subst ec_; clear en_))
      go_ret
      exact ⟨by first | rfl | (simp; done) | (simp [*]; done), by repeat (first | exact Drawn0.refl _ | apply Drawn0.step)⟩
   ·rw [if_neg c3] at H
    have c3b0 := decide_eq_false c3
    clear c3
    obtain rfl := Option.some.inj H
    go_wp2
    go_ret
    exact ⟨by first | rfl | (simp; done) | (simp [*]; done), by repeat (first | exact Drawn0.refl _ | apply Drawn0.step)⟩

/-! ### laws_heldSuite: function 70 -/
def laws_heldSuite.f (k : Nat) (l0_0 : List (S39)) (l0_1 : List Int) (a1 : Int) : Option (Int) := (laws_heldTaskS.f k l0_0 a1).bind fun t245 => (if t245 < 0 then (some (-1)) else ((laws_heldInt64S.f k l0_1 t245).bind fun t246 => (if t246 < 0 then (some (-1)) else (some t246))))
theorem laws_heldSuite.mono : ∀ a0 a1 a2 k, LeO (laws_heldSuite.f k a0 a1 a2) (laws_heldSuite.f (k + 1) a0 a1 a2) := by
 intro a0 a1 a2 k
 unfold laws_heldSuite.f
 repeat' first
   | (with_reducible exact laws_heldInt64S.mono _ _ _)
   | (with_reducible exact laws_heldTaskS.mono _ _ _)
   | (with_reducible exact LeO.refl _)
   | (with_reducible exact LeO.none _)
   | (with_reducible refine LeO.ite ?_ ?_)
   | (with_reducible refine LeO.bind ?_ (fun _ => ?_))
   | exact laws_heldInt64S.mono _ _ _
   | exact laws_heldTaskS.mono _ _ _
   | exact LeO.none _
   | refine LeO.ite ?_ ?_
   | refine LeO.bind ?_ (fun _ => ?_)
set_option maxHeartbeats 8000000 in
set_option maxRecDepth 100000 in
theorem laws_heldSuite.calls (k : Nat) (A0_0 : Option Addr) (c0_0 : Nat) (l0_0 : List (S39)) (A0_1 : Option Addr) (c0_1 : Nat) (l0_1 : List Int) (a1 : Int) (r : Int) (w : World) (hr0_0 : Kd.C k39 w A0_0 l0_0.length l0_0) (hc0_0 : l0_0.length ≤ c0_0) (hr0_1 : Kd.C (Kd.int .i64) w A0_1 l0_1.length l0_1) (hc0_1 : l0_1.length ≤ c0_1) (h : laws_heldSuite.f k l0_0 l0_1 a1 = some r) :
  Calls Try.prog 70 #[.agg #[.slice A0_0 l0_0.length c0_0, .slice A0_1 l0_1.length c0_1], .int .i64 a1] w fun e w' => e = .returned (.int .i64 r) ∧ Below w.heap.size w w' := by
 have hu27 := Try.underlying27; have HR0_0 := Aside0.mk hr0_0; have HC0_0 := Aside0.mk hc0_0; clear hr0_0 hc0_0; have HR0_1 := Aside0.mk hr0_1; have HC0_1 := Aside0.mk hc0_1; clear hr0_1 hc0_1
 have HB := Aside0.mk (Below.refl w.heap.size w)
 have H : ((laws_heldTaskS.f k l0_0 a1).bind fun t245 => (if t245 < 0 then (some (-1)) else ((laws_heldInt64S.f k l0_1 t245).bind fun t246 => (if t246 < 0 then (some (-1)) else (some t246))))) = some r := h
 clear h; replace H := Option.bind_eq_some_iff.mp H
 obtain ⟨t245, A30, H⟩ := H
 replace H : (if t245 < 0 then (some (-1)) else ((laws_heldInt64S.f k l0_1 t245).bind fun t246 => (if t246 < 0 then (some (-1)) else (some t246)))) = some r := H
 have A3 := Aside0.mk A30; clear A30
 by_cases c4 : t245 < 0
 ·rw [if_pos c4] at H
  have c4b0 := decide_eq_true c4
  clear c4
  obtain rfl := Option.some.inj H
  go_enter Try.func70, Try.ntmps70
  go_wp2_with (first | ((with_reducible refine gate_dst (N := 2) rfl ?_); refine box_event ?hg (N := 2) ?hd (cs := #[.slice A0_0 l0_0.length c0_0, .slice A0_1 l0_1.length c0_1]) (t := 27) ?hr ?_; (case hd => rfl); (case hg => rfl); (case hr => first | (go_simp; done) | (go_simp; rfl)); intro gb244 hg w5 hbox hb; have BK244 := Aside0.mk (hbox); have GW244 := gE_ HB hg; have GE244 := gE_ HB hg; replace HB := bS_ HB hb; clear hb hbox hg; obtain ⟨hcz6_0, hcz6_1, hfz6_0, hfz6_1⟩ := cf2_ BK244) | ((with_reducible refine gate_callee (f := 89) rfl ?_); refine gL_ (some 8) Try.func89 #[.slice A0_0 l0_0.length c0_0, .int .i64 a1] ?_; (with_reducible refine (laws_heldTaskS.calls k _ _ l0_0 a1 t245 _ ?side1 ?side2 A3.out).mono ?_); (case side1 => exact cB_ HR0_0 HB); (case side2 => exact HC0_0.out); rintro e w' ⟨rfl, ⟨nd, rfl⟩⟩; refine ⟨_, rfl, ?_⟩))
  go_ret
  exact ⟨by first | rfl | (simp [errW_none, errW_some] <;> rfl) | (simp [*, errW_none, errW_some] <;> rfl), sABelo_11⟩
 ·rw [if_neg c4] at H
  have c4b0 := decide_eq_false c4
  clear c4; replace H := Option.bind_eq_some_iff.mp H
  obtain ⟨t246, A70, H⟩ := H
  replace H : (if t246 < 0 then (some (-1)) else (some t246)) = some r := H
  have A7 := Aside0.mk A70; clear A70
  by_cases c8 : t246 < 0
  ·rw [if_pos c8] at H
   have c8b0 := decide_eq_true c8
   clear c8
   obtain rfl := Option.some.inj H
   go_enter Try.func70, Try.ntmps70
   go_wp2_with (first | ((with_reducible refine gate_dst (N := 2) rfl ?_); refine box_event ?hg (N := 2) ?hd (cs := #[.slice A0_0 l0_0.length c0_0, .slice A0_1 l0_1.length c0_1]) (t := 27) ?hr ?_; (case hd => rfl); (case hg => rfl); (case hr => first | (go_simp; done) | (go_simp; rfl)); intro gb244 hg w9 hbox hb; have BK244 := Aside0.mk (hbox); have GW244 := gE_ HB hg; have GE244 := gE_ HB hg; replace HB := bS_ HB hb; clear hb hbox hg; obtain ⟨hcz10_0, hcz10_1, hfz10_0, hfz10_1⟩ := cf2_ BK244) | ((with_reducible refine gate_callee (f := 89) rfl ?_); refine gL_ (some 8) Try.func89 #[.slice A0_0 l0_0.length c0_0, .int .i64 a1] ?_; (with_reducible refine (laws_heldTaskS.calls k _ _ l0_0 a1 t245 _ ?side1 ?side2 A3.out).mono ?_); (case side1 => exact cB_ HR0_0 HB); (case side2 => exact HC0_0.out); rintro e w' ⟨rfl, ⟨nd, rfl⟩⟩; refine ⟨_, rfl, ?_⟩) | ((with_reducible refine gate_callee (f := 39) rfl ?_); refine gL_ (some 14) Try.func39 #[.slice A0_1 l0_1.length c0_1, .int .i64 t245] ?_; (with_reducible refine (laws_heldInt64S.calls k _ _ l0_1 t245 t246 _ ?side1 ?side2 A7.out).mono ?_); (case side1 => repeat (first | exact (Kd.C_below HR0_1.out sABelo_11) | (with_reducible refine Kd.C_alloc ?_ _) | (with_reducible refine Kd.C_drewN ?_ _) | (with_reducible refine Kd.C_drew ?_))); (case side2 => exact HC0_1.out); rintro e w' ⟨rfl, ⟨nd, rfl⟩⟩; refine ⟨_, rfl, ?_⟩))
   go_ret
   exact ⟨by first | rfl | (simp [errW_none, errW_some] <;> rfl) | (simp [*, errW_none, errW_some] <;> rfl), sABelo_11⟩
  ·rw [if_neg c8] at H
   have c8b0 := decide_eq_false c8
   clear c8
   obtain rfl := Option.some.inj H
   go_enter Try.func70, Try.ntmps70
   go_wp2_with (first | ((with_reducible refine gate_dst (N := 2) rfl ?_); refine box_event ?hg (N := 2) ?hd (cs := #[.slice A0_0 l0_0.length c0_0, .slice A0_1 l0_1.length c0_1]) (t := 27) ?hr ?_; (case hd => rfl); (case hg => rfl); (case hr => first | (go_simp; done) | (go_simp; rfl)); intro gb244 hg w11 hbox hb; have BK244 := Aside0.mk (hbox); have GW244 := gE_ HB hg; have GE244 := gE_ HB hg; replace HB := bS_ HB hb; clear hb hbox hg; obtain ⟨hcz12_0, hcz12_1, hfz12_0, hfz12_1⟩ := cf2_ BK244) | ((with_reducible refine gate_callee (f := 89) rfl ?_); refine gL_ (some 8) Try.func89 #[.slice A0_0 l0_0.length c0_0, .int .i64 a1] ?_; (with_reducible refine (laws_heldTaskS.calls k _ _ l0_0 a1 t245 _ ?side1 ?side2 A3.out).mono ?_); (case side1 => exact cB_ HR0_0 HB); (case side2 => exact HC0_0.out); rintro e w' ⟨rfl, ⟨nd, rfl⟩⟩; refine ⟨_, rfl, ?_⟩) | ((with_reducible refine gate_callee (f := 39) rfl ?_); refine gL_ (some 14) Try.func39 #[.slice A0_1 l0_1.length c0_1, .int .i64 t245] ?_; (with_reducible refine (laws_heldInt64S.calls k _ _ l0_1 t245 t246 _ ?side1 ?side2 A7.out).mono ?_); (case side1 => repeat (first | exact (Kd.C_below HR0_1.out sABelo_11) | (with_reducible refine Kd.C_alloc ?_ _) | (with_reducible refine Kd.C_drewN ?_ _) | (with_reducible refine Kd.C_drew ?_))); (case side2 => exact HC0_1.out); rintro e w' ⟨rfl, ⟨nd, rfl⟩⟩; refine ⟨_, rfl, ?_⟩))
   go_ret
   exact ⟨by first | rfl | (simp [errW_none, errW_some] <;> rfl) | (simp [*, errW_none, errW_some] <;> rfl), sABelo_11⟩

/-! ### laws_heldJobS: function 71 -/
def laws_heldJobS.l0 : Nat → List (S43) → Int → Int → Option (Int)
 | 0, _, _, _ => none
 | k + 1, x0, x1, x5 => if x5 < (x0.length : Int) then (if 0 ≤ x5 then (if ((rd_T43 x0 x5).f0) = x1 then (if ((rd_T43 x0 x5).f1) = (wrap64 (x1 + 1)) then (laws_heldJobS.l0 k x0 (wrap64 ((wrap64 (x1 + 1)) + 1)) (wrap64 (x5 + 1))) else (some (-1))) else (some (-1))) else (none)) else (some x1)
def laws_heldJobS.f (k : Nat) (l0 : List (S43)) (a1 : Int) : Option (Int) := laws_heldJobS.l0 k l0 a1 0
theorem laws_heldJobS.mono_l : ∀ k, (∀ y0 y1 y2, LeO (laws_heldJobS.l0 k y0 y1 y2) (laws_heldJobS.l0 (k + 1) y0 y1 y2))
 | 0 => fun _ _ _ r h => by simp [laws_heldJobS.l0] at h
 | k + 1 => by
  have ih0 := laws_heldJobS.mono_l k
  ·intro y0 y1 y2
   unfold laws_heldJobS.l0
   repeat' first
   | (with_reducible exact ih0 _ _ _)
   | (with_reducible exact LeO.refl _)
   | (with_reducible exact LeO.none _)
   | (with_reducible refine LeO.ite ?_ ?_)
   | (with_reducible refine LeO.bind ?_ (fun _ => ?_))
   | exact ih0 _ _ _
   | exact LeO.none _
   | refine LeO.ite ?_ ?_
   | refine LeO.bind ?_ (fun _ => ?_)
theorem laws_heldJobS.mono : ∀ a0 a1 k, LeO (laws_heldJobS.f k a0 a1) (laws_heldJobS.f (k + 1) a0 a1) := by
 intro a0 a1 k
 have ih0 := laws_heldJobS.mono_l k
 unfold laws_heldJobS.f
 repeat' first
   | (with_reducible exact ih0 _ _ _)
   | (with_reducible exact LeO.refl _)
   | (with_reducible exact LeO.none _)
   | (with_reducible refine LeO.ite ?_ ?_)
   | (with_reducible refine LeO.bind ?_ (fun _ => ?_))
   | exact ih0 _ _ _
   | exact LeO.none _
   | refine LeO.ite ?_ ?_
   | refine LeO.bind ?_ (fun _ => ?_)
set_option maxHeartbeats 8000000 in
set_option maxRecDepth 100000 in
theorem laws_heldJobS.calls (k : Nat) (A0 : Option Addr) (c0 : Nat) (l0 : List (S43)) (a1 : Int) (r : Int) (w : World) (hr0 : Kd.C k43 w A0 l0.length l0) (hc0 : l0.length ≤ c0) (h : laws_heldJobS.f k l0 a1 = some r) :
  Calls Try.prog 71 #[.slice A0 l0.length c0, .int .i64 a1] w fun e w' => e = .returned (.int .i64 r) ∧ Drawn0 w w' := by
 have HR0 := Aside0.mk hr0; have HC0 := Aside0.mk hc0; clear hr0 hc0
 have H : (laws_heldJobS.l0 k l0 a1 0) = some r := h
 clear h; have H' := Aside0.mk H; clear H
 go_enter Try.func71, Try.ntmps71
 go_wp2
 go_loopg [1, 5] k (fun kq v1 v5 w' => ∃ (x1_1 : Int) (x5_1 : Int), v1 = .int .i64 x1_1 ∧ v5 = .int .i64 x5_1 ∧ Aside0 (laws_heldJobS.l0 kq l0 x1_1 x5_1 = some r) ∧ Aside0 (kq ≤ k) ∧ Drawn0 w w')
 case atStart => exact ⟨(a1), (0), (by first | rfl | (simp; done) | (simp [*]; done)), (by first | rfl | (simp; done) | (simp [*]; done)), H', ⟨Nat.le_refl _⟩, by repeat (first | exact Drawn0.refl _ | apply Drawn0.step)⟩
 case round =>
  clear H'
  obtain ⟨x1_1, x5_1, rfl, rfl, HA, HK1, ⟨m1, rfl⟩⟩ := hrel
  cases gk with
  | zero => exact absurd HA.out (by simp [laws_heldJobS.l0])
  | succ k1 =>
   have H := HA.out; clear HA
   simp only [laws_heldJobS.l0] at H
   by_cases c3 : x5_1 < (l0.length : Int)
   ·rw [if_pos c3] at H
    have c3b0 := decide_eq_true c3
    clear c3
    obtain ⟨c4, H⟩ := ifS_ H
    have c4b0 : decide (0 ≤ x5_1) = true := decide_eq_true c4
    clear c4
    by_cases c5 : ((rd_T43 l0 x5_1).f0) = x1_1
    ·rw [if_pos c5] at H
     have c5b0 := beq_iff_eq.mpr c5
     have c5b1 := bne_eq_false_iff_eq.mpr c5
     clear c5
     by_cases c6 : ((rd_T43 l0 x5_1).f1) = (wrap64 (x1_1 + 1))
     ·rw [if_pos c6] at H
      have c6b0 := beq_iff_eq.mpr c6
      have c6b1 := bne_eq_false_iff_eq.mpr c6
      clear c6; have H' := Aside0.mk H; clear H
      have p247 : 0 ≤ (x5_1 : Int) := dA_
      have q247 : x5_1 < (l0.length : Int) := dA_
      obtain ⟨ad247, e247, hx247_0, hx247_1⟩ := at_T43 HR0.out x5_1 p247 q247
      cases e247
      replace p247 := eq_true p247; replace q247 := eq_true q247
      have p248 : 0 ≤ (x5_1 : Int) := dA_
      have q248 : x5_1 < (l0.length : Int) := dA_
      obtain ⟨ad248, e248, hx248_0, hx248_1⟩ := at_T43 HR0.out x5_1 p248 q248
      obtain rfl : ad247 = ad248 := (by injection e248)
      replace p248 := eq_true p248; replace q248 := eq_true q248
      go_wp2
      go_roundg k1
      case measure => have := HK1.out; omega
      case rel => exact ⟨(wrap64 ((wrap64 (x1_1 + 1)) + 1)), (wrap64 (x5_1 + 1)), (by first | rfl | (simp; done) | (simp [*]; done)), (by first | rfl | (simp; done) | (simp [*]; done)), H', ⟨by have := HK1.out; omega⟩, by repeat (first | exact Drawn0.refl _ | apply Drawn0.step)⟩
     ·rw [if_neg c6] at H
      have c6b0 := beq_eq_false_iff_ne.mpr c6
      have c6b1 := bne_iff_ne.mpr c6
      obtain rfl := Option.some.inj H
      have p247 : 0 ≤ (x5_1 : Int) := dA_
      have q247 : x5_1 < (l0.length : Int) := dA_
      obtain ⟨ad247, e247, hx247_0, hx247_1⟩ := at_T43 HR0.out x5_1 p247 q247
      cases e247
      replace p247 := eq_true p247; replace q247 := eq_true q247
      have p248 : 0 ≤ (x5_1 : Int) := dA_
      have q248 : x5_1 < (l0.length : Int) := dA_
      obtain ⟨ad248, e248, hx248_0, hx248_1⟩ := at_T43 HR0.out x5_1 p248 q248
      obtain rfl : ad247 = ad248 := (by injection e248)
      replace p248 := eq_true p248; replace q248 := eq_true q248
      go_wp2
      go_ret
      exact ⟨by first | rfl | (simp; done) | (simp [*]; done), by repeat (first | exact Drawn0.refl _ | apply Drawn0.step)⟩
    ·rw [if_neg c5] at H
     have c5b0 := beq_eq_false_iff_ne.mpr c5
     have c5b1 := bne_iff_ne.mpr c5
     obtain rfl := Option.some.inj H
     have p247 : 0 ≤ (x5_1 : Int) := dA_
     have q247 : x5_1 < (l0.length : Int) := dA_
     obtain ⟨ad247, e247, hx247_0, hx247_1⟩ := at_T43 HR0.out x5_1 p247 q247
     cases e247
     replace p247 := eq_true p247; replace q247 := eq_true q247
     go_wp2
     go_ret
     exact ⟨by first | rfl | (simp; done) | (simp [*]; done), by repeat (first | exact Drawn0.refl _ | apply Drawn0.step)⟩
   ·rw [if_neg c3] at H
    have c3b0 := decide_eq_false c3
    clear c3
    obtain rfl := Option.some.inj H
    go_wp2
    go_ret
    exact ⟨by first | rfl | (simp; done) | (simp [*]; done), by repeat (first | exact Drawn0.refl _ | apply Drawn0.step)⟩

/-! ### laws_heldRun: function 33 -/
def laws_heldRun.f (k : Nat) (l0_0 : List (S39)) (l0_1 : List Int) (a0_2 : Int) (l0_3 : List (S43)) (a1 : Int) : Option (Int) := (laws_heldSuite.f k l0_0 l0_1 a1).bind fun t253 => (if t253 < 0 then (some (-1)) else ((laws_heldJobS.f k l0_3 t253).bind fun t254 => (if t254 < 0 then (some (-1)) else (some t254))))
theorem laws_heldRun.mono : ∀ a0 a1 a2 a3 a4 k, LeO (laws_heldRun.f k a0 a1 a2 a3 a4) (laws_heldRun.f (k + 1) a0 a1 a2 a3 a4) := by
 intro a0 a1 a2 a3 a4 k
 unfold laws_heldRun.f
 repeat' first
   | (with_reducible exact laws_heldJobS.mono _ _ _)
   | (with_reducible exact laws_heldSuite.mono _ _ _ _)
   | (with_reducible exact LeO.refl _)
   | (with_reducible exact LeO.none _)
   | (with_reducible refine LeO.ite ?_ ?_)
   | (with_reducible refine LeO.bind ?_ (fun _ => ?_))
   | exact laws_heldJobS.mono _ _ _
   | exact laws_heldSuite.mono _ _ _ _
   | exact LeO.none _
   | refine LeO.ite ?_ ?_
   | refine LeO.bind ?_ (fun _ => ?_)
set_option maxHeartbeats 8000000 in
set_option maxRecDepth 100000 in
theorem laws_heldRun.calls (k : Nat) (A0_0 : Option Addr) (c0_0 : Nat) (l0_0 : List (S39)) (A0_1 : Option Addr) (c0_1 : Nat) (l0_1 : List Int) (a0_2 : Int) (A0_3 : Option Addr) (c0_3 : Nat) (l0_3 : List (S43)) (a1 : Int) (r : Int) (w : World) (hr0_0 : Kd.C k39 w A0_0 l0_0.length l0_0) (hc0_0 : l0_0.length ≤ c0_0) (hr0_1 : Kd.C (Kd.int .i64) w A0_1 l0_1.length l0_1) (hc0_1 : l0_1.length ≤ c0_1) (hr0_3 : Kd.C k43 w A0_3 l0_3.length l0_3) (hc0_3 : l0_3.length ≤ c0_3) (h : laws_heldRun.f k l0_0 l0_1 a0_2 l0_3 a1 = some r) :
  Calls Try.prog 33 #[.agg #[.slice A0_0 l0_0.length c0_0, .slice A0_1 l0_1.length c0_1, .int .i64 a0_2, .slice A0_3 l0_3.length c0_3], .int .i64 a1] w fun e w' => e = .returned (.int .i64 r) ∧ Below w.heap.size w w' := by
 have hu31 := Try.underlying31; have hu27 := Try.underlying27; have HR0_0 := Aside0.mk hr0_0; have HC0_0 := Aside0.mk hc0_0; clear hr0_0 hc0_0; have HR0_1 := Aside0.mk hr0_1; have HC0_1 := Aside0.mk hc0_1; clear hr0_1 hc0_1; have HR0_3 := Aside0.mk hr0_3; have HC0_3 := Aside0.mk hc0_3; clear hr0_3 hc0_3
 have HB := Aside0.mk (Below.refl w.heap.size w)
 have H : ((laws_heldSuite.f k l0_0 l0_1 a1).bind fun t253 => (if t253 < 0 then (some (-1)) else ((laws_heldJobS.f k l0_3 t253).bind fun t254 => (if t254 < 0 then (some (-1)) else (some t254))))) = some r := h
 clear h; replace H := Option.bind_eq_some_iff.mp H
 obtain ⟨t253, A30, H⟩ := H
 replace H : (if t253 < 0 then (some (-1)) else ((laws_heldJobS.f k l0_3 t253).bind fun t254 => (if t254 < 0 then (some (-1)) else (some t254)))) = some r := H
 have A3 := Aside0.mk A30; clear A30
 by_cases c4 : t253 < 0
 ·rw [if_pos c4] at H
  have c4b0 := decide_eq_true c4
  clear c4
  obtain rfl := Option.some.inj H
  go_enter Try.func33, Try.ntmps33
  go_wp2_with (first | ((with_reducible refine gate_dst (N := 2) rfl ?_); refine box_event ?hg (N := 2) ?hd (cs := #[.slice A0_0 l0_0.length c0_0, .slice A0_1 l0_1.length c0_1, .int .i64 a0_2, .slice A0_3 l0_3.length c0_3]) (t := 31) ?hr ?_; (case hd => rfl); (case hg => rfl); (case hr => first | (go_simp; done) | (go_simp; rfl)); intro gb252 hg w5 hbox hb; have BK252 := Aside0.mk (hbox); have GW252 := gE_ HB hg; have GE252 := gE_ HB hg; replace HB := bS_ HB hb; clear hb hbox hg; obtain ⟨hcz6_0, hcz6_1, hcz6_2, hcz6_3, hfz6_0, hfz6_1, hfz6_2, hfz6_3⟩ := cf4_ BK252) | ((with_reducible refine gate_callee (f := 70) rfl ?_); refine gL_ (some 8) Try.func70 #[.agg #[.slice A0_0 l0_0.length c0_0, .slice A0_1 l0_1.length c0_1], .int .i64 a1] ?_; (with_reducible refine (laws_heldSuite.calls k _ _ l0_0 _ _ l0_1 a1 t253 _ ?side1 ?side2 ?side3 ?side4 A3.out).mono ?_); (case side1 => exact cB_ HR0_0 HB); (case side2 => exact HC0_0.out); (case side3 => exact cB_ HR0_1 HB); (case side4 => exact HC0_1.out); rintro e w7 ⟨rfl, hb⟩; refine ⟨_, rfl, ?_⟩; replace BK252 := bB_ BK252 hb; replace HB := bS_ HB hb; (try clear hb)))
  go_ret
  exact ⟨by first | rfl | (simp [errW_none, errW_some] <;> rfl) | (simp [*, errW_none, errW_some] <;> rfl), sABelo_11⟩
 ·rw [if_neg c4] at H
  have c4b0 := decide_eq_false c4
  clear c4; replace H := Option.bind_eq_some_iff.mp H
  obtain ⟨t254, A80, H⟩ := H
  replace H : (if t254 < 0 then (some (-1)) else (some t254)) = some r := H
  have A8 := Aside0.mk A80; clear A80
  by_cases c9 : t254 < 0
  ·rw [if_pos c9] at H
   have c9b0 := decide_eq_true c9
   clear c9
   obtain rfl := Option.some.inj H
   go_enter Try.func33, Try.ntmps33
   go_wp2_with (first | ((with_reducible refine gate_dst (N := 2) rfl ?_); refine box_event ?hg (N := 2) ?hd (cs := #[.slice A0_0 l0_0.length c0_0, .slice A0_1 l0_1.length c0_1, .int .i64 a0_2, .slice A0_3 l0_3.length c0_3]) (t := 31) ?hr ?_; (case hd => rfl); (case hg => rfl); (case hr => first | (go_simp; done) | (go_simp; rfl)); intro gb252 hg w10 hbox hb; have BK252 := Aside0.mk (hbox); have GW252 := gE_ HB hg; have GE252 := gE_ HB hg; replace HB := bS_ HB hb; clear hb hbox hg; obtain ⟨hcz11_0, hcz11_1, hcz11_2, hcz11_3, hfz11_0, hfz11_1, hfz11_2, hfz11_3⟩ := cf4_ BK252) | ((with_reducible refine gate_callee (f := 70) rfl ?_); refine gL_ (some 8) Try.func70 #[.agg #[.slice A0_0 l0_0.length c0_0, .slice A0_1 l0_1.length c0_1], .int .i64 a1] ?_; (with_reducible refine (laws_heldSuite.calls k _ _ l0_0 _ _ l0_1 a1 t253 _ ?side1 ?side2 ?side3 ?side4 A3.out).mono ?_); (case side1 => exact cB_ HR0_0 HB); (case side2 => exact HC0_0.out); (case side3 => exact cB_ HR0_1 HB); (case side4 => exact HC0_1.out); rintro e w12 ⟨rfl, hb⟩; refine ⟨_, rfl, ?_⟩; replace BK252 := bB_ BK252 hb; replace HB := bS_ HB hb; (try clear hb); obtain ⟨hcz13_0, hcz13_1, hcz13_2, hcz13_3, hfz13_0, hfz13_1, hfz13_2, hfz13_3⟩ := cf4_ BK252) | ((with_reducible refine gate_callee (f := 71) rfl ?_); refine gL_ (some 14) Try.func71 #[.slice A0_3 l0_3.length c0_3, .int .i64 t253] ?_; (with_reducible refine (laws_heldJobS.calls k _ _ l0_3 t253 t254 _ ?side1 ?side2 A8.out).mono ?_); (case side1 => exact cB_ HR0_3 HB); (case side2 => exact HC0_3.out); rintro e w' ⟨rfl, ⟨nd, rfl⟩⟩; refine ⟨_, rfl, ?_⟩))
   go_ret
   exact ⟨by first | rfl | (simp [errW_none, errW_some] <;> rfl) | (simp [*, errW_none, errW_some] <;> rfl), sABelo_11⟩
  ·rw [if_neg c9] at H
   have c9b0 := decide_eq_false c9
   clear c9
   obtain rfl := Option.some.inj H
   go_enter Try.func33, Try.ntmps33
   go_wp2_with (first | ((with_reducible refine gate_dst (N := 2) rfl ?_); refine box_event ?hg (N := 2) ?hd (cs := #[.slice A0_0 l0_0.length c0_0, .slice A0_1 l0_1.length c0_1, .int .i64 a0_2, .slice A0_3 l0_3.length c0_3]) (t := 31) ?hr ?_; (case hd => rfl); (case hg => rfl); (case hr => first | (go_simp; done) | (go_simp; rfl)); intro gb252 hg w14 hbox hb; have BK252 := Aside0.mk (hbox); have GW252 := gE_ HB hg; have GE252 := gE_ HB hg; replace HB := bS_ HB hb; clear hb hbox hg; obtain ⟨hcz15_0, hcz15_1, hcz15_2, hcz15_3, hfz15_0, hfz15_1, hfz15_2, hfz15_3⟩ := cf4_ BK252) | ((with_reducible refine gate_callee (f := 70) rfl ?_); refine gL_ (some 8) Try.func70 #[.agg #[.slice A0_0 l0_0.length c0_0, .slice A0_1 l0_1.length c0_1], .int .i64 a1] ?_; (with_reducible refine (laws_heldSuite.calls k _ _ l0_0 _ _ l0_1 a1 t253 _ ?side1 ?side2 ?side3 ?side4 A3.out).mono ?_); (case side1 => exact cB_ HR0_0 HB); (case side2 => exact HC0_0.out); (case side3 => exact cB_ HR0_1 HB); (case side4 => exact HC0_1.out); rintro e w16 ⟨rfl, hb⟩; refine ⟨_, rfl, ?_⟩; replace BK252 := bB_ BK252 hb; replace HB := bS_ HB hb; (try clear hb); obtain ⟨hcz17_0, hcz17_1, hcz17_2, hcz17_3, hfz17_0, hfz17_1, hfz17_2, hfz17_3⟩ := cf4_ BK252) | ((with_reducible refine gate_callee (f := 71) rfl ?_); refine gL_ (some 14) Try.func71 #[.slice A0_3 l0_3.length c0_3, .int .i64 t253] ?_; (with_reducible refine (laws_heldJobS.calls k _ _ l0_3 t253 t254 _ ?side1 ?side2 A8.out).mono ?_); (case side1 => exact cB_ HR0_3 HB); (case side2 => exact HC0_3.out); rintro e w' ⟨rfl, ⟨nd, rfl⟩⟩; refine ⟨_, rfl, ?_⟩))
   go_ret
   exact ⟨by first | rfl | (simp [errW_none, errW_some] <;> rfl) | (simp [*, errW_none, errW_some] <;> rfl), sABelo_11⟩

/-! ### laws_szInt64S: function 63 -/
def laws_szInt64S.f (l0 : List Int) (a1 : Int) : Option (Int) := if (wrap64 (a1 - (l0.length : Int))) < 0 then (some (-1)) else (some (wrap64 (a1 - (l0.length : Int))))
set_option maxHeartbeats 8000000 in
set_option maxRecDepth 100000 in
theorem laws_szInt64S.calls (A0 : Option Addr) (c0 : Nat) (l0 : List Int) (a1 : Int) (r : Int) (w : World) (hr0 : Kd.C (Kd.int .i64) w A0 l0.length l0) (hc0 : l0.length ≤ c0) (h : laws_szInt64S.f l0 a1 = some r) :
  Calls Try.prog 63 #[.slice A0 l0.length c0, .int .i64 a1] w fun e w' => e = .returned (.int .i64 r) ∧ Drawn0 w w' := by
 have HR0 := Aside0.mk hr0; have HC0 := Aside0.mk hc0; clear hr0 hc0
 have H : (if (wrap64 (a1 - (l0.length : Int))) < 0 then (some (-1)) else (some (wrap64 (a1 - (l0.length : Int))))) = some r := h
 clear h
 by_cases c3 : (wrap64 (a1 - (l0.length : Int))) < 0
 ·rw [if_pos c3] at H
  have c3b0 := decide_eq_true c3
  clear c3
  obtain rfl := Option.some.inj H
  go_enter Try.func63, Try.ntmps63
  go_wp2
  go_ret
  exact ⟨by first | rfl | (simp; done) | (simp [*]; done), by repeat (first | exact Drawn0.refl _ | apply Drawn0.step)⟩
 ·rw [if_neg c3] at H
  have c3b0 := decide_eq_false c3
  clear c3
  obtain rfl := Option.some.inj H
  go_enter Try.func63, Try.ntmps63
  go_wp2
  go_ret
  exact ⟨by first | rfl | (simp; done) | (simp [*]; done), by repeat (first | exact Drawn0.refl _ | apply Drawn0.step)⟩

/-! ### laws_szTask: function 85 -/
def laws_szTask.f (l0_0 : List Int) (a0_1 : Int) (a0_2 : Int) (a0_3 : Int) (a1 : Int) : Option (Int) := (laws_szInt64S.f l0_0 a1).bind fun t256 => (if t256 < 0 then (some (-1)) else (some t256))
set_option maxHeartbeats 8000000 in
set_option maxRecDepth 100000 in
theorem laws_szTask.calls (A0_0 : Option Addr) (c0_0 : Nat) (l0_0 : List Int) (a0_1 : Int) (a0_2 : Int) (a0_3 : Int) (a1 : Int) (r : Int) (w : World) (hr0_0 : Kd.C (Kd.int .i64) w A0_0 l0_0.length l0_0) (hc0_0 : l0_0.length ≤ c0_0) (h : laws_szTask.f l0_0 a0_1 a0_2 a0_3 a1 = some r) :
  Calls Try.prog 85 #[.agg #[.slice A0_0 l0_0.length c0_0, .int .i64 a0_1, .int .i64 a0_2, .int .i64 a0_3], .int .i64 a1] w fun e w' => e = .returned (.int .i64 r) ∧ Below w.heap.size w w' := by
 have hu110 := Try.underlying110; have HR0_0 := Aside0.mk hr0_0; have HC0_0 := Aside0.mk hc0_0; clear hr0_0 hc0_0
 have HB := Aside0.mk (Below.refl w.heap.size w)
 have H : ((laws_szInt64S.f l0_0 a1).bind fun t256 => (if t256 < 0 then (some (-1)) else (some t256))) = some r := h
 clear h; replace H := Option.bind_eq_some_iff.mp H
 obtain ⟨t256, A30, H⟩ := H
 replace H : (if t256 < 0 then (some (-1)) else (some t256)) = some r := H
 have A3 := Aside0.mk A30; clear A30
 by_cases c4 : t256 < 0
 ·rw [if_pos c4] at H
  have c4b0 := decide_eq_true c4
  clear c4
  obtain rfl := Option.some.inj H
  go_enter Try.func85, Try.ntmps85
  go_wp2_with (first | ((with_reducible refine gate_dst (N := 2) rfl ?_); refine box_event ?hg (N := 2) ?hd (cs := #[.slice A0_0 l0_0.length c0_0, .int .i64 a0_1, .int .i64 a0_2, .int .i64 a0_3]) (t := 110) ?hr ?_; (case hd => rfl); (case hg => rfl); (case hr => first | (go_simp; done) | (go_simp; rfl)); intro gb255 hg w5 hbox hb; have BK255 := Aside0.mk (hbox); have GW255 := gE_ HB hg; have GE255 := gE_ HB hg; replace HB := bS_ HB hb; clear hb hbox hg; obtain ⟨hcz6_0, hcz6_1, hcz6_2, hcz6_3, hfz6_0, hfz6_1, hfz6_2, hfz6_3⟩ := cf4_ BK255) | ((with_reducible refine gate_callee (f := 63) rfl ?_); refine gL_ (some 8) Try.func63 #[.slice A0_0 l0_0.length c0_0, .int .i64 a1] ?_; (with_reducible refine (laws_szInt64S.calls _ _ l0_0 a1 t256 _ ?side1 ?side2 A3.out).mono ?_); (case side1 => exact cB_ HR0_0 HB); (case side2 => exact HC0_0.out); rintro e w' ⟨rfl, ⟨nd, rfl⟩⟩; refine ⟨_, rfl, ?_⟩))
  go_ret
  exact ⟨by first | rfl | (simp [errW_none, errW_some] <;> rfl) | (simp [*, errW_none, errW_some] <;> rfl), sABelo_11⟩
 ·rw [if_neg c4] at H
  have c4b0 := decide_eq_false c4
  clear c4
  obtain rfl := Option.some.inj H
  go_enter Try.func85, Try.ntmps85
  go_wp2_with (first | ((with_reducible refine gate_dst (N := 2) rfl ?_); refine box_event ?hg (N := 2) ?hd (cs := #[.slice A0_0 l0_0.length c0_0, .int .i64 a0_1, .int .i64 a0_2, .int .i64 a0_3]) (t := 110) ?hr ?_; (case hd => rfl); (case hg => rfl); (case hr => first | (go_simp; done) | (go_simp; rfl)); intro gb255 hg w7 hbox hb; have BK255 := Aside0.mk (hbox); have GW255 := gE_ HB hg; have GE255 := gE_ HB hg; replace HB := bS_ HB hb; clear hb hbox hg; obtain ⟨hcz8_0, hcz8_1, hcz8_2, hcz8_3, hfz8_0, hfz8_1, hfz8_2, hfz8_3⟩ := cf4_ BK255) | ((with_reducible refine gate_callee (f := 63) rfl ?_); refine gL_ (some 8) Try.func63 #[.slice A0_0 l0_0.length c0_0, .int .i64 a1] ?_; (with_reducible refine (laws_szInt64S.calls _ _ l0_0 a1 t256 _ ?side1 ?side2 A3.out).mono ?_); (case side1 => exact cB_ HR0_0 HB); (case side2 => exact HC0_0.out); rintro e w' ⟨rfl, ⟨nd, rfl⟩⟩; refine ⟨_, rfl, ?_⟩))
  go_ret
  exact ⟨by first | rfl | (simp [errW_none, errW_some] <;> rfl) | (simp [*, errW_none, errW_some] <;> rfl), sABelo_11⟩

/-! ### laws_szTaskS: function 62 -/
def laws_szTaskS.l0 : Nat → List (S110) → Int → Int → Option (Int)
 | 0, _, _, _ => none
 | k + 1, x0, x1, x5 => if x5 < (x0.length : Int) then (if 0 ≤ x5 then ((laws_szTask.f ((rd_T110 x0 x5).f0) ((rd_T110 x0 x5).f1) ((rd_T110 x0 x5).f2) ((rd_T110 x0 x5).f3) x1).bind fun t258 => (if t258 < 0 then (some (-1)) else (laws_szTaskS.l0 k x0 t258 (wrap64 (x5 + 1))))) else (none)) else (some x1)
def laws_szTaskS.f (k : Nat) (l0 : List (S110)) (a1 : Int) : Option (Int) := if (wrap64 (a1 - (l0.length : Int))) < 0 then (some (-1)) else (laws_szTaskS.l0 k l0 (wrap64 (a1 - (l0.length : Int))) 0)
theorem laws_szTaskS.mono_l : ∀ k, (∀ y0 y1 y2, LeO (laws_szTaskS.l0 k y0 y1 y2) (laws_szTaskS.l0 (k + 1) y0 y1 y2))
 | 0 => fun _ _ _ r h => by simp [laws_szTaskS.l0] at h
 | k + 1 => by
  have ih0 := laws_szTaskS.mono_l k
  ·intro y0 y1 y2
   unfold laws_szTaskS.l0
   repeat' first
   | (with_reducible exact ih0 _ _ _)
   | (with_reducible exact LeO.refl _)
   | (with_reducible exact LeO.none _)
   | (with_reducible refine LeO.ite ?_ ?_)
   | (with_reducible refine LeO.bind ?_ (fun _ => ?_))
   | exact ih0 _ _ _
   | exact LeO.none _
   | refine LeO.ite ?_ ?_
   | refine LeO.bind ?_ (fun _ => ?_)
theorem laws_szTaskS.mono : ∀ a0 a1 k, LeO (laws_szTaskS.f k a0 a1) (laws_szTaskS.f (k + 1) a0 a1) := by
 intro a0 a1 k
 have ih0 := laws_szTaskS.mono_l k
 unfold laws_szTaskS.f
 repeat' first
   | (with_reducible exact ih0 _ _ _)
   | (with_reducible exact LeO.refl _)
   | (with_reducible exact LeO.none _)
   | (with_reducible refine LeO.ite ?_ ?_)
   | (with_reducible refine LeO.bind ?_ (fun _ => ?_))
   | exact ih0 _ _ _
   | exact LeO.none _
   | refine LeO.ite ?_ ?_
   | refine LeO.bind ?_ (fun _ => ?_)
set_option maxHeartbeats 8000000 in
set_option maxRecDepth 100000 in
theorem laws_szTaskS.calls (k : Nat) (A0 : Option Addr) (c0 : Nat) (l0 : List (S110)) (a1 : Int) (r : Int) (w : World) (hr0 : Kd.C k110 w A0 l0.length l0) (hc0 : l0.length ≤ c0) (h : laws_szTaskS.f k l0 a1 = some r) :
  Calls Try.prog 62 #[.slice A0 l0.length c0, .int .i64 a1] w fun e w' => e = .returned (.int .i64 r) ∧ Below w.heap.size w w' := by
 have hu110 := Try.underlying110; have HR0 := Aside0.mk hr0; have HC0 := Aside0.mk hc0; clear hr0 hc0
 have HB := Aside0.mk (Below.refl w.heap.size w)
 have H : (if (wrap64 (a1 - (l0.length : Int))) < 0 then (some (-1)) else (laws_szTaskS.l0 k l0 (wrap64 (a1 - (l0.length : Int))) 0)) = some r := h
 clear h
 by_cases c3 : (wrap64 (a1 - (l0.length : Int))) < 0
 ·rw [if_pos c3] at H
  have c3b0 := decide_eq_true c3
  clear c3
  obtain rfl := Option.some.inj H
  go_enter Try.func62, Try.ntmps62
  go_wp2
  go_ret
  exact ⟨by first | rfl | (simp [errW_none, errW_some] <;> rfl) | (simp [*, errW_none, errW_some] <;> rfl), sABelo_11⟩
 ·rw [if_neg c3] at H
  have c3b0 := decide_eq_false c3
  clear c3; have H' := Aside0.mk H; clear H
  go_enter Try.func62, Try.ntmps62
  go_wp2
  go_loopg [1, 5] k (fun kq v1 v5 w' => ∃ (x1_1 : Int) (x5_1 : Int), v1 = .int .i64 x1_1 ∧ v5 = .int .i64 x5_1 ∧ Aside0 (laws_szTaskS.l0 kq l0 x1_1 x5_1 = some r) ∧ Aside0 (kq ≤ k) ∧ Aside0 (Below w.heap.size w w'))
  case atStart => exact ⟨(wrap64 (a1 - (l0.length : Int))), (0), (by first | rfl | (simp; done) | (simp [*]; done)), (by first | rfl | (simp; done) | (simp [*]; done)), H', ⟨Nat.le_refl _⟩, ⟨sABelo_11⟩⟩
  case round =>
   clear H'; (try clear c3); (try clear c3b0)
   obtain ⟨x1_1, x5_1, rfl, rfl, HA, HK1, HB⟩ := hrel
   cases gk with
   | zero => exact absurd HA.out (by simp [laws_szTaskS.l0])
   | succ k1 =>
    have H := HA.out; clear HA
    simp only [laws_szTaskS.l0] at H
    by_cases c4 : x5_1 < (l0.length : Int)
    ·rw [if_pos c4] at H
     have c4b0 := decide_eq_true c4
     clear c4
     obtain ⟨c5, H⟩ := ifS_ H
     have c5b0 : decide (0 ≤ x5_1) = true := decide_eq_true c5
     clear c5; replace H := Option.bind_eq_some_iff.mp H
     obtain ⟨t258, A60, H⟩ := H
     replace H : (if t258 < 0 then (some (-1)) else (laws_szTaskS.l0 k1 l0 t258 (wrap64 (x5_1 + 1)))) = some r := H
     have A6 := Aside0.mk A60; clear A60
     by_cases c7 : t258 < 0
     ·rw [if_pos c7] at H
      have c7b0 := decide_eq_true c7
      clear c7
      obtain rfl := Option.some.inj H
      have p257 : 0 ≤ (x5_1 : Int) := dA_
      have q257 : x5_1 < (l0.length : Int) := dA_
      obtain ⟨ad257, A257_0, c257_0, e257, hx257_0, hx257_1, hx257_2, hx257_3, hl257_0, hi257_0⟩ := at_T110 HR0.out x5_1 p257 q257
      cases e257
      replace hx257_0 := hX_ HB hx257_0
      replace hx257_1 := hX_ HB hx257_1
      replace hx257_2 := hX_ HB hx257_2
      replace hx257_3 := hX_ HB hx257_3
      have HR257_0 := Aside0.mk hi257_0; have HC257_0 := Aside0.mk hl257_0; clear hi257_0 hl257_0; replace p257 := eq_true p257; replace q257 := eq_true q257
      go_wp2_with (first | ((with_reducible refine gate_callee (f := 85) rfl ?_); refine gL_ (some 23) Try.func85 #[.agg #[.slice A257_0 ((rd_T110 l0 x5_1).f0).length c257_0, .int .i64 ((rd_T110 l0 x5_1).f1), .int .i64 ((rd_T110 l0 x5_1).f2), .int .i64 ((rd_T110 l0 x5_1).f3)], .int .i64 x1_1] ?_; (with_reducible refine (laws_szTask.calls _ _ ((rd_T110 l0 x5_1).f0) ((rd_T110 l0 x5_1).f1) ((rd_T110 l0 x5_1).f2) ((rd_T110 l0 x5_1).f3) x1_1 t258 _ ?side1 ?side2 A6.out).mono ?_); (case side1 => exact cB_ HR257_0 HB); (case side2 => exact HC257_0.out); rintro e w8 ⟨rfl, hb⟩; refine ⟨_, rfl, ?_⟩; replace HB := bS_ HB hb; (try clear hb)))
      go_ret
      exact ⟨by first | rfl | (simp [errW_none, errW_some] <;> rfl) | (simp [*, errW_none, errW_some] <;> rfl), sABelo_11⟩
     ·rw [if_neg c7] at H
      have c7b0 := decide_eq_false c7
      clear c7; have H' := Aside0.mk H; clear H
      have p257 : 0 ≤ (x5_1 : Int) := dA_
      have q257 : x5_1 < (l0.length : Int) := dA_
      obtain ⟨ad257, A257_0, c257_0, e257, hx257_0, hx257_1, hx257_2, hx257_3, hl257_0, hi257_0⟩ := at_T110 HR0.out x5_1 p257 q257
      cases e257
      replace hx257_0 := hX_ HB hx257_0
      replace hx257_1 := hX_ HB hx257_1
      replace hx257_2 := hX_ HB hx257_2
      replace hx257_3 := hX_ HB hx257_3
      have HR257_0 := Aside0.mk hi257_0; have HC257_0 := Aside0.mk hl257_0; clear hi257_0 hl257_0; replace p257 := eq_true p257; replace q257 := eq_true q257
      go_wp2_with (first | ((with_reducible refine gate_callee (f := 85) rfl ?_); refine gL_ (some 23) Try.func85 #[.agg #[.slice A257_0 ((rd_T110 l0 x5_1).f0).length c257_0, .int .i64 ((rd_T110 l0 x5_1).f1), .int .i64 ((rd_T110 l0 x5_1).f2), .int .i64 ((rd_T110 l0 x5_1).f3)], .int .i64 x1_1] ?_; (with_reducible refine (laws_szTask.calls _ _ ((rd_T110 l0 x5_1).f0) ((rd_T110 l0 x5_1).f1) ((rd_T110 l0 x5_1).f2) ((rd_T110 l0 x5_1).f3) x1_1 t258 _ ?side1 ?side2 A6.out).mono ?_); (case side1 => exact cB_ HR257_0 HB); (case side2 => exact HC257_0.out); rintro e w9 ⟨rfl, hb⟩; refine ⟨_, rfl, ?_⟩; replace HB := bS_ HB hb; (try clear hb)))
      go_roundg k1
      case measure => have := HK1.out; omega
      case rel => exact ⟨(t258), (wrap64 (x5_1 + 1)), (by first | rfl | (simp; done) | (simp [*]; done)), (by first | rfl | (simp; done) | (simp [*]; done)), H', ⟨by have := HK1.out; omega⟩, ⟨sABelo_11⟩⟩
    ·rw [if_neg c4] at H
     have c4b0 := decide_eq_false c4
     clear c4
     obtain rfl := Option.some.inj H
     go_wp2
     go_ret
     exact ⟨by first | rfl | (simp [errW_none, errW_some] <;> rfl) | (simp [*, errW_none, errW_some] <;> rfl), sABelo_11⟩

/-! ### laws_szSuite: function 27 -/
def laws_szSuite.f (k : Nat) (l0_0 : List (S110)) (l0_1 : List Int) (a1 : Int) : Option (Int) := (laws_szTaskS.f k l0_0 a1).bind fun t260 => (if t260 < 0 then (some (-1)) else ((laws_szInt64S.f l0_1 t260).bind fun t261 => (if t261 < 0 then (some (-1)) else (some t261))))
theorem laws_szSuite.mono : ∀ a0 a1 a2 k, LeO (laws_szSuite.f k a0 a1 a2) (laws_szSuite.f (k + 1) a0 a1 a2) := by
 intro a0 a1 a2 k
 unfold laws_szSuite.f
 repeat' first
   | (with_reducible exact laws_szTaskS.mono _ _ _)
   | (with_reducible exact LeO.refl _)
   | (with_reducible exact LeO.none _)
   | (with_reducible refine LeO.ite ?_ ?_)
   | (with_reducible refine LeO.bind ?_ (fun _ => ?_))
   | exact laws_szTaskS.mono _ _ _
   | exact LeO.none _
   | refine LeO.ite ?_ ?_
   | refine LeO.bind ?_ (fun _ => ?_)
set_option maxHeartbeats 8000000 in
set_option maxRecDepth 100000 in
theorem laws_szSuite.calls (k : Nat) (A0_0 : Option Addr) (c0_0 : Nat) (l0_0 : List (S110)) (A0_1 : Option Addr) (c0_1 : Nat) (l0_1 : List Int) (a1 : Int) (r : Int) (w : World) (hr0_0 : Kd.C k110 w A0_0 l0_0.length l0_0) (hc0_0 : l0_0.length ≤ c0_0) (hr0_1 : Kd.C (Kd.int .i64) w A0_1 l0_1.length l0_1) (hc0_1 : l0_1.length ≤ c0_1) (h : laws_szSuite.f k l0_0 l0_1 a1 = some r) :
  Calls Try.prog 27 #[.agg #[.slice A0_0 l0_0.length c0_0, .slice A0_1 l0_1.length c0_1], .int .i64 a1] w fun e w' => e = .returned (.int .i64 r) ∧ Below w.heap.size w w' := by
 have hu54 := Try.underlying54; have HR0_0 := Aside0.mk hr0_0; have HC0_0 := Aside0.mk hc0_0; clear hr0_0 hc0_0; have HR0_1 := Aside0.mk hr0_1; have HC0_1 := Aside0.mk hc0_1; clear hr0_1 hc0_1
 have HB := Aside0.mk (Below.refl w.heap.size w)
 have H : ((laws_szTaskS.f k l0_0 a1).bind fun t260 => (if t260 < 0 then (some (-1)) else ((laws_szInt64S.f l0_1 t260).bind fun t261 => (if t261 < 0 then (some (-1)) else (some t261))))) = some r := h
 clear h; replace H := Option.bind_eq_some_iff.mp H
 obtain ⟨t260, A30, H⟩ := H
 replace H : (if t260 < 0 then (some (-1)) else ((laws_szInt64S.f l0_1 t260).bind fun t261 => (if t261 < 0 then (some (-1)) else (some t261)))) = some r := H
 have A3 := Aside0.mk A30; clear A30
 by_cases c4 : t260 < 0
 ·rw [if_pos c4] at H
  have c4b0 := decide_eq_true c4
  clear c4
  obtain rfl := Option.some.inj H
  go_enter Try.func27, Try.ntmps27
  go_wp2_with (first | ((with_reducible refine gate_dst (N := 2) rfl ?_); refine box_event ?hg (N := 2) ?hd (cs := #[.slice A0_0 l0_0.length c0_0, .slice A0_1 l0_1.length c0_1]) (t := 54) ?hr ?_; (case hd => rfl); (case hg => rfl); (case hr => first | (go_simp; done) | (go_simp; rfl)); intro gb259 hg w5 hbox hb; have BK259 := Aside0.mk (hbox); have GW259 := gE_ HB hg; have GE259 := gE_ HB hg; replace HB := bS_ HB hb; clear hb hbox hg; obtain ⟨hcz6_0, hcz6_1, hfz6_0, hfz6_1⟩ := cf2_ BK259) | ((with_reducible refine gate_callee (f := 62) rfl ?_); refine gL_ (some 8) Try.func62 #[.slice A0_0 l0_0.length c0_0, .int .i64 a1] ?_; (with_reducible refine (laws_szTaskS.calls k _ _ l0_0 a1 t260 _ ?side1 ?side2 A3.out).mono ?_); (case side1 => exact cB_ HR0_0 HB); (case side2 => exact HC0_0.out); rintro e w7 ⟨rfl, hb⟩; refine ⟨_, rfl, ?_⟩; replace BK259 := bB_ BK259 hb; replace HB := bS_ HB hb; (try clear hb)))
  go_ret
  exact ⟨by first | rfl | (simp [errW_none, errW_some] <;> rfl) | (simp [*, errW_none, errW_some] <;> rfl), sABelo_11⟩
 ·rw [if_neg c4] at H
  have c4b0 := decide_eq_false c4
  clear c4; replace H := Option.bind_eq_some_iff.mp H
  obtain ⟨t261, A80, H⟩ := H
  replace H : (if t261 < 0 then (some (-1)) else (some t261)) = some r := H
  have A8 := Aside0.mk A80; clear A80
  by_cases c9 : t261 < 0
  ·rw [if_pos c9] at H
   have c9b0 := decide_eq_true c9
   clear c9
   obtain rfl := Option.some.inj H
   go_enter Try.func27, Try.ntmps27
   go_wp2_with (first | ((with_reducible refine gate_dst (N := 2) rfl ?_); refine box_event ?hg (N := 2) ?hd (cs := #[.slice A0_0 l0_0.length c0_0, .slice A0_1 l0_1.length c0_1]) (t := 54) ?hr ?_; (case hd => rfl); (case hg => rfl); (case hr => first | (go_simp; done) | (go_simp; rfl)); intro gb259 hg w10 hbox hb; have BK259 := Aside0.mk (hbox); have GW259 := gE_ HB hg; have GE259 := gE_ HB hg; replace HB := bS_ HB hb; clear hb hbox hg; obtain ⟨hcz11_0, hcz11_1, hfz11_0, hfz11_1⟩ := cf2_ BK259) | ((with_reducible refine gate_callee (f := 62) rfl ?_); refine gL_ (some 8) Try.func62 #[.slice A0_0 l0_0.length c0_0, .int .i64 a1] ?_; (with_reducible refine (laws_szTaskS.calls k _ _ l0_0 a1 t260 _ ?side1 ?side2 A3.out).mono ?_); (case side1 => exact cB_ HR0_0 HB); (case side2 => exact HC0_0.out); rintro e w12 ⟨rfl, hb⟩; refine ⟨_, rfl, ?_⟩; replace BK259 := bB_ BK259 hb; replace HB := bS_ HB hb; (try clear hb); obtain ⟨hcz13_0, hcz13_1, hfz13_0, hfz13_1⟩ := cf2_ BK259) | ((with_reducible refine gate_callee (f := 63) rfl ?_); refine gL_ (some 14) Try.func63 #[.slice A0_1 l0_1.length c0_1, .int .i64 t260] ?_; (with_reducible refine (laws_szInt64S.calls _ _ l0_1 t260 t261 _ ?side1 ?side2 A8.out).mono ?_); (case side1 => exact cB_ HR0_1 HB); (case side2 => exact HC0_1.out); rintro e w' ⟨rfl, ⟨nd, rfl⟩⟩; refine ⟨_, rfl, ?_⟩))
   go_ret
   exact ⟨by first | rfl | (simp [errW_none, errW_some] <;> rfl) | (simp [*, errW_none, errW_some] <;> rfl), sABelo_11⟩
  ·rw [if_neg c9] at H
   have c9b0 := decide_eq_false c9
   clear c9
   obtain rfl := Option.some.inj H
   go_enter Try.func27, Try.ntmps27
   go_wp2_with (first | ((with_reducible refine gate_dst (N := 2) rfl ?_); refine box_event ?hg (N := 2) ?hd (cs := #[.slice A0_0 l0_0.length c0_0, .slice A0_1 l0_1.length c0_1]) (t := 54) ?hr ?_; (case hd => rfl); (case hg => rfl); (case hr => first | (go_simp; done) | (go_simp; rfl)); intro gb259 hg w14 hbox hb; have BK259 := Aside0.mk (hbox); have GW259 := gE_ HB hg; have GE259 := gE_ HB hg; replace HB := bS_ HB hb; clear hb hbox hg; obtain ⟨hcz15_0, hcz15_1, hfz15_0, hfz15_1⟩ := cf2_ BK259) | ((with_reducible refine gate_callee (f := 62) rfl ?_); refine gL_ (some 8) Try.func62 #[.slice A0_0 l0_0.length c0_0, .int .i64 a1] ?_; (with_reducible refine (laws_szTaskS.calls k _ _ l0_0 a1 t260 _ ?side1 ?side2 A3.out).mono ?_); (case side1 => exact cB_ HR0_0 HB); (case side2 => exact HC0_0.out); rintro e w16 ⟨rfl, hb⟩; refine ⟨_, rfl, ?_⟩; replace BK259 := bB_ BK259 hb; replace HB := bS_ HB hb; (try clear hb); obtain ⟨hcz17_0, hcz17_1, hfz17_0, hfz17_1⟩ := cf2_ BK259) | ((with_reducible refine gate_callee (f := 63) rfl ?_); refine gL_ (some 14) Try.func63 #[.slice A0_1 l0_1.length c0_1, .int .i64 t260] ?_; (with_reducible refine (laws_szInt64S.calls _ _ l0_1 t260 t261 _ ?side1 ?side2 A8.out).mono ?_); (case side1 => exact cB_ HR0_1 HB); (case side2 => exact HC0_1.out); rintro e w' ⟨rfl, ⟨nd, rfl⟩⟩; refine ⟨_, rfl, ?_⟩))
   go_ret
   exact ⟨by first | rfl | (simp [errW_none, errW_some] <;> rfl) | (simp [*, errW_none, errW_some] <;> rfl), sABelo_11⟩

/-! ### laws_szJobS: function 72 -/
def laws_szJobS.f (l0 : List (S115)) (a1 : Int) : Option (Int) := if (wrap64 (a1 - (l0.length : Int))) < 0 then (some (-1)) else (some (wrap64 (a1 - (l0.length : Int))))
set_option maxHeartbeats 8000000 in
set_option maxRecDepth 100000 in
theorem laws_szJobS.calls (A0 : Option Addr) (c0 : Nat) (l0 : List (S115)) (a1 : Int) (r : Int) (w : World) (hr0 : Kd.C k115 w A0 l0.length l0) (hc0 : l0.length ≤ c0) (h : laws_szJobS.f l0 a1 = some r) :
  Calls Try.prog 72 #[.slice A0 l0.length c0, .int .i64 a1] w fun e w' => e = .returned (.int .i64 r) ∧ Drawn0 w w' := by
 have HR0 := Aside0.mk hr0; have HC0 := Aside0.mk hc0; clear hr0 hc0
 have H : (if (wrap64 (a1 - (l0.length : Int))) < 0 then (some (-1)) else (some (wrap64 (a1 - (l0.length : Int))))) = some r := h
 clear h
 by_cases c3 : (wrap64 (a1 - (l0.length : Int))) < 0
 ·rw [if_pos c3] at H
  have c3b0 := decide_eq_true c3
  clear c3
  obtain rfl := Option.some.inj H
  go_enter Try.func72, Try.ntmps72
  go_wp2
  go_ret
  exact ⟨by first | rfl | (simp; done) | (simp [*]; done), by repeat (first | exact Drawn0.refl _ | apply Drawn0.step)⟩
 ·rw [if_neg c3] at H
  have c3b0 := decide_eq_false c3
  clear c3
  obtain rfl := Option.some.inj H
  go_enter Try.func72, Try.ntmps72
  go_wp2
  go_ret
  exact ⟨by first | rfl | (simp; done) | (simp [*]; done), by repeat (first | exact Drawn0.refl _ | apply Drawn0.step)⟩

end Go.Proofs.Ytjoghfehmhapbaa.QFnExactStartTasks
