-- Written by a program of this session out of the printer's texts and contracts of its own.
import Derived.Test.YtjoghfehmhapbaaSq
import Derived.Test.YtjoghfehmhapbaaQFnExactStuckx0
namespace Go.Proofs.Ytjoghfehmhapbaa.QFnExactStuck
open Go.RowKit Go.Proofs.YtjoghfehmhapbaaW.PrintWords Go.Proofs.YtjoghfehmhapbaaW.PrintLast Go.Proofs.YtjoghfehmhapbaaW.PrintMore Go.Proofs.Ytjoghfehmhapbaa.Sq
attribute [local go_sem] max2_int min2_int max_two min_two max_three min_three max_four min_four   -- for this text's walks alone
set_option linter.unusedVariables false
set_option linter.unusedSimpArgs false

/-! ### slices_IndexFunc_int64_int64: function 81 -/
def slices_IndexFunc_int64_int64.l0 : Nat → List Int → List Bool → Int → Int → Option (Int)
 | 0, _, _, _, _ => none
 | k + 1, x0, x1, x7, x8 => if x8 < x7 then (if 0 ≤ x8 then (if x8 < (x0.length : Int) then (if 0 ≤ (wrap64 ((rd x0 x8) - 1)) then (if (wrap64 ((rd x0 x8) - 1)) < (x1.length : Int) then (if rdOf false x1 (wrap64 ((rd x0 x8) - 1)) = true then (some x8) else (slices_IndexFunc_int64_int64.l0 k x0 x1 x7 (wrap64 (x8 + 1)))) else (none)) else (none)) else (none)) else (none)) else (some (-1))
def slices_IndexFunc_int64_int64.f (k : Nat) (l0 : List Int) (l1 : List Bool) : Option (Int) := slices_IndexFunc_int64_int64.l0 k l0 l1 (l0.length : Int) 0
theorem slices_IndexFunc_int64_int64.mono_l : ∀ k, (∀ y0 y1 y2 y3, LeO (slices_IndexFunc_int64_int64.l0 k y0 y1 y2 y3) (slices_IndexFunc_int64_int64.l0 (k + 1) y0 y1 y2 y3))
 | 0 => fun _ _ _ _ r h => by simp [slices_IndexFunc_int64_int64.l0] at h
 | k + 1 => by
  have ih0 := slices_IndexFunc_int64_int64.mono_l k
  ·intro y0 y1 y2 y3
   unfold slices_IndexFunc_int64_int64.l0
   repeat' first
   | (with_reducible exact ih0 _ _ _ _)
   | (with_reducible exact LeO.refl _)
   | (with_reducible exact LeO.none _)
   | (with_reducible refine LeO.ite ?_ ?_)
   | (with_reducible refine LeO.bind ?_ (fun _ => ?_))
   | exact ih0 _ _ _ _
   | exact LeO.none _
   | refine LeO.ite ?_ ?_
   | refine LeO.bind ?_ (fun _ => ?_)
theorem slices_IndexFunc_int64_int64.mono : ∀ a0 a1 k, LeO (slices_IndexFunc_int64_int64.f k a0 a1) (slices_IndexFunc_int64_int64.f (k + 1) a0 a1) := by
 intro a0 a1 k
 have ih0 := slices_IndexFunc_int64_int64.mono_l k
 unfold slices_IndexFunc_int64_int64.f
 repeat' first
   | (with_reducible exact ih0 _ _ _ _)
   | (with_reducible exact LeO.refl _)
   | (with_reducible exact LeO.none _)
   | (with_reducible refine LeO.ite ?_ ?_)
   | (with_reducible refine LeO.bind ?_ (fun _ => ?_))
   | exact ih0 _ _ _ _
   | exact LeO.none _
   | refine LeO.ite ?_ ?_
   | refine LeO.bind ?_ (fun _ => ?_)
set_option maxHeartbeats 8000000 in
set_option maxRecDepth 100000 in
theorem slices_IndexFunc_int64_int64.calls (k : Nat) (A0 : Option Addr) (c0 : Nat) (l0 : List Int) (A1 : Option Addr) (c1 : Nat) (l1 : List Bool) (r : Int) (w : World) (gs : Nat) (hce : w.cell? ⟨gs, 0, none⟩ = some (.slice A1 l1.length c1)) (hr0 : Kd.C (Kd.int .i64) w A0 l0.length l0) (hc0 : l0.length ≤ c0) (hr1 : Kd.C Kd.bool w A1 l1.length l1) (hc1 : l1.length ≤ c1) (h : slices_IndexFunc_int64_int64.f k l0 l1 = some r) :
  Calls Try.prog 81 #[.slice A0 l0.length c0, .func (.func 54) #[] #[.pointer (some ⟨gs, 0, none⟩)]] w fun e w' => e = .returned (.int .i64 r) ∧ Drawn0 w w' := by
 have HR0 := Aside0.mk hr0; have HC0 := Aside0.mk hc0; clear hr0 hc0; have HR1 := Aside0.mk hr1; have HC1 := Aside0.mk hc1; clear hr1 hc1
 have H : (slices_IndexFunc_int64_int64.l0 k l0 l1 (l0.length : Int) 0) = some r := h
 clear h; have H' := Aside0.mk H; clear H
 go_enter Try.func81, Try.ntmps81
 go_wp2
 go_loopg [8] k (fun kq v8 w' => ∃ (x8_1 : Int), v8 = .int .i64 x8_1 ∧ Aside0 (slices_IndexFunc_int64_int64.l0 kq l0 l1 (l0.length : Int) x8_1 = some r) ∧ Aside0 (kq ≤ k) ∧ Drawn0 w w')
 case atStart => exact ⟨(0), (by first | rfl | (simp; done) | (simp [*]; done)), H', ⟨Nat.le_refl _⟩, by repeat (first | exact Drawn0.refl _ | apply Drawn0.step)⟩
 case round =>
  clear H'; (try clear c1)
  obtain ⟨x8_1, rfl, HA, HK1, ⟨m1, rfl⟩⟩ := hrel
  cases gk with
  | zero => exact absurd HA.out (by simp [slices_IndexFunc_int64_int64.l0])
  | succ k1 =>
   have H := HA.out; clear HA
   simp only [slices_IndexFunc_int64_int64.l0] at H
   by_cases c3 : x8_1 < (l0.length : Int)
   ·rw [if_pos c3] at H
    have c3b0 := decide_eq_true c3
    clear c3
    obtain ⟨c4, H⟩ := ifS_ H
    have c4b0 : decide (0 ≤ x8_1) = true := decide_eq_true c4
    clear c4
    obtain ⟨c5, H⟩ := ifS_ H
    have c5b0 : decide (x8_1 < (l0.length : Int)) = true := decide_eq_true c5
    clear c5
    obtain ⟨ji6, hji6⟩ : ∃ j_ : Int, (wrap64 ((rd l0 x8_1) - 1)) = j_ := ⟨_, rfl⟩
    replace H : (if 0 ≤ (ji6) then (if (ji6) < (l1.length : Int) then (if rdOf false l1 (ji6) = true then (some x8_1) else (slices_IndexFunc_int64_int64.l0 k1 l0 l1 (l0.length : Int) (wrap64 (x8_1 + 1)))) else (none)) else (none)) = some r := by first | (rw [hji6] at H; exact H) | (simp only [hji6] at H ⊢; exact H)
    have hji6w : (IntKind.i64.wrap ((rd l0 x8_1) - 1)) = ji6 := (i64_w _).trans hji6
    obtain ⟨c7, H⟩ := ifS_ H
    have c7b0 : decide (0 ≤ (ji6)) = true := decide_eq_true c7
    clear c7
    obtain ⟨c8, H⟩ := ifS_ H
    have c8b0 : decide ((ji6) < (l1.length : Int)) = true := decide_eq_true c8
    clear c8
    obtain ⟨bq9, hbq9⟩ : ∃ b_ : Bool, b_ = (rdOf false l1 (ji6)) := ⟨_, rfl⟩
    replace H : (if bq9 = true then (some x8_1) else (slices_IndexFunc_int64_int64.l0 k1 l0 l1 (l0.length : Int) (wrap64 (x8_1 + 1)))) = some r := by rw [← hbq9] at H; exact H
    have Nbq9 := Aside0.mk hbq9; clear hbq9
    by_cases c10 : bq9 = true
    ·subst c10
     replace H := ifT_ H
     obtain rfl := Option.some.inj H
     have p161 : 0 ≤ (x8_1 : Int) := dA_
     have q161 : x8_1 < (l0.length : Int) := dA_
     obtain ⟨ad161, e161, hx161_0⟩ := Kd.at_int HR0.out x8_1 p161 q161
     cases e161
     replace p161 := eq_true p161; replace q161 := eq_true q161
     have p162 : 0 ≤ ((ji6) : Int) := dA_
     have q162 : (ji6) < (l1.length : Int) := dA_
     obtain ⟨ad162, e162, hx162_0⟩ := Kd.at_bool HR1.out (ji6) p162 q162
     (try rw [← Nbq9.out] at hx162_0)
     cases e162
     replace p162 := eq_true p162; replace q162 := eq_true q162
     go_wp2
     go_ret
     exact ⟨by first | rfl | (simp; done) | (simp only [← hji6] <;> (first | rfl | simp)) | (simp [*]; done), by repeat (first | exact Drawn0.refl _ | apply Drawn0.step)⟩
    ·replace c10 := Bool.eq_false_iff.mpr c10
     subst c10
     replace H := ifF_ H; have H' := Aside0.mk H; clear H
     have p161 : 0 ≤ (x8_1 : Int) := dA_
     have q161 : x8_1 < (l0.length : Int) := dA_
     obtain ⟨ad161, e161, hx161_0⟩ := Kd.at_int HR0.out x8_1 p161 q161
     cases e161
     replace p161 := eq_true p161; replace q161 := eq_true q161
     have p162 : 0 ≤ ((ji6) : Int) := dA_
     have q162 : (ji6) < (l1.length : Int) := dA_
     obtain ⟨ad162, e162, hx162_0⟩ := Kd.at_bool HR1.out (ji6) p162 q162
     (try rw [← Nbq9.out] at hx162_0)
     cases e162
     replace p162 := eq_true p162; replace q162 := eq_true q162
     go_wp2
     go_roundg k1
     case measure => have := HK1.out; omega
     case rel => exact ⟨(wrap64 (x8_1 + 1)), (by first | rfl | (simp; done) | (simp [*]; done)), H', ⟨by have := HK1.out; omega⟩, by repeat (first | exact Drawn0.refl _ | apply Drawn0.step)⟩
   ·rw [if_neg c3] at H
    have c3b0 := decide_eq_false c3
    clear c3
    obtain rfl := Option.some.inj H
    go_wp2
    go_ret
    exact ⟨by first | rfl | (simp; done) | (simp [*]; done), by repeat (first | exact Drawn0.refl _ | apply Drawn0.step)⟩

/-! ### slices_ContainsFunc_int64_int64: function 53 -/
def slices_ContainsFunc_int64_int64.f (k : Nat) (l0 : List Int) (l1 : List Bool) : Option (Bool) := (slices_IndexFunc_int64_int64.f k l0 l1).bind fun t163 => (some (decide (t163 ≥ 0)))
theorem slices_ContainsFunc_int64_int64.mono : ∀ a0 a1 k, LeO (slices_ContainsFunc_int64_int64.f k a0 a1) (slices_ContainsFunc_int64_int64.f (k + 1) a0 a1) := by
 intro a0 a1 k
 unfold slices_ContainsFunc_int64_int64.f
 repeat' first
   | (with_reducible exact slices_IndexFunc_int64_int64.mono _ _ _)
   | (with_reducible exact LeO.refl _)
   | (with_reducible exact LeO.none _)
   | (with_reducible refine LeO.ite ?_ ?_)
   | (with_reducible refine LeO.bind ?_ (fun _ => ?_))
   | exact slices_IndexFunc_int64_int64.mono _ _ _
   | exact LeO.none _
   | refine LeO.ite ?_ ?_
   | refine LeO.bind ?_ (fun _ => ?_)
set_option maxHeartbeats 8000000 in
set_option maxRecDepth 100000 in
theorem slices_ContainsFunc_int64_int64.calls (k : Nat) (A0 : Option Addr) (c0 : Nat) (l0 : List Int) (A1 : Option Addr) (c1 : Nat) (l1 : List Bool) (r : Bool) (w : World) (gs : Nat) (hce : w.cell? ⟨gs, 0, none⟩ = some (.slice A1 l1.length c1)) (hr0 : Kd.C (Kd.int .i64) w A0 l0.length l0) (hc0 : l0.length ≤ c0) (hr1 : Kd.C Kd.bool w A1 l1.length l1) (hc1 : l1.length ≤ c1) (h : slices_ContainsFunc_int64_int64.f k l0 l1 = some r) :
  Calls Try.prog 53 #[.slice A0 l0.length c0, .func (.func 54) #[] #[.pointer (some ⟨gs, 0, none⟩)]] w fun e w' => e = .returned (.bool r) ∧ Drawn0 w w' := by
 have HR0 := Aside0.mk hr0; have HC0 := Aside0.mk hc0; clear hr0 hc0; have HR1 := Aside0.mk hr1; have HC1 := Aside0.mk hc1; clear hr1 hc1
 have H : ((slices_IndexFunc_int64_int64.f k l0 l1).bind fun t163 => (some (decide (t163 ≥ 0)))) = some r := h
 clear h; replace H := Option.bind_eq_some_iff.mp H
 obtain ⟨t163, A30, H⟩ := H
 replace H : (some (decide (t163 ≥ 0))) = some r := H
 have A3 := Aside0.mk A30; clear A30
 obtain rfl := Option.some.inj H
 go_enter Try.func53, Try.ntmps53
 go_wp2_with (first | ((with_reducible refine gate_callee (f := 81) rfl ?_); refine gL_ (some 7) Try.func81 #[.slice A0 l0.length c0, .func (.func 54) #[] #[.pointer (some ⟨gs, 0, none⟩)]] ?_; (with_reducible refine (slices_IndexFunc_int64_int64.calls k _ _ l0 A1 c1 l1 t163 _ gs ?sideE ?side1 ?side2 ?side3 ?side4 A3.out).mono ?_); (case sideE => exact hce); (case side1 => repeat (first | exact HR0.out | (with_reducible refine Kd.C_alloc ?_ _) | (with_reducible refine Kd.C_drewN ?_ _) | (with_reducible refine Kd.C_drew ?_))); (case side2 => exact HC0.out); (case side3 => repeat (first | exact HR1.out | (with_reducible refine Kd.C_alloc ?_ _) | (with_reducible refine Kd.C_drewN ?_ _) | (with_reducible refine Kd.C_drew ?_))); (case side4 => exact HC1.out); rintro e w' ⟨rfl, ⟨nd, rfl⟩⟩; refine ⟨_, rfl, ?_⟩))
 go_ret
 exact ⟨by first | rfl | (simp; done) | (simp [*]; done), by repeat (first | exact Drawn0.refl _ | apply Drawn0.step)⟩

end Go.Proofs.Ytjoghfehmhapbaa.QFnExactStuck
