-- Written by a program of this session out of the printer's texts and contracts of its own.
import Derived.Test.YtopfdmodbhopiaaSq
import Derived.Test.YtopfdmodbhopiaaQFnWaterBookx0
namespace Go.Proofs.Ytopfdmodbhopiaa.QFnWaterBook
open Go.RowKit Go.Proofs.YtopfdmodbhopiaaW.PrintWords Go.Proofs.YtopfdmodbhopiaaW.PrintLast Go.Proofs.YtopfdmodbhopiaaW.PrintMore Go.Proofs.Ytopfdmodbhopiaa.Sq
attribute [local go_sem] max2_int min2_int max_two min_two max_three min_three max_four min_four   -- for this text's walks alone
set_option linter.unusedVariables false
set_option linter.unusedSimpArgs false

/-! ### impl_in: function 47 -/
def impl_in.f (a0 : Int) (a1 : Int) (a2 : Int) : Option (Bool) := if a0 ≥ a1 then (some (decide (a0 ≤ a2))) else (some false)
set_option maxHeartbeats 8000000 in
set_option maxRecDepth 100000 in
theorem impl_in.calls (a0 : Int) (a1 : Int) (a2 : Int) (r : Bool) (w : World) (h : impl_in.f a0 a1 a2 = some r) :
  Calls Try.prog 47 #[.int .i64 a0, .int .i64 a1, .int .i64 a2] w fun e w' => e = .returned (.bool r) ∧ Drawn0 w w' := by
 have H : (if a0 ≥ a1 then (some (decide (a0 ≤ a2))) else (some false)) = some r := h
 clear h
 by_cases c4 : a0 ≥ a1
 ·rw [if_pos c4] at H
  have c4b0 : decide (a1 ≤ a0) = true := decide_eq_true c4
  clear c4
  obtain rfl := Option.some.inj H
  go_enter Try.func47, Try.ntmps47
  go_wp2
  go_ret
  exact ⟨by first | rfl | (simp; done) | (simp [*]; done), by repeat (first | exact Drawn0.refl _ | apply Drawn0.step)⟩
 ·rw [if_neg c4] at H
  have c4b0 : decide (a1 ≤ a0) = false := decide_eq_false c4
  clear c4
  obtain rfl := Option.some.inj H
  go_enter Try.func47, Try.ntmps47
  go_wp2
  go_ret
  exact ⟨by first | rfl | (simp; done) | (simp [*]; done), by repeat (first | exact Drawn0.refl _ | apply Drawn0.step)⟩

/-! ### impl_Catch: function 46 -/
mutual
def impl_Catch.l0 : Nat → List Int → Int → List Int → Int → Int → Option (List Int × Bool)
 | 0, _, _, _, _, _ => none
 | k + 1, x0, x4, x15, x16, x17 => if x17 < x16 then (if 0 ≤ x17 then (if x17 < (x15.length : Int) then ((impl_in.f (rd x15 x17) (-1) (wrap64 (x4 - 1))).bind fun t141 => (if t141 = true then (impl_Catch.l0 k x0 x4 x15 x16 (wrap64 (x17 + 1))) else (some (([] : List Int), false)))) else (none)) else (none)) else (if 0 ≤ x4 then (if (x4 : Int).toNat ≤ 35184372088832 then (impl_Catch.l1 k x0 x4 (List.replicate (x4 : Int).toNat 0) 0) else (none)) else (none))
def impl_Catch.l1 : Nat → List Int → Int → List Int → Int → Option (List Int × Bool)
 | 0, _, _, _, _ => none
 | k + 1, x0, x4, x7, x8 => if x8 < x4 then (impl_Catch.l2 k x0 x4 x7 x8 0 x8) else (some (x7, true))
def impl_Catch.l2 : Nat → List Int → Int → List Int → Int → Int → Int → Option (List Int × Bool)
 | 0, _, _, _, _, _, _ => none
 | k + 1, x0, x4, x7, x8, x9, x10 => if x10 ≥ 0 then (if 0 ≤ x10 then (if x10 < (x7.length : Int) then (if (wrap64 (x9 + 1)) > x4 then (some (([] : List Int), false)) else (if x10 < (x0.length : Int) then (impl_Catch.l2 k x0 x4 (x7.set (x10 : Int).toNat (wrap64 ((rd x7 x10) + 1))) x8 (wrap64 (x9 + 1)) (rd x0 x10)) else (none))) else (none)) else (none)) else (impl_Catch.l1 k x0 x4 x7 (wrap64 (x8 + 1)))
end
def impl_Catch.f (k : Nat) (l0 : List Int) : Option (List Int × Bool) := if (l0.length : Int) > 576 then (some (([] : List Int), false)) else (impl_Catch.l0 k l0 (l0.length : Int) l0 (l0.length : Int) 0)
theorem impl_Catch.mono_l : ∀ k, (∀ y0 y1 y2 y3 y4, LeO (impl_Catch.l0 k y0 y1 y2 y3 y4) (impl_Catch.l0 (k + 1) y0 y1 y2 y3 y4)) ∧ (∀ y0 y1 y2 y3, LeO (impl_Catch.l1 k y0 y1 y2 y3) (impl_Catch.l1 (k + 1) y0 y1 y2 y3)) ∧ (∀ y0 y1 y2 y3 y4 y5, LeO (impl_Catch.l2 k y0 y1 y2 y3 y4 y5) (impl_Catch.l2 (k + 1) y0 y1 y2 y3 y4 y5))
 | 0 => ⟨fun _ _ _ _ _ r h => by simp [impl_Catch.l0] at h, fun _ _ _ _ r h => by simp [impl_Catch.l1] at h, fun _ _ _ _ _ _ r h => by simp [impl_Catch.l2] at h⟩
 | k + 1 => by
  obtain ⟨ih0, ih1, ih2⟩ := impl_Catch.mono_l k
  refine ⟨?_, ?_, ?_⟩
  intro y0 y1 y2 y3 y4; unfold impl_Catch.l0; rotate_left
  intro y0 y1 y2 y3; unfold impl_Catch.l1; rotate_left
  intro y0 y1 y2 y3 y4 y5; unfold impl_Catch.l2; rotate_left
  all_goals repeat' first
  | (with_reducible exact ih0 _ _ _ _ _)
  | (with_reducible exact ih1 _ _ _ _)
  | (with_reducible exact ih2 _ _ _ _ _ _)
  | (with_reducible exact LeO.refl _)
  | (with_reducible exact LeO.none _)
  | (with_reducible refine LeO.ite ?_ ?_)
  | (with_reducible refine LeO.bind ?_ (fun _ => ?_))
  | exact ih0 _ _ _ _ _
  | exact ih1 _ _ _ _
  | exact ih2 _ _ _ _ _ _
  | exact LeO.none _
  | refine LeO.ite ?_ ?_
  | refine LeO.bind ?_ (fun _ => ?_)
theorem impl_Catch.mono : ∀ a0 k, LeO (impl_Catch.f k a0) (impl_Catch.f (k + 1) a0) := by
 intro a0 k
 obtain ⟨ih0, ih1, ih2⟩ := impl_Catch.mono_l k
 unfold impl_Catch.f
 repeat' first
   | (with_reducible exact ih0 _ _ _ _ _)
   | (with_reducible exact ih1 _ _ _ _)
   | (with_reducible exact ih2 _ _ _ _ _ _)
   | (with_reducible exact LeO.refl _)
   | (with_reducible exact LeO.none _)
   | (with_reducible refine LeO.ite ?_ ?_)
   | (with_reducible refine LeO.bind ?_ (fun _ => ?_))
   | exact ih0 _ _ _ _ _
   | exact ih1 _ _ _ _
   | exact ih2 _ _ _ _ _ _
   | exact LeO.none _
   | refine LeO.ite ?_ ?_
   | refine LeO.bind ?_ (fun _ => ?_)
set_option maxHeartbeats 8000000 in
set_option maxRecDepth 100000 in
theorem impl_Catch.calls (k : Nat) (A0 : Option Addr) (c0 : Nat) (l0 : List Int) (r1 : List Int) (r2 : Bool) (w : World) (hr0 : Kd.C (Kd.int .i64) w A0 l0.length l0) (hc0 : l0.length ≤ c0) (h : impl_Catch.f k l0 = some (r1, r2)) :
  Calls Try.prog 46 #[.slice A0 l0.length c0] w fun e w' => ∃ v0_ : Value, e = .returned (.tuple #[v0_, .bool r2]) ∧ Kd.R (Kd.int .i64) 2 w' w.heap.size (fun _ => True) v0_ r1 ∧ Below w.heap.size w w' := by
 have HR0 := Aside0.mk hr0; have HC0 := Aside0.mk hc0; clear hr0 hc0
 have HB := Aside0.mk (Below.refl w.heap.size w)
 have H : (if (l0.length : Int) > 576 then (some (([] : List Int), false)) else (impl_Catch.l0 k l0 (l0.length : Int) l0 (l0.length : Int) 0)) = some (r1, r2) := h
 clear h
 by_cases c2 : (l0.length : Int) > 576
 ·rw [if_pos c2] at H
  have c2b0 : decide (576 < (l0.length : Int)) = true := decide_eq_true c2
  have c2b1 : decide (576 < l0.length) = true := decide_eq_true (by omega)
  clear c2
  simp only [Option.some.injEq, Prod.mk.injEq] at H
  obtain ⟨rfl, rfl⟩ := H
  go_enter Try.func46, Try.ntmps46
  go_wp2
  go_ret2
  exact ⟨_, by first | rfl | (simp [errW_none, errW_some] <;> rfl) | (simp [*, errW_none, errW_some] <;> rfl), by first | exact Kd.R_nil _ _ _ _ _ | exact Kd.N_nil _ _ _ _ _ | exact Kd.V_nil _ _ _ _ _ | exact Kd.Q_nil _ _ _ _ _ | exact Kd.S_nil _ _ _ _ _, by repeat (first | (with_reducible first | exact HB.out | apply below_alloc | apply pw_below_drewN | apply below_drew1) | exact HB.out)⟩
 ·rw [if_neg c2] at H
  have c2b0 : decide (576 < (l0.length : Int)) = false := decide_eq_false c2
  have c2b1 : decide (576 < l0.length) = false := decide_eq_false (by omega)
  clear c2; have H' := Aside0.mk H; clear H
  go_enter Try.func46, Try.ntmps46
  go_wp2
  go_loopg [17] k (fun kq v17 w' => ∃ (x17_1 : Int), v17 = .int .i64 x17_1 ∧ Aside0 (impl_Catch.l0 kq l0 (l0.length : Int) l0 (l0.length : Int) x17_1 = some (r1, r2)) ∧ Aside0 (kq ≤ k) ∧ Aside0 (Below w.heap.size w w'))
  case atStart => exact ⟨(0), (by first | rfl | (simp; done) | (simp [*]; done)), H', ⟨Nat.le_refl _⟩, ⟨by repeat (first | (with_reducible first | exact HB.out | apply below_alloc | apply pw_below_drewN | apply below_drew1) | exact HB.out)⟩⟩
  case round =>
   clear H'; (try clear c2); (try clear c2b0); (try clear c2b1); (try clear p2)
   obtain ⟨x17_1, rfl, HA, HK1, HB⟩ := hrel
   cases gk with
   | zero => exact absurd HA.out (by simp [impl_Catch.l0])
   | succ k1 =>
    have H := HA.out; clear HA
    simp only [impl_Catch.l0] at H
    by_cases c3 : x17_1 < (l0.length : Int)
    ·rw [if_pos c3] at H
     have c3b0 : decide (x17_1 < (l0.length : Int)) = true := decide_eq_true c3
     clear c3
     by_cases c4 : 0 ≤ x17_1
     ·rw [if_pos c4] at H
      have c4b0 : decide (0 ≤ x17_1) = true := decide_eq_true c4
      clear c4
      by_cases c5 : x17_1 < (l0.length : Int)
      ·rw [if_pos c5] at H
       have c5b0 : decide (x17_1 < (l0.length : Int)) = true := decide_eq_true c5
       clear c5; replace H := Option.bind_eq_some_iff.mp H
       obtain ⟨t141, A60, H⟩ := H
       replace H : (if t141 = true then (impl_Catch.l0 k1 l0 (l0.length : Int) l0 (l0.length : Int) (wrap64 (x17_1 + 1))) else (some (([] : List Int), false))) = some (r1, r2) := H
       have A6 := Aside0.mk A60; clear A60
       by_cases c7 : t141 = true
       ·subst c7
        have H1 : (impl_Catch.l0 k1 l0 (l0.length : Int) l0 (l0.length : Int) (wrap64 (x17_1 + 1))) = some (r1, r2) := by rw [if_pos rfl] at H; exact H
        clear H; have H := H1; clear H1; have H' := Aside0.mk H; clear H
        have p140 : 0 ≤ (x17_1 : Int) := of_decide_eq_true (by first | (with_reducible assumption) | assumption)
        have q140 : x17_1 < (l0.length : Int) := of_decide_eq_true (by first | (with_reducible assumption) | assumption)
        obtain ⟨ad140, e140, hx140_0⟩ := Kd.at_int HR0.out x17_1 p140 q140
        cases e140
        replace hx140_0 := (HB.out.cell (World.block_lt_of_cell? w _ hx140_0)).trans hx140_0
        replace p140 := eq_true p140; replace q140 := eq_true q140
        go_wp2_with (first | ((with_reducible refine gate_callee (f := 47) rfl ?_); refine gL_ (some 24) Try.func47 #[.int .i64 (rd l0 x17_1), .int .i64 (-1), .int .i64 (wrap64 ((l0.length : Int) - 1))] ?_; (with_reducible refine (impl_in.calls (rd l0 x17_1) (-1) (wrap64 ((l0.length : Int) - 1)) true _ A6.out).mono ?_); rintro e w' ⟨rfl, ⟨nd, rfl⟩⟩; refine ⟨_, rfl, ?_⟩))
        go_roundg k1
        case measure => have := HK1.out; omega
        case rel => exact ⟨(wrap64 (x17_1 + 1)), (by first | rfl | (simp; done) | (simp [*]; done)), H', ⟨by have := HK1.out; omega⟩, ⟨by repeat (first | (with_reducible first | exact HB.out | apply below_alloc | apply pw_below_drewN | apply below_drew1) | exact HB.out)⟩⟩
       ·replace c7 := Bool.eq_false_iff.mpr c7
        subst c7
        have H1 : (some (([] : List Int), false)) = some (r1, r2) := by rw [if_neg (show ¬ (false = true) by decide)] at H; exact H
        clear H; have H := H1; clear H1
        simp only [Option.some.injEq, Prod.mk.injEq] at H
        obtain ⟨rfl, rfl⟩ := H
        have p140 : 0 ≤ (x17_1 : Int) := of_decide_eq_true (by first | (with_reducible assumption) | assumption)
        have q140 : x17_1 < (l0.length : Int) := of_decide_eq_true (by first | (with_reducible assumption) | assumption)
        obtain ⟨ad140, e140, hx140_0⟩ := Kd.at_int HR0.out x17_1 p140 q140
        cases e140
        replace hx140_0 := (HB.out.cell (World.block_lt_of_cell? w _ hx140_0)).trans hx140_0
        replace p140 := eq_true p140; replace q140 := eq_true q140
        go_wp2_with (first | ((with_reducible refine gate_callee (f := 47) rfl ?_); refine gL_ (some 24) Try.func47 #[.int .i64 (rd l0 x17_1), .int .i64 (-1), .int .i64 (wrap64 ((l0.length : Int) - 1))] ?_; (with_reducible refine (impl_in.calls (rd l0 x17_1) (-1) (wrap64 ((l0.length : Int) - 1)) false _ A6.out).mono ?_); rintro e w' ⟨rfl, ⟨nd, rfl⟩⟩; refine ⟨_, rfl, ?_⟩))
        go_ret2
        exact ⟨_, by first | rfl | (simp [errW_none, errW_some] <;> rfl) | (simp [*, errW_none, errW_some] <;> rfl), by first | exact Kd.R_nil _ _ _ _ _ | exact Kd.N_nil _ _ _ _ _ | exact Kd.V_nil _ _ _ _ _ | exact Kd.Q_nil _ _ _ _ _ | exact Kd.S_nil _ _ _ _ _, by repeat (first | (with_reducible first | exact HB.out | apply below_alloc | apply pw_below_drewN | apply below_drew1) | exact HB.out)⟩
      ·rw [if_neg c5] at H
       exact absurd H (by simp)
     ·rw [if_neg c4] at H
      exact absurd H (by simp)
    ·rw [if_neg c3] at H
     have c3b0 : decide (x17_1 < (l0.length : Int)) = false := decide_eq_false c3
     clear c3
     by_cases c8 : 0 ≤ (l0.length : Int)
     ·rw [if_pos c8] at H
      have c8b0 := eq_true c8
      have c8b1 : decide (0 ≤ (l0.length : Int)) = true := decide_eq_true c8
      clear c8
      by_cases c9 : ((l0.length : Int) : Int).toNat ≤ 35184372088832
      ·rw [if_pos c9] at H
       have c9b0 := eq_true c9
       have c9b1 : decide (((l0.length : Int) : Int).toNat ≤ 35184372088832) = true := decide_eq_true c9
       clear c9
       obtain ⟨y142, hy142⟩ : ∃ y_ : List Int, y_ = (List.replicate ((l0.length : Int) : Int).toNat 0) := ⟨_, rfl⟩
       replace H : (impl_Catch.l1 k1 l0 (l0.length : Int) y142 0) = some (r1, r2) := by first | (rw [hy142]; with_reducible exact H) | (have H2_ := (Option.bind_some _ _).symm.trans H; rw [hy142]; with_reducible exact H2_) | (have H2_ := (Option.bind_some _ _).symm.trans H; with_reducible exact H2_) | with_reducible exact H | (rw [hy142]; exact H) | exact H
       have Ny142 := Aside0.mk hy142; clear hy142; have H' := Aside0.mk H; clear H
       go_wp2_with (first | ((with_reducible refine gate_dst (N := 28) rfl ?_); refine Kd.R_make (Kd.int .i64) _ 2 rfl (N := 28) rfl 22 _ _ rfl (l0.length : Int) rfl rfl Try.underlying22 (.int .i64 0) 8 info2 rfl (by decide) (by omega) 0 (ok := fun _ => True) (okp := fun _ => True) rfl (fun _ hk => hk) trivial (of_decide_eq_true (by first | (with_reducible assumption) | assumption)) (Nat.le_trans (Nat.mul_le_mul_right _ (of_decide_eq_true (by first | (with_reducible assumption) | assumption) : (l0.length : Int).toNat ≤ 35184372088832)) (by omega)) (Below.refl _ _) (Nat.le_refl _) ?_; intro v143 w10 ho11 hb hg_ hnew_; clear hg_ hnew_; (first | rw [← Ny142.out] at ho11 | (simp only [Int.reduceToNat] at ho11; rw [← Ny142.out] at ho11)); have HO144 := rL_ ho11 HB; replace HB := bS_ HB hb; clear hb ho11))
       go_loopg [8] k1 (fun kq v8 w' => ∃ (x7_2 : List Int) (x8_2 : Int), v8 = .int .i64 x8_2 ∧ Aside0 (impl_Catch.l1 kq l0 (l0.length : Int) x7_2 x8_2 = some (r1, r2)) ∧ Aside0 (kq ≤ k1) ∧ Aside0 (Kd.R (Kd.int .i64) 2 w' w.heap.size (fun _ => True) v143 x7_2) ∧ Aside0 (Below w.heap.size w w'))
       case atStart => exact ⟨(y142), (0), (by first | rfl | (simp; done) | (simp [*]; done)), H', ⟨Nat.le_refl _⟩, ⟨by (with_reducible repeat (first | apply Kd.R_alloc | apply Kd.R_drewN | apply Kd.R_drew)); exact HO144.out⟩, ⟨by repeat (first | (with_reducible first | exact HB.out | apply below_alloc | apply pw_below_drewN | apply below_drew1) | exact HB.out)⟩⟩
       case round =>
        clear H'; (try clear p1); (try clear q1); (try clear hx1); (try clear c2); (try clear c2b0); (try clear c2b1); (try clear p2); (try clear c3); (try clear c3b0); (try clear c4); (try clear c4b0); (try clear c5); (try clear c5b0); (try clear p6); (try clear c7); (try clear c8); (try clear c8b0); (try clear c8b1); (try clear c9); (try clear c9b0); (try clear c9b1); (try clear hx140_0); (try clear p140); (try clear p2); (try clear q140)
        obtain ⟨x7_2, x8_2, rfl, HA, HK2, HO_7, HB⟩ := hrel
        cases gk with
        | zero => exact absurd HA.out (by simp [impl_Catch.l1])
        | succ k2 =>
         have H := HA.out; clear HA
         simp only [impl_Catch.l1] at H
         by_cases c12 : x8_2 < (l0.length : Int)
         ·rw [if_pos c12] at H
          have c12b0 : decide (x8_2 < (l0.length : Int)) = true := decide_eq_true c12
          clear c12; have H' := Aside0.mk H; clear H
          go_wp2
          go_loopg [9, 10] k2 (fun kq v9 v10 w' => ∃ (x7_3 : List Int) (x9_3 : Int) (x10_3 : Int), v9 = .int .i64 x9_3 ∧ v10 = .int .i64 x10_3 ∧ Aside0 (impl_Catch.l2 kq l0 (l0.length : Int) x7_3 x8_2 x9_3 x10_3 = some (r1, r2)) ∧ Aside0 (kq ≤ k2) ∧ Aside0 (Kd.R (Kd.int .i64) 2 w' w.heap.size (fun _ => True) v143 x7_3) ∧ Aside0 (Below w.heap.size w w'))
          case atStart => exact ⟨(x7_2), (0), (x8_2), (by first | rfl | (simp; done) | (simp [*]; done)), (by first | rfl | (simp; done) | (simp [*]; done)), H', ⟨Nat.le_refl _⟩, ⟨by (with_reducible repeat (first | apply Kd.R_alloc | apply Kd.R_drewN | apply Kd.R_drew)); exact HO_7.out⟩, ⟨by repeat (first | (with_reducible first | exact HB.out | apply below_alloc | apply pw_below_drewN | apply below_drew1) | exact HB.out)⟩⟩
          case round =>
           clear H'; (try clear c1); (try clear p1); (try clear q1); (try clear hx1); (try clear c2); (try clear c2b0); (try clear c2b1); (try clear p2); (try clear c3); (try clear c3b0); (try clear c4); (try clear c4b0); (try clear c5); (try clear c5b0); (try clear p6); (try clear c7); (try clear c8); (try clear c8b0); (try clear c8b1); (try clear c9); (try clear c9b0); (try clear c9b1); (try clear c12); (try clear c12b0); (try clear hx140_0); (try clear p1); (try clear p140); (try clear p2); (try clear p6); (try clear q1); (try clear q140)
           obtain ⟨x7_3, x9_3, x10_3, rfl, rfl, HA, HK3, HO_7, HB⟩ := hrel
           cases gk with
           | zero => exact absurd HA.out (by simp [impl_Catch.l2])
           | succ k3 =>
            have H := HA.out; clear HA
            simp only [impl_Catch.l2] at H
            by_cases c13 : x10_3 ≥ 0
            ·rw [if_pos c13] at H
             have c13b0 : decide (0 ≤ x10_3) = true := decide_eq_true c13
             clear c13
             by_cases c14 : 0 ≤ x10_3
             ·rw [if_pos c14] at H
              have c14b0 : decide (0 ≤ x10_3) = true := decide_eq_true c14
              clear c14
              by_cases c15 : x10_3 < (x7_3.length : Int)
              ·rw [if_pos c15] at H
               have c15b0 : decide (x10_3 < (x7_3.length : Int)) = true := decide_eq_true c15
               clear c15
               obtain ⟨y146, hy146⟩ : ∃ y_ : List Int, y_ = (x7_3.set (x10_3 : Int).toNat (wrap64 ((rd x7_3 x10_3) + 1))) := ⟨_, rfl⟩
               replace H : (if (wrap64 (x9_3 + 1)) > (l0.length : Int) then (some (([] : List Int), false)) else (if x10_3 < (l0.length : Int) then (impl_Catch.l2 k3 l0 (l0.length : Int) y146 x8_2 (wrap64 (x9_3 + 1)) (rd l0 x10_3)) else (none))) = some (r1, r2) := by first | (rw [hy146]; with_reducible exact H) | (have H2_ := (Option.bind_some _ _).symm.trans H; rw [hy146]; with_reducible exact H2_) | (have H2_ := (Option.bind_some _ _).symm.trans H; with_reducible exact H2_) | with_reducible exact H | (rw [hy146]; exact H) | exact H
               have Ny146 := Aside0.mk hy146; clear hy146
               by_cases c17 : (wrap64 (x9_3 + 1)) > (l0.length : Int)
               ·rw [if_pos c17] at H
                have c17b0 : decide ((l0.length : Int) < (wrap64 (x9_3 + 1))) = true := decide_eq_true c17
                clear c17
                simp only [Option.some.injEq, Prod.mk.injEq] at H
                obtain ⟨rfl, rfl⟩ := H
                obtain ⟨Ao18, co18, eo18⟩ := Kd.R_slice HO_7.out
                subst eo18
                have p145 : 0 ≤ (x10_3 : Int) := of_decide_eq_true (by first | (with_reducible assumption) | assumption)
                have q145 : x10_3 < (x7_3.length : Int) := of_decide_eq_true (by first | (with_reducible assumption) | assumption)
                obtain ⟨ad145, e145, hx145_0⟩ := Kd.at_int (Kd.R_reads' HO_7.out).2.2 x10_3 p145 q145
                cases e145
                replace p145 := eq_true p145; replace q145 := eq_true q145
                have p16 : 0 ≤ (x10_3 : Int) := of_decide_eq_true (by first | (with_reducible assumption) | assumption)
                have q16 : (x10_3 : Int) < ((x7_3.length : Int) : Int) := of_decide_eq_true (by first | (with_reducible assumption) | assumption)
                obtain ⟨go16, co16, eo16, gb16, gl16, cl16, HG16⟩ := Kd.R_form HO_7.out (by omega)
                (first | cases eo16 | (injection eo16 with ea_ en_ ec_; (first | subst ea_ | (injection ea_ with ea_; subst ea_)); subst ec_; clear en_))
                have GB16 := Aside0.mk gb16; have GG16 := Aside0.mk HG16; clear gb16 gl16 HG16
                (first | simp only [add_plain] at hx145_0 | skip)
                obtain ⟨hx16_0, hf16_0⟩ := Kd.R_celln 0 HO_7.out (x10_3 : Int) p16 q16
                replace p16 := eq_true p16; replace q16 := eq_true q16
                have HP19 := Kd.R_putg HO_7.out (x10_3 : Int) (wrap64 ((rd x7_3 x10_3) + 1))
                go_wp2_with (first | ((with_reducible refine gate_store (t := 2) (p := 46) rfl ?_); refine store_event (t := 2) (p := 46) (v := ?vo_w20) (w1 := (wr.setCell ⟨go16, (x10_3 : Int).toNat, none⟩ (.int .i64 (wrap64 ((rd x7_3 x10_3) + 1))))) ?hg ?ho ?hn ?hr ?_; (case ho => rfl); (case hg => rfl); (case hn => rfl); (case hr => first | (go_simp; done) | (go_simp; rfl)); intro w20 hw; have hg : wr.grownBy w20 (some go16) := (by rw [hw]; exact HP19.2); have hp_ : Kd.R (Kd.int .i64) 2 w20 w.heap.size (fun _ => True) (.slice (some ⟨go16, 0, none⟩) x7_3.length co18) y146 := (by rw [hw, Ny146.out]; exact HP19.1); clear HP19; replace HO_7 := Aside0.mk (hp_); replace HB := Aside0.mk ((by rw [hw]; exact below_set (HB.out) GB16.out : Below w.heap.size w w20)); clear hg hw hp_))
                go_ret2
                exact ⟨_, by first | rfl | (simp [errW_none, errW_some] <;> rfl) | (simp [*, errW_none, errW_some] <;> rfl), by first | exact Kd.R_nil _ _ _ _ _ | exact Kd.N_nil _ _ _ _ _ | exact Kd.V_nil _ _ _ _ _ | exact Kd.Q_nil _ _ _ _ _ | exact Kd.S_nil _ _ _ _ _, by repeat (first | (with_reducible first | exact HB.out | apply below_alloc | apply pw_below_drewN | apply below_drew1) | exact HB.out)⟩
               ·rw [if_neg c17] at H
                have c17b0 : decide ((l0.length : Int) < (wrap64 (x9_3 + 1))) = false := decide_eq_false c17
                clear c17
                by_cases c21 : x10_3 < (l0.length : Int)
                ·rw [if_pos c21] at H
                 have c21b0 : decide (x10_3 < (l0.length : Int)) = true := decide_eq_true c21
                 clear c21; have H' := Aside0.mk H; clear H
                 obtain ⟨Ao22, co22, eo22⟩ := Kd.R_slice HO_7.out
                 subst eo22
                 have p145 : 0 ≤ (x10_3 : Int) := of_decide_eq_true (by first | (with_reducible assumption) | assumption)
                 have q145 : x10_3 < (x7_3.length : Int) := of_decide_eq_true (by first | (with_reducible assumption) | assumption)
                 obtain ⟨ad145, e145, hx145_0⟩ := Kd.at_int (Kd.R_reads' HO_7.out).2.2 x10_3 p145 q145
                 cases e145
                 replace p145 := eq_true p145; replace q145 := eq_true q145
                 have p16 : 0 ≤ (x10_3 : Int) := of_decide_eq_true (by first | (with_reducible assumption) | assumption)
                 have q16 : (x10_3 : Int) < ((x7_3.length : Int) : Int) := of_decide_eq_true (by first | (with_reducible assumption) | assumption)
                 obtain ⟨go16, co16, eo16, gb16, gl16, cl16, HG16⟩ := Kd.R_form HO_7.out (by omega)
                 (first | cases eo16 | (injection eo16 with ea_ en_ ec_; (first | subst ea_ | (injection ea_ with ea_; subst ea_)); subst ec_; clear en_))
                 have GB16 := Aside0.mk gb16; have GG16 := Aside0.mk HG16; clear gb16 gl16 HG16
                 (first | simp only [add_plain] at hx145_0 | skip)
                 obtain ⟨hx16_0, hf16_0⟩ := Kd.R_celln 0 HO_7.out (x10_3 : Int) p16 q16
                 replace p16 := eq_true p16; replace q16 := eq_true q16
                 have HP23 := Kd.R_putg HO_7.out (x10_3 : Int) (wrap64 ((rd x7_3 x10_3) + 1))
                 go_wp2_with (first | ((with_reducible refine gate_store (t := 2) (p := 46) rfl ?_); refine store_event (t := 2) (p := 46) (v := ?vo_w24) (w1 := (wr.setCell ⟨go16, (x10_3 : Int).toNat, none⟩ (.int .i64 (wrap64 ((rd x7_3 x10_3) + 1))))) ?hg ?ho ?hn ?hr ?_; (case ho => rfl); (case hg => rfl); (case hn => rfl); (case hr => first | (go_simp; done) | (go_simp; rfl)); intro w24 hw; have hg : wr.grownBy w24 (some go16) := (by rw [hw]; exact HP23.2); have hp_ : Kd.R (Kd.int .i64) 2 w24 w.heap.size (fun _ => True) (.slice (some ⟨go16, 0, none⟩) x7_3.length co22) y146 := (by rw [hw, Ny146.out]; exact HP23.1); clear HP23; replace HO_7 := Aside0.mk (hp_); replace HB := Aside0.mk ((by rw [hw]; exact below_set (HB.out) GB16.out : Below w.heap.size w w24)); clear hg hw hp_; have p147 : 0 ≤ (x10_3 : Int) := of_decide_eq_true (by first | (with_reducible assumption) | assumption); have q147 : x10_3 < (l0.length : Int) := of_decide_eq_true (by first | (with_reducible assumption) | assumption); obtain ⟨ad147, e147, hx147_0⟩ := Kd.at_int HR0.out x10_3 p147 q147; cases e147; replace hx147_0 := (HB.out.cell (World.block_lt_of_cell? w _ hx147_0)).trans hx147_0; replace p147 := eq_true p147; replace q147 := eq_true q147))
                 go_roundg k3
                 case measure => have := HK1.out; have := HK2.out; have := HK3.out; omega
                 case rel => exact ⟨(y146), (wrap64 (x9_3 + 1)), (rd l0 x10_3), (by first | rfl | (simp; done) | (simp [*]; done)), (by first | rfl | (simp; done) | (simp [*]; done)), H', ⟨by have := HK1.out; have := HK2.out; have := HK3.out; omega⟩, ⟨by (with_reducible repeat (first | apply Kd.R_alloc | apply Kd.R_drewN | apply Kd.R_drew)); exact HO_7.out⟩, ⟨by repeat (first | (with_reducible first | exact HB.out | apply below_alloc | apply pw_below_drewN | apply below_drew1) | exact HB.out)⟩⟩
                ·rw [if_neg c21] at H
                 exact absurd H (by simp)
              ·rw [if_neg c15] at H
               exact absurd H (by simp)
             ·rw [if_neg c14] at H
              exact absurd H (by simp)
            ·rw [if_neg c13] at H
             have c13b0 : decide (0 ≤ x10_3) = false := decide_eq_false c13
             clear c13; have H' := Aside0.mk H; clear H
             go_wp2
             go_roundg k3
             case measure => have := HK1.out; have := HK2.out; have := HK3.out; omega
             case rel => exact ⟨(x7_3), (wrap64 (x8_2 + 1)), (by first | rfl | (simp; done) | (simp [*]; done)), H', ⟨by have := HK1.out; have := HK2.out; have := HK3.out; omega⟩, ⟨by (with_reducible repeat (first | apply Kd.R_alloc | apply Kd.R_drewN | apply Kd.R_drew)); exact HO_7.out⟩, ⟨by repeat (first | (with_reducible first | exact HB.out | apply below_alloc | apply pw_below_drewN | apply below_drew1) | exact HB.out)⟩⟩
         ·rw [if_neg c12] at H
          have c12b0 : decide (x8_2 < (l0.length : Int)) = false := decide_eq_false c12
          clear c12
          simp only [Option.some.injEq, Prod.mk.injEq] at H
          obtain ⟨rfl, rfl⟩ := H
          go_wp2
          go_ret2
          exact ⟨_, by first | rfl | (simp [errW_none, errW_some] <;> rfl) | (simp [*, errW_none, errW_some] <;> rfl), by (with_reducible repeat (first | apply Kd.R_alloc | apply Kd.R_drewN | apply Kd.R_drew)); exact HO_7.out, by repeat (first | (with_reducible first | exact HB.out | apply below_alloc | apply pw_below_drewN | apply below_drew1) | exact HB.out)⟩
      ·rw [if_neg c9] at H
       exact absurd H (by simp)
     ·rw [if_neg c8] at H
      exact absurd H (by simp)


/-! ### slices_Clone_int64_int64: function 48 -/
def slices_Clone_int64_int64.f (l0 : List Int) : Option (List Int) := if l0.length < 17592186044416 then some l0 else none
set_option maxHeartbeats 8000000 in
set_option maxRecDepth 100000 in
theorem slices_Clone_int64_int64.calls (A0 : Option Addr) (c0 : Nat) (l0 : List Int) (r : List Int) (w : World) (hr0 : Kd.C (Kd.int .i64) w A0 l0.length l0) (hc0 : l0.length ≤ c0) (h : slices_Clone_int64_int64.f l0 = some r) :
  Calls Try.prog 48 #[.slice A0 l0.length c0] w fun e w' => ∃ v0_ : Value, e = .returned (v0_) ∧ Kd.R (Kd.int .i64) 2 w' w.heap.size (fun _ => True) v0_ r ∧ Below w.heap.size w w' := by
 unfold slices_Clone_int64_int64.f at h
 by_cases c4 : l0.length < 17592186044416
 ·rw [if_pos c4] at h
  obtain rfl := Option.some.inj h
  clear h; have LM := Aside0.mk c4; clear c4; have HR0 := Aside0.mk hr0; have HC0 := Aside0.mk hc0; clear hr0 hc0
  have HB := Aside0.mk (Below.refl w.heap.size w)
  have hq : ∀ (W : World) (a : Option Addr) (m c : Nat), (binOp .eql 22 (.slice a m c) (.slice none 0 0)).run Try.prog W = .ok (.bool a.isNone) W := fun W a m c => Lib.run_eql_slice_nil W 22 2 a m c 0 0 Try.underlying22
  cases A0 with
  | none =>
   have hl : l0 = [] := by
    rcases Nat.eq_zero_or_pos l0.length with h | h
    ·exact List.eq_nil_of_length_eq_zero h
    ·obtain ⟨ad, e, _⟩ := HR0.out.2.2 h
     cases e
   subst hl
   clear HR0 HC0 LM
   go_enter Try.func48, Try.ntmps48
   go_wp2
   go_ret
   exact ⟨_, rfl, Kd.R_nil _ _ _ _ _, by repeat (first | (with_reducible first | exact HB.out | apply below_alloc | apply pw_below_drewN | apply below_drew1) | exact HB.out)⟩
  | some a0 =>
   obtain ⟨y1, hy1⟩ : ∃ y_ : List Int, y_ = ([] : List Int) := ⟨_, rfl⟩
   obtain ⟨y2, hy2⟩ : ∃ y_ : List Int, y_ = y1 ++ l0 := ⟨_, rfl⟩
   have e2 : y2 = l0 := by rw [hy2, hy1]; rfl
   have LM2 : Aside0 (y1.length + l0.length < 17592186044416) := Aside0.mk (by rw [hy1]; simpa using LM.out)
   have Ny1 := Aside0.mk hy1; have Ny2 := Aside0.mk hy2; have Ne2 := Aside0.mk e2; clear hy1 hy2 e2
   have hg : Calls Try.prog 48 #[.slice (some a0) l0.length c0] w (fun e w' => ∃ v0_ : Value, e = .returned (v0_) ∧ Kd.R (Kd.int .i64) 2 w' w.heap.size (fun _ => True) v0_ y2 ∧ Below w.heap.size w w') := by
    go_enter Try.func48, Try.ntmps48
    go_wp2_with (first | ((with_reducible refine gate_dst (N := 5) rfl ?_); refine Kd.R_lit (Kd.int .i64) _ 2 ?hg (N := 5) ?hd (xs := ([] : List Int)) (inner := []) (ok := fun _ => True) (okp := fun _ => True) ?hr ?hp (fun _ hk => hk) trivial (Below.refl _ _) (Nat.le_refl _) (by simp) ?_; (case hd => rfl); (case hg => rfl); (case hr => first | (go_simp; done) | (go_simp; rfl)); (case hp => exact (Reps.none _ _)); intro v1 w8 ho9 hb hg_ hnew_; clear hg_ hnew_; rw [← Ny1.out] at ho9; have HO1 := rL_ ho9 HB; replace HB := bS_ HB hb; clear hb ho9) | ((with_reducible refine gate_builtin (b := .append) (xs := #[.tmp 5, .tmp 6]) rfl ?_); at_builtin; refine Kd.R_append_rows (Kd.int .i64) (w0 := w) w.heap.size rfl (.tmp 5) (.tmp 6) 22 2 (.int .i64 0) 8 rfl Try.underlying22 info2 rfl (by decide) (by omega) v1 y1 l0 _ _ _ (fun _ => True) (fun _ => False) rfl rfl ?aO ?aR (fun _ _ h => h) (fun _ h => h.elim) ?aF ?aB ?aS ?aL ?_; (case aR => repeat (first | exact (Kd.C_below HR0.out HB.out) | (with_reducible refine Kd.C_alloc ?_ _) | (with_reducible refine Kd.C_drewN ?_ _) | (with_reducible refine Kd.C_drew ?_))); (case aB => exact (by repeat (first | (with_reducible first | exact HB.out | apply below_alloc | apply pw_below_drewN | apply below_drew1) | exact HB.out))); (case aF => exact (fun _ _ => trivial)); (case aO => exact (rT_ HO1)); (case aS => exact (below_size (by repeat (first | (with_reducible first | exact HB.out | apply below_alloc | apply pw_below_drewN | apply below_drew1) | exact HB.out)))); (case aL => have := LM2.out; omega); intro v2 w10 ho hb hg hat; rw [← Ny2.out] at ho; replace HB := Aside0.mk (hb); have HO2 := Aside0.mk (ho); clear HO1; clear ho hb hg hat; obtain ⟨Ao11, co11, eo11⟩ := Kd.R_slice HO2.out; subst eo11))
    go_ret
    exact ⟨_, rfl, by (with_reducible repeat (first | apply Kd.R_alloc | apply Kd.R_drewN | apply Kd.R_drew)); exact HO2.out, by repeat (first | (with_reducible first | exact HB.out | apply below_alloc | apply pw_below_drewN | apply below_drew1) | exact HB.out)⟩
   exact hg.mono fun e w' ⟨v, h1, h2, h3⟩ => ⟨v, h1, by rw [← Ne2.out]; exact h2, h3⟩
 ·rw [if_neg c4] at h
  exact absurd h (by simp)

end Go.Proofs.Ytopfdmodbhopiaa.QFnWaterBook
