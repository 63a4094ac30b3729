-- Written by a program of this session out of the printer's texts and contracts of its own.
import Derived.Test.YtjoghfehmhapbaaSq
import Derived.Test.YtjoghfehmhapbaaQFnExactStuckx0
namespace Go.Proofs.Ytjoghfehmhapbaa.QFnExactStuck
open Go.RowKit Go.Proofs.YtjoghfehmhapbaaW.PrintWords Go.Proofs.YtjoghfehmhapbaaW.PrintLast Go.Proofs.YtjoghfehmhapbaaW.PrintMore Go.Proofs.Ytjoghfehmhapbaa.Sq
attribute [local go_sem] max2_int min2_int max_two min_two max_three min_three max_four min_four   -- for this text's walks alone
set_option linter.unusedVariables false
set_option linter.unusedSimpArgs false
theorem sABelo_1 {b : Nat} {w W : World} (h : Below b w W := by repeat (first | (with_reducible first | exact Aside0.out (by assumption) | apply below_alloc | apply pw_below_drewN | apply below_drew1 | refine below_set ?_ (Aside0.out (by assumption))) | exact Aside0.out (by assumption))) : Below b w W := h

/-! ### impl_in: function 52 -/
def impl_in.f (a0 : Int) (a1 : Int) (a2 : Int) : Option (Bool) := if a0 ≥ a1 then (some (decide (a0 ≤ a2))) else (some false)
set_option maxHeartbeats 8000000 in
set_option maxRecDepth 100000 in
theorem impl_in.calls (a0 : Int) (a1 : Int) (a2 : Int) (r : Bool) (w : World) (h : impl_in.f a0 a1 a2 = some r) :
  Calls Try.prog 52 #[.int .i64 a0, .int .i64 a1, .int .i64 a2] w fun e w' => e = .returned (.bool r) ∧ Drawn0 w w' := by
 have H : (if a0 ≥ a1 then (some (decide (a0 ≤ a2))) else (some false)) = some r := h
 clear h
 by_cases c4 : a0 ≥ a1
 ·rw [if_pos c4] at H
  have c4b0 : decide (a1 ≤ a0) = true := decide_eq_true c4
  clear c4
  obtain rfl := Option.some.inj H
  go_enter Try.func52, Try.ntmps52
  go_wp2
  go_ret
  exact ⟨by first | rfl | (simp; done) | (simp [*]; done), by repeat (first | exact Drawn0.refl _ | apply Drawn0.step)⟩
 ·rw [if_neg c4] at H
  have c4b0 : decide (a1 ≤ a0) = false := decide_eq_false c4
  clear c4
  obtain rfl := Option.some.inj H
  go_enter Try.func52, Try.ntmps52
  go_wp2
  go_ret
  exact ⟨by first | rfl | (simp; done) | (simp [*]; done), by repeat (first | exact Drawn0.refl _ | apply Drawn0.step)⟩

/-! ### impl_each: function 78 -/
def impl_each.l0 : Nat → Int → Int → List Int → Int → Int → Option (Bool)
 | 0, _, _, _, _, _ => none
 | k + 1, x2, x3, x15, x16, x17 => if x17 < x16 then (if 0 ≤ x17 then (if x17 < (x15.length : Int) then ((impl_in.f (rd x15 x17) x2 x3).bind fun t102 => (if t102 = true then (impl_each.l0 k x2 x3 x15 x16 (wrap64 (x17 + 1))) else (some false))) else (none)) else (none)) else (some true)
def impl_each.f (k : Nat) (l0 : List Int) (a1 : Int) (a2 : Int) (a3 : Int) : Option (Bool) := if (l0.length : Int) = a1 then (impl_each.l0 k a2 a3 l0 (l0.length : Int) 0) else (some false)
theorem impl_each.mono_l : ∀ k, (∀ y0 y1 y2 y3 y4, LeO (impl_each.l0 k y0 y1 y2 y3 y4) (impl_each.l0 (k + 1) y0 y1 y2 y3 y4))
 | 0 => fun _ _ _ _ _ r h => by simp [impl_each.l0] at h
 | k + 1 => by
  have ih0 := impl_each.mono_l k
  ·intro y0 y1 y2 y3 y4
   unfold impl_each.l0
   repeat' first
   | (with_reducible exact ih0 _ _ _ _ _)
   | (with_reducible exact LeO.refl _)
   | (with_reducible exact LeO.none _)
   | (with_reducible refine LeO.ite ?_ ?_)
   | (with_reducible refine LeO.bind ?_ (fun _ => ?_))
   | exact ih0 _ _ _ _ _
   | exact LeO.none _
   | refine LeO.ite ?_ ?_
   | refine LeO.bind ?_ (fun _ => ?_)
theorem impl_each.mono : ∀ a0 a1 a2 a3 k, LeO (impl_each.f k a0 a1 a2 a3) (impl_each.f (k + 1) a0 a1 a2 a3) := by
 intro a0 a1 a2 a3 k
 have ih0 := impl_each.mono_l k
 unfold impl_each.f
 repeat' first
   | (with_reducible exact ih0 _ _ _ _ _)
   | (with_reducible exact LeO.refl _)
   | (with_reducible exact LeO.none _)
   | (with_reducible refine LeO.ite ?_ ?_)
   | (with_reducible refine LeO.bind ?_ (fun _ => ?_))
   | exact ih0 _ _ _ _ _
   | exact LeO.none _
   | refine LeO.ite ?_ ?_
   | refine LeO.bind ?_ (fun _ => ?_)
set_option maxHeartbeats 8000000 in
set_option maxRecDepth 100000 in
theorem impl_each.calls (k : Nat) (A0 : Option Addr) (c0 : Nat) (l0 : List Int) (a1 : Int) (a2 : Int) (a3 : Int) (r : Bool) (w : World) (hr0 : Kd.C (Kd.int .i64) w A0 l0.length l0) (hc0 : l0.length ≤ c0) (h : impl_each.f k l0 a1 a2 a3 = some r) :
  Calls Try.prog 78 #[.slice A0 l0.length c0, .int .i64 a1, .int .i64 a2, .int .i64 a3] w fun e w' => e = .returned (.bool r) ∧ Drawn0 w w' := by
 have HR0 := Aside0.mk hr0; have HC0 := Aside0.mk hc0; clear hr0 hc0
 have H : (if (l0.length : Int) = a1 then (impl_each.l0 k a2 a3 l0 (l0.length : Int) 0) else (some false)) = some r := h
 clear h
 by_cases c5 : (l0.length : Int) = a1
 ·rw [if_pos c5] at H
  have c5b0 := beq_iff_eq.mpr c5
  have c5b1 := bne_eq_false_iff_eq.mpr c5
  clear c5; have H' := Aside0.mk H; clear H
  go_enter Try.func78, Try.ntmps78
  go_wp2
  go_loopg [17] k (fun kq v17 w' => ∃ (x17_1 : Int), v17 = .int .i64 x17_1 ∧ Aside0 (impl_each.l0 kq a2 a3 l0 (l0.length : Int) x17_1 = some r) ∧ Aside0 (kq ≤ k) ∧ Drawn0 w w')
  case atStart => exact ⟨(0), (by first | rfl | (simp; done) | (simp [*]; done)), H', ⟨Nat.le_refl _⟩, by repeat (first | exact Drawn0.refl _ | apply Drawn0.step)⟩
  case round =>
   clear H'; (try clear c5); (try clear c5b0); (try clear c5b1)
   obtain ⟨x17_1, rfl, HA, HK1, ⟨m1, rfl⟩⟩ := hrel
   cases gk with
   | zero => exact absurd HA.out (by simp [impl_each.l0])
   | succ k1 =>
    have H := HA.out; clear HA
    simp only [impl_each.l0] at H
    by_cases c6 : x17_1 < (l0.length : Int)
    ·rw [if_pos c6] at H
     have c6b0 := decide_eq_true c6
     clear c6
     obtain ⟨c7, H⟩ := ifS_ H
     have c7b0 : decide (0 ≤ x17_1) = true := decide_eq_true c7
     clear c7
     obtain ⟨c8, H⟩ := ifS_ H
     have c8b0 : decide (x17_1 < (l0.length : Int)) = true := decide_eq_true c8
     clear c8; replace H := Option.bind_eq_some_iff.mp H
     obtain ⟨t102, A90, H⟩ := H
     replace H : (if t102 = true then (impl_each.l0 k1 a2 a3 l0 (l0.length : Int) (wrap64 (x17_1 + 1))) else (some false)) = some r := H
     have A9 := Aside0.mk A90; clear A90
     by_cases c10 : t102 = true
     ·subst c10
      replace H := ifT_ H; have H' := Aside0.mk H; clear H
      have p101 : 0 ≤ (x17_1 : Int) := dA_
      have q101 : x17_1 < (l0.length : Int) := dA_
      obtain ⟨ad101, e101, hx101_0⟩ := Kd.at_int HR0.out x17_1 p101 q101
      cases e101
      replace p101 := eq_true p101; replace q101 := eq_true q101
      go_wp2_with (first | ((with_reducible refine gate_callee (f := 52) rfl ?_); refine gL_ (some 24) Try.func52 #[.int .i64 (rd l0 x17_1), .int .i64 a2, .int .i64 a3] ?_; (with_reducible refine (impl_in.calls (rd l0 x17_1) a2 a3 true _ A9.out).mono ?_); rintro e w' ⟨rfl, ⟨nd, rfl⟩⟩; refine ⟨_, rfl, ?_⟩))
      go_roundg k1
      case measure => have := HK1.out; omega
      case rel => exact ⟨(wrap64 (x17_1 + 1)), (by first | rfl | (simp; done) | (simp [*]; done)), H', ⟨by have := HK1.out; omega⟩, by repeat (first | exact Drawn0.refl _ | apply Drawn0.step)⟩
     ·replace c10 := Bool.eq_false_iff.mpr c10
      subst c10
      replace H := ifF_ H
      obtain rfl := Option.some.inj H
      have p101 : 0 ≤ (x17_1 : Int) := dA_
      have q101 : x17_1 < (l0.length : Int) := dA_
      obtain ⟨ad101, e101, hx101_0⟩ := Kd.at_int HR0.out x17_1 p101 q101
      cases e101
      replace p101 := eq_true p101; replace q101 := eq_true q101
      go_wp2_with (first | ((with_reducible refine gate_callee (f := 52) rfl ?_); refine gL_ (some 24) Try.func52 #[.int .i64 (rd l0 x17_1), .int .i64 a2, .int .i64 a3] ?_; (with_reducible refine (impl_in.calls (rd l0 x17_1) a2 a3 false _ A9.out).mono ?_); rintro e w' ⟨rfl, ⟨nd, rfl⟩⟩; refine ⟨_, rfl, ?_⟩))
      go_ret
      exact ⟨by first | rfl | (simp; done) | (simp [*]; done), by repeat (first | exact Drawn0.refl _ | apply Drawn0.step)⟩
    ·rw [if_neg c6] at H
     have c6b0 := decide_eq_false c6
     clear c6
     obtain rfl := Option.some.inj H
     go_wp2
     go_ret
     exact ⟨by first | rfl | (simp; done) | (simp [*]; done), by repeat (first | exact Drawn0.refl _ | apply Drawn0.step)⟩
 ·rw [if_neg c5] at H
  have c5b0 := beq_eq_false_iff_ne.mpr c5
  have c5b1 := bne_iff_ne.mpr c5
  obtain rfl := Option.some.inj H
  go_enter Try.func78, Try.ntmps78
  go_wp2
  go_ret
  exact ⟨by first | rfl | (simp; done) | (simp [*]; done), by repeat (first | exact Drawn0.refl _ | apply Drawn0.step)⟩

/-! ### impl_SuiteOk: function 46 -/
mutual
def impl_SuiteOk.j0 : Nat → Bool → List (S39) → List Int → Option (Bool)
 | 0, _, _, _ => none
 | k + 1, x27, x104000, x104001 => if x27 = true then (some false) else (impl_SuiteOk.l0 k x104000 (x104000.length : Int) 0 x104000 x104001)
def impl_SuiteOk.l0 : Nat → List (S39) → Int → Int → List (S39) → List Int → Option (Bool)
 | 0, _, _, _, _, _ => none
 | k + 1, x29, x30, x31, x104000, x104001 => if x31 < x30 then (if 0 ≤ x31 then (if x31 < (x29.length : Int) then (impl_SuiteOk.l1 k x31 x29 x30 x31 ((rd_T39 x29 x31).f0) (((rd_T39 x29 x31).f0).length : Int) 0 x104000 x104001 ((rd_T39 x29 x31).f0) ((rd_T39 x29 x31).f1) ((rd_T39 x29 x31).f2) ((rd_T39 x29 x31).f3)) else (none)) else (none)) else (some true)
def impl_SuiteOk.l1 : Nat → Int → List (S39) → Int → Int → List Int → Int → Int → List (S39) → List Int → List Int → Int → Int → Int → Option (Bool)
 | 0, _, _, _, _, _, _, _, _, _, _, _, _, _ => none
 | k + 1, x3, x29, x30, x31, x37, x38, x39, x104000, x104001, x109000, x109001, x109002, x109003 => if x39 < x38 then (if 0 ≤ x39 then (if x39 < (x37.length : Int) then ((impl_in.f (rd x37 x39) 1 x3).bind fun t110 => (if t110 = true then (if x39 > 0 then (if 0 ≤ (wrap64 (x39 - 1)) then (if (wrap64 (x39 - 1)) < (x109000.length : Int) then (if (rd x109000 (wrap64 (x39 - 1))) ≥ (rd x37 x39) then (some false) else (impl_SuiteOk.l1 k x3 x29 x30 x31 x37 x38 (wrap64 (x39 + 1)) x104000 x104001 x109000 x109001 x109002 x109003)) else (none)) else (none)) else (impl_SuiteOk.l1 k x3 x29 x30 x31 x37 x38 (wrap64 (x39 + 1)) x104000 x104001 x109000 x109001 x109002 x109003)) else (some false))) else (none)) else (none)) else ((impl_in.f x109001 1 (x104001.length : Int)).bind fun t112 => (if t112 = true then ((impl_in.f x109002 0 1000000000000).bind fun t113 => (if t113 = true then ((impl_in.f x109003 1 5).bind fun t114 => (if t114 = true then (impl_SuiteOk.l0 k x29 x30 (wrap64 (x31 + 1)) x104000 x104001) else (some false))) else (some false))) else (some false)))
end
def impl_SuiteOk.f (k : Nat) (l0_0 : List (S39)) (l0_1 : List Int) : Option (Bool) := (impl_in.f (l0_0.length : Int) 1 60).bind fun t104 => (if t104 = true then ((impl_in.f (l0_1.length : Int) 1 6).bind fun t105 => (if t105 = true then ((impl_each.f k l0_1 (l0_1.length : Int) 1 60).bind fun t106 => (impl_SuiteOk.j0 k (!t106) l0_0 l0_1)) else (impl_SuiteOk.j0 k true l0_0 l0_1))) else (impl_SuiteOk.j0 k true l0_0 l0_1))
theorem impl_SuiteOk.mono_l : ∀ k, (∀ y0 y1 y2, LeO (impl_SuiteOk.j0 k y0 y1 y2) (impl_SuiteOk.j0 (k + 1) y0 y1 y2)) ∧ (∀ y0 y1 y2 y3 y4, LeO (impl_SuiteOk.l0 k y0 y1 y2 y3 y4) (impl_SuiteOk.l0 (k + 1) y0 y1 y2 y3 y4)) ∧ (∀ y0 y1 y2 y3 y4 y5 y6 y7 y8 y9 y10 y11 y12, LeO (impl_SuiteOk.l1 k y0 y1 y2 y3 y4 y5 y6 y7 y8 y9 y10 y11 y12) (impl_SuiteOk.l1 (k + 1) y0 y1 y2 y3 y4 y5 y6 y7 y8 y9 y10 y11 y12))
 | 0 => ⟨fun _ _ _ r h => by simp [impl_SuiteOk.j0] at h, fun _ _ _ _ _ r h => by simp [impl_SuiteOk.l0] at h, fun _ _ _ _ _ _ _ _ _ _ _ _ _ r h => by simp [impl_SuiteOk.l1] at h⟩
 | k + 1 => by
  obtain ⟨ih0, ih1, ih2⟩ := impl_SuiteOk.mono_l k
  refine ⟨?_, ?_, ?_⟩
  intro y0 y1 y2; unfold impl_SuiteOk.j0; rotate_left
  intro y0 y1 y2 y3 y4; unfold impl_SuiteOk.l0; rotate_left
  intro y0 y1 y2 y3 y4 y5 y6 y7 y8 y9 y10 y11 y12; unfold impl_SuiteOk.l1; rotate_left
  all_goals repeat' first
  | (with_reducible exact ih0 _ _ _)
  | (with_reducible exact ih1 _ _ _ _ _)
  | (with_reducible exact ih2 _ _ _ _ _ _ _ _ _ _ _ _ _)
  | (with_reducible exact impl_each.mono _ _ _ _ _)
  | (with_reducible exact LeO.refl _)
  | (with_reducible exact LeO.none _)
  | (with_reducible refine LeO.ite ?_ ?_)
  | (with_reducible refine LeO.bind ?_ (fun _ => ?_))
  | exact ih0 _ _ _
  | exact ih1 _ _ _ _ _
  | exact ih2 _ _ _ _ _ _ _ _ _ _ _ _ _
  | exact impl_each.mono _ _ _ _ _
  | exact LeO.none _
  | refine LeO.ite ?_ ?_
  | refine LeO.bind ?_ (fun _ => ?_)
theorem impl_SuiteOk.mono : ∀ a0 a1 k, LeO (impl_SuiteOk.f k a0 a1) (impl_SuiteOk.f (k + 1) a0 a1) := by
 intro a0 a1 k
 obtain ⟨ih0, ih1, ih2⟩ := impl_SuiteOk.mono_l k
 unfold impl_SuiteOk.f
 repeat' first
   | (with_reducible exact ih0 _ _ _)
   | (with_reducible exact ih1 _ _ _ _ _)
   | (with_reducible exact ih2 _ _ _ _ _ _ _ _ _ _ _ _ _)
   | (with_reducible exact impl_each.mono _ _ _ _ _)
   | (with_reducible exact LeO.refl _)
   | (with_reducible exact LeO.none _)
   | (with_reducible refine LeO.ite ?_ ?_)
   | (with_reducible refine LeO.bind ?_ (fun _ => ?_))
   | exact ih0 _ _ _
   | exact ih1 _ _ _ _ _
   | exact ih2 _ _ _ _ _ _ _ _ _ _ _ _ _
   | exact impl_each.mono _ _ _ _ _
   | exact LeO.none _
   | refine LeO.ite ?_ ?_
   | refine LeO.bind ?_ (fun _ => ?_)
set_option maxHeartbeats 8000000 in
set_option maxRecDepth 100000 in
theorem impl_SuiteOk.calls (k : Nat) (A0_0 : Option Addr) (c0_0 : Nat) (l0_0 : List (S39)) (A0_1 : Option Addr) (c0_1 : Nat) (l0_1 : List Int) (r : Bool) (w : World) (hr0_0 : Kd.C k39 w A0_0 l0_0.length l0_0) (hc0_0 : l0_0.length ≤ c0_0) (hr0_1 : Kd.C (Kd.int .i64) w A0_1 l0_1.length l0_1) (hc0_1 : l0_1.length ≤ c0_1) (h : impl_SuiteOk.f k l0_0 l0_1 = some r) :
  Calls Try.prog 46 #[.agg #[.slice A0_0 l0_0.length c0_0, .slice A0_1 l0_1.length c0_1]] w fun e w' => e = .returned (.bool r) ∧ Below w.heap.size w w' := by
 have hu27 := Try.underlying27; have hu39 := Try.underlying39; have HR0_0 := Aside0.mk hr0_0; have HC0_0 := Aside0.mk hc0_0; clear hr0_0 hc0_0; have HR0_1 := Aside0.mk hr0_1; have HC0_1 := Aside0.mk hc0_1; clear hr0_1 hc0_1
 have HB := Aside0.mk (Below.refl w.heap.size w)
 have H : ((impl_in.f (l0_0.length : Int) 1 60).bind fun t104 => (if t104 = true then ((impl_in.f (l0_1.length : Int) 1 6).bind fun t105 => (if t105 = true then ((impl_each.f k l0_1 (l0_1.length : Int) 1 60).bind fun t106 => (impl_SuiteOk.j0 k (!t106) l0_0 l0_1)) else (impl_SuiteOk.j0 k true l0_0 l0_1))) else (impl_SuiteOk.j0 k true l0_0 l0_1))) = some r := h
 clear h; have HC2 := Aside0.mk H; clear H
 go_enter Try.func46, Try.ntmps46
 go_upto_region 1 with (first | ((with_reducible refine gate_dst (N := 1) rfl ?_); (try (refine gate_guard (by rfl) ?_; dsimp only)); refine box_event ?hg (N := 1) ?hd (cs := #[.slice A0_0 l0_0.length c0_0, .slice A0_1 l0_1.length c0_1]) (t := 27) ?hr ?_; (case hd => rfl); (case hg => rfl); (case hr => first | (go_simp; done) | (go_simp; rfl)); intro gb103 hg w3 hbox hb; have BK103 := Aside0.mk (hbox); have GW103 := gE_ HB hg; have GE103 := gE_ HB hg; replace HB := bS_ HB hb; clear hb hbox hg))
 (try simp only [Act.put, List.setIfInBounds_toArray, List.set_cons_zero, List.set_cons_succ])
 go_cut [27] (fun v27 wc => ∃ (kq : Nat) (x27_1 : Bool), v27 = .bool x27_1 ∧ Aside0 (impl_SuiteOk.j0 kq x27_1 l0_0 l0_1 = some r) ∧ Aside0 (kq ≤ k) ∧ Aside0 (wc.heap[gb103]? = some (.cells #[(.slice A0_0 l0_0.length c0_0), (.slice A0_1 l0_1.length c0_1)] 27 (0, 0))) ∧ Aside0 (Below w.heap.size w wc))
 case first =>
  have H := HC2.out; clear HC2; replace H := Option.bind_eq_some_iff.mp H
  obtain ⟨t104, A40, H⟩ := H
  replace H : (if t104 = true then ((impl_in.f (l0_1.length : Int) 1 6).bind fun t105 => (if t105 = true then ((impl_each.f k l0_1 (l0_1.length : Int) 1 60).bind fun t106 => (impl_SuiteOk.j0 k (!t106) l0_0 l0_1)) else (impl_SuiteOk.j0 k true l0_0 l0_1))) else (impl_SuiteOk.j0 k true l0_0 l0_1)) = some r := H
  have A4 := Aside0.mk A40; clear A40
  by_cases c5 : t104 = true
  ·subst c5
   replace H := ifT_ H; replace H := Option.bind_eq_some_iff.mp H
   obtain ⟨t105, A60, H⟩ := H
   replace H : (if t105 = true then ((impl_each.f k l0_1 (l0_1.length : Int) 1 60).bind fun t106 => (impl_SuiteOk.j0 k (!t106) l0_0 l0_1)) else (impl_SuiteOk.j0 k true l0_0 l0_1)) = some r := H
   have A6 := Aside0.mk A60; clear A60
   by_cases c7 : t105 = true
   ·subst c7
    replace H := ifT_ H; replace H := Option.bind_eq_some_iff.mp H
    obtain ⟨t106, A80, H⟩ := H
    replace H : (impl_SuiteOk.j0 k (!t106) l0_0 l0_1) = some r := H
    have A8 := Aside0.mk A80; clear A80; have H' := Aside0.mk H; clear H
    obtain ⟨hcz9_0, hcz9_1, hfz9_0, hfz9_1⟩ := cf2_ BK103
    go_wp2_with (first | ((with_reducible refine gate_callee (f := 52) rfl ?_); refine gL_ (some 10) Try.func52 #[.int .i64 (l0_0.length : Int), .int .i64 1, .int .i64 60] ?_; (with_reducible refine (impl_in.calls (l0_0.length : Int) 1 60 true _ A4.out).mono ?_); rintro e w' ⟨rfl, ⟨nd, rfl⟩⟩; refine ⟨_, rfl, ?_⟩) | (go_at_call 52; (with_reducible refine (impl_in.calls (l0_1.length : Int) 1 6 true _ A6.out).mono ?_); rintro e w' ⟨rfl, ⟨nd, rfl⟩⟩) | (go_at_call 78; (with_reducible refine (impl_each.calls k _ _ l0_1 (l0_1.length : Int) 1 60 t106 _ ?side1 ?side2 A8.out).mono ?_); (case side1 => repeat (first | exact (Kd.C_below HR0_1.out sABelo_1) | (with_reducible refine Kd.C_alloc ?_ _) | (with_reducible refine Kd.C_drewN ?_ _) | (with_reducible refine Kd.C_drew ?_))); (case side2 => exact HC0_1.out); rintro e w' ⟨rfl, ⟨nd, rfl⟩⟩))
    go_meet
    case rel => exact ⟨_, (!t106), (by first | rfl | (simp; done) | (simp [*]; done)), H', ⟨by first | omega | exact Nat.le_refl _⟩, ⟨bT_ BK103⟩, ⟨sABelo_1⟩⟩
   ·replace c7 := Bool.eq_false_iff.mpr c7
    subst c7
    replace H := ifF_ H; have H' := Aside0.mk H; clear H
    obtain ⟨hcz10_0, hcz10_1, hfz10_0, hfz10_1⟩ := cf2_ BK103
    go_wp2_with (first | ((with_reducible refine gate_callee (f := 52) rfl ?_); refine gL_ (some 10) Try.func52 #[.int .i64 (l0_0.length : Int), .int .i64 1, .int .i64 60] ?_; (with_reducible refine (impl_in.calls (l0_0.length : Int) 1 60 true _ A4.out).mono ?_); rintro e w' ⟨rfl, ⟨nd, rfl⟩⟩; refine ⟨_, rfl, ?_⟩) | (go_at_call 52; (with_reducible refine (impl_in.calls (l0_1.length : Int) 1 6 false _ A6.out).mono ?_); rintro e w' ⟨rfl, ⟨nd, rfl⟩⟩))
    go_meet
    case rel => exact ⟨_, (true), (by first | rfl | (simp; done) | (simp [*]; done)), H', ⟨by first | omega | exact Nat.le_refl _⟩, ⟨bT_ BK103⟩, ⟨sABelo_1⟩⟩
  ·replace c5 := Bool.eq_false_iff.mpr c5
   subst c5
   replace H := ifF_ H; have H' := Aside0.mk H; clear H
   obtain ⟨hcz11_0, hcz11_1, hfz11_0, hfz11_1⟩ := cf2_ BK103
   go_wp2_with (first | ((with_reducible refine gate_callee (f := 52) rfl ?_); refine gL_ (some 10) Try.func52 #[.int .i64 (l0_0.length : Int), .int .i64 1, .int .i64 60] ?_; (with_reducible refine (impl_in.calls (l0_0.length : Int) 1 60 false _ A4.out).mono ?_); rintro e w' ⟨rfl, ⟨nd, rfl⟩⟩; refine ⟨_, rfl, ?_⟩))
   go_meet
   case rel => exact ⟨_, (true), (by first | rfl | (simp; done) | (simp [*]; done)), H', ⟨by first | omega | exact Nat.le_refl _⟩, ⟨bT_ BK103⟩, ⟨sABelo_1⟩⟩
 case rest =>
  clear HC2
  obtain ⟨kq, x27_1, rfl, HA, HJ1, BK103, HB⟩ := hcut
  cases kq with
  | zero => exact absurd HA.out (by simp [impl_SuiteOk.j0])
  | succ kj1 =>
   have H := HA.out; clear HA
   simp only [impl_SuiteOk.j0] at H
   by_cases c12 : x27_1 = true
   ·subst c12
    replace H := ifT_ H
    obtain rfl := Option.some.inj H
    go_wp2
    go_ret
    exact ⟨by first | rfl | (simp [errW_none, errW_some] <;> rfl) | (simp [*, errW_none, errW_some] <;> rfl), sABelo_1⟩
   ·replace c12 := Bool.eq_false_iff.mpr c12
    subst c12
    replace H := ifF_ H; have H' := Aside0.mk H; clear H
    obtain ⟨hcz13_0, hcz13_1, hfz13_0, hfz13_1⟩ := cf2_ BK103
    go_wp2
    go_loopg [31] kj1 (fun kq v31 w' => ∃ (x31_2 : Int), v31 = .int .i64 x31_2 ∧ Aside0 (impl_SuiteOk.l0 kq l0_0 (l0_0.length : Int) x31_2 l0_0 l0_1 = some r) ∧ Aside0 (kq ≤ kj1) ∧ Aside0 (w'.heap[gb103]? = some (.cells #[(.slice A0_0 l0_0.length c0_0), (.slice A0_1 l0_1.length c0_1)] 27 (0, 0))) ∧ Aside0 (Below w.heap.size w w'))
    case atStart => exact ⟨(0), (by first | rfl | (simp; done) | (simp [*]; done)), H', ⟨Nat.le_refl _⟩, ⟨bT_ BK103⟩, ⟨sABelo_1⟩⟩
    case round =>
     clear H'; (try clear c12); (try clear hcz13_0); (try clear hcz13_1); (try clear hfz13_0); (try clear hfz13_1)
     obtain ⟨x31_2, rfl, HA, HK2, BK103, HB⟩ := hrel
     cases gk with
     | zero => exact absurd HA.out (by simp [impl_SuiteOk.l0])
     | succ k2 =>
      have H := HA.out; clear HA
      simp only [impl_SuiteOk.l0] at H
      by_cases c14 : x31_2 < (l0_0.length : Int)
      ·rw [if_pos c14] at H
       have c14b0 := decide_eq_true c14
       clear c14
       obtain ⟨c15, H⟩ := ifS_ H
       have c15b0 : decide (0 ≤ x31_2) = true := decide_eq_true c15
       clear c15
       obtain ⟨c16, H⟩ := ifS_ H
       have c16b0 : decide (x31_2 < (l0_0.length : Int)) = true := decide_eq_true c16
       clear c16; have H' := Aside0.mk H; clear H
       have p107 : 0 ≤ (x31_2 : Int) := dA_
       have q107 : x31_2 < (l0_0.length : Int) := dA_
       obtain ⟨ad107, A107_0, c107_0, e107, hx107_0, hx107_1, hx107_2, hx107_3, hl107_0, hi107_0⟩ := at_T39 HR0_0.out x31_2 p107 q107
       cases e107
       replace hx107_0 := hX_ HB hx107_0
       replace hx107_1 := hX_ HB hx107_1
       replace hx107_2 := hX_ HB hx107_2
       replace hx107_3 := hX_ HB hx107_3
       have HR107_0 := Aside0.mk hi107_0; have HC107_0 := Aside0.mk hl107_0; clear hi107_0 hl107_0; replace p107 := eq_true p107; replace q107 := eq_true q107
       go_wp2_with (first | ((with_reducible refine gate_dst (N := 4) rfl ?_); (try (refine gate_guard (by rfl) ?_; dsimp only)); refine box_event ?hg (N := 4) ?hd (cs := #[.slice none 0 0, .int .i64 0, .int .i64 0, .int .i64 0]) (t := 39) ?hr ?_; (case hd => rfl); (case hg => rfl); (case hr => first | (go_simp; done) | (go_simp; rfl)); intro gb108 hg w17 hbox hb; have BK108 := Aside0.mk (hbox); have GW108 := gE_ HB hg; have GE108 := gE_ HB hg; replace HB := bS_ HB hb; have NB103_108 := nL_ BK103 hg; have NB108_103 := nG_ BK103 hg; replace BK103 := bB_ BK103 hb; clear hb hbox hg; have hnb18 := NB108_103.out; have hnc18 := NB103_108.out; obtain ⟨hcz19_0, hcz19_1, hcz19_2, hcz19_3, hfz19_0, hfz19_1, hfz19_2, hfz19_3⟩ := cf4_ BK108))
       go_loopg [39] k2 (fun kq v39 w' => ∃ (x39_3 : Int), v39 = .int .i64 x39_3 ∧ Aside0 (impl_SuiteOk.l1 kq x31_2 l0_0 (l0_0.length : Int) x31_2 ((rd_T39 l0_0 x31_2).f0) (((rd_T39 l0_0 x31_2).f0).length : Int) x39_3 l0_0 l0_1 ((rd_T39 l0_0 x31_2).f0) ((rd_T39 l0_0 x31_2).f1) ((rd_T39 l0_0 x31_2).f2) ((rd_T39 l0_0 x31_2).f3) = some r) ∧ Aside0 (kq ≤ k2) ∧ Aside0 (w'.heap[gb103]? = some (.cells #[(.slice (some ad107) l0_0.length c0_0), (.slice A0_1 l0_1.length c0_1)] 27 (0, 0))) ∧ Aside0 (w'.heap[gb108]? = some (.cells #[(.slice A107_0 ((rd_T39 l0_0 x31_2).f0).length c107_0), .int .i64 ((rd_T39 l0_0 x31_2).f1), .int .i64 ((rd_T39 l0_0 x31_2).f2), .int .i64 ((rd_T39 l0_0 x31_2).f3)] 39 (0, 0))) ∧ Aside0 (Below w.heap.size w w'))
       case atStart => exact ⟨(0), (by first | rfl | (simp; done) | (simp [*]; done)), H', ⟨Nat.le_refl _⟩, ⟨bF_ BK103 NB103_108⟩, ⟨bP_ BK108⟩, ⟨sABelo_1⟩⟩
       case round =>
        clear H'; (try clear c12); (try clear c14); (try clear c14b0); (try clear c15); (try clear c15b0); (try clear c16); (try clear c16b0); (try clear hcz13_0); (try clear hcz13_1); (try clear hcz19_0); (try clear hcz19_1); (try clear hcz19_2); (try clear hcz19_3); (try clear hfz13_0); (try clear hfz13_1); (try clear hfz19_0); (try clear hfz19_1); (try clear hfz19_2); (try clear hfz19_3); (try clear hx107_0); (try clear hx107_1); (try clear hx107_2); (try clear hx107_3); (try clear p107); (try clear q107)
        obtain ⟨x39_3, rfl, HA, HK3, BK103, BK108, HB⟩ := hrel
        cases gk with
        | zero => exact absurd HA.out (by simp [impl_SuiteOk.l1])
        | succ k3 =>
         have H := HA.out; clear HA
         simp only [impl_SuiteOk.l1] at H
         by_cases c20 : x39_3 < (((rd_T39 l0_0 x31_2).f0).length : Int)
         ·rw [if_pos c20] at H
          have c20b0 := decide_eq_true c20
          clear c20
          obtain ⟨c21, H⟩ := ifS_ H
          have c21b0 : decide (0 ≤ x39_3) = true := decide_eq_true c21
          clear c21
          obtain ⟨c22, H⟩ := ifS_ H
          have c22b0 : decide (x39_3 < (((rd_T39 l0_0 x31_2).f0).length : Int)) = true := decide_eq_true c22
          clear c22; replace H := Option.bind_eq_some_iff.mp H
          obtain ⟨t110, A230, H⟩ := H
          replace H : (if t110 = true then (if x39_3 > 0 then (if 0 ≤ (wrap64 (x39_3 - 1)) then (if (wrap64 (x39_3 - 1)) < (((rd_T39 l0_0 x31_2).f0).length : Int) then (if (rd ((rd_T39 l0_0 x31_2).f0) (wrap64 (x39_3 - 1))) ≥ (rd ((rd_T39 l0_0 x31_2).f0) x39_3) then (some false) else (impl_SuiteOk.l1 k3 x31_2 l0_0 (l0_0.length : Int) x31_2 ((rd_T39 l0_0 x31_2).f0) (((rd_T39 l0_0 x31_2).f0).length : Int) (wrap64 (x39_3 + 1)) l0_0 l0_1 ((rd_T39 l0_0 x31_2).f0) ((rd_T39 l0_0 x31_2).f1) ((rd_T39 l0_0 x31_2).f2) ((rd_T39 l0_0 x31_2).f3))) else (none)) else (none)) else (impl_SuiteOk.l1 k3 x31_2 l0_0 (l0_0.length : Int) x31_2 ((rd_T39 l0_0 x31_2).f0) (((rd_T39 l0_0 x31_2).f0).length : Int) (wrap64 (x39_3 + 1)) l0_0 l0_1 ((rd_T39 l0_0 x31_2).f0) ((rd_T39 l0_0 x31_2).f1) ((rd_T39 l0_0 x31_2).f2) ((rd_T39 l0_0 x31_2).f3))) else (some false)) = some r := H
          have A23 := Aside0.mk A230; clear A230
          by_cases c24 : t110 = true
          ·subst c24
           replace H := ifT_ H
           by_cases c25 : x39_3 > 0
           ·rw [if_pos c25] at H
            have c25b0 : decide (0 < x39_3) = true := decide_eq_true c25
            clear c25
            obtain ⟨ji26, hji26⟩ : ∃ j_ : Int, (wrap64 (x39_3 - 1)) = j_ := ⟨_, rfl⟩
            replace H : (if 0 ≤ (ji26) then (if (ji26) < (((rd_T39 l0_0 x31_2).f0).length : Int) then (if (rd ((rd_T39 l0_0 x31_2).f0) (ji26)) ≥ (rd ((rd_T39 l0_0 x31_2).f0) x39_3) then (some false) else (impl_SuiteOk.l1 k3 x31_2 l0_0 (l0_0.length : Int) x31_2 ((rd_T39 l0_0 x31_2).f0) (((rd_T39 l0_0 x31_2).f0).length : Int) (wrap64 (x39_3 + 1)) l0_0 l0_1 ((rd_T39 l0_0 x31_2).f0) ((rd_T39 l0_0 x31_2).f1) ((rd_T39 l0_0 x31_2).f2) ((rd_T39 l0_0 x31_2).f3))) else (none)) else (none)) = some r := by first | (rw [hji26] at H; exact H) | (simp only [hji26] at H ⊢; exact H)
            (try rw [hji26] at A23)
            have hji26w : (IntKind.i64.wrap (x39_3 - 1)) = ji26 := (i64_w _).trans hji26
            obtain ⟨c27, H⟩ := ifS_ H
            have c27b0 : decide (0 ≤ (ji26)) = true := decide_eq_true c27
            clear c27
            obtain ⟨c28, H⟩ := ifS_ H
            have c28b0 : decide ((ji26) < (((rd_T39 l0_0 x31_2).f0).length : Int)) = true := decide_eq_true c28
            clear c28
            by_cases c29 : (rd ((rd_T39 l0_0 x31_2).f0) (ji26)) ≥ (rd ((rd_T39 l0_0 x31_2).f0) x39_3)
            ·rw [if_pos c29] at H
             have c29b0 : decide ((rd ((rd_T39 l0_0 x31_2).f0) x39_3) ≤ (rd ((rd_T39 l0_0 x31_2).f0) (ji26))) = true := decide_eq_true c29
             clear c29
             obtain rfl := Option.some.inj H
             have p109 : 0 ≤ (x39_3 : Int) := dA_
             have q109 : x39_3 < (((rd_T39 l0_0 x31_2).f0).length : Int) := dA_
             obtain ⟨ad109, e109, hx109_0⟩ := Kd.at_int HR107_0.out x39_3 p109 q109
             cases e109
             replace hx109_0 := hX_ HB hx109_0
             replace p109 := eq_true p109; replace q109 := eq_true q109
             go_wp2_with (first | ((with_reducible refine gate_callee (f := 52) rfl ?_); refine gL_ (some 46) Try.func52 #[.int .i64 (rd ((rd_T39 l0_0 x31_2).f0) x39_3), .int .i64 1, .int .i64 x31_2] ?_; (with_reducible refine (impl_in.calls (rd ((rd_T39 l0_0 x31_2).f0) x39_3) 1 x31_2 true _ A23.out).mono ?_); rintro e w' ⟨rfl, ⟨nd, rfl⟩⟩; refine ⟨_, rfl, ?_⟩; have hnb30 := NB108_103.out; have hnc30 := NB103_108.out; obtain ⟨hcz31_0, hcz31_1, hcz31_2, hcz31_3, hfz31_0, hfz31_1, hfz31_2, hfz31_3⟩ := cf4_ BK108; have p111 : 0 ≤ ((ji26) : Int) := dA_; have q111 : (ji26) < (((rd_T39 l0_0 x31_2).f0).length : Int) := dA_; obtain ⟨ad111, e111, hx111_0⟩ := Kd.at_int HR107_0.out (ji26) p111 q111; obtain rfl : ad109 = ad111 := (by injection e111); replace hx111_0 := hX_ HB hx111_0; replace p111 := eq_true p111; replace q111 := eq_true q111))
             go_ret
             exact ⟨by first | rfl | (simp [errW_none, errW_some] <;> rfl) | (simp only [← hji26]; first | rfl | (simp [errW_none, errW_some] <;> rfl)) | (simp [*, errW_none, errW_some] <;> rfl), sABelo_1⟩
            ·rw [if_neg c29] at H
             have c29b0 : decide ((rd ((rd_T39 l0_0 x31_2).f0) x39_3) ≤ (rd ((rd_T39 l0_0 x31_2).f0) (ji26))) = false := decide_eq_false c29
             clear c29; have H' := Aside0.mk H; clear H
             have p109 : 0 ≤ (x39_3 : Int) := dA_
             have q109 : x39_3 < (((rd_T39 l0_0 x31_2).f0).length : Int) := dA_
             obtain ⟨ad109, e109, hx109_0⟩ := Kd.at_int HR107_0.out x39_3 p109 q109
             cases e109
             replace hx109_0 := hX_ HB hx109_0
             replace p109 := eq_true p109; replace q109 := eq_true q109
             go_wp2_with (first | ((with_reducible refine gate_callee (f := 52) rfl ?_); refine gL_ (some 46) Try.func52 #[.int .i64 (rd ((rd_T39 l0_0 x31_2).f0) x39_3), .int .i64 1, .int .i64 x31_2] ?_; (with_reducible refine (impl_in.calls (rd ((rd_T39 l0_0 x31_2).f0) x39_3) 1 x31_2 true _ A23.out).mono ?_); rintro e w' ⟨rfl, ⟨nd, rfl⟩⟩; refine ⟨_, rfl, ?_⟩; have hnb32 := NB108_103.out; have hnc32 := NB103_108.out; obtain ⟨hcz33_0, hcz33_1, hcz33_2, hcz33_3, hfz33_0, hfz33_1, hfz33_2, hfz33_3⟩ := cf4_ BK108; have p111 : 0 ≤ ((ji26) : Int) := dA_; have q111 : (ji26) < (((rd_T39 l0_0 x31_2).f0).length : Int) := dA_; obtain ⟨ad111, e111, hx111_0⟩ := Kd.at_int HR107_0.out (ji26) p111 q111; obtain rfl : ad109 = ad111 := (by injection e111); replace hx111_0 := hX_ HB hx111_0; replace p111 := eq_true p111; replace q111 := eq_true q111))
             go_roundg k3
             case measure => have := HJ1.out; have := HK2.out; have := HK3.out; omega
             case rel => exact ⟨(wrap64 (x39_3 + 1)), (by first | rfl | (simp; done) | (simp [*]; done)), H', ⟨by have := HJ1.out; have := HK2.out; have := HK3.out; omega⟩, ⟨bT_ BK103⟩, ⟨bT_ BK108⟩, ⟨sABelo_1⟩⟩
           ·rw [if_neg c25] at H
            have c25b0 : decide (0 < x39_3) = false := decide_eq_false c25
            clear c25; have H' := Aside0.mk H; clear H
            have p109 : 0 ≤ (x39_3 : Int) := dA_
            have q109 : x39_3 < (((rd_T39 l0_0 x31_2).f0).length : Int) := dA_
            obtain ⟨ad109, e109, hx109_0⟩ := Kd.at_int HR107_0.out x39_3 p109 q109
            cases e109
            replace hx109_0 := hX_ HB hx109_0
            replace p109 := eq_true p109; replace q109 := eq_true q109
            go_wp2_with (first | ((with_reducible refine gate_callee (f := 52) rfl ?_); refine gL_ (some 46) Try.func52 #[.int .i64 (rd ((rd_T39 l0_0 x31_2).f0) x39_3), .int .i64 1, .int .i64 x31_2] ?_; (with_reducible refine (impl_in.calls (rd ((rd_T39 l0_0 x31_2).f0) x39_3) 1 x31_2 true _ A23.out).mono ?_); rintro e w' ⟨rfl, ⟨nd, rfl⟩⟩; refine ⟨_, rfl, ?_⟩))
            go_roundg k3
            case measure => have := HJ1.out; have := HK2.out; have := HK3.out; omega
            case rel => exact ⟨(wrap64 (x39_3 + 1)), (by first | rfl | (simp; done) | (simp [*]; done)), H', ⟨by have := HJ1.out; have := HK2.out; have := HK3.out; omega⟩, ⟨bT_ BK103⟩, ⟨bT_ BK108⟩, ⟨sABelo_1⟩⟩
          ·replace c24 := Bool.eq_false_iff.mpr c24
           subst c24
           replace H := ifF_ H
           obtain rfl := Option.some.inj H
           have p109 : 0 ≤ (x39_3 : Int) := dA_
           have q109 : x39_3 < (((rd_T39 l0_0 x31_2).f0).length : Int) := dA_
           obtain ⟨ad109, e109, hx109_0⟩ := Kd.at_int HR107_0.out x39_3 p109 q109
           cases e109
           replace hx109_0 := hX_ HB hx109_0
           replace p109 := eq_true p109; replace q109 := eq_true q109
           go_wp2_with (first | ((with_reducible refine gate_callee (f := 52) rfl ?_); refine gL_ (some 46) Try.func52 #[.int .i64 (rd ((rd_T39 l0_0 x31_2).f0) x39_3), .int .i64 1, .int .i64 x31_2] ?_; (with_reducible refine (impl_in.calls (rd ((rd_T39 l0_0 x31_2).f0) x39_3) 1 x31_2 false _ A23.out).mono ?_); rintro e w' ⟨rfl, ⟨nd, rfl⟩⟩; refine ⟨_, rfl, ?_⟩))
           go_ret
           exact ⟨by first | rfl | (simp [errW_none, errW_some] <;> rfl) | (simp [*, errW_none, errW_some] <;> rfl), sABelo_1⟩
         ·rw [if_neg c20] at H
          have c20b0 := decide_eq_false c20
          clear c20; replace H := Option.bind_eq_some_iff.mp H
          obtain ⟨t112, A340, H⟩ := H
          replace H : (if t112 = true then ((impl_in.f ((rd_T39 l0_0 x31_2).f2) 0 1000000000000).bind fun t113 => (if t113 = true then ((impl_in.f ((rd_T39 l0_0 x31_2).f3) 1 5).bind fun t114 => (if t114 = true then (impl_SuiteOk.l0 k3 l0_0 (l0_0.length : Int) (wrap64 (x31_2 + 1)) l0_0 l0_1) else (some false))) else (some false))) else (some false)) = some r := H
          have A34 := Aside0.mk A340; clear A340
          by_cases c35 : t112 = true
          ·subst c35
           replace H := ifT_ H; replace H := Option.bind_eq_some_iff.mp H
           obtain ⟨t113, A360, H⟩ := H
           replace H : (if t113 = true then ((impl_in.f ((rd_T39 l0_0 x31_2).f3) 1 5).bind fun t114 => (if t114 = true then (impl_SuiteOk.l0 k3 l0_0 (l0_0.length : Int) (wrap64 (x31_2 + 1)) l0_0 l0_1) else (some false))) else (some false)) = some r := H
           have A36 := Aside0.mk A360; clear A360
           by_cases c37 : t113 = true
           ·subst c37
            replace H := ifT_ H; replace H := Option.bind_eq_some_iff.mp H
            obtain ⟨t114, A380, H⟩ := H
            replace H : (if t114 = true then (impl_SuiteOk.l0 k3 l0_0 (l0_0.length : Int) (wrap64 (x31_2 + 1)) l0_0 l0_1) else (some false)) = some r := H
            have A38 := Aside0.mk A380; clear A380
            by_cases c39 : t114 = true
            ·subst c39
             replace H := ifT_ H; have H' := Aside0.mk H; clear H; have hnb40 := NB108_103.out; have hnc40 := NB103_108.out
             obtain ⟨hcz41_0, hcz41_1, hcz41_2, hcz41_3, hfz41_0, hfz41_1, hfz41_2, hfz41_3⟩ := cf4_ BK108
             obtain ⟨hcz42_0, hcz42_1, hfz42_0, hfz42_1⟩ := cf2_ BK103
             go_wp2_with (first | ((with_reducible refine gate_callee (f := 52) rfl ?_); refine gL_ (some 68) Try.func52 #[.int .i64 ((rd_T39 l0_0 x31_2).f1), .int .i64 1, .int .i64 (l0_1.length : Int)] ?_; (with_reducible refine (impl_in.calls ((rd_T39 l0_0 x31_2).f1) 1 (l0_1.length : Int) true _ A34.out).mono ?_); rintro e w' ⟨rfl, ⟨nd, rfl⟩⟩; refine ⟨_, rfl, ?_⟩) | (go_at_call 52; (with_reducible refine (impl_in.calls ((rd_T39 l0_0 x31_2).f2) 0 1000000000000 true _ A36.out).mono ?_); rintro e w' ⟨rfl, ⟨nd, rfl⟩⟩) | (go_at_call 52; (with_reducible refine (impl_in.calls ((rd_T39 l0_0 x31_2).f3) 1 5 true _ A38.out).mono ?_); rintro e w' ⟨rfl, ⟨nd, rfl⟩⟩))
             go_roundg k3
             case measure => have := HJ1.out; have := HK2.out; have := HK3.out; omega
             case rel => exact ⟨(wrap64 (x31_2 + 1)), (by first | rfl | (simp; done) | (simp [*]; done)), H', ⟨by have := HJ1.out; have := HK2.out; have := HK3.out; omega⟩, ⟨bT_ BK103⟩, ⟨sABelo_1⟩⟩
            ·replace c39 := Bool.eq_false_iff.mpr c39
             subst c39
             replace H := ifF_ H
             obtain rfl := Option.some.inj H
             have hnb43 := NB108_103.out; have hnc43 := NB103_108.out
             obtain ⟨hcz44_0, hcz44_1, hcz44_2, hcz44_3, hfz44_0, hfz44_1, hfz44_2, hfz44_3⟩ := cf4_ BK108
             obtain ⟨hcz45_0, hcz45_1, hfz45_0, hfz45_1⟩ := cf2_ BK103
             go_wp2_with (first | ((with_reducible refine gate_callee (f := 52) rfl ?_); refine gL_ (some 68) Try.func52 #[.int .i64 ((rd_T39 l0_0 x31_2).f1), .int .i64 1, .int .i64 (l0_1.length : Int)] ?_; (with_reducible refine (impl_in.calls ((rd_T39 l0_0 x31_2).f1) 1 (l0_1.length : Int) true _ A34.out).mono ?_); rintro e w' ⟨rfl, ⟨nd, rfl⟩⟩; refine ⟨_, rfl, ?_⟩) | (go_at_call 52; (with_reducible refine (impl_in.calls ((rd_T39 l0_0 x31_2).f2) 0 1000000000000 true _ A36.out).mono ?_); rintro e w' ⟨rfl, ⟨nd, rfl⟩⟩) | (go_at_call 52; (with_reducible refine (impl_in.calls ((rd_T39 l0_0 x31_2).f3) 1 5 false _ A38.out).mono ?_); rintro e w' ⟨rfl, ⟨nd, rfl⟩⟩))
             go_ret
             exact ⟨by first | rfl | (simp [errW_none, errW_some] <;> rfl) | (simp [*, errW_none, errW_some] <;> rfl), sABelo_1⟩
           ·replace c37 := Bool.eq_false_iff.mpr c37
            subst c37
            replace H := ifF_ H
            obtain rfl := Option.some.inj H
            have hnb46 := NB108_103.out; have hnc46 := NB103_108.out
            obtain ⟨hcz47_0, hcz47_1, hcz47_2, hcz47_3, hfz47_0, hfz47_1, hfz47_2, hfz47_3⟩ := cf4_ BK108
            obtain ⟨hcz48_0, hcz48_1, hfz48_0, hfz48_1⟩ := cf2_ BK103
            go_wp2_with (first | ((with_reducible refine gate_callee (f := 52) rfl ?_); refine gL_ (some 68) Try.func52 #[.int .i64 ((rd_T39 l0_0 x31_2).f1), .int .i64 1, .int .i64 (l0_1.length : Int)] ?_; (with_reducible refine (impl_in.calls ((rd_T39 l0_0 x31_2).f1) 1 (l0_1.length : Int) true _ A34.out).mono ?_); rintro e w' ⟨rfl, ⟨nd, rfl⟩⟩; refine ⟨_, rfl, ?_⟩) | (go_at_call 52; (with_reducible refine (impl_in.calls ((rd_T39 l0_0 x31_2).f2) 0 1000000000000 false _ A36.out).mono ?_); rintro e w' ⟨rfl, ⟨nd, rfl⟩⟩))
            go_ret
            exact ⟨by first | rfl | (simp [errW_none, errW_some] <;> rfl) | (simp [*, errW_none, errW_some] <;> rfl), sABelo_1⟩
          ·replace c35 := Bool.eq_false_iff.mpr c35
           subst c35
           replace H := ifF_ H
           obtain rfl := Option.some.inj H
           have hnb49 := NB108_103.out; have hnc49 := NB103_108.out
           obtain ⟨hcz50_0, hcz50_1, hcz50_2, hcz50_3, hfz50_0, hfz50_1, hfz50_2, hfz50_3⟩ := cf4_ BK108
           obtain ⟨hcz51_0, hcz51_1, hfz51_0, hfz51_1⟩ := cf2_ BK103
           go_wp2_with (first | ((with_reducible refine gate_callee (f := 52) rfl ?_); refine gL_ (some 68) Try.func52 #[.int .i64 ((rd_T39 l0_0 x31_2).f1), .int .i64 1, .int .i64 (l0_1.length : Int)] ?_; (with_reducible refine (impl_in.calls ((rd_T39 l0_0 x31_2).f1) 1 (l0_1.length : Int) false _ A34.out).mono ?_); rintro e w' ⟨rfl, ⟨nd, rfl⟩⟩; refine ⟨_, rfl, ?_⟩))
           go_ret
           exact ⟨by first | rfl | (simp [errW_none, errW_some] <;> rfl) | (simp [*, errW_none, errW_some] <;> rfl), sABelo_1⟩
      ·rw [if_neg c14] at H
       have c14b0 := decide_eq_false c14
       clear c14
       obtain rfl := Option.some.inj H
       go_wp2
       go_ret
       exact ⟨by first | rfl | (simp [errW_none, errW_some] <;> rfl) | (simp [*, errW_none, errW_some] <;> rfl), sABelo_1⟩

/-! ### spec_l2In: function 60 -/
def spec_l2In.f (a0 : Int) (a1 : Int) (a2 : Int) : Option (Bool) := if a0 ≥ a1 then (some (decide (a0 ≤ a2))) else (some false)
set_option maxHeartbeats 8000000 in
set_option maxRecDepth 100000 in
theorem spec_l2In.calls (a0 : Int) (a1 : Int) (a2 : Int) (r : Bool) (w : World) (h : spec_l2In.f a0 a1 a2 = some r) :
  Calls Try.prog 60 #[.int .i64 a0, .int .i64 a1, .int .i64 a2] w fun e w' => e = .returned (.bool r) ∧ Drawn0 w w' := by
 have H : (if a0 ≥ a1 then (some (decide (a0 ≤ a2))) else (some false)) = some r := h
 clear h
 by_cases c4 : a0 ≥ a1
 ·rw [if_pos c4] at H
  have c4b0 : decide (a1 ≤ a0) = true := decide_eq_true c4
  clear c4
  obtain rfl := Option.some.inj H
  go_enter Try.func60, Try.ntmps60
  go_wp2
  go_ret
  exact ⟨by first | rfl | (simp; done) | (simp [*]; done), by repeat (first | exact Drawn0.refl _ | apply Drawn0.step)⟩
 ·rw [if_neg c4] at H
  have c4b0 : decide (a1 ≤ a0) = false := decide_eq_false c4
  clear c4
  obtain rfl := Option.some.inj H
  go_enter Try.func60, Try.ntmps60
  go_wp2
  go_ret
  exact ⟨by first | rfl | (simp; done) | (simp [*]; done), by repeat (first | exact Drawn0.refl _ | apply Drawn0.step)⟩

end Go.Proofs.Ytjoghfehmhapbaa.QFnExactStuck
