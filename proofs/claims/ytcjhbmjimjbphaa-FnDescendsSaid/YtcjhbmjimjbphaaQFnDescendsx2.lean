-- Written by a program of this session out of the printer's texts and contracts of its own.
import Derived.Test.YtcjhbmjimjbphaaSq
import Derived.Test.YtcjhbmjimjbphaaQFnDescendsx0
namespace Go.Proofs.Ytcjhbmjimjbphaa.QFnDescends
open Go.RowKit Go.Proofs.YtcjhbmjimjbphaaW.PrintWords Go.Proofs.YtcjhbmjimjbphaaW.PrintLast Go.Proofs.YtcjhbmjimjbphaaW.PrintMore Go.Proofs.Ytcjhbmjimjbphaa.Sq
attribute [local go_sem] max2_int min2_int max_two min_two max_three min_three max_four min_four   -- for this text's walks alone
set_option linter.unusedVariables false
set_option linter.unusedSimpArgs false
theorem sABelo_2 {b : Nat} {w W : World} (h : Below b w W := by repeat (first | (with_reducible first | exact Aside0.out (by assumption) | apply below_alloc | apply pw_below_drewN | apply below_drew1 | refine below_set ?_ (Aside0.out (by assumption))) | exact Aside0.out (by assumption))) : Below b w W := h

/-! ### spec_l2In: function 36 -/
def spec_l2In.f (a0 : Int) (a1 : Int) (a2 : Int) : Option (Bool) := if a0 ≥ a1 then (some (decide (a0 ≤ a2))) else (some false)
set_option maxHeartbeats 8000000 in
set_option maxRecDepth 100000 in
theorem spec_l2In.calls (a0 : Int) (a1 : Int) (a2 : Int) (r : Bool) (w : World) (h : spec_l2In.f a0 a1 a2 = some r) :
  Calls Try.prog 36 #[.int .i64 a0, .int .i64 a1, .int .i64 a2] w fun e w' => e = .returned (.bool r) ∧ Drawn0 w w' := by
 have H : (if a0 ≥ a1 then (some (decide (a0 ≤ a2))) else (some false)) = some r := h
 clear h
 by_cases c4 : a0 ≥ a1
 ·rw [if_pos c4] at H
  have c4b0 : decide (a1 ≤ a0) = true := decide_eq_true c4
  clear c4
  obtain rfl := Option.some.inj H
  go_enter Try.func36, Try.ntmps36
  go_wp2
  go_ret
  exact ⟨by first | rfl | (simp; done) | (simp [*]; done), by repeat (first | exact Drawn0.refl _ | apply Drawn0.step)⟩
 ·rw [if_neg c4] at H
  have c4b0 : decide (a1 ≤ a0) = false := decide_eq_false c4
  clear c4
  obtain rfl := Option.some.inj H
  go_enter Try.func36, Try.ntmps36
  go_wp2
  go_ret
  exact ⟨by first | rfl | (simp; done) | (simp [*]; done), by repeat (first | exact Drawn0.refl _ | apply Drawn0.step)⟩

/-! ### spec_l15All: function 28 -/
def spec_l15All.l0 : Nat → List Int → Int → Int → Int → Option (Bool)
 | 0, _, _, _, _ => none
 | k + 1, x0, x2, x3, x9 => if x9 < (x0.length : Int) then (if 0 ≤ x9 then ((spec_l2In.f (rd x0 x9) x2 x3).bind fun t102 => (if t102 = true then (spec_l15All.l0 k x0 x2 x3 (wrap64 (x9 + 1))) else (some false))) else (none)) else (some true)
def spec_l15All.f (k : Nat) (l0 : List Int) (a1 : Int) (a2 : Int) (a3 : Int) : Option (Bool) := if (l0.length : Int) = a1 then (spec_l15All.l0 k l0 a2 a3 0) else (some false)
theorem spec_l15All.mono_l : ∀ k, (∀ y0 y1 y2 y3, LeO (spec_l15All.l0 k y0 y1 y2 y3) (spec_l15All.l0 (k + 1) y0 y1 y2 y3))
 | 0 => fun _ _ _ _ r h => by simp [spec_l15All.l0] at h
 | k + 1 => by
  have ih0 := spec_l15All.mono_l k
  ·intro y0 y1 y2 y3
   unfold spec_l15All.l0
   repeat' first
   | (with_reducible exact ih0 _ _ _ _)
   | (with_reducible exact LeO.refl _)
   | (with_reducible exact LeO.none _)
   | (with_reducible refine LeO.ite ?_ ?_)
   | (with_reducible refine LeO.bind ?_ (fun _ => ?_))
   | exact ih0 _ _ _ _
   | exact LeO.none _
   | refine LeO.ite ?_ ?_
   | refine LeO.bind ?_ (fun _ => ?_)
theorem spec_l15All.mono : ∀ a0 a1 a2 a3 k, LeO (spec_l15All.f k a0 a1 a2 a3) (spec_l15All.f (k + 1) a0 a1 a2 a3) := by
 intro a0 a1 a2 a3 k
 have ih0 := spec_l15All.mono_l k
 unfold spec_l15All.f
 repeat' first
   | (with_reducible exact ih0 _ _ _ _)
   | (with_reducible exact LeO.refl _)
   | (with_reducible exact LeO.none _)
   | (with_reducible refine LeO.ite ?_ ?_)
   | (with_reducible refine LeO.bind ?_ (fun _ => ?_))
   | exact ih0 _ _ _ _
   | exact LeO.none _
   | refine LeO.ite ?_ ?_
   | refine LeO.bind ?_ (fun _ => ?_)
set_option maxHeartbeats 8000000 in
set_option maxRecDepth 100000 in
theorem spec_l15All.calls (k : Nat) (A0 : Option Addr) (c0 : Nat) (l0 : List Int) (a1 : Int) (a2 : Int) (a3 : Int) (r : Bool) (w : World) (hr0 : Kd.C (Kd.int .i64) w A0 l0.length l0) (hc0 : l0.length ≤ c0) (h : spec_l15All.f k l0 a1 a2 a3 = some r) :
  Calls Try.prog 28 #[.slice A0 l0.length c0, .int .i64 a1, .int .i64 a2, .int .i64 a3] w fun e w' => e = .returned (.bool r) ∧ Drawn0 w w' := by
 have HR0 := Aside0.mk hr0; have HC0 := Aside0.mk hc0; clear hr0 hc0
 have H : (if (l0.length : Int) = a1 then (spec_l15All.l0 k l0 a2 a3 0) else (some false)) = some r := h
 clear h
 by_cases c5 : (l0.length : Int) = a1
 ·rw [if_pos c5] at H
  have c5b0 := beq_iff_eq.mpr c5
  have c5b1 := bne_eq_false_iff_eq.mpr c5
  clear c5; have H' := Aside0.mk H; clear H
  go_enter Try.func28, Try.ntmps28
  go_wp2
  go_loopg [9] k (fun kq v9 w' => ∃ (x9_1 : Int), v9 = .int .i64 x9_1 ∧ Aside0 (spec_l15All.l0 kq l0 a2 a3 x9_1 = some r) ∧ Aside0 (kq ≤ k) ∧ Drawn0 w w')
  case atStart => exact ⟨(0), (by first | rfl | (simp; done) | (simp [*]; done)), H', ⟨Nat.le_refl _⟩, by repeat (first | exact Drawn0.refl _ | apply Drawn0.step)⟩
  case round =>
   clear H'; (try clear c5); (try clear c5b0); (try clear c5b1)
   obtain ⟨x9_1, rfl, HA, HK1, ⟨m1, rfl⟩⟩ := hrel
   cases gk with
   | zero => exact absurd HA.out (by simp [spec_l15All.l0])
   | succ k1 =>
    have H := HA.out; clear HA
    simp only [spec_l15All.l0] at H
    by_cases c6 : x9_1 < (l0.length : Int)
    ·rw [if_pos c6] at H
     have c6b0 := decide_eq_true c6
     clear c6
     obtain ⟨c7, H⟩ := ifS_ H
     have c7b0 : decide (0 ≤ x9_1) = true := decide_eq_true c7
     clear c7; replace H := Option.bind_eq_some_iff.mp H
     obtain ⟨t102, A80, H⟩ := H
     replace H : (if t102 = true then (spec_l15All.l0 k1 l0 a2 a3 (wrap64 (x9_1 + 1))) else (some false)) = some r := H
     have A8 := Aside0.mk A80; clear A80
     by_cases c9 : t102 = true
     ·subst c9
      replace H := ifT_ H; have H' := Aside0.mk H; clear H
      have p101 : 0 ≤ (x9_1 : Int) := dA_
      have q101 : x9_1 < (l0.length : Int) := dA_
      obtain ⟨ad101, e101, hx101_0⟩ := Kd.at_int HR0.out x9_1 p101 q101
      cases e101
      replace p101 := eq_true p101; replace q101 := eq_true q101
      go_wp2_with (first | ((with_reducible refine gate_callee (f := 36) rfl ?_); refine gL_ (some 26) Try.func36 #[.int .i64 (rd l0 x9_1), .int .i64 a2, .int .i64 a3] ?_; (with_reducible refine (spec_l2In.calls (rd l0 x9_1) a2 a3 true _ A8.out).mono ?_); rintro e w' ⟨rfl, ⟨nd, rfl⟩⟩; refine ⟨_, rfl, ?_⟩))
      go_roundg k1
      case measure => have := HK1.out; omega
      case rel => exact ⟨(wrap64 (x9_1 + 1)), (by first | rfl | (simp; done) | (simp [*]; done)), H', ⟨by have := HK1.out; omega⟩, by repeat (first | exact Drawn0.refl _ | apply Drawn0.step)⟩
     ·replace c9 := Bool.eq_false_iff.mpr c9
      subst c9
      replace H := ifF_ H
      obtain rfl := Option.some.inj H
      have p101 : 0 ≤ (x9_1 : Int) := dA_
      have q101 : x9_1 < (l0.length : Int) := dA_
      obtain ⟨ad101, e101, hx101_0⟩ := Kd.at_int HR0.out x9_1 p101 q101
      cases e101
      replace p101 := eq_true p101; replace q101 := eq_true q101
      go_wp2_with (first | ((with_reducible refine gate_callee (f := 36) rfl ?_); refine gL_ (some 26) Try.func36 #[.int .i64 (rd l0 x9_1), .int .i64 a2, .int .i64 a3] ?_; (with_reducible refine (spec_l2In.calls (rd l0 x9_1) a2 a3 false _ A8.out).mono ?_); rintro e w' ⟨rfl, ⟨nd, rfl⟩⟩; refine ⟨_, rfl, ?_⟩))
      go_ret
      exact ⟨by first | rfl | (simp; done) | (simp [*]; done), by repeat (first | exact Drawn0.refl _ | apply Drawn0.step)⟩
    ·rw [if_neg c6] at H
     have c6b0 := decide_eq_false c6
     clear c6
     obtain rfl := Option.some.inj H
     go_wp2
     go_ret
     exact ⟨by first | rfl | (simp; done) | (simp [*]; done), by repeat (first | exact Drawn0.refl _ | apply Drawn0.step)⟩
 ·rw [if_neg c5] at H
  have c5b0 := beq_eq_false_iff_ne.mpr c5
  have c5b1 := bne_iff_ne.mpr c5
  obtain rfl := Option.some.inj H
  go_enter Try.func28, Try.ntmps28
  go_wp2
  go_ret
  exact ⟨by first | rfl | (simp; done) | (simp [*]; done), by repeat (first | exact Drawn0.refl _ | apply Drawn0.step)⟩

/-! ### spec_ProblemOk: function 27 -/
mutual
def spec_ProblemOk.j0 : Nat → Bool → Int → List Int → List Int → List (S52) → Option (Bool)
 | 0, _, _, _, _, _ => none
 | k + 1, x30, x104000, x104001, x104002, x104003 => if x30 = true then (some false) else (spec_ProblemOk.l0 k 0 x104000 x104001 x104002 x104003)
def spec_ProblemOk.l0 : Nat → Int → Int → List Int → List Int → List (S52) → Option (Bool)
 | 0, _, _, _, _, _ => none
 | k + 1, x3, x104000, x104001, x104002, x104003 => if x3 < (x104003.length : Int) then (if 0 ≤ x3 then ((spec_l15All.f k ((rd_T52 x104003 x3).f0) x104000 (-5) 5).bind fun t109 => (if t109 = true then ((spec_l2In.f ((rd_T52 x104003 x3).f1) (-500) 500).bind fun t110 => (if t110 = true then ((spec_l2In.f ((rd_T52 x104003 x3).f2) 1 5).bind fun t111 => (if t111 = true then (spec_ProblemOk.l0 k (wrap64 (x3 + 1)) x104000 x104001 x104002 x104003) else (some false))) else (some false))) else (some false))) else (none)) else (some true)
end
def spec_ProblemOk.f (k : Nat) (a0_0 : Int) (l0_1 : List Int) (l0_2 : List Int) (l0_3 : List (S52)) : Option (Bool) := (spec_l2In.f a0_0 1 6).bind fun t104 => (if t104 = true then ((spec_l15All.f k l0_1 a0_0 (-500) 500).bind fun t105 => (if t105 = true then ((spec_l15All.f k l0_2 a0_0 1 5).bind fun t106 => (if t106 = true then (spec_ProblemOk.j0 k (decide ((l0_3.length : Int) > 20)) a0_0 l0_1 l0_2 l0_3) else (spec_ProblemOk.j0 k true a0_0 l0_1 l0_2 l0_3))) else (spec_ProblemOk.j0 k true a0_0 l0_1 l0_2 l0_3))) else (spec_ProblemOk.j0 k true a0_0 l0_1 l0_2 l0_3))
theorem spec_ProblemOk.mono_l : ∀ k, (∀ y0 y1 y2 y3 y4, LeO (spec_ProblemOk.j0 k y0 y1 y2 y3 y4) (spec_ProblemOk.j0 (k + 1) y0 y1 y2 y3 y4)) ∧ (∀ y0 y1 y2 y3 y4, LeO (spec_ProblemOk.l0 k y0 y1 y2 y3 y4) (spec_ProblemOk.l0 (k + 1) y0 y1 y2 y3 y4))
 | 0 => ⟨fun _ _ _ _ _ r h => by simp [spec_ProblemOk.j0] at h, fun _ _ _ _ _ r h => by simp [spec_ProblemOk.l0] at h⟩
 | k + 1 => by
  obtain ⟨ih0, ih1⟩ := spec_ProblemOk.mono_l k
  refine ⟨?_, ?_⟩
  intro y0 y1 y2 y3 y4; unfold spec_ProblemOk.j0; rotate_left
  intro y0 y1 y2 y3 y4; unfold spec_ProblemOk.l0; rotate_left
  all_goals repeat' first
  | (with_reducible exact ih0 _ _ _ _ _)
  | (with_reducible exact ih1 _ _ _ _ _)
  | (with_reducible exact spec_l15All.mono _ _ _ _ _)
  | (with_reducible exact LeO.refl _)
  | (with_reducible exact LeO.none _)
  | (with_reducible refine LeO.ite ?_ ?_)
  | (with_reducible refine LeO.bind ?_ (fun _ => ?_))
  | exact ih0 _ _ _ _ _
  | exact ih1 _ _ _ _ _
  | exact spec_l15All.mono _ _ _ _ _
  | exact LeO.none _
  | refine LeO.ite ?_ ?_
  | refine LeO.bind ?_ (fun _ => ?_)
theorem spec_ProblemOk.mono : ∀ a0 a1 a2 a3 k, LeO (spec_ProblemOk.f k a0 a1 a2 a3) (spec_ProblemOk.f (k + 1) a0 a1 a2 a3) := by
 intro a0 a1 a2 a3 k
 obtain ⟨ih0, ih1⟩ := spec_ProblemOk.mono_l k
 unfold spec_ProblemOk.f
 repeat' first
   | (with_reducible exact ih0 _ _ _ _ _)
   | (with_reducible exact ih1 _ _ _ _ _)
   | (with_reducible exact spec_l15All.mono _ _ _ _ _)
   | (with_reducible exact LeO.refl _)
   | (with_reducible exact LeO.none _)
   | (with_reducible refine LeO.ite ?_ ?_)
   | (with_reducible refine LeO.bind ?_ (fun _ => ?_))
   | exact ih0 _ _ _ _ _
   | exact ih1 _ _ _ _ _
   | exact spec_l15All.mono _ _ _ _ _
   | exact LeO.none _
   | refine LeO.ite ?_ ?_
   | refine LeO.bind ?_ (fun _ => ?_)
set_option maxHeartbeats 8000000 in
set_option maxRecDepth 100000 in
theorem spec_ProblemOk.calls (k : Nat) (a0_0 : Int) (A0_1 : Option Addr) (c0_1 : Nat) (l0_1 : List Int) (A0_2 : Option Addr) (c0_2 : Nat) (l0_2 : List Int) (A0_3 : Option Addr) (c0_3 : Nat) (l0_3 : List (S52)) (r : Bool) (w : World) (hr0_1 : Kd.C (Kd.int .i64) w A0_1 l0_1.length l0_1) (hc0_1 : l0_1.length ≤ c0_1) (hr0_2 : Kd.C (Kd.int .i64) w A0_2 l0_2.length l0_2) (hc0_2 : l0_2.length ≤ c0_2) (hr0_3 : Kd.C k52 w A0_3 l0_3.length l0_3) (hc0_3 : l0_3.length ≤ c0_3) (h : spec_ProblemOk.f k a0_0 l0_1 l0_2 l0_3 = some r) :
  Calls Try.prog 27 #[.agg #[.int .i64 a0_0, .slice A0_1 l0_1.length c0_1, .slice A0_2 l0_2.length c0_2, .slice A0_3 l0_3.length c0_3]] w fun e w' => e = .returned (.bool r) ∧ Below w.heap.size w w' := by
 have hu30 := Try.underlying30; have hu52 := Try.underlying52; have HR0_1 := Aside0.mk hr0_1; have HC0_1 := Aside0.mk hc0_1; clear hr0_1 hc0_1; have HR0_2 := Aside0.mk hr0_2; have HC0_2 := Aside0.mk hc0_2; clear hr0_2 hc0_2; have HR0_3 := Aside0.mk hr0_3; have HC0_3 := Aside0.mk hc0_3; clear hr0_3 hc0_3
 have HB := Aside0.mk (Below.refl w.heap.size w)
 have H : ((spec_l2In.f a0_0 1 6).bind fun t104 => (if t104 = true then ((spec_l15All.f k l0_1 a0_0 (-500) 500).bind fun t105 => (if t105 = true then ((spec_l15All.f k l0_2 a0_0 1 5).bind fun t106 => (if t106 = true then (spec_ProblemOk.j0 k (decide ((l0_3.length : Int) > 20)) a0_0 l0_1 l0_2 l0_3) else (spec_ProblemOk.j0 k true a0_0 l0_1 l0_2 l0_3))) else (spec_ProblemOk.j0 k true a0_0 l0_1 l0_2 l0_3))) else (spec_ProblemOk.j0 k true a0_0 l0_1 l0_2 l0_3))) = some r := h
 clear h; have HC2 := Aside0.mk H; clear H
 go_enter Try.func27, Try.ntmps27
 go_upto_region 1 with (first | ((with_reducible refine gate_dst (N := 1) rfl ?_); (try (refine gate_guard (by rfl) ?_; dsimp only)); refine box_event ?hg (N := 1) ?hd (cs := #[.int .i64 a0_0, .slice A0_1 l0_1.length c0_1, .slice A0_2 l0_2.length c0_2, .slice A0_3 l0_3.length c0_3]) (t := 30) ?hr ?_; (case hd => rfl); (case hg => rfl); (case hr => first | (go_simp; done) | (go_simp; rfl)); intro gb103 hg w3 hbox hb; have BK103 := Aside0.mk (hbox); have GW103 := gE_ HB hg; have GE103 := gE_ HB hg; replace HB := bS_ HB hb; clear hb hbox hg))
 (try simp only [Act.put, List.setIfInBounds_toArray, List.set_cons_zero, List.set_cons_succ])
 go_cut [30] (fun v30 wc => ∃ (kq : Nat) (x30_1 : Bool), v30 = .bool x30_1 ∧ Aside0 (spec_ProblemOk.j0 kq x30_1 a0_0 l0_1 l0_2 l0_3 = some r) ∧ Aside0 (kq ≤ k) ∧ Aside0 (wc.heap[gb103]? = some (.cells #[.int .i64 a0_0, (.slice A0_1 l0_1.length c0_1), (.slice A0_2 l0_2.length c0_2), (.slice A0_3 l0_3.length c0_3)] 30 (0, 0))) ∧ Aside0 (Below w.heap.size w wc))
 case first =>
  have H := HC2.out; clear HC2; replace H := Option.bind_eq_some_iff.mp H
  obtain ⟨t104, A40, H⟩ := H
  replace H : (if t104 = true then ((spec_l15All.f k l0_1 a0_0 (-500) 500).bind fun t105 => (if t105 = true then ((spec_l15All.f k l0_2 a0_0 1 5).bind fun t106 => (if t106 = true then (spec_ProblemOk.j0 k (decide ((l0_3.length : Int) > 20)) a0_0 l0_1 l0_2 l0_3) else (spec_ProblemOk.j0 k true a0_0 l0_1 l0_2 l0_3))) else (spec_ProblemOk.j0 k true a0_0 l0_1 l0_2 l0_3))) else (spec_ProblemOk.j0 k true a0_0 l0_1 l0_2 l0_3)) = some r := H
  have A4 := Aside0.mk A40; clear A40
  by_cases c5 : t104 = true
  ·subst c5
   replace H := ifT_ H; replace H := Option.bind_eq_some_iff.mp H
   obtain ⟨t105, A60, H⟩ := H
   replace H : (if t105 = true then ((spec_l15All.f k l0_2 a0_0 1 5).bind fun t106 => (if t106 = true then (spec_ProblemOk.j0 k (decide ((l0_3.length : Int) > 20)) a0_0 l0_1 l0_2 l0_3) else (spec_ProblemOk.j0 k true a0_0 l0_1 l0_2 l0_3))) else (spec_ProblemOk.j0 k true a0_0 l0_1 l0_2 l0_3)) = some r := H
   have A6 := Aside0.mk A60; clear A60
   by_cases c7 : t105 = true
   ·subst c7
    replace H := ifT_ H; replace H := Option.bind_eq_some_iff.mp H
    obtain ⟨t106, A80, H⟩ := H
    replace H : (if t106 = true then (spec_ProblemOk.j0 k (decide ((l0_3.length : Int) > 20)) a0_0 l0_1 l0_2 l0_3) else (spec_ProblemOk.j0 k true a0_0 l0_1 l0_2 l0_3)) = some r := H
    have A8 := Aside0.mk A80; clear A80
    by_cases c9 : t106 = true
    ·subst c9
     replace H := ifT_ H; have H' := Aside0.mk H; clear H
     obtain ⟨hcz10_0, hcz10_1, hcz10_2, hcz10_3, hfz10_0, hfz10_1, hfz10_2, hfz10_3⟩ := cf4_ BK103
     go_wp2_with (first | ((with_reducible refine gate_callee (f := 36) rfl ?_); refine gL_ (some 7) Try.func36 #[.int .i64 a0_0, .int .i64 1, .int .i64 6] ?_; (with_reducible refine (spec_l2In.calls a0_0 1 6 true _ A4.out).mono ?_); rintro e w' ⟨rfl, ⟨nd, rfl⟩⟩; refine ⟨_, rfl, ?_⟩) | (go_at_call 28; (with_reducible refine (spec_l15All.calls k _ _ l0_1 a0_0 (-500) 500 true _ ?side1 ?side2 A6.out).mono ?_); (case side1 => repeat (first | exact (Kd.C_below HR0_1.out sABelo_2) | (with_reducible refine Kd.C_alloc ?_ _) | (with_reducible refine Kd.C_drewN ?_ _) | (with_reducible refine Kd.C_drew ?_))); (case side2 => exact HC0_1.out); rintro e w' ⟨rfl, ⟨nd, rfl⟩⟩) | (go_at_call 28; (with_reducible refine (spec_l15All.calls k _ _ l0_2 a0_0 1 5 true _ ?side1 ?side2 A8.out).mono ?_); (case side1 => repeat (first | exact (Kd.C_below HR0_2.out sABelo_2) | (with_reducible refine Kd.C_alloc ?_ _) | (with_reducible refine Kd.C_drewN ?_ _) | (with_reducible refine Kd.C_drew ?_))); (case side2 => exact HC0_2.out); rintro e w' ⟨rfl, ⟨nd, rfl⟩⟩))
     go_meet
     case rel => exact ⟨_, (decide ((l0_3.length : Int) > 20)), (by first | rfl | (simp; done) | (simp [*]; done)), H', ⟨by first | omega | exact Nat.le_refl _⟩, ⟨bT_ BK103⟩, ⟨sABelo_2⟩⟩
    ·replace c9 := Bool.eq_false_iff.mpr c9
     subst c9
     replace H := ifF_ H; have H' := Aside0.mk H; clear H
     obtain ⟨hcz11_0, hcz11_1, hcz11_2, hcz11_3, hfz11_0, hfz11_1, hfz11_2, hfz11_3⟩ := cf4_ BK103
     go_wp2_with (first | ((with_reducible refine gate_callee (f := 36) rfl ?_); refine gL_ (some 7) Try.func36 #[.int .i64 a0_0, .int .i64 1, .int .i64 6] ?_; (with_reducible refine (spec_l2In.calls a0_0 1 6 true _ A4.out).mono ?_); rintro e w' ⟨rfl, ⟨nd, rfl⟩⟩; refine ⟨_, rfl, ?_⟩) | (go_at_call 28; (with_reducible refine (spec_l15All.calls k _ _ l0_1 a0_0 (-500) 500 true _ ?side1 ?side2 A6.out).mono ?_); (case side1 => repeat (first | exact (Kd.C_below HR0_1.out sABelo_2) | (with_reducible refine Kd.C_alloc ?_ _) | (with_reducible refine Kd.C_drewN ?_ _) | (with_reducible refine Kd.C_drew ?_))); (case side2 => exact HC0_1.out); rintro e w' ⟨rfl, ⟨nd, rfl⟩⟩) | (go_at_call 28; (with_reducible refine (spec_l15All.calls k _ _ l0_2 a0_0 1 5 false _ ?side1 ?side2 A8.out).mono ?_); (case side1 => repeat (first | exact (Kd.C_below HR0_2.out sABelo_2) | (with_reducible refine Kd.C_alloc ?_ _) | (with_reducible refine Kd.C_drewN ?_ _) | (with_reducible refine Kd.C_drew ?_))); (case side2 => exact HC0_2.out); rintro e w' ⟨rfl, ⟨nd, rfl⟩⟩))
     go_meet
     case rel => exact ⟨_, (true), (by first | rfl | (simp; done) | (simp [*]; done)), H', ⟨by first | omega | exact Nat.le_refl _⟩, ⟨bT_ BK103⟩, ⟨sABelo_2⟩⟩
   ·replace c7 := Bool.eq_false_iff.mpr c7
    subst c7
    replace H := ifF_ H; have H' := Aside0.mk H; clear H
    obtain ⟨hcz12_0, hcz12_1, hcz12_2, hcz12_3, hfz12_0, hfz12_1, hfz12_2, hfz12_3⟩ := cf4_ BK103
    go_wp2_with (first | ((with_reducible refine gate_callee (f := 36) rfl ?_); refine gL_ (some 7) Try.func36 #[.int .i64 a0_0, .int .i64 1, .int .i64 6] ?_; (with_reducible refine (spec_l2In.calls a0_0 1 6 true _ A4.out).mono ?_); rintro e w' ⟨rfl, ⟨nd, rfl⟩⟩; refine ⟨_, rfl, ?_⟩) | (go_at_call 28; (with_reducible refine (spec_l15All.calls k _ _ l0_1 a0_0 (-500) 500 false _ ?side1 ?side2 A6.out).mono ?_); (case side1 => repeat (first | exact (Kd.C_below HR0_1.out sABelo_2) | (with_reducible refine Kd.C_alloc ?_ _) | (with_reducible refine Kd.C_drewN ?_ _) | (with_reducible refine Kd.C_drew ?_))); (case side2 => exact HC0_1.out); rintro e w' ⟨rfl, ⟨nd, rfl⟩⟩))
    go_meet
    case rel => exact ⟨_, (true), (by first | rfl | (simp; done) | (simp [*]; done)), H', ⟨by first | omega | exact Nat.le_refl _⟩, ⟨bT_ BK103⟩, ⟨sABelo_2⟩⟩
  ·replace c5 := Bool.eq_false_iff.mpr c5
   subst c5
   replace H := ifF_ H; have H' := Aside0.mk H; clear H
   obtain ⟨hcz13_0, hcz13_1, hcz13_2, hcz13_3, hfz13_0, hfz13_1, hfz13_2, hfz13_3⟩ := cf4_ BK103
   go_wp2_with (first | ((with_reducible refine gate_callee (f := 36) rfl ?_); refine gL_ (some 7) Try.func36 #[.int .i64 a0_0, .int .i64 1, .int .i64 6] ?_; (with_reducible refine (spec_l2In.calls a0_0 1 6 false _ A4.out).mono ?_); rintro e w' ⟨rfl, ⟨nd, rfl⟩⟩; refine ⟨_, rfl, ?_⟩))
   go_meet
   case rel => exact ⟨_, (true), (by first | rfl | (simp; done) | (simp [*]; done)), H', ⟨by first | omega | exact Nat.le_refl _⟩, ⟨bT_ BK103⟩, ⟨sABelo_2⟩⟩
 case rest =>
  clear HC2
  obtain ⟨kq, x30_1, rfl, HA, HJ1, BK103, HB⟩ := hcut
  cases kq with
  | zero => exact absurd HA.out (by simp [spec_ProblemOk.j0])
  | succ kj1 =>
   have H := HA.out; clear HA
   simp only [spec_ProblemOk.j0] at H
   by_cases c14 : x30_1 = true
   ·subst c14
    replace H := ifT_ H
    obtain rfl := Option.some.inj H
    go_wp2
    go_ret
    exact ⟨by first | rfl | (simp [errW_none, errW_some] <;> rfl) | (simp [*, errW_none, errW_some] <;> rfl), sABelo_2⟩
   ·replace c14 := Bool.eq_false_iff.mpr c14
    subst c14
    replace H := ifF_ H; have H' := Aside0.mk H; clear H
    go_wp2
    go_loopg [3] kj1 (fun kq v3 w' => ∃ (x3_2 : Int), v3 = .int .i64 x3_2 ∧ Aside0 (spec_ProblemOk.l0 kq x3_2 a0_0 l0_1 l0_2 l0_3 = some r) ∧ Aside0 (kq ≤ kj1) ∧ Aside0 (w'.heap[gb103]? = some (.cells #[.int .i64 a0_0, (.slice A0_1 l0_1.length c0_1), (.slice A0_2 l0_2.length c0_2), (.slice A0_3 l0_3.length c0_3)] 30 (0, 0))) ∧ Aside0 (Below w.heap.size w w'))
    case atStart => exact ⟨(0), (by first | rfl | (simp; done) | (simp [*]; done)), H', ⟨Nat.le_refl _⟩, ⟨bT_ BK103⟩, ⟨sABelo_2⟩⟩
    case round =>
     clear H'; (try clear c14)
     obtain ⟨x3_2, rfl, HA, HK2, BK103, HB⟩ := hrel
     cases gk with
     | zero => exact absurd HA.out (by simp [spec_ProblemOk.l0])
     | succ k2 =>
      have H := HA.out; clear HA
      simp only [spec_ProblemOk.l0] at H
      by_cases c15 : x3_2 < (l0_3.length : Int)
      ·rw [if_pos c15] at H
       have c15b0 := decide_eq_true c15
       clear c15
       obtain ⟨c16, H⟩ := ifS_ H
       have c16b0 : decide (0 ≤ x3_2) = true := decide_eq_true c16
       clear c16; replace H := Option.bind_eq_some_iff.mp H
       obtain ⟨t109, A170, H⟩ := H
       replace H : (if t109 = true then ((spec_l2In.f ((rd_T52 l0_3 x3_2).f1) (-500) 500).bind fun t110 => (if t110 = true then ((spec_l2In.f ((rd_T52 l0_3 x3_2).f2) 1 5).bind fun t111 => (if t111 = true then (spec_ProblemOk.l0 k2 (wrap64 (x3_2 + 1)) a0_0 l0_1 l0_2 l0_3) else (some false))) else (some false))) else (some false)) = some r := H
       have A17 := Aside0.mk A170; clear A170
       by_cases c18 : t109 = true
       ·subst c18
        replace H := ifT_ H; replace H := Option.bind_eq_some_iff.mp H
        obtain ⟨t110, A190, H⟩ := H
        replace H : (if t110 = true then ((spec_l2In.f ((rd_T52 l0_3 x3_2).f2) 1 5).bind fun t111 => (if t111 = true then (spec_ProblemOk.l0 k2 (wrap64 (x3_2 + 1)) a0_0 l0_1 l0_2 l0_3) else (some false))) else (some false)) = some r := H
        have A19 := Aside0.mk A190; clear A190
        by_cases c20 : t110 = true
        ·subst c20
         replace H := ifT_ H; replace H := Option.bind_eq_some_iff.mp H
         obtain ⟨t111, A210, H⟩ := H
         replace H : (if t111 = true then (spec_ProblemOk.l0 k2 (wrap64 (x3_2 + 1)) a0_0 l0_1 l0_2 l0_3) else (some false)) = some r := H
         have A21 := Aside0.mk A210; clear A210
         by_cases c22 : t111 = true
         ·subst c22
          replace H := ifT_ H; have H' := Aside0.mk H; clear H
          obtain ⟨hcz23_0, hcz23_1, hcz23_2, hcz23_3, hfz23_0, hfz23_1, hfz23_2, hfz23_3⟩ := cf4_ BK103
          have p107 : 0 ≤ (x3_2 : Int) := dA_
          have q107 : x3_2 < (l0_3.length : Int) := dA_
          obtain ⟨ad107, A107_0, c107_0, e107, hx107_0, hx107_1, hx107_2, hl107_0, hi107_0⟩ := at_T52 HR0_3.out x3_2 p107 q107
          cases e107
          replace hx107_0 := hX_ HB hx107_0
          replace hx107_1 := hX_ HB hx107_1
          replace hx107_2 := hX_ HB hx107_2
          have HR107_0 := Aside0.mk hi107_0; have HC107_0 := Aside0.mk hl107_0; clear hi107_0 hl107_0; replace p107 := eq_true p107; replace q107 := eq_true q107
          go_wp2_with (first | ((with_reducible refine gate_dst (N := 4) rfl ?_); (try (refine gate_guard (by rfl) ?_; dsimp only)); refine box_event ?hg (N := 4) ?hd (cs := #[.slice none 0 0, .int .i64 0, .int .i64 0]) (t := 52) ?hr ?_; (case hd => rfl); (case hg => rfl); (case hr => first | (go_simp; done) | (go_simp; rfl)); intro gb108 hg w24 hbox hb; have BK108 := Aside0.mk (hbox); have GW108 := gE_ HB hg; have GE108 := gE_ HB hg; replace HB := bS_ HB hb; have NB103_108 := nL_ BK103 hg; have NB108_103 := nG_ BK103 hg; replace BK103 := bB_ BK103 hb; clear hb hbox hg; have hnb25 := NB108_103.out; have hnc25 := NB103_108.out; obtain ⟨hcz26_0, hcz26_1, hcz26_2, hfz26_0, hfz26_1, hfz26_2⟩ := cf3_ BK108; obtain ⟨hcz27_0, hcz27_1, hcz27_2, hcz27_3, hfz27_0, hfz27_1, hfz27_2, hfz27_3⟩ := cf4_ BK103) | ((with_reducible refine gate_callee (f := 28) rfl ?_); refine gL_ (some 47) Try.func28 #[.slice A107_0 ((rd_T52 l0_3 x3_2).f0).length c107_0, .int .i64 a0_0, .int .i64 (-5), .int .i64 5] ?_; (with_reducible refine (spec_l15All.calls k2 _ _ ((rd_T52 l0_3 x3_2).f0) a0_0 (-5) 5 true _ ?side1 ?side2 A17.out).mono ?_); (case side1 => exact Kd.C_below HR107_0.out sABelo_2); (case side2 => exact HC107_0.out); rintro e w' ⟨rfl, ⟨nd, rfl⟩⟩; refine ⟨_, rfl, ?_⟩) | (go_at_call 36; (with_reducible refine (spec_l2In.calls ((rd_T52 l0_3 x3_2).f1) (-500) 500 true _ A19.out).mono ?_); rintro e w' ⟨rfl, ⟨nd, rfl⟩⟩) | (go_at_call 36; (with_reducible refine (spec_l2In.calls ((rd_T52 l0_3 x3_2).f2) 1 5 true _ A21.out).mono ?_); rintro e w' ⟨rfl, ⟨nd, rfl⟩⟩))
          go_roundg k2
          case measure => have := HJ1.out; have := HK2.out; omega
          case rel => exact ⟨(wrap64 (x3_2 + 1)), (by first | rfl | (simp; done) | (simp [*]; done)), H', ⟨by have := HJ1.out; have := HK2.out; omega⟩, ⟨bF_ BK103 NB103_108⟩, ⟨sABelo_2⟩⟩
         ·replace c22 := Bool.eq_false_iff.mpr c22
          subst c22
          replace H := ifF_ H
          obtain rfl := Option.some.inj H
          obtain ⟨hcz28_0, hcz28_1, hcz28_2, hcz28_3, hfz28_0, hfz28_1, hfz28_2, hfz28_3⟩ := cf4_ BK103
          have p107 : 0 ≤ (x3_2 : Int) := dA_
          have q107 : x3_2 < (l0_3.length : Int) := dA_
          obtain ⟨ad107, A107_0, c107_0, e107, hx107_0, hx107_1, hx107_2, hl107_0, hi107_0⟩ := at_T52 HR0_3.out x3_2 p107 q107
          cases e107
          replace hx107_0 := hX_ HB hx107_0
          replace hx107_1 := hX_ HB hx107_1
          replace hx107_2 := hX_ HB hx107_2
          have HR107_0 := Aside0.mk hi107_0; have HC107_0 := Aside0.mk hl107_0; clear hi107_0 hl107_0; replace p107 := eq_true p107; replace q107 := eq_true q107
          go_wp2_with (first | ((with_reducible refine gate_dst (N := 4) rfl ?_); (try (refine gate_guard (by rfl) ?_; dsimp only)); refine box_event ?hg (N := 4) ?hd (cs := #[.slice none 0 0, .int .i64 0, .int .i64 0]) (t := 52) ?hr ?_; (case hd => rfl); (case hg => rfl); (case hr => first | (go_simp; done) | (go_simp; rfl)); intro gb108 hg w29 hbox hb; have BK108 := Aside0.mk (hbox); have GW108 := gE_ HB hg; have GE108 := gE_ HB hg; replace HB := bS_ HB hb; have NB103_108 := nL_ BK103 hg; have NB108_103 := nG_ BK103 hg; replace BK103 := bB_ BK103 hb; clear hb hbox hg; have hnb30 := NB108_103.out; have hnc30 := NB103_108.out; obtain ⟨hcz31_0, hcz31_1, hcz31_2, hfz31_0, hfz31_1, hfz31_2⟩ := cf3_ BK108; obtain ⟨hcz32_0, hcz32_1, hcz32_2, hcz32_3, hfz32_0, hfz32_1, hfz32_2, hfz32_3⟩ := cf4_ BK103) | ((with_reducible refine gate_callee (f := 28) rfl ?_); refine gL_ (some 47) Try.func28 #[.slice A107_0 ((rd_T52 l0_3 x3_2).f0).length c107_0, .int .i64 a0_0, .int .i64 (-5), .int .i64 5] ?_; (with_reducible refine (spec_l15All.calls k2 _ _ ((rd_T52 l0_3 x3_2).f0) a0_0 (-5) 5 true _ ?side1 ?side2 A17.out).mono ?_); (case side1 => exact Kd.C_below HR107_0.out sABelo_2); (case side2 => exact HC107_0.out); rintro e w' ⟨rfl, ⟨nd, rfl⟩⟩; refine ⟨_, rfl, ?_⟩) | (go_at_call 36; (with_reducible refine (spec_l2In.calls ((rd_T52 l0_3 x3_2).f1) (-500) 500 true _ A19.out).mono ?_); rintro e w' ⟨rfl, ⟨nd, rfl⟩⟩) | (go_at_call 36; (with_reducible refine (spec_l2In.calls ((rd_T52 l0_3 x3_2).f2) 1 5 false _ A21.out).mono ?_); rintro e w' ⟨rfl, ⟨nd, rfl⟩⟩))
          go_ret
          exact ⟨by first | rfl | (simp [errW_none, errW_some] <;> rfl) | (simp [*, errW_none, errW_some] <;> rfl), sABelo_2⟩
        ·replace c20 := Bool.eq_false_iff.mpr c20
         subst c20
         replace H := ifF_ H
         obtain rfl := Option.some.inj H
         obtain ⟨hcz33_0, hcz33_1, hcz33_2, hcz33_3, hfz33_0, hfz33_1, hfz33_2, hfz33_3⟩ := cf4_ BK103
         have p107 : 0 ≤ (x3_2 : Int) := dA_
         have q107 : x3_2 < (l0_3.length : Int) := dA_
         obtain ⟨ad107, A107_0, c107_0, e107, hx107_0, hx107_1, hx107_2, hl107_0, hi107_0⟩ := at_T52 HR0_3.out x3_2 p107 q107
         cases e107
         replace hx107_0 := hX_ HB hx107_0
         replace hx107_1 := hX_ HB hx107_1
         replace hx107_2 := hX_ HB hx107_2
         have HR107_0 := Aside0.mk hi107_0; have HC107_0 := Aside0.mk hl107_0; clear hi107_0 hl107_0; replace p107 := eq_true p107; replace q107 := eq_true q107
         go_wp2_with (first | ((with_reducible refine gate_dst (N := 4) rfl ?_); (try (refine gate_guard (by rfl) ?_; dsimp only)); refine box_event ?hg (N := 4) ?hd (cs := #[.slice none 0 0, .int .i64 0, .int .i64 0]) (t := 52) ?hr ?_; (case hd => rfl); (case hg => rfl); (case hr => first | (go_simp; done) | (go_simp; rfl)); intro gb108 hg w34 hbox hb; have BK108 := Aside0.mk (hbox); have GW108 := gE_ HB hg; have GE108 := gE_ HB hg; replace HB := bS_ HB hb; have NB103_108 := nL_ BK103 hg; have NB108_103 := nG_ BK103 hg; replace BK103 := bB_ BK103 hb; clear hb hbox hg; have hnb35 := NB108_103.out; have hnc35 := NB103_108.out; obtain ⟨hcz36_0, hcz36_1, hcz36_2, hfz36_0, hfz36_1, hfz36_2⟩ := cf3_ BK108; obtain ⟨hcz37_0, hcz37_1, hcz37_2, hcz37_3, hfz37_0, hfz37_1, hfz37_2, hfz37_3⟩ := cf4_ BK103) | ((with_reducible refine gate_callee (f := 28) rfl ?_); refine gL_ (some 47) Try.func28 #[.slice A107_0 ((rd_T52 l0_3 x3_2).f0).length c107_0, .int .i64 a0_0, .int .i64 (-5), .int .i64 5] ?_; (with_reducible refine (spec_l15All.calls k2 _ _ ((rd_T52 l0_3 x3_2).f0) a0_0 (-5) 5 true _ ?side1 ?side2 A17.out).mono ?_); (case side1 => exact Kd.C_below HR107_0.out sABelo_2); (case side2 => exact HC107_0.out); rintro e w' ⟨rfl, ⟨nd, rfl⟩⟩; refine ⟨_, rfl, ?_⟩) | (go_at_call 36; (with_reducible refine (spec_l2In.calls ((rd_T52 l0_3 x3_2).f1) (-500) 500 false _ A19.out).mono ?_); rintro e w' ⟨rfl, ⟨nd, rfl⟩⟩))
         go_ret
         exact ⟨by first | rfl | (simp [errW_none, errW_some] <;> rfl) | (simp [*, errW_none, errW_some] <;> rfl), sABelo_2⟩
       ·replace c18 := Bool.eq_false_iff.mpr c18
        subst c18
        replace H := ifF_ H
        obtain rfl := Option.some.inj H
        obtain ⟨hcz38_0, hcz38_1, hcz38_2, hcz38_3, hfz38_0, hfz38_1, hfz38_2, hfz38_3⟩ := cf4_ BK103
        have p107 : 0 ≤ (x3_2 : Int) := dA_
        have q107 : x3_2 < (l0_3.length : Int) := dA_
        obtain ⟨ad107, A107_0, c107_0, e107, hx107_0, hx107_1, hx107_2, hl107_0, hi107_0⟩ := at_T52 HR0_3.out x3_2 p107 q107
        cases e107
        replace hx107_0 := hX_ HB hx107_0
        replace hx107_1 := hX_ HB hx107_1
        replace hx107_2 := hX_ HB hx107_2
        have HR107_0 := Aside0.mk hi107_0; have HC107_0 := Aside0.mk hl107_0; clear hi107_0 hl107_0; replace p107 := eq_true p107; replace q107 := eq_true q107
        go_wp2_with (first | ((with_reducible refine gate_dst (N := 4) rfl ?_); (try (refine gate_guard (by rfl) ?_; dsimp only)); refine box_event ?hg (N := 4) ?hd (cs := #[.slice none 0 0, .int .i64 0, .int .i64 0]) (t := 52) ?hr ?_; (case hd => rfl); (case hg => rfl); (case hr => first | (go_simp; done) | (go_simp; rfl)); intro gb108 hg w39 hbox hb; have BK108 := Aside0.mk (hbox); have GW108 := gE_ HB hg; have GE108 := gE_ HB hg; replace HB := bS_ HB hb; have NB103_108 := nL_ BK103 hg; have NB108_103 := nG_ BK103 hg; replace BK103 := bB_ BK103 hb; clear hb hbox hg; have hnb40 := NB108_103.out; have hnc40 := NB103_108.out; obtain ⟨hcz41_0, hcz41_1, hcz41_2, hfz41_0, hfz41_1, hfz41_2⟩ := cf3_ BK108; obtain ⟨hcz42_0, hcz42_1, hcz42_2, hcz42_3, hfz42_0, hfz42_1, hfz42_2, hfz42_3⟩ := cf4_ BK103) | ((with_reducible refine gate_callee (f := 28) rfl ?_); refine gL_ (some 47) Try.func28 #[.slice A107_0 ((rd_T52 l0_3 x3_2).f0).length c107_0, .int .i64 a0_0, .int .i64 (-5), .int .i64 5] ?_; (with_reducible refine (spec_l15All.calls k2 _ _ ((rd_T52 l0_3 x3_2).f0) a0_0 (-5) 5 false _ ?side1 ?side2 A17.out).mono ?_); (case side1 => exact Kd.C_below HR107_0.out sABelo_2); (case side2 => exact HC107_0.out); rintro e w' ⟨rfl, ⟨nd, rfl⟩⟩; refine ⟨_, rfl, ?_⟩))
        go_ret
        exact ⟨by first | rfl | (simp [errW_none, errW_some] <;> rfl) | (simp [*, errW_none, errW_some] <;> rfl), sABelo_2⟩
      ·rw [if_neg c15] at H
       have c15b0 := decide_eq_false c15
       clear c15
       obtain rfl := Option.some.inj H
       obtain ⟨hcz43_0, hcz43_1, hcz43_2, hcz43_3, hfz43_0, hfz43_1, hfz43_2, hfz43_3⟩ := cf4_ BK103
       go_wp2
       go_ret
       exact ⟨by first | rfl | (simp [errW_none, errW_some] <;> rfl) | (simp [*, errW_none, errW_some] <;> rfl), sABelo_2⟩

end Go.Proofs.Ytcjhbmjimjbphaa.QFnDescends
