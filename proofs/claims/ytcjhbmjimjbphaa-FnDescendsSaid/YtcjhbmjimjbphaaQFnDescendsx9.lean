-- Written by a program of this session out of the printer's texts and contracts of its own.
import Derived.Test.YtcjhbmjimjbphaaSq
import Derived.Test.YtcjhbmjimjbphaaQFnDescendsx0
import Derived.Test.YtcjhbmjimjbphaaQFnDescendsx8
namespace Go.Proofs.Ytcjhbmjimjbphaa.QFnDescends
open Go.RowKit Go.Proofs.YtcjhbmjimjbphaaW.PrintWords Go.Proofs.YtcjhbmjimjbphaaW.PrintLast Go.Proofs.YtcjhbmjimjbphaaW.PrintMore Go.Proofs.Ytcjhbmjimjbphaa.Sq
attribute [local go_sem] max2_int min2_int max_two min_two max_three min_three max_four min_four   -- for this text's walks alone
set_option linter.unusedVariables false
set_option linter.unusedSimpArgs false
theorem sABelo_9 {b : Nat} {w W : World} (h : Below b w W := by repeat (first | (with_reducible first | exact Aside0.out (by assumption) | apply below_alloc | apply pw_below_drewN | apply below_drew1 | refine below_set ?_ (Aside0.out (by assumption))) | exact Aside0.out (by assumption))) : Below b w W := h

/-! ### impl_best: function 40 -/
mutual
def impl_best.l0 : Nat → List Int → Int → Int → Int → List (S52) → Int → Int → Option (Int)
 | 0, _, _, _, _, _, _, _ => none
 | k + 1, x1, x2, x7, x8, x39, x40, x41 => if x41 < x40 then (if 0 ≤ x41 then (if x41 < (x39.length : Int) then (impl_best.l1 k x1 x2 x7 x8 (wrap64 (-((rd_T52 x39 x41).f1))) x39 x40 x41 ((rd_T52 x39 x41).f0) (((rd_T52 x39 x41).f0).length : Int) 0 ((rd_T52 x39 x41).f0) ((rd_T52 x39 x41).f1) ((rd_T52 x39 x41).f2)) else (none)) else (none)) else ((impl_floorDiv.f (wrap64 (-x8)) x7).bind fun t218 => (if (wrap64 ((wrap64 ((wrap64 (x7 * (wrap64 (t218 + 1)))) * (wrap64 (t218 + 1)))) + (wrap64 ((wrap64 (2 * x8)) * (wrap64 (t218 + 1)))))) < (wrap64 ((wrap64 ((wrap64 (x7 * t218)) * t218)) + (wrap64 ((wrap64 (2 * x8)) * t218)))) then (some (wrap64 (t218 + 1))) else (if (wrap64 ((wrap64 ((wrap64 (x7 * (wrap64 (t218 + 1)))) * (wrap64 (t218 + 1)))) + (wrap64 ((wrap64 (2 * x8)) * (wrap64 (t218 + 1)))))) = (wrap64 ((wrap64 ((wrap64 (x7 * t218)) * t218)) + (wrap64 ((wrap64 (2 * x8)) * t218)))) then (if (mx (wrap64 (t218 + 1)) (wrap64 ((wrap64 (-t218)) - 1))) < (mx t218 (wrap64 (-t218))) then (some (wrap64 (t218 + 1))) else (if (mx (wrap64 (t218 + 1)) (wrap64 ((wrap64 (-t218)) - 1))) = (mx t218 (wrap64 (-t218))) then (if (wrap64 (t218 + 1)) > 0 then (some (wrap64 (t218 + 1))) else (some t218)) else (some t218))) else (some t218))))
def impl_best.l1 : Nat → List Int → Int → Int → Int → Int → List (S52) → Int → Int → List Int → Int → Int → List Int → Int → Int → Option (Int)
 | 0, _, _, _, _, _, _, _, _, _, _, _, _, _, _ => none
 | k + 1, x1, x2, x7, x8, x11, x39, x40, x41, x49, x50, x51, x221000, x221001, x221002 => if x51 < x50 then (if 0 ≤ x51 then (if x51 < (x49.length : Int) then (if x51 < (x1.length : Int) then (impl_best.l1 k x1 x2 x7 x8 (wrap64 (x11 + (wrap64 ((rd x49 x51) * (rd x1 x51))))) x39 x40 x41 x49 x50 (wrap64 (x51 + 1)) x221000 x221001 x221002) else (none)) else (none)) else (none)) else (if 0 ≤ x2 then (if x2 < (x221000.length : Int) then (impl_best.l0 k x1 x2 (wrap64 (x7 + (wrap64 ((wrap64 (x221002 * (rd x221000 x2))) * (rd x221000 x2))))) (wrap64 (x8 + (wrap64 ((wrap64 (x221002 * x11)) * (rd x221000 x2))))) x39 x40 (wrap64 (x41 + 1))) else (none)) else (none))
end
def impl_best.f (k : Nat) (a0_0 : Int) (l0_1 : List Int) (l0_2 : List Int) (l0_3 : List (S52)) (l1 : List Int) (a2 : Int) : Option (Int) := if 0 ≤ a2 then (if a2 < (l0_2.length : Int) then (if a2 < (l1.length : Int) then (if a2 < (l0_1.length : Int) then (impl_best.l0 k l1 a2 (rd l0_2 a2) (wrap64 ((rd l0_2 a2) * (wrap64 ((rd l1 a2) - (rd l0_1 a2))))) l0_3 (l0_3.length : Int) 0) else (none)) else (none)) else (none)) else (none)
theorem impl_best.mono_l : ∀ k, (∀ y0 y1 y2 y3 y4 y5 y6, LeO (impl_best.l0 k y0 y1 y2 y3 y4 y5 y6) (impl_best.l0 (k + 1) y0 y1 y2 y3 y4 y5 y6)) ∧ (∀ y0 y1 y2 y3 y4 y5 y6 y7 y8 y9 y10 y11 y12 y13, LeO (impl_best.l1 k y0 y1 y2 y3 y4 y5 y6 y7 y8 y9 y10 y11 y12 y13) (impl_best.l1 (k + 1) y0 y1 y2 y3 y4 y5 y6 y7 y8 y9 y10 y11 y12 y13))
 | 0 => ⟨fun _ _ _ _ _ _ _ r h => by simp [impl_best.l0] at h, fun _ _ _ _ _ _ _ _ _ _ _ _ _ _ r h => by simp [impl_best.l1] at h⟩
 | k + 1 => by
  obtain ⟨ih0, ih1⟩ := impl_best.mono_l k
  refine ⟨?_, ?_⟩
  intro y0 y1 y2 y3 y4 y5 y6; unfold impl_best.l0; rotate_left
  intro y0 y1 y2 y3 y4 y5 y6 y7 y8 y9 y10 y11 y12 y13; unfold impl_best.l1; rotate_left
  all_goals repeat' first
  | (with_reducible exact ih0 _ _ _ _ _ _ _)
  | (with_reducible exact ih1 _ _ _ _ _ _ _ _ _ _ _ _ _ _)
  | (with_reducible exact LeO.refl _)
  | (with_reducible exact LeO.none _)
  | (with_reducible refine LeO.ite ?_ ?_)
  | (with_reducible refine LeO.bind ?_ (fun _ => ?_))
  | exact ih0 _ _ _ _ _ _ _
  | exact ih1 _ _ _ _ _ _ _ _ _ _ _ _ _ _
  | exact LeO.none _
  | refine LeO.ite ?_ ?_
  | refine LeO.bind ?_ (fun _ => ?_)
theorem impl_best.mono : ∀ a0 a1 a2 a3 a4 a5 k, LeO (impl_best.f k a0 a1 a2 a3 a4 a5) (impl_best.f (k + 1) a0 a1 a2 a3 a4 a5) := by
 intro a0 a1 a2 a3 a4 a5 k
 obtain ⟨ih0, ih1⟩ := impl_best.mono_l k
 unfold impl_best.f
 repeat' first
   | (with_reducible exact ih0 _ _ _ _ _ _ _)
   | (with_reducible exact ih1 _ _ _ _ _ _ _ _ _ _ _ _ _ _)
   | (with_reducible exact LeO.refl _)
   | (with_reducible exact LeO.none _)
   | (with_reducible refine LeO.ite ?_ ?_)
   | (with_reducible refine LeO.bind ?_ (fun _ => ?_))
   | exact ih0 _ _ _ _ _ _ _
   | exact ih1 _ _ _ _ _ _ _ _ _ _ _ _ _ _
   | exact LeO.none _
   | refine LeO.ite ?_ ?_
   | refine LeO.bind ?_ (fun _ => ?_)
set_option maxHeartbeats 8000000 in
set_option maxRecDepth 100000 in
theorem impl_best.calls (k : Nat) (a0_0 : Int) (A0_1 : Option Addr) (c0_1 : Nat) (l0_1 : List Int) (A0_2 : Option Addr) (c0_2 : Nat) (l0_2 : List Int) (A0_3 : Option Addr) (c0_3 : Nat) (l0_3 : List (S52)) (A1 : Option Addr) (c1 : Nat) (l1 : List Int) (a2 : Int) (r : Int) (w : World) (hr0_1 : Kd.C (Kd.int .i64) w A0_1 l0_1.length l0_1) (hc0_1 : l0_1.length ≤ c0_1) (hr0_2 : Kd.C (Kd.int .i64) w A0_2 l0_2.length l0_2) (hc0_2 : l0_2.length ≤ c0_2) (hr0_3 : Kd.C k52 w A0_3 l0_3.length l0_3) (hc0_3 : l0_3.length ≤ c0_3) (hr1 : Kd.C (Kd.int .i64) w A1 l1.length l1) (hc1 : l1.length ≤ c1) (h : impl_best.f k a0_0 l0_1 l0_2 l0_3 l1 a2 = some r) :
  Calls Try.prog 40 #[.agg #[.int .i64 a0_0, .slice A0_1 l0_1.length c0_1, .slice A0_2 l0_2.length c0_2, .slice A0_3 l0_3.length c0_3], .slice A1 l1.length c1, .int .i64 a2] w fun e w' => e = .returned (.int .i64 r) ∧ Below w.heap.size w w' := by
 have hu30 := Try.underlying30; have hu52 := Try.underlying52; have HR0_1 := Aside0.mk hr0_1; have HC0_1 := Aside0.mk hc0_1; clear hr0_1 hc0_1; have HR0_2 := Aside0.mk hr0_2; have HC0_2 := Aside0.mk hc0_2; clear hr0_2 hc0_2; have HR0_3 := Aside0.mk hr0_3; have HC0_3 := Aside0.mk hc0_3; clear hr0_3 hc0_3; have HR1 := Aside0.mk hr1; have HC1 := Aside0.mk hc1; clear hr1 hc1
 have HB := Aside0.mk (Below.refl w.heap.size w)
 have H : (if 0 ≤ a2 then (if a2 < (l0_2.length : Int) then (if a2 < (l1.length : Int) then (if a2 < (l0_1.length : Int) then (impl_best.l0 k l1 a2 (rd l0_2 a2) (wrap64 ((rd l0_2 a2) * (wrap64 ((rd l1 a2) - (rd l0_1 a2))))) l0_3 (l0_3.length : Int) 0) else (none)) else (none)) else (none)) else (none)) = some r := h
 clear h
 obtain ⟨c4, H⟩ := ifS_ H
 have c4b0 : decide (0 ≤ a2) = true := decide_eq_true c4
 clear c4
 obtain ⟨c5, H⟩ := ifS_ H
 have c5b0 : decide (a2 < (l0_2.length : Int)) = true := decide_eq_true c5
 clear c5
 obtain ⟨c6, H⟩ := ifS_ H
 have c6b0 : decide (a2 < (l1.length : Int)) = true := decide_eq_true c6
 clear c6
 obtain ⟨c7, H⟩ := ifS_ H
 have c7b0 : decide (a2 < (l0_1.length : Int)) = true := decide_eq_true c7
 clear c7; have H' := Aside0.mk H; clear H
 go_enter Try.func40, Try.ntmps40
 have START_ := True.intro
 repeat ((first | go_quiet (fail) | clear START_); try go_wp2_with (first | ((with_reducible refine gate_dst (N := 3) rfl ?_); (try (refine gate_guard (by rfl) ?_; dsimp only)); refine box_event ?hg (N := 3) ?hd (cs := #[.int .i64 a0_0, .slice A0_1 l0_1.length c0_1, .slice A0_2 l0_2.length c0_2, .slice A0_3 l0_3.length c0_3]) (t := 30) ?hr ?_; (case hd => rfl); (case hg => rfl); (case hr => first | (go_simp; done) | (go_simp; rfl)); intro gb213 hg w8 hbox hb; have BK213 := Aside0.mk (hbox); have GW213 := gE_ HB hg; have GE213 := gE_ HB hg; replace HB := bS_ HB hb; clear hb hbox hg; obtain ⟨hcz9_0, hcz9_1, hcz9_2, hcz9_3, hfz9_0, hfz9_1, hfz9_2, hfz9_3⟩ := cf4_ BK213; have p214 : 0 ≤ (a2 : Int) := dA_; have q214 : a2 < (l0_2.length : Int) := dA_; obtain ⟨ad214, e214, hx214_0⟩ := Kd.at_int HR0_2.out a2 p214 q214; cases e214; replace hx214_0 := hX_ HB hx214_0; replace p214 := eq_true p214; replace q214 := eq_true q214; have p215 : 0 ≤ (a2 : Int) := dA_; have q215 : a2 < (l0_2.length : Int) := dA_; obtain ⟨ad215, e215, hx215_0⟩ := Kd.at_int HR0_2.out a2 p215 q215; obtain rfl : ad214 = ad215 := (by injection e215); replace hx215_0 := hX_ HB hx215_0; replace p215 := eq_true p215; replace q215 := eq_true q215; have p216 : 0 ≤ (a2 : Int) := dA_; have q216 : a2 < (l1.length : Int) := dA_; obtain ⟨ad216, e216, hx216_0⟩ := Kd.at_int HR1.out a2 p216 q216; cases e216; replace hx216_0 := hX_ HB hx216_0; replace p216 := eq_true p216; replace q216 := eq_true q216; have p217 : 0 ≤ (a2 : Int) := dA_; have q217 : a2 < (l0_1.length : Int) := dA_; obtain ⟨ad217, e217, hx217_0⟩ := Kd.at_int HR0_1.out a2 p217 q217; cases e217; replace hx217_0 := hX_ HB hx217_0; replace p217 := eq_true p217; replace q217 := eq_true q217)))
 go_loopg [7, 8, 41] k (fun kq v7 v8 v41 w' => ∃ (x7_1 : Int) (x8_1 : Int) (x41_1 : Int), v7 = .int .i64 x7_1 ∧ v8 = .int .i64 x8_1 ∧ v41 = .int .i64 x41_1 ∧ Aside0 (impl_best.l0 kq l1 a2 x7_1 x8_1 l0_3 (l0_3.length : Int) x41_1 = some r) ∧ Aside0 (kq ≤ k) ∧ Aside0 (w'.heap[gb213]? = some (.cells #[.int .i64 a0_0, (.slice (some ad217) l0_1.length c0_1), (.slice (some ad214) l0_2.length c0_2), (.slice A0_3 l0_3.length c0_3)] 30 (0, 0))) ∧ Aside0 (Below w.heap.size w w'))
 case atStart => exact ⟨(rd l0_2 a2), (wrap64 ((rd l0_2 a2) * (wrap64 ((rd l1 a2) - (rd l0_1 a2))))), (0), (by first | rfl | (simp; done) | (simp [*]; done)), (by first | rfl | (simp; done) | (simp [*]; done)), (by first | rfl | (simp; done) | (simp [*]; done)), H', ⟨Nat.le_refl _⟩, ⟨bT_ BK213⟩, ⟨sABelo_9⟩⟩
 case round =>
  clear H'; (try clear c1); (try clear c4); (try clear c4b0); (try clear c5); (try clear c5b0); (try clear c6); (try clear c6b0); (try clear c7); (try clear c7b0); (try clear hcz9_0); (try clear hcz9_1); (try clear hcz9_2); (try clear hcz9_3); (try clear hfz9_0); (try clear hfz9_1); (try clear hfz9_2); (try clear hfz9_3); (try clear hx214_0); (try clear hx215_0); (try clear hx216_0); (try clear hx217_0); (try clear p214); (try clear p215); (try clear p216); (try clear p217); (try clear q214); (try clear q215); (try clear q216); (try clear q217)
  obtain ⟨x7_1, x8_1, x41_1, rfl, rfl, rfl, HA, HK1, BK213, HB⟩ := hrel
  cases gk with
  | zero => exact absurd HA.out (by simp [impl_best.l0])
  | succ k1 =>
   have H := HA.out; clear HA
   simp only [impl_best.l0] at H
   by_cases c10 : x41_1 < (l0_3.length : Int)
   ·rw [if_pos c10] at H
    have c10b0 := decide_eq_true c10
    clear c10
    obtain ⟨c11, H⟩ := ifS_ H
    have c11b0 : decide (0 ≤ x41_1) = true := decide_eq_true c11
    clear c11
    obtain ⟨c12, H⟩ := ifS_ H
    have c12b0 : decide (x41_1 < (l0_3.length : Int)) = true := decide_eq_true c12
    clear c12; have H' := Aside0.mk H; clear H
    have p219 : 0 ≤ (x41_1 : Int) := dA_
    have q219 : x41_1 < (l0_3.length : Int) := dA_
    obtain ⟨ad219, A219_0, c219_0, e219, hx219_0, hx219_1, hx219_2, hl219_0, hi219_0⟩ := at_T52 HR0_3.out x41_1 p219 q219
    cases e219
    replace hx219_0 := hX_ HB hx219_0
    replace hx219_1 := hX_ HB hx219_1
    replace hx219_2 := hX_ HB hx219_2
    have HR219_0 := Aside0.mk hi219_0; have HC219_0 := Aside0.mk hl219_0; clear hi219_0 hl219_0; replace p219 := eq_true p219; replace q219 := eq_true q219
    have START_ := True.intro
    repeat ((first | go_quiet (fail) | clear START_); try go_wp2_with (first | ((with_reducible refine gate_dst (N := 10) rfl ?_); (try (refine gate_guard (by rfl) ?_; dsimp only)); refine box_event ?hg (N := 10) ?hd (cs := #[.slice none 0 0, .int .i64 0, .int .i64 0]) (t := 52) ?hr ?_; (case hd => rfl); (case hg => rfl); (case hr => first | (go_simp; done) | (go_simp; rfl)); intro gb220 hg w13 hbox hb; have BK220 := Aside0.mk (hbox); have GW220 := gE_ HB hg; have GE220 := gE_ HB hg; replace HB := bS_ HB hb; have NB213_220 := nL_ BK213 hg; have NB220_213 := nG_ BK213 hg; replace BK213 := bB_ BK213 hb; clear hb hbox hg; have hnb14 := NB220_213.out; have hnc14 := NB213_220.out; obtain ⟨hcz15_0, hcz15_1, hcz15_2, hfz15_0, hfz15_1, hfz15_2⟩ := cf3_ BK220)))
    go_loopg [11, 51] k1 (fun kq v11 v51 w' => ∃ (x11_2 : Int) (x51_2 : Int), v11 = .int .i64 x11_2 ∧ v51 = .int .i64 x51_2 ∧ Aside0 (impl_best.l1 kq l1 a2 x7_1 x8_1 x11_2 l0_3 (l0_3.length : Int) x41_1 ((rd_T52 l0_3 x41_1).f0) (((rd_T52 l0_3 x41_1).f0).length : Int) x51_2 ((rd_T52 l0_3 x41_1).f0) ((rd_T52 l0_3 x41_1).f1) ((rd_T52 l0_3 x41_1).f2) = some r) ∧ Aside0 (kq ≤ k1) ∧ Aside0 (w'.heap[gb213]? = some (.cells #[.int .i64 a0_0, (.slice (some ad217) l0_1.length c0_1), (.slice (some ad214) l0_2.length c0_2), (.slice (some ad219) l0_3.length c0_3)] 30 (0, 0))) ∧ Aside0 (w'.heap[gb220]? = some (.cells #[(.slice A219_0 ((rd_T52 l0_3 x41_1).f0).length c219_0), .int .i64 ((rd_T52 l0_3 x41_1).f1), .int .i64 ((rd_T52 l0_3 x41_1).f2)] 52 (0, 0))) ∧ Aside0 (Below w.heap.size w w'))
    case atStart => exact ⟨(wrap64 (-((rd_T52 l0_3 x41_1).f1))), (0), (by first | rfl | (simp; done) | (simp [*]; done)), (by first | rfl | (simp; done) | (simp [*]; done)), H', ⟨Nat.le_refl _⟩, ⟨bF_ BK213 NB213_220⟩, ⟨bP_ BK220⟩, ⟨sABelo_9⟩⟩
    case round =>
     clear H'; (try clear c1); (try clear c4); (try clear c4b0); (try clear c5); (try clear c5b0); (try clear c6); (try clear c6b0); (try clear c7); (try clear c7b0); (try clear c10); (try clear c10b0); (try clear c11); (try clear c11b0); (try clear c12); (try clear c12b0); (try clear hcz15_0); (try clear hcz15_1); (try clear hcz15_2); (try clear hcz9_0); (try clear hcz9_1); (try clear hcz9_2); (try clear hcz9_3); (try clear hfz15_0); (try clear hfz15_1); (try clear hfz15_2); (try clear hfz9_0); (try clear hfz9_1); (try clear hfz9_2); (try clear hfz9_3); (try clear hx214_0); (try clear hx215_0); (try clear hx216_0); (try clear hx217_0); (try clear hx219_0); (try clear hx219_1); (try clear hx219_2); (try clear p214); (try clear p215); (try clear p216); (try clear p217); (try clear p219); (try clear q214); (try clear q215); (try clear q216); (try clear q217); (try clear q219)
     obtain ⟨x11_2, x51_2, rfl, rfl, HA, HK2, BK213, BK220, HB⟩ := hrel
     cases gk with
     | zero => exact absurd HA.out (by simp [impl_best.l1])
     | succ k2 =>
      have H := HA.out; clear HA
      simp only [impl_best.l1] at H
      by_cases c16 : x51_2 < (((rd_T52 l0_3 x41_1).f0).length : Int)
      ·rw [if_pos c16] at H
       have c16b0 := decide_eq_true c16
       clear c16
       obtain ⟨c17, H⟩ := ifS_ H
       have c17b0 : decide (0 ≤ x51_2) = true := decide_eq_true c17
       clear c17
       obtain ⟨c18, H⟩ := ifS_ H
       have c18b0 : decide (x51_2 < (((rd_T52 l0_3 x41_1).f0).length : Int)) = true := decide_eq_true c18
       clear c18
       obtain ⟨c19, H⟩ := ifS_ H
       have c19b0 : decide (x51_2 < (l1.length : Int)) = true := decide_eq_true c19
       clear c19; have H' := Aside0.mk H; clear H
       have p221 : 0 ≤ (x51_2 : Int) := dA_
       have q221 : x51_2 < (((rd_T52 l0_3 x41_1).f0).length : Int) := dA_
       obtain ⟨ad221, e221, hx221_0⟩ := Kd.at_int HR219_0.out x51_2 p221 q221
       cases e221
       replace hx221_0 := hX_ HB hx221_0
       replace p221 := eq_true p221; replace q221 := eq_true q221
       have p222 : 0 ≤ (x51_2 : Int) := dA_
       have q222 : x51_2 < (l1.length : Int) := dA_
       obtain ⟨ad222, e222, hx222_0⟩ := Kd.at_int HR1.out x51_2 p222 q222
       obtain rfl : ad216 = ad222 := (by injection e222)
       replace hx222_0 := hX_ HB hx222_0
       replace p222 := eq_true p222; replace q222 := eq_true q222
       go_wp2
       repeat (go_quiet (fail); try go_wp2)
       go_roundg k2
       case measure => have := HK1.out; have := HK2.out; omega
       case rel => exact ⟨(wrap64 (x11_2 + (wrap64 ((rd ((rd_T52 l0_3 x41_1).f0) x51_2) * (rd l1 x51_2))))), (wrap64 (x51_2 + 1)), (by first | rfl | (simp; done) | (simp [*]; done)), (by first | rfl | (simp; done) | (simp [*]; done)), H', ⟨by have := HK1.out; have := HK2.out; omega⟩, ⟨bT_ BK213⟩, ⟨bT_ BK220⟩, ⟨sABelo_9⟩⟩
      ·rw [if_neg c16] at H
       have c16b0 := decide_eq_false c16
       clear c16
       obtain ⟨c20, H⟩ := ifS_ H
       have c20b0 : decide (0 ≤ a2) = true := decide_eq_true c20
       clear c20
       obtain ⟨c21, H⟩ := ifS_ H
       have c21b0 : decide (a2 < (((rd_T52 l0_3 x41_1).f0).length : Int)) = true := decide_eq_true c21
       clear c21; have H' := Aside0.mk H; clear H; have hnb22 := NB220_213.out; have hnc22 := NB213_220.out
       obtain ⟨hcz23_0, hcz23_1, hcz23_2, hfz23_0, hfz23_1, hfz23_2⟩ := cf3_ BK220
       have p223 : 0 ≤ (a2 : Int) := dA_
       have q223 : a2 < (((rd_T52 l0_3 x41_1).f0).length : Int) := dA_
       obtain ⟨ad223, e223, hx223_0⟩ := Kd.at_int HR219_0.out a2 p223 q223
       cases e223
       replace hx223_0 := hX_ HB hx223_0
       replace p223 := eq_true p223; replace q223 := eq_true q223
       have p224 : 0 ≤ (a2 : Int) := dA_
       have q224 : a2 < (((rd_T52 l0_3 x41_1).f0).length : Int) := dA_
       obtain ⟨ad224, e224, hx224_0⟩ := Kd.at_int HR219_0.out a2 p224 q224
       obtain rfl : ad223 = ad224 := (by injection e224)
       replace hx224_0 := hX_ HB hx224_0
       replace p224 := eq_true p224; replace q224 := eq_true q224
       have p225 : 0 ≤ (a2 : Int) := dA_
       have q225 : a2 < (((rd_T52 l0_3 x41_1).f0).length : Int) := dA_
       obtain ⟨ad225, e225, hx225_0⟩ := Kd.at_int HR219_0.out a2 p225 q225
       obtain rfl : ad223 = ad225 := (by injection e225)
       replace hx225_0 := hX_ HB hx225_0
       replace p225 := eq_true p225; replace q225 := eq_true q225
       go_wp2
       repeat (go_quiet (fail); try go_wp2)
       go_roundg k2
       case measure => have := HK1.out; have := HK2.out; omega
       case rel => exact ⟨(wrap64 (x7_1 + (wrap64 ((wrap64 (((rd_T52 l0_3 x41_1).f2) * (rd ((rd_T52 l0_3 x41_1).f0) a2))) * (rd ((rd_T52 l0_3 x41_1).f0) a2))))), (wrap64 (x8_1 + (wrap64 ((wrap64 (((rd_T52 l0_3 x41_1).f2) * x11_2)) * (rd ((rd_T52 l0_3 x41_1).f0) a2))))), (wrap64 (x41_1 + 1)), (by first | rfl | (simp; done) | (simp [*]; done)), (by first | rfl | (simp; done) | (simp [*]; done)), (by first | rfl | (simp; done) | (simp [*]; done)), H', ⟨by have := HK1.out; have := HK2.out; omega⟩, ⟨bT_ BK213⟩, ⟨sABelo_9⟩⟩
   ·rw [if_neg c10] at H
    have c10b0 := decide_eq_false c10
    clear c10; replace H := Option.bind_eq_some_iff.mp H
    obtain ⟨t218, A240, H⟩ := H
    replace H : (if (wrap64 ((wrap64 ((wrap64 (x7_1 * (wrap64 (t218 + 1)))) * (wrap64 (t218 + 1)))) + (wrap64 ((wrap64 (2 * x8_1)) * (wrap64 (t218 + 1)))))) < (wrap64 ((wrap64 ((wrap64 (x7_1 * t218)) * t218)) + (wrap64 ((wrap64 (2 * x8_1)) * t218)))) then (some (wrap64 (t218 + 1))) else (if (wrap64 ((wrap64 ((wrap64 (x7_1 * (wrap64 (t218 + 1)))) * (wrap64 (t218 + 1)))) + (wrap64 ((wrap64 (2 * x8_1)) * (wrap64 (t218 + 1)))))) = (wrap64 ((wrap64 ((wrap64 (x7_1 * t218)) * t218)) + (wrap64 ((wrap64 (2 * x8_1)) * t218)))) then (if (mx (wrap64 (t218 + 1)) (wrap64 ((wrap64 (-t218)) - 1))) < (mx t218 (wrap64 (-t218))) then (some (wrap64 (t218 + 1))) else (if (mx (wrap64 (t218 + 1)) (wrap64 ((wrap64 (-t218)) - 1))) = (mx t218 (wrap64 (-t218))) then (if (wrap64 (t218 + 1)) > 0 then (some (wrap64 (t218 + 1))) else (some t218)) else (some t218))) else (some t218))) = some r := H
    have A24 := Aside0.mk A240; clear A240
    by_cases c25 : (wrap64 ((wrap64 ((wrap64 (x7_1 * (wrap64 (t218 + 1)))) * (wrap64 (t218 + 1)))) + (wrap64 ((wrap64 (2 * x8_1)) * (wrap64 (t218 + 1)))))) < (wrap64 ((wrap64 ((wrap64 (x7_1 * t218)) * t218)) + (wrap64 ((wrap64 (2 * x8_1)) * t218))))
    ·rw [if_pos c25] at H
     have c25b0 := decide_eq_true c25
     clear c25
     obtain rfl := Option.some.inj H
     have START_ := True.intro
     repeat ((first | go_quiet (first | (go_at_call 50; (with_reducible refine (impl_floorDiv.calls (wrap64 (-x8_1)) x7_1 t218 _ A24.out).mono ?_); rintro e w' ⟨rfl, ⟨nd, rfl⟩⟩; (try first | exact ⟨rfl, _, World.drewN_drewN _ _ _⟩ | exact ⟨rfl, _, Eq.trans (World.drewN_drewN _ _ _) (congrArg (World.drewN _) (Nat.add_assoc _ _ _))⟩))) | clear START_); try go_wp2_with (first | (go_at_call 50; (with_reducible refine (impl_floorDiv.calls (wrap64 (-x8_1)) x7_1 t218 _ A24.out).mono ?_); rintro e w' ⟨rfl, ⟨nd, rfl⟩⟩; (try first | exact ⟨rfl, _, World.drewN_drewN _ _ _⟩ | exact ⟨rfl, _, Eq.trans (World.drewN_drewN _ _ _) (congrArg (World.drewN _) (Nat.add_assoc _ _ _))⟩))))
     go_ret
     exact ⟨by first | rfl | (simp [errW_none, errW_some] <;> rfl) | (simp [*, errW_none, errW_some] <;> rfl), sABelo_9⟩
    ·rw [if_neg c25] at H
     have c25b0 := decide_eq_false c25
     clear c25
     by_cases c26 : (wrap64 ((wrap64 ((wrap64 (x7_1 * (wrap64 (t218 + 1)))) * (wrap64 (t218 + 1)))) + (wrap64 ((wrap64 (2 * x8_1)) * (wrap64 (t218 + 1)))))) = (wrap64 ((wrap64 ((wrap64 (x7_1 * t218)) * t218)) + (wrap64 ((wrap64 (2 * x8_1)) * t218))))
     ·rw [if_pos c26] at H
      have c26b0 := beq_iff_eq.mpr c26
      have c26b1 := bne_eq_false_iff_eq.mpr c26
      clear c26
      obtain ⟨ji27, hji27⟩ : ∃ j_ : Int, (mx (wrap64 (t218 + 1)) (wrap64 ((wrap64 (-t218)) - 1))) = j_ := ⟨_, rfl⟩
      replace H : (if (ji27) < (mx t218 (wrap64 (-t218))) then (some (wrap64 (t218 + 1))) else (if (ji27) = (mx t218 (wrap64 (-t218))) then (if (wrap64 (t218 + 1)) > 0 then (some (wrap64 (t218 + 1))) else (some t218)) else (some t218))) = some r := by first | (rw [hji27] at H; exact H) | (simp only [hji27] at H ⊢; exact H)
      (try rw [hji27] at A24)
      have hji27_ : (if (wrap64 (t218 + 1)) < (wrap64 ((wrap64 (-t218)) - 1)) then (wrap64 ((wrap64 (-t218)) - 1)) else (wrap64 (t218 + 1))) = ji27 := hji27
      obtain ⟨ji28, hji28⟩ : ∃ j_ : Int, (mx t218 (wrap64 (-t218))) = j_ := ⟨_, rfl⟩
      replace H : (if (ji27) < (ji28) then (some (wrap64 (t218 + 1))) else (if (ji27) = (ji28) then (if (wrap64 (t218 + 1)) > 0 then (some (wrap64 (t218 + 1))) else (some t218)) else (some t218))) = some r := by first | (rw [hji28] at H; exact H) | (simp only [hji28] at H ⊢; exact H)
      (try rw [hji28] at A24)
      have hji28_ : (if t218 < (wrap64 (-t218)) then (wrap64 (-t218)) else t218) = ji28 := hji28
      by_cases c29 : (ji27) < (ji28)
      ·rw [if_pos c29] at H
       have c29b0 := decide_eq_true c29
       clear c29
       obtain rfl := Option.some.inj H
       have START_ := True.intro
       repeat ((first | go_quiet (first | (go_at_call 50; (with_reducible refine (impl_floorDiv.calls (wrap64 (-x8_1)) x7_1 t218 _ A24.out).mono ?_); rintro e w' ⟨rfl, ⟨nd, rfl⟩⟩; (try first | exact ⟨rfl, _, World.drewN_drewN _ _ _⟩ | exact ⟨rfl, _, Eq.trans (World.drewN_drewN _ _ _) (congrArg (World.drewN _) (Nat.add_assoc _ _ _))⟩))) | clear START_); try go_wp2_with (first | (go_at_call 50; (with_reducible refine (impl_floorDiv.calls (wrap64 (-x8_1)) x7_1 t218 _ A24.out).mono ?_); rintro e w' ⟨rfl, ⟨nd, rfl⟩⟩; (try first | exact ⟨rfl, _, World.drewN_drewN _ _ _⟩ | exact ⟨rfl, _, Eq.trans (World.drewN_drewN _ _ _) (congrArg (World.drewN _) (Nat.add_assoc _ _ _))⟩))))
       go_ret
       exact ⟨by first | rfl | (simp [errW_none, errW_some] <;> rfl) | (simp only [← hji27, ← hji28]; first | rfl | (simp [errW_none, errW_some] <;> rfl)) | (simp [*, errW_none, errW_some] <;> rfl), sABelo_9⟩
      ·rw [if_neg c29] at H
       have c29b0 := decide_eq_false c29
       clear c29
       by_cases c32 : (ji27) = (ji28)
       ·rw [if_pos c32] at H
        have c32b0 := beq_iff_eq.mpr c32
        have c32b1 := bne_eq_false_iff_eq.mpr c32
        clear c32
        by_cases c33 : (wrap64 (t218 + 1)) > 0
        ·rw [if_pos c33] at H
         have c33b0 : decide (0 < (wrap64 (t218 + 1))) = true := decide_eq_true c33
         clear c33
         obtain rfl := Option.some.inj H
         have START_ := True.intro
         repeat ((first | go_quiet (first | (go_at_call 50; (with_reducible refine (impl_floorDiv.calls (wrap64 (-x8_1)) x7_1 t218 _ A24.out).mono ?_); rintro e w' ⟨rfl, ⟨nd, rfl⟩⟩; (try first | exact ⟨rfl, _, World.drewN_drewN _ _ _⟩ | exact ⟨rfl, _, Eq.trans (World.drewN_drewN _ _ _) (congrArg (World.drewN _) (Nat.add_assoc _ _ _))⟩))) | clear START_); try go_wp2_with (first | (go_at_call 50; (with_reducible refine (impl_floorDiv.calls (wrap64 (-x8_1)) x7_1 t218 _ A24.out).mono ?_); rintro e w' ⟨rfl, ⟨nd, rfl⟩⟩; (try first | exact ⟨rfl, _, World.drewN_drewN _ _ _⟩ | exact ⟨rfl, _, Eq.trans (World.drewN_drewN _ _ _) (congrArg (World.drewN _) (Nat.add_assoc _ _ _))⟩))))
         go_ret
         exact ⟨by first | rfl | (simp [errW_none, errW_some] <;> rfl) | (simp only [← hji27, ← hji28]; first | rfl | (simp [errW_none, errW_some] <;> rfl)) | (simp [*, errW_none, errW_some] <;> rfl), sABelo_9⟩
        ·rw [if_neg c33] at H
         have c33b0 : decide (0 < (wrap64 (t218 + 1))) = false := decide_eq_false c33
         clear c33
         obtain rfl := Option.some.inj H
         have START_ := True.intro
         repeat ((first | go_quiet (first | (go_at_call 50; (with_reducible refine (impl_floorDiv.calls (wrap64 (-x8_1)) x7_1 t218 _ A24.out).mono ?_); rintro e w' ⟨rfl, ⟨nd, rfl⟩⟩; (try first | exact ⟨rfl, _, World.drewN_drewN _ _ _⟩ | exact ⟨rfl, _, Eq.trans (World.drewN_drewN _ _ _) (congrArg (World.drewN _) (Nat.add_assoc _ _ _))⟩))) | clear START_); try go_wp2_with (first | (go_at_call 50; (with_reducible refine (impl_floorDiv.calls (wrap64 (-x8_1)) x7_1 t218 _ A24.out).mono ?_); rintro e w' ⟨rfl, ⟨nd, rfl⟩⟩; (try first | exact ⟨rfl, _, World.drewN_drewN _ _ _⟩ | exact ⟨rfl, _, Eq.trans (World.drewN_drewN _ _ _) (congrArg (World.drewN _) (Nat.add_assoc _ _ _))⟩))))
         go_ret
         exact ⟨by first | rfl | (simp [errW_none, errW_some] <;> rfl) | (simp only [← hji27, ← hji28]; first | rfl | (simp [errW_none, errW_some] <;> rfl)) | (simp [*, errW_none, errW_some] <;> rfl), sABelo_9⟩
       ·rw [if_neg c32] at H
        have c32b0 := beq_eq_false_iff_ne.mpr c32
        have c32b1 := bne_iff_ne.mpr c32
        obtain rfl := Option.some.inj H
        have START_ := True.intro
        repeat ((first | go_quiet (first | (go_at_call 50; (with_reducible refine (impl_floorDiv.calls (wrap64 (-x8_1)) x7_1 t218 _ A24.out).mono ?_); rintro e w' ⟨rfl, ⟨nd, rfl⟩⟩; (try first | exact ⟨rfl, _, World.drewN_drewN _ _ _⟩ | exact ⟨rfl, _, Eq.trans (World.drewN_drewN _ _ _) (congrArg (World.drewN _) (Nat.add_assoc _ _ _))⟩))) | clear START_); try go_wp2_with (first | (go_at_call 50; (with_reducible refine (impl_floorDiv.calls (wrap64 (-x8_1)) x7_1 t218 _ A24.out).mono ?_); rintro e w' ⟨rfl, ⟨nd, rfl⟩⟩; (try first | exact ⟨rfl, _, World.drewN_drewN _ _ _⟩ | exact ⟨rfl, _, Eq.trans (World.drewN_drewN _ _ _) (congrArg (World.drewN _) (Nat.add_assoc _ _ _))⟩))))
        go_ret
        exact ⟨by first | rfl | (simp [errW_none, errW_some] <;> rfl) | (simp only [← hji27, ← hji28]; first | rfl | (simp [errW_none, errW_some] <;> rfl)) | (simp [*, errW_none, errW_some] <;> rfl), sABelo_9⟩
     ·rw [if_neg c26] at H
      have c26b0 := beq_eq_false_iff_ne.mpr c26
      have c26b1 := bne_iff_ne.mpr c26
      obtain rfl := Option.some.inj H
      have START_ := True.intro
      repeat ((first | go_quiet (first | (go_at_call 50; (with_reducible refine (impl_floorDiv.calls (wrap64 (-x8_1)) x7_1 t218 _ A24.out).mono ?_); rintro e w' ⟨rfl, ⟨nd, rfl⟩⟩; (try first | exact ⟨rfl, _, World.drewN_drewN _ _ _⟩ | exact ⟨rfl, _, Eq.trans (World.drewN_drewN _ _ _) (congrArg (World.drewN _) (Nat.add_assoc _ _ _))⟩))) | clear START_); try go_wp2_with (first | (go_at_call 50; (with_reducible refine (impl_floorDiv.calls (wrap64 (-x8_1)) x7_1 t218 _ A24.out).mono ?_); rintro e w' ⟨rfl, ⟨nd, rfl⟩⟩; (try first | exact ⟨rfl, _, World.drewN_drewN _ _ _⟩ | exact ⟨rfl, _, Eq.trans (World.drewN_drewN _ _ _) (congrArg (World.drewN _) (Nat.add_assoc _ _ _))⟩))))
      go_ret
      exact ⟨by first | rfl | (simp [errW_none, errW_some] <;> rfl) | (simp [*, errW_none, errW_some] <;> rfl), sABelo_9⟩

end Go.Proofs.Ytcjhbmjimjbphaa.QFnDescends
