-- Written by a program of this session out of the printer's texts and contracts of its own.
import Derived.Test.YtcjhbmjimjbphaaSq
import Derived.Test.YtcjhbmjimjbphaaQFnDescendsx0
import Derived.Test.YtcjhbmjimjbphaaQFnDescendsx2
namespace Go.Proofs.Ytcjhbmjimjbphaa.QFnDescends
open Go.RowKit Go.Proofs.YtcjhbmjimjbphaaW.PrintWords Go.Proofs.YtcjhbmjimjbphaaW.PrintLast Go.Proofs.YtcjhbmjimjbphaaW.PrintMore Go.Proofs.Ytcjhbmjimjbphaa.Sq
attribute [local go_sem] max2_int min2_int max_two min_two max_three min_three max_four min_four   -- for this text's walks alone
set_option linter.unusedVariables false
set_option linter.unusedSimpArgs false
theorem sABelo_3 {b : Nat} {w W : World} (h : Below b w W := by repeat (first | (with_reducible first | exact Aside0.out (by assumption) | apply below_alloc | apply pw_below_drewN | apply below_drew1 | refine below_set ?_ (Aside0.out (by assumption))) | exact Aside0.out (by assumption))) : Below b w W := h

/-! ### spec_l15Cost: function 29 -/
mutual
def spec_l15Cost.l0 : Nat → List Int → Int → Int → Int → List Int → List Int → List (S52) → Option (Int)
 | 0, _, _, _, _, _, _, _ => none
 | k + 1, x1, x5, x6, x113000, x113001, x113002, x113003 => if x6 < x113000 then (if 0 ≤ x6 then (if x6 < (x113002.length : Int) then (if x6 < (x1.length : Int) then (if x6 < (x113001.length : Int) then (spec_l15Cost.l0 k x1 (wrap64 (x5 + (wrap64 ((wrap64 ((rd x113002 x6) * (wrap64 ((rd x1 x6) - (rd x113001 x6))))) * (wrap64 ((rd x1 x6) - (rd x113001 x6))))))) (wrap64 (x6 + 1)) x113000 x113001 x113002 x113003) else (none)) else (none)) else (none)) else (none)) else (spec_l15Cost.l1 k x1 x5 0 x113000 x113001 x113002 x113003)
def spec_l15Cost.l1 : Nat → List Int → Int → Int → Int → List Int → List Int → List (S52) → Option (Int)
 | 0, _, _, _, _, _, _, _ => none
 | k + 1, x1, x5, x7, x113000, x113001, x113002, x113003 => if x7 < (x113003.length : Int) then (if 0 ≤ x7 then (spec_l15Cost.l2 k x1 x5 x7 (wrap64 (-((rd_T52 x113003 x7).f1))) 0 x113000 x113001 x113002 x113003) else (none)) else (some x5)
def spec_l15Cost.l2 : Nat → List Int → Int → Int → Int → Int → Int → List Int → List Int → List (S52) → Option (Int)
 | 0, _, _, _, _, _, _, _, _, _ => none
 | k + 1, x1, x5, x7, x8, x9, x113000, x113001, x113002, x113003 => if x9 < x113000 then (if 0 ≤ x7 then (if x7 < (x113003.length : Int) then (if 0 ≤ x9 then (if x9 < (((rd_T52 x113003 x7).f0).length : Int) then (if x9 < (x1.length : Int) then (spec_l15Cost.l2 k x1 x5 x7 (wrap64 (x8 + (wrap64 ((rd ((rd_T52 x113003 x7).f0) x9) * (rd x1 x9))))) (wrap64 (x9 + 1)) x113000 x113001 x113002 x113003) else (none)) else (none)) else (none)) else (none)) else (none)) else (if 0 ≤ x7 then (if x7 < (x113003.length : Int) then (spec_l15Cost.l1 k x1 (wrap64 (x5 + (wrap64 ((wrap64 (((rd_T52 x113003 x7).f2) * x8)) * x8)))) (wrap64 (x7 + 1)) x113000 x113001 x113002 x113003) else (none)) else (none))
end
def spec_l15Cost.f (k : Nat) (a0_0 : Int) (l0_1 : List Int) (l0_2 : List Int) (l0_3 : List (S52)) (l1 : List Int) : Option (Int) := spec_l15Cost.l0 k l1 0 0 a0_0 l0_1 l0_2 l0_3
theorem spec_l15Cost.mono_l : ∀ k, (∀ y0 y1 y2 y3 y4 y5 y6, LeO (spec_l15Cost.l0 k y0 y1 y2 y3 y4 y5 y6) (spec_l15Cost.l0 (k + 1) y0 y1 y2 y3 y4 y5 y6)) ∧ (∀ y0 y1 y2 y3 y4 y5 y6, LeO (spec_l15Cost.l1 k y0 y1 y2 y3 y4 y5 y6) (spec_l15Cost.l1 (k + 1) y0 y1 y2 y3 y4 y5 y6)) ∧ (∀ y0 y1 y2 y3 y4 y5 y6 y7 y8, LeO (spec_l15Cost.l2 k y0 y1 y2 y3 y4 y5 y6 y7 y8) (spec_l15Cost.l2 (k + 1) y0 y1 y2 y3 y4 y5 y6 y7 y8))
 | 0 => ⟨fun _ _ _ _ _ _ _ r h => by simp [spec_l15Cost.l0] at h, fun _ _ _ _ _ _ _ r h => by simp [spec_l15Cost.l1] at h, fun _ _ _ _ _ _ _ _ _ r h => by simp [spec_l15Cost.l2] at h⟩
 | k + 1 => by
  obtain ⟨ih0, ih1, ih2⟩ := spec_l15Cost.mono_l k
  refine ⟨?_, ?_, ?_⟩
  intro y0 y1 y2 y3 y4 y5 y6; unfold spec_l15Cost.l0; rotate_left
  intro y0 y1 y2 y3 y4 y5 y6; unfold spec_l15Cost.l1; rotate_left
  intro y0 y1 y2 y3 y4 y5 y6 y7 y8; unfold spec_l15Cost.l2; rotate_left
  all_goals repeat' first
  | (with_reducible exact ih0 _ _ _ _ _ _ _)
  | (with_reducible exact ih1 _ _ _ _ _ _ _)
  | (with_reducible exact ih2 _ _ _ _ _ _ _ _ _)
  | (with_reducible exact LeO.refl _)
  | (with_reducible exact LeO.none _)
  | (with_reducible refine LeO.ite ?_ ?_)
  | (with_reducible refine LeO.bind ?_ (fun _ => ?_))
  | exact ih0 _ _ _ _ _ _ _
  | exact ih1 _ _ _ _ _ _ _
  | exact ih2 _ _ _ _ _ _ _ _ _
  | exact LeO.none _
  | refine LeO.ite ?_ ?_
  | refine LeO.bind ?_ (fun _ => ?_)
theorem spec_l15Cost.mono : ∀ a0 a1 a2 a3 a4 k, LeO (spec_l15Cost.f k a0 a1 a2 a3 a4) (spec_l15Cost.f (k + 1) a0 a1 a2 a3 a4) := by
 intro a0 a1 a2 a3 a4 k
 obtain ⟨ih0, ih1, ih2⟩ := spec_l15Cost.mono_l k
 unfold spec_l15Cost.f
 repeat' first
   | (with_reducible exact ih0 _ _ _ _ _ _ _)
   | (with_reducible exact ih1 _ _ _ _ _ _ _)
   | (with_reducible exact ih2 _ _ _ _ _ _ _ _ _)
   | (with_reducible exact LeO.refl _)
   | (with_reducible exact LeO.none _)
   | (with_reducible refine LeO.ite ?_ ?_)
   | (with_reducible refine LeO.bind ?_ (fun _ => ?_))
   | exact ih0 _ _ _ _ _ _ _
   | exact ih1 _ _ _ _ _ _ _
   | exact ih2 _ _ _ _ _ _ _ _ _
   | exact LeO.none _
   | refine LeO.ite ?_ ?_
   | refine LeO.bind ?_ (fun _ => ?_)
set_option maxHeartbeats 8000000 in
set_option maxRecDepth 100000 in
theorem spec_l15Cost.calls (k : Nat) (a0_0 : Int) (A0_1 : Option Addr) (c0_1 : Nat) (l0_1 : List Int) (A0_2 : Option Addr) (c0_2 : Nat) (l0_2 : List Int) (A0_3 : Option Addr) (c0_3 : Nat) (l0_3 : List (S52)) (A1 : Option Addr) (c1 : Nat) (l1 : List Int) (r : Int) (w : World) (hr0_1 : Kd.C (Kd.int .i64) w A0_1 l0_1.length l0_1) (hc0_1 : l0_1.length ≤ c0_1) (hr0_2 : Kd.C (Kd.int .i64) w A0_2 l0_2.length l0_2) (hc0_2 : l0_2.length ≤ c0_2) (hr0_3 : Kd.C k52 w A0_3 l0_3.length l0_3) (hc0_3 : l0_3.length ≤ c0_3) (hr1 : Kd.C (Kd.int .i64) w A1 l1.length l1) (hc1 : l1.length ≤ c1) (h : spec_l15Cost.f k a0_0 l0_1 l0_2 l0_3 l1 = some r) :
  Calls Try.prog 29 #[.agg #[.int .i64 a0_0, .slice A0_1 l0_1.length c0_1, .slice A0_2 l0_2.length c0_2, .slice A0_3 l0_3.length c0_3], .slice A1 l1.length c1] w fun e w' => e = .returned (.int .i64 r) ∧ Below w.heap.size w w' := by
 have hu30 := Try.underlying30; have HR0_1 := Aside0.mk hr0_1; have HC0_1 := Aside0.mk hc0_1; clear hr0_1 hc0_1; have HR0_2 := Aside0.mk hr0_2; have HC0_2 := Aside0.mk hc0_2; clear hr0_2 hc0_2; have HR0_3 := Aside0.mk hr0_3; have HC0_3 := Aside0.mk hc0_3; clear hr0_3 hc0_3; have HR1 := Aside0.mk hr1; have HC1 := Aside0.mk hc1; clear hr1 hc1
 have HB := Aside0.mk (Below.refl w.heap.size w)
 have H : (spec_l15Cost.l0 k l1 0 0 a0_0 l0_1 l0_2 l0_3) = some r := h
 clear h; have H' := Aside0.mk H; clear H
 go_enter Try.func29, Try.ntmps29
 have START_ := True.intro
 repeat ((first | go_quiet (fail) | clear START_); try go_wp2_with (first | ((with_reducible refine gate_dst (N := 2) rfl ?_); refine box_event ?hg (N := 2) ?hd (cs := #[.int .i64 a0_0, .slice A0_1 l0_1.length c0_1, .slice A0_2 l0_2.length c0_2, .slice A0_3 l0_3.length c0_3]) (t := 30) ?hr ?_; (case hd => rfl); (case hg => rfl); (case hr => first | (go_simp; done) | (go_simp; rfl)); intro gb112 hg w3 hbox hb; have BK112 := Aside0.mk (hbox); have GW112 := gE_ HB hg; have GE112 := gE_ HB hg; replace HB := bS_ HB hb; clear hb hbox hg)))
 go_loopg [5, 6] k (fun kq v5 v6 w' => ∃ (x5_1 : Int) (x6_1 : Int), v5 = .int .i64 x5_1 ∧ v6 = .int .i64 x6_1 ∧ Aside0 (spec_l15Cost.l0 kq l1 x5_1 x6_1 a0_0 l0_1 l0_2 l0_3 = some r) ∧ Aside0 (kq ≤ k) ∧ Aside0 (w'.heap[gb112]? = some (.cells #[.int .i64 a0_0, (.slice A0_1 l0_1.length c0_1), (.slice A0_2 l0_2.length c0_2), (.slice A0_3 l0_3.length c0_3)] 30 (0, 0))) ∧ Aside0 (Below w.heap.size w w'))
 case atStart => exact ⟨(0), (0), (by first | rfl | (simp; done) | (simp [*]; done)), (by first | rfl | (simp; done) | (simp [*]; done)), H', ⟨Nat.le_refl _⟩, ⟨bT_ BK112⟩, ⟨sABelo_3⟩⟩
 case round =>
  clear H'; (try clear c1)
  obtain ⟨x5_1, x6_1, rfl, rfl, HA, HK1, BK112, HB⟩ := hrel
  cases gk with
  | zero => exact absurd HA.out (by simp [spec_l15Cost.l0])
  | succ k1 =>
   have H := HA.out; clear HA
   simp only [spec_l15Cost.l0] at H
   by_cases c4 : x6_1 < a0_0
   ·rw [if_pos c4] at H
    have c4b0 := decide_eq_true c4
    clear c4
    obtain ⟨c5, H⟩ := ifS_ H
    have c5b0 : decide (0 ≤ x6_1) = true := decide_eq_true c5
    clear c5
    obtain ⟨c6, H⟩ := ifS_ H
    have c6b0 : decide (x6_1 < (l0_2.length : Int)) = true := decide_eq_true c6
    clear c6
    obtain ⟨c7, H⟩ := ifS_ H
    have c7b0 : decide (x6_1 < (l1.length : Int)) = true := decide_eq_true c7
    clear c7
    obtain ⟨c8, H⟩ := ifS_ H
    have c8b0 : decide (x6_1 < (l0_1.length : Int)) = true := decide_eq_true c8
    clear c8; have H' := Aside0.mk H; clear H
    obtain ⟨hcz9_0, hcz9_1, hcz9_2, hcz9_3, hfz9_0, hfz9_1, hfz9_2, hfz9_3⟩ := cf4_ BK112
    have p113 : 0 ≤ (x6_1 : Int) := dA_
    have q113 : x6_1 < (l0_2.length : Int) := dA_
    obtain ⟨ad113, e113, hx113_0⟩ := Kd.at_int HR0_2.out x6_1 p113 q113
    cases e113
    replace hx113_0 := hX_ HB hx113_0
    replace p113 := eq_true p113; replace q113 := eq_true q113
    have p114 : 0 ≤ (x6_1 : Int) := dA_
    have q114 : x6_1 < (l1.length : Int) := dA_
    obtain ⟨ad114, e114, hx114_0⟩ := Kd.at_int HR1.out x6_1 p114 q114
    cases e114
    replace hx114_0 := hX_ HB hx114_0
    replace p114 := eq_true p114; replace q114 := eq_true q114
    have p115 : 0 ≤ (x6_1 : Int) := dA_
    have q115 : x6_1 < (l0_1.length : Int) := dA_
    obtain ⟨ad115, e115, hx115_0⟩ := Kd.at_int HR0_1.out x6_1 p115 q115
    cases e115
    replace hx115_0 := hX_ HB hx115_0
    replace p115 := eq_true p115; replace q115 := eq_true q115
    have p116 : 0 ≤ (x6_1 : Int) := dA_
    have q116 : x6_1 < (l1.length : Int) := dA_
    obtain ⟨ad116, e116, hx116_0⟩ := Kd.at_int HR1.out x6_1 p116 q116
    obtain rfl : ad114 = ad116 := (by injection e116)
    replace hx116_0 := hX_ HB hx116_0
    replace p116 := eq_true p116; replace q116 := eq_true q116
    have p117 : 0 ≤ (x6_1 : Int) := dA_
    have q117 : x6_1 < (l0_1.length : Int) := dA_
    obtain ⟨ad117, e117, hx117_0⟩ := Kd.at_int HR0_1.out x6_1 p117 q117
    obtain rfl : ad115 = ad117 := (by injection e117)
    replace hx117_0 := hX_ HB hx117_0
    replace p117 := eq_true p117; replace q117 := eq_true q117
    go_wp2
    repeat (go_quiet (fail); try go_wp2)
    go_roundg k1
    case measure => have := HK1.out; omega
    case rel => exact ⟨(wrap64 (x5_1 + (wrap64 ((wrap64 ((rd l0_2 x6_1) * (wrap64 ((rd l1 x6_1) - (rd l0_1 x6_1))))) * (wrap64 ((rd l1 x6_1) - (rd l0_1 x6_1))))))), (wrap64 (x6_1 + 1)), (by first | rfl | (simp; done) | (simp [*]; done)), (by first | rfl | (simp; done) | (simp [*]; done)), H', ⟨by have := HK1.out; omega⟩, ⟨bT_ BK112⟩, ⟨sABelo_3⟩⟩
   ·rw [if_neg c4] at H
    have c4b0 := decide_eq_false c4
    clear c4; have H' := Aside0.mk H; clear H
    obtain ⟨hcz10_0, hcz10_1, hcz10_2, hcz10_3, hfz10_0, hfz10_1, hfz10_2, hfz10_3⟩ := cf4_ BK112
    go_wp2
    repeat (go_quiet (fail); try go_wp2)
    go_loopg [5, 7] k1 (fun kq v5 v7 w' => ∃ (x5_2 : Int) (x7_2 : Int), v5 = .int .i64 x5_2 ∧ v7 = .int .i64 x7_2 ∧ Aside0 (spec_l15Cost.l1 kq l1 x5_2 x7_2 a0_0 l0_1 l0_2 l0_3 = some r) ∧ Aside0 (kq ≤ k1) ∧ Aside0 (w'.heap[gb112]? = some (.cells #[.int .i64 a0_0, (.slice A0_1 l0_1.length c0_1), (.slice A0_2 l0_2.length c0_2), (.slice A0_3 l0_3.length c0_3)] 30 (0, 0))) ∧ Aside0 (Below w.heap.size w w'))
    case atStart => exact ⟨(x5_1), (0), (by first | rfl | (simp; done) | (simp [*]; done)), (by first | rfl | (simp; done) | (simp [*]; done)), H', ⟨Nat.le_refl _⟩, ⟨bT_ BK112⟩, ⟨sABelo_3⟩⟩
    case round =>
     clear H'; (try clear c1); (try clear c4); (try clear c4b0); (try clear hcz10_0); (try clear hcz10_1); (try clear hcz10_2); (try clear hcz10_3); (try clear hfz10_0); (try clear hfz10_1); (try clear hfz10_2); (try clear hfz10_3)
     obtain ⟨x5_2, x7_2, rfl, rfl, HA, HK2, BK112, HB⟩ := hrel
     cases gk with
     | zero => exact absurd HA.out (by simp [spec_l15Cost.l1])
     | succ k2 =>
      have H := HA.out; clear HA
      simp only [spec_l15Cost.l1] at H
      by_cases c11 : x7_2 < (l0_3.length : Int)
      ·rw [if_pos c11] at H
       have c11b0 := decide_eq_true c11
       clear c11
       obtain ⟨c12, H⟩ := ifS_ H
       have c12b0 : decide (0 ≤ x7_2) = true := decide_eq_true c12
       clear c12; have H' := Aside0.mk H; clear H
       obtain ⟨hcz13_0, hcz13_1, hcz13_2, hcz13_3, hfz13_0, hfz13_1, hfz13_2, hfz13_3⟩ := cf4_ BK112
       have p118 : 0 ≤ (x7_2 : Int) := dA_
       have q118 : x7_2 < (l0_3.length : Int) := dA_
       obtain ⟨ad118, A118_0, c118_0, e118, hx118_0, hx118_1, hx118_2, hl118_0, hi118_0⟩ := at_T52 HR0_3.out x7_2 p118 q118
       cases e118
       replace hx118_0 := hX_ HB hx118_0
       replace hx118_1 := hX_ HB hx118_1
       replace hx118_2 := hX_ HB hx118_2
       have HR118_0 := Aside0.mk hi118_0; have HC118_0 := Aside0.mk hl118_0; clear hi118_0 hl118_0; replace p118 := eq_true p118; replace q118 := eq_true q118
       go_wp2
       repeat (go_quiet (fail); try go_wp2)
       go_loopg [8, 9] k2 (fun kq v8 v9 w' => ∃ (x8_3 : Int) (x9_3 : Int), v8 = .int .i64 x8_3 ∧ v9 = .int .i64 x9_3 ∧ Aside0 (spec_l15Cost.l2 kq l1 x5_2 x7_2 x8_3 x9_3 a0_0 l0_1 l0_2 l0_3 = some r) ∧ Aside0 (kq ≤ k2) ∧ Aside0 (w'.heap[gb112]? = some (.cells #[.int .i64 a0_0, (.slice A0_1 l0_1.length c0_1), (.slice A0_2 l0_2.length c0_2), (.slice (some ad118) l0_3.length c0_3)] 30 (0, 0))) ∧ Aside0 (Below w.heap.size w w'))
       case atStart => exact ⟨(wrap64 (-((rd_T52 l0_3 x7_2).f1))), (0), (by first | rfl | (simp; done) | (simp [*]; done)), (by first | rfl | (simp; done) | (simp [*]; done)), H', ⟨Nat.le_refl _⟩, ⟨bT_ BK112⟩, ⟨sABelo_3⟩⟩
       case round =>
        clear H'; (try clear c1); (try clear c4); (try clear c4b0); (try clear c11); (try clear c11b0); (try clear c12); (try clear c12b0); (try clear hcz10_0); (try clear hcz10_1); (try clear hcz10_2); (try clear hcz10_3); (try clear hcz13_0); (try clear hcz13_1); (try clear hcz13_2); (try clear hcz13_3); (try clear hfz10_0); (try clear hfz10_1); (try clear hfz10_2); (try clear hfz10_3); (try clear hfz13_0); (try clear hfz13_1); (try clear hfz13_2); (try clear hfz13_3); (try clear hx118_0); (try clear hx118_1); (try clear hx118_2); (try clear p118); (try clear q118)
        obtain ⟨x8_3, x9_3, rfl, rfl, HA, HK3, BK112, HB⟩ := hrel
        cases gk with
        | zero => exact absurd HA.out (by simp [spec_l15Cost.l2])
        | succ k3 =>
         have H := HA.out; clear HA
         simp only [spec_l15Cost.l2] at H
         by_cases c14 : x9_3 < a0_0
         ·rw [if_pos c14] at H
          have c14b0 := decide_eq_true c14
          clear c14
          obtain ⟨c15, H⟩ := ifS_ H
          have c15b0 : decide (0 ≤ x7_2) = true := decide_eq_true c15
          clear c15
          obtain ⟨c16, H⟩ := ifS_ H
          have c16b0 : decide (x7_2 < (l0_3.length : Int)) = true := decide_eq_true c16
          clear c16
          obtain ⟨c17, H⟩ := ifS_ H
          have c17b0 : decide (0 ≤ x9_3) = true := decide_eq_true c17
          clear c17
          obtain ⟨c18, H⟩ := ifS_ H
          have c18b0 : decide (x9_3 < (((rd_T52 l0_3 x7_2).f0).length : Int)) = true := decide_eq_true c18
          clear c18
          obtain ⟨c19, H⟩ := ifS_ H
          have c19b0 : decide (x9_3 < (l1.length : Int)) = true := decide_eq_true c19
          clear c19; have H' := Aside0.mk H; clear H
          obtain ⟨hcz20_0, hcz20_1, hcz20_2, hcz20_3, hfz20_0, hfz20_1, hfz20_2, hfz20_3⟩ := cf4_ BK112
          have p119 : 0 ≤ (x7_2 : Int) := dA_
          have q119 : x7_2 < (l0_3.length : Int) := dA_
          obtain ⟨ad119, A119_0, c119_0, e119, hx119_0, hx119_1, hx119_2, hl119_0, hi119_0⟩ := at_T52 HR0_3.out x7_2 p119 q119
          obtain rfl : ad118 = ad119 := (by injection e119)
          replace hx119_0 := hX_ HB hx119_0
          replace hx119_1 := hX_ HB hx119_1
          replace hx119_2 := hX_ HB hx119_2
          have HR119_0 := Aside0.mk hi119_0; have HC119_0 := Aside0.mk hl119_0; clear hi119_0 hl119_0; replace p119 := eq_true p119; replace q119 := eq_true q119
          have p120 : 0 ≤ (x9_3 : Int) := dA_
          have q120 : x9_3 < (((rd_T52 l0_3 x7_2).f0).length : Int) := dA_
          obtain ⟨ad120, e120, hx120_0⟩ := Kd.at_int HR119_0.out x9_3 p120 q120
          cases e120
          replace hx120_0 := hX_ HB hx120_0
          replace p120 := eq_true p120; replace q120 := eq_true q120
          have p121 : 0 ≤ (x9_3 : Int) := dA_
          have q121 : x9_3 < (l1.length : Int) := dA_
          obtain ⟨ad121, e121, hx121_0⟩ := Kd.at_int HR1.out x9_3 p121 q121
          cases e121
          replace hx121_0 := hX_ HB hx121_0
          replace p121 := eq_true p121; replace q121 := eq_true q121
          go_wp2
          repeat (go_quiet (fail); try go_wp2)
          go_roundg k3
          case measure => have := HK1.out; have := HK2.out; have := HK3.out; omega
          case rel => exact ⟨(wrap64 (x8_3 + (wrap64 ((rd ((rd_T52 l0_3 x7_2).f0) x9_3) * (rd l1 x9_3))))), (wrap64 (x9_3 + 1)), (by first | rfl | (simp; done) | (simp [*]; done)), (by first | rfl | (simp; done) | (simp [*]; done)), H', ⟨by have := HK1.out; have := HK2.out; have := HK3.out; omega⟩, ⟨bT_ BK112⟩, ⟨sABelo_3⟩⟩
         ·rw [if_neg c14] at H
          have c14b0 := decide_eq_false c14
          clear c14
          obtain ⟨c21, H⟩ := ifS_ H
          have c21b0 : decide (0 ≤ x7_2) = true := decide_eq_true c21
          clear c21
          obtain ⟨c22, H⟩ := ifS_ H
          have c22b0 : decide (x7_2 < (l0_3.length : Int)) = true := decide_eq_true c22
          clear c22; have H' := Aside0.mk H; clear H
          obtain ⟨hcz23_0, hcz23_1, hcz23_2, hcz23_3, hfz23_0, hfz23_1, hfz23_2, hfz23_3⟩ := cf4_ BK112
          have p122 : 0 ≤ (x7_2 : Int) := dA_
          have q122 : x7_2 < (l0_3.length : Int) := dA_
          obtain ⟨ad122, A122_0, c122_0, e122, hx122_0, hx122_1, hx122_2, hl122_0, hi122_0⟩ := at_T52 HR0_3.out x7_2 p122 q122
          obtain rfl : ad118 = ad122 := (by injection e122)
          replace hx122_0 := hX_ HB hx122_0
          replace hx122_1 := hX_ HB hx122_1
          replace hx122_2 := hX_ HB hx122_2
          have HR122_0 := Aside0.mk hi122_0; have HC122_0 := Aside0.mk hl122_0; clear hi122_0 hl122_0; replace p122 := eq_true p122; replace q122 := eq_true q122
          go_wp2
          repeat (go_quiet (fail); try go_wp2)
          go_roundg k3
          case measure => have := HK1.out; have := HK2.out; have := HK3.out; omega
          case rel => exact ⟨(wrap64 (x5_2 + (wrap64 ((wrap64 (((rd_T52 l0_3 x7_2).f2) * x8_3)) * x8_3)))), (wrap64 (x7_2 + 1)), (by first | rfl | (simp; done) | (simp [*]; done)), (by first | rfl | (simp; done) | (simp [*]; done)), H', ⟨by have := HK1.out; have := HK2.out; have := HK3.out; omega⟩, ⟨bT_ BK112⟩, ⟨sABelo_3⟩⟩
      ·rw [if_neg c11] at H
       have c11b0 := decide_eq_false c11
       clear c11
       obtain rfl := Option.some.inj H
       obtain ⟨hcz24_0, hcz24_1, hcz24_2, hcz24_3, hfz24_0, hfz24_1, hfz24_2, hfz24_3⟩ := cf4_ BK112
       go_wp2
       repeat (go_quiet (fail); try go_wp2)
       go_ret
       exact ⟨by first | rfl | (simp [errW_none, errW_some] <;> rfl) | (simp [*, errW_none, errW_some] <;> rfl), sABelo_3⟩

/-! ### spec_Cost: function 8 -/
def spec_Cost.f (k : Nat) (a0_0 : Int) (l0_1 : List Int) (l0_2 : List Int) (l0_3 : List (S52)) (l1 : List Int) : Option (Int) := (spec_ProblemOk.f k a0_0 l0_1 l0_2 l0_3).bind fun t124 => (if t124 = true then ((spec_l15All.f k l1 a0_0 (-200000) 200000).bind fun t125 => (if t125 = true then ((spec_l15Cost.f k a0_0 l0_1 l0_2 l0_3 l1).bind fun t126 => (some t126)) else (some (-1)))) else (some (-1)))
theorem spec_Cost.mono : ∀ a0 a1 a2 a3 a4 k, LeO (spec_Cost.f k a0 a1 a2 a3 a4) (spec_Cost.f (k + 1) a0 a1 a2 a3 a4) := by
 intro a0 a1 a2 a3 a4 k
 unfold spec_Cost.f
 repeat' first
   | (with_reducible exact spec_ProblemOk.mono _ _ _ _ _)
   | (with_reducible exact spec_l15All.mono _ _ _ _ _)
   | (with_reducible exact spec_l15Cost.mono _ _ _ _ _ _)
   | (with_reducible exact LeO.refl _)
   | (with_reducible exact LeO.none _)
   | (with_reducible refine LeO.ite ?_ ?_)
   | (with_reducible refine LeO.bind ?_ (fun _ => ?_))
   | exact spec_ProblemOk.mono _ _ _ _ _
   | exact spec_l15All.mono _ _ _ _ _
   | exact spec_l15Cost.mono _ _ _ _ _ _
   | exact LeO.none _
   | refine LeO.ite ?_ ?_
   | refine LeO.bind ?_ (fun _ => ?_)
set_option maxHeartbeats 8000000 in
set_option maxRecDepth 100000 in
theorem spec_Cost.calls (k : Nat) (a0_0 : Int) (A0_1 : Option Addr) (c0_1 : Nat) (l0_1 : List Int) (A0_2 : Option Addr) (c0_2 : Nat) (l0_2 : List Int) (A0_3 : Option Addr) (c0_3 : Nat) (l0_3 : List (S52)) (A1 : Option Addr) (c1 : Nat) (l1 : List Int) (r : Int) (w : World) (hr0_1 : Kd.C (Kd.int .i64) w A0_1 l0_1.length l0_1) (hc0_1 : l0_1.length ≤ c0_1) (hr0_2 : Kd.C (Kd.int .i64) w A0_2 l0_2.length l0_2) (hc0_2 : l0_2.length ≤ c0_2) (hr0_3 : Kd.C k52 w A0_3 l0_3.length l0_3) (hc0_3 : l0_3.length ≤ c0_3) (hr1 : Kd.C (Kd.int .i64) w A1 l1.length l1) (hc1 : l1.length ≤ c1) (h : spec_Cost.f k a0_0 l0_1 l0_2 l0_3 l1 = some r) :
  Calls Try.prog 8 #[.agg #[.int .i64 a0_0, .slice A0_1 l0_1.length c0_1, .slice A0_2 l0_2.length c0_2, .slice A0_3 l0_3.length c0_3], .slice A1 l1.length c1] w fun e w' => e = .returned (.int .i64 r) ∧ Below w.heap.size w w' := by
 have hu30 := Try.underlying30; have HR0_1 := Aside0.mk hr0_1; have HC0_1 := Aside0.mk hc0_1; clear hr0_1 hc0_1; have HR0_2 := Aside0.mk hr0_2; have HC0_2 := Aside0.mk hc0_2; clear hr0_2 hc0_2; have HR0_3 := Aside0.mk hr0_3; have HC0_3 := Aside0.mk hc0_3; clear hr0_3 hc0_3; have HR1 := Aside0.mk hr1; have HC1 := Aside0.mk hc1; clear hr1 hc1
 have HB := Aside0.mk (Below.refl w.heap.size w)
 have H : ((spec_ProblemOk.f k a0_0 l0_1 l0_2 l0_3).bind fun t124 => (if t124 = true then ((spec_l15All.f k l1 a0_0 (-200000) 200000).bind fun t125 => (if t125 = true then ((spec_l15Cost.f k a0_0 l0_1 l0_2 l0_3 l1).bind fun t126 => (some t126)) else (some (-1)))) else (some (-1)))) = some r := h
 clear h; replace H := Option.bind_eq_some_iff.mp H
 obtain ⟨t124, A30, H⟩ := H
 replace H : (if t124 = true then ((spec_l15All.f k l1 a0_0 (-200000) 200000).bind fun t125 => (if t125 = true then ((spec_l15Cost.f k a0_0 l0_1 l0_2 l0_3 l1).bind fun t126 => (some t126)) else (some (-1)))) else (some (-1))) = some r := H
 have A3 := Aside0.mk A30; clear A30
 by_cases c4 : t124 = true
 ·subst c4
  replace H := ifT_ H; replace H := Option.bind_eq_some_iff.mp H
  obtain ⟨t125, A50, H⟩ := H
  replace H : (if t125 = true then ((spec_l15Cost.f k a0_0 l0_1 l0_2 l0_3 l1).bind fun t126 => (some t126)) else (some (-1))) = some r := H
  have A5 := Aside0.mk A50; clear A50
  by_cases c6 : t125 = true
  ·subst c6
   replace H := ifT_ H; replace H := Option.bind_eq_some_iff.mp H
   obtain ⟨t126, A70, H⟩ := H
   replace H : (some t126) = some r := H
   have A7 := Aside0.mk A70; clear A70
   obtain rfl := Option.some.inj H
   go_enter Try.func8, Try.ntmps8
   go_wp2_with (first | ((with_reducible refine gate_dst (N := 2) rfl ?_); refine box_event ?hg (N := 2) ?hd (cs := #[.int .i64 a0_0, .slice A0_1 l0_1.length c0_1, .slice A0_2 l0_2.length c0_2, .slice A0_3 l0_3.length c0_3]) (t := 30) ?hr ?_; (case hd => rfl); (case hg => rfl); (case hr => first | (go_simp; done) | (go_simp; rfl)); intro gb123 hg w8 hbox hb; have BK123 := Aside0.mk (hbox); have GW123 := gE_ HB hg; have GE123 := gE_ HB hg; replace HB := bS_ HB hb; clear hb hbox hg; obtain ⟨hcz9_0, hcz9_1, hcz9_2, hcz9_3, hfz9_0, hfz9_1, hfz9_2, hfz9_3⟩ := cf4_ BK123) | ((with_reducible refine gate_callee (f := 27) rfl ?_); refine gL_ (some 6) Try.func27 #[.agg #[.int .i64 a0_0, .slice A0_1 l0_1.length c0_1, .slice A0_2 l0_2.length c0_2, .slice A0_3 l0_3.length c0_3]] ?_; (with_reducible refine (spec_ProblemOk.calls k a0_0 _ _ l0_1 _ _ l0_2 _ _ l0_3 true _ ?side1 ?side2 ?side3 ?side4 ?side5 ?side6 A3.out).mono ?_); (case side1 => exact cB_ HR0_1 HB); (case side2 => exact HC0_1.out); (case side3 => exact cB_ HR0_2 HB); (case side4 => exact HC0_2.out); (case side5 => exact cB_ HR0_3 HB); (case side6 => exact HC0_3.out); rintro e w10 ⟨rfl, hb⟩; refine ⟨_, rfl, ?_⟩; replace BK123 := bB_ BK123 hb; replace HB := bS_ HB hb; (try clear hb); obtain ⟨hcz11_0, hcz11_1, hcz11_2, hcz11_3, hfz11_0, hfz11_1, hfz11_2, hfz11_3⟩ := cf4_ BK123) | (go_at_call 28; (with_reducible refine (spec_l15All.calls k _ _ l1 a0_0 (-200000) 200000 true _ ?side1 ?side2 A5.out).mono ?_); (case side1 => exact cB_ HR1 HB); (case side2 => exact HC1.out); rintro e w' ⟨rfl, ⟨nd, rfl⟩⟩) | ((with_reducible refine gate_callee (f := 29) rfl ?_); refine gL_ (some 17) Try.func29 #[.agg #[.int .i64 a0_0, .slice A0_1 l0_1.length c0_1, .slice A0_2 l0_2.length c0_2, .slice A0_3 l0_3.length c0_3], .slice A1 l1.length c1] ?_; (with_reducible refine (spec_l15Cost.calls k a0_0 _ _ l0_1 _ _ l0_2 _ _ l0_3 _ _ l1 t126 _ ?side1 ?side2 ?side3 ?side4 ?side5 ?side6 ?side7 ?side8 A7.out).mono ?_); (case side1 => repeat (first | exact (Kd.C_below HR0_1.out sABelo_3) | (with_reducible refine Kd.C_alloc ?_ _) | (with_reducible refine Kd.C_drewN ?_ _) | (with_reducible refine Kd.C_drew ?_))); (case side2 => exact HC0_1.out); (case side3 => repeat (first | exact (Kd.C_below HR0_2.out sABelo_3) | (with_reducible refine Kd.C_alloc ?_ _) | (with_reducible refine Kd.C_drewN ?_ _) | (with_reducible refine Kd.C_drew ?_))); (case side4 => exact HC0_2.out); (case side5 => repeat (first | exact (Kd.C_below HR0_3.out sABelo_3) | (with_reducible refine Kd.C_alloc ?_ _) | (with_reducible refine Kd.C_drewN ?_ _) | (with_reducible refine Kd.C_drew ?_))); (case side6 => exact HC0_3.out); (case side7 => repeat (first | exact (Kd.C_below HR1.out sABelo_3) | (with_reducible refine Kd.C_alloc ?_ _) | (with_reducible refine Kd.C_drewN ?_ _) | (with_reducible refine Kd.C_drew ?_))); (case side8 => exact HC1.out); rintro e w12 ⟨rfl, hb⟩; refine ⟨_, rfl, ?_⟩; replace BK123 := bB_ BK123 hb; replace HB := bS_ HB hb; (try clear hb)))
   go_ret
   exact ⟨by first | rfl | (simp [errW_none, errW_some] <;> rfl) | (simp [*, errW_none, errW_some] <;> rfl), sABelo_3⟩
  ·replace c6 := Bool.eq_false_iff.mpr c6
   subst c6
   replace H := ifF_ H
   obtain rfl := Option.some.inj H
   go_enter Try.func8, Try.ntmps8
   go_wp2_with (first | ((with_reducible refine gate_dst (N := 2) rfl ?_); refine box_event ?hg (N := 2) ?hd (cs := #[.int .i64 a0_0, .slice A0_1 l0_1.length c0_1, .slice A0_2 l0_2.length c0_2, .slice A0_3 l0_3.length c0_3]) (t := 30) ?hr ?_; (case hd => rfl); (case hg => rfl); (case hr => first | (go_simp; done) | (go_simp; rfl)); intro gb123 hg w13 hbox hb; have BK123 := Aside0.mk (hbox); have GW123 := gE_ HB hg; have GE123 := gE_ HB hg; replace HB := bS_ HB hb; clear hb hbox hg; obtain ⟨hcz14_0, hcz14_1, hcz14_2, hcz14_3, hfz14_0, hfz14_1, hfz14_2, hfz14_3⟩ := cf4_ BK123) | ((with_reducible refine gate_callee (f := 27) rfl ?_); refine gL_ (some 6) Try.func27 #[.agg #[.int .i64 a0_0, .slice A0_1 l0_1.length c0_1, .slice A0_2 l0_2.length c0_2, .slice A0_3 l0_3.length c0_3]] ?_; (with_reducible refine (spec_ProblemOk.calls k a0_0 _ _ l0_1 _ _ l0_2 _ _ l0_3 true _ ?side1 ?side2 ?side3 ?side4 ?side5 ?side6 A3.out).mono ?_); (case side1 => exact cB_ HR0_1 HB); (case side2 => exact HC0_1.out); (case side3 => exact cB_ HR0_2 HB); (case side4 => exact HC0_2.out); (case side5 => exact cB_ HR0_3 HB); (case side6 => exact HC0_3.out); rintro e w15 ⟨rfl, hb⟩; refine ⟨_, rfl, ?_⟩; replace BK123 := bB_ BK123 hb; replace HB := bS_ HB hb; (try clear hb); obtain ⟨hcz16_0, hcz16_1, hcz16_2, hcz16_3, hfz16_0, hfz16_1, hfz16_2, hfz16_3⟩ := cf4_ BK123) | (go_at_call 28; (with_reducible refine (spec_l15All.calls k _ _ l1 a0_0 (-200000) 200000 false _ ?side1 ?side2 A5.out).mono ?_); (case side1 => exact cB_ HR1 HB); (case side2 => exact HC1.out); rintro e w' ⟨rfl, ⟨nd, rfl⟩⟩))
   go_ret
   exact ⟨by first | rfl | (simp [errW_none, errW_some] <;> rfl) | (simp [*, errW_none, errW_some] <;> rfl), sABelo_3⟩
 ·replace c4 := Bool.eq_false_iff.mpr c4
  subst c4
  replace H := ifF_ H
  obtain rfl := Option.some.inj H
  go_enter Try.func8, Try.ntmps8
  go_wp2_with (first | ((with_reducible refine gate_dst (N := 2) rfl ?_); refine box_event ?hg (N := 2) ?hd (cs := #[.int .i64 a0_0, .slice A0_1 l0_1.length c0_1, .slice A0_2 l0_2.length c0_2, .slice A0_3 l0_3.length c0_3]) (t := 30) ?hr ?_; (case hd => rfl); (case hg => rfl); (case hr => first | (go_simp; done) | (go_simp; rfl)); intro gb123 hg w17 hbox hb; have BK123 := Aside0.mk (hbox); have GW123 := gE_ HB hg; have GE123 := gE_ HB hg; replace HB := bS_ HB hb; clear hb hbox hg; obtain ⟨hcz18_0, hcz18_1, hcz18_2, hcz18_3, hfz18_0, hfz18_1, hfz18_2, hfz18_3⟩ := cf4_ BK123) | ((with_reducible refine gate_callee (f := 27) rfl ?_); refine gL_ (some 6) Try.func27 #[.agg #[.int .i64 a0_0, .slice A0_1 l0_1.length c0_1, .slice A0_2 l0_2.length c0_2, .slice A0_3 l0_3.length c0_3]] ?_; (with_reducible refine (spec_ProblemOk.calls k a0_0 _ _ l0_1 _ _ l0_2 _ _ l0_3 false _ ?side1 ?side2 ?side3 ?side4 ?side5 ?side6 A3.out).mono ?_); (case side1 => exact cB_ HR0_1 HB); (case side2 => exact HC0_1.out); (case side3 => exact cB_ HR0_2 HB); (case side4 => exact HC0_2.out); (case side5 => exact cB_ HR0_3 HB); (case side6 => exact HC0_3.out); rintro e w19 ⟨rfl, hb⟩; refine ⟨_, rfl, ?_⟩; replace BK123 := bB_ BK123 hb; replace HB := bS_ HB hb; (try clear hb)))
  go_ret
  exact ⟨by first | rfl | (simp [errW_none, errW_some] <;> rfl) | (simp [*, errW_none, errW_some] <;> rfl), sABelo_3⟩

/-! ### impl_in: function 39 -/
def impl_in.f (a0 : Int) (a1 : Int) (a2 : Int) : Option (Bool) := if a0 ≥ a1 then (some (decide (a0 ≤ a2))) else (some false)
set_option maxHeartbeats 8000000 in
set_option maxRecDepth 100000 in
theorem impl_in.calls (a0 : Int) (a1 : Int) (a2 : Int) (r : Bool) (w : World) (h : impl_in.f a0 a1 a2 = some r) :
  Calls Try.prog 39 #[.int .i64 a0, .int .i64 a1, .int .i64 a2] w fun e w' => e = .returned (.bool r) ∧ Drawn0 w w' := by
 have H : (if a0 ≥ a1 then (some (decide (a0 ≤ a2))) else (some false)) = some r := h
 clear h
 by_cases c4 : a0 ≥ a1
 ·rw [if_pos c4] at H
  have c4b0 : decide (a1 ≤ a0) = true := decide_eq_true c4
  clear c4
  obtain rfl := Option.some.inj H
  go_enter Try.func39, Try.ntmps39
  go_wp2
  go_ret
  exact ⟨by first | rfl | (simp; done) | (simp [*]; done), by repeat (first | exact Drawn0.refl _ | apply Drawn0.step)⟩
 ·rw [if_neg c4] at H
  have c4b0 : decide (a1 ≤ a0) = false := decide_eq_false c4
  clear c4
  obtain rfl := Option.some.inj H
  go_enter Try.func39, Try.ntmps39
  go_wp2
  go_ret
  exact ⟨by first | rfl | (simp; done) | (simp [*]; done), by repeat (first | exact Drawn0.refl _ | apply Drawn0.step)⟩

/-! ### impl_each: function 38 -/
def impl_each.l0 : Nat → Int → Int → List Int → Int → Int → Option (Bool)
 | 0, _, _, _, _, _ => none
 | k + 1, x2, x3, x15, x16, x17 => if x17 < x16 then (if 0 ≤ x17 then (if x17 < (x15.length : Int) then ((impl_in.f (rd x15 x17) x2 x3).bind fun t128 => (if t128 = true then (impl_each.l0 k x2 x3 x15 x16 (wrap64 (x17 + 1))) else (some false))) else (none)) else (none)) else (some true)
def impl_each.f (k : Nat) (l0 : List Int) (a1 : Int) (a2 : Int) (a3 : Int) : Option (Bool) := if (l0.length : Int) = a1 then (impl_each.l0 k a2 a3 l0 (l0.length : Int) 0) else (some false)
theorem impl_each.mono_l : ∀ k, (∀ y0 y1 y2 y3 y4, LeO (impl_each.l0 k y0 y1 y2 y3 y4) (impl_each.l0 (k + 1) y0 y1 y2 y3 y4))
 | 0 => fun _ _ _ _ _ r h => by simp [impl_each.l0] at h
 | k + 1 => by
  have ih0 := impl_each.mono_l k
  ·intro y0 y1 y2 y3 y4
   unfold impl_each.l0
   repeat' first
   | (with_reducible exact ih0 _ _ _ _ _)
   | (with_reducible exact LeO.refl _)
   | (with_reducible exact LeO.none _)
   | (with_reducible refine LeO.ite ?_ ?_)
   | (with_reducible refine LeO.bind ?_ (fun _ => ?_))
   | exact ih0 _ _ _ _ _
   | exact LeO.none _
   | refine LeO.ite ?_ ?_
   | refine LeO.bind ?_ (fun _ => ?_)
theorem impl_each.mono : ∀ a0 a1 a2 a3 k, LeO (impl_each.f k a0 a1 a2 a3) (impl_each.f (k + 1) a0 a1 a2 a3) := by
 intro a0 a1 a2 a3 k
 have ih0 := impl_each.mono_l k
 unfold impl_each.f
 repeat' first
   | (with_reducible exact ih0 _ _ _ _ _)
   | (with_reducible exact LeO.refl _)
   | (with_reducible exact LeO.none _)
   | (with_reducible refine LeO.ite ?_ ?_)
   | (with_reducible refine LeO.bind ?_ (fun _ => ?_))
   | exact ih0 _ _ _ _ _
   | exact LeO.none _
   | refine LeO.ite ?_ ?_
   | refine LeO.bind ?_ (fun _ => ?_)
set_option maxHeartbeats 8000000 in
set_option maxRecDepth 100000 in
theorem impl_each.calls (k : Nat) (A0 : Option Addr) (c0 : Nat) (l0 : List Int) (a1 : Int) (a2 : Int) (a3 : Int) (r : Bool) (w : World) (hr0 : Kd.C (Kd.int .i64) w A0 l0.length l0) (hc0 : l0.length ≤ c0) (h : impl_each.f k l0 a1 a2 a3 = some r) :
  Calls Try.prog 38 #[.slice A0 l0.length c0, .int .i64 a1, .int .i64 a2, .int .i64 a3] w fun e w' => e = .returned (.bool r) ∧ Drawn0 w w' := by
 have HR0 := Aside0.mk hr0; have HC0 := Aside0.mk hc0; clear hr0 hc0
 have H : (if (l0.length : Int) = a1 then (impl_each.l0 k a2 a3 l0 (l0.length : Int) 0) else (some false)) = some r := h
 clear h
 by_cases c5 : (l0.length : Int) = a1
 ·rw [if_pos c5] at H
  have c5b0 := beq_iff_eq.mpr c5
  have c5b1 := bne_eq_false_iff_eq.mpr c5
  clear c5; have H' := Aside0.mk H; clear H
  go_enter Try.func38, Try.ntmps38
  go_wp2
  go_loopg [17] k (fun kq v17 w' => ∃ (x17_1 : Int), v17 = .int .i64 x17_1 ∧ Aside0 (impl_each.l0 kq a2 a3 l0 (l0.length : Int) x17_1 = some r) ∧ Aside0 (kq ≤ k) ∧ Drawn0 w w')
  case atStart => exact ⟨(0), (by first | rfl | (simp; done) | (simp [*]; done)), H', ⟨Nat.le_refl _⟩, by repeat (first | exact Drawn0.refl _ | apply Drawn0.step)⟩
  case round =>
   clear H'; (try clear c5); (try clear c5b0); (try clear c5b1)
   obtain ⟨x17_1, rfl, HA, HK1, ⟨m1, rfl⟩⟩ := hrel
   cases gk with
   | zero => exact absurd HA.out (by simp [impl_each.l0])
   | succ k1 =>
    have H := HA.out; clear HA
    simp only [impl_each.l0] at H
    by_cases c6 : x17_1 < (l0.length : Int)
    ·rw [if_pos c6] at H
     have c6b0 := decide_eq_true c6
     clear c6
     obtain ⟨c7, H⟩ := ifS_ H
     have c7b0 : decide (0 ≤ x17_1) = true := decide_eq_true c7
     clear c7
     obtain ⟨c8, H⟩ := ifS_ H
     have c8b0 : decide (x17_1 < (l0.length : Int)) = true := decide_eq_true c8
     clear c8; replace H := Option.bind_eq_some_iff.mp H
     obtain ⟨t128, A90, H⟩ := H
     replace H : (if t128 = true then (impl_each.l0 k1 a2 a3 l0 (l0.length : Int) (wrap64 (x17_1 + 1))) else (some false)) = some r := H
     have A9 := Aside0.mk A90; clear A90
     by_cases c10 : t128 = true
     ·subst c10
      replace H := ifT_ H; have H' := Aside0.mk H; clear H
      have p127 : 0 ≤ (x17_1 : Int) := dA_
      have q127 : x17_1 < (l0.length : Int) := dA_
      obtain ⟨ad127, e127, hx127_0⟩ := Kd.at_int HR0.out x17_1 p127 q127
      cases e127
      replace p127 := eq_true p127; replace q127 := eq_true q127
      go_wp2_with (first | ((with_reducible refine gate_callee (f := 39) rfl ?_); refine gL_ (some 24) Try.func39 #[.int .i64 (rd l0 x17_1), .int .i64 a2, .int .i64 a3] ?_; (with_reducible refine (impl_in.calls (rd l0 x17_1) a2 a3 true _ A9.out).mono ?_); rintro e w' ⟨rfl, ⟨nd, rfl⟩⟩; refine ⟨_, rfl, ?_⟩))
      go_roundg k1
      case measure => have := HK1.out; omega
      case rel => exact ⟨(wrap64 (x17_1 + 1)), (by first | rfl | (simp; done) | (simp [*]; done)), H', ⟨by have := HK1.out; omega⟩, by repeat (first | exact Drawn0.refl _ | apply Drawn0.step)⟩
     ·replace c10 := Bool.eq_false_iff.mpr c10
      subst c10
      replace H := ifF_ H
      obtain rfl := Option.some.inj H
      have p127 : 0 ≤ (x17_1 : Int) := dA_
      have q127 : x17_1 < (l0.length : Int) := dA_
      obtain ⟨ad127, e127, hx127_0⟩ := Kd.at_int HR0.out x17_1 p127 q127
      cases e127
      replace p127 := eq_true p127; replace q127 := eq_true q127
      go_wp2_with (first | ((with_reducible refine gate_callee (f := 39) rfl ?_); refine gL_ (some 24) Try.func39 #[.int .i64 (rd l0 x17_1), .int .i64 a2, .int .i64 a3] ?_; (with_reducible refine (impl_in.calls (rd l0 x17_1) a2 a3 false _ A9.out).mono ?_); rintro e w' ⟨rfl, ⟨nd, rfl⟩⟩; refine ⟨_, rfl, ?_⟩))
      go_ret
      exact ⟨by first | rfl | (simp; done) | (simp [*]; done), by repeat (first | exact Drawn0.refl _ | apply Drawn0.step)⟩
    ·rw [if_neg c6] at H
     have c6b0 := decide_eq_false c6
     clear c6
     obtain rfl := Option.some.inj H
     go_wp2
     go_ret
     exact ⟨by first | rfl | (simp; done) | (simp [*]; done), by repeat (first | exact Drawn0.refl _ | apply Drawn0.step)⟩
 ·rw [if_neg c5] at H
  have c5b0 := beq_eq_false_iff_ne.mpr c5
  have c5b1 := bne_iff_ne.mpr c5
  obtain rfl := Option.some.inj H
  go_enter Try.func38, Try.ntmps38
  go_wp2
  go_ret
  exact ⟨by first | rfl | (simp; done) | (simp [*]; done), by repeat (first | exact Drawn0.refl _ | apply Drawn0.step)⟩

end Go.Proofs.Ytcjhbmjimjbphaa.QFnDescends
