-- Written by a program of this session out of the printer's texts and contracts of its own.
import Derived.Test.YtcjhbmjimjbphaaQFnExactDescendx0
namespace Go.Proofs.Ytcjhbmjimjbphaa.QFnExactDescend
open Go.RowKit Go.Proofs.YtcjhbmjimjbphaaW.PrintWords Go.Proofs.YtcjhbmjimjbphaaW.PrintLast Go.Proofs.YtcjhbmjimjbphaaW.PrintMore
attribute [local go_sem] max2_int min2_int max_two min_two max_three min_three max_four min_four   -- for this text's walks alone
set_option linter.unusedVariables false
set_option linter.unusedSimpArgs false

/-! ### spec_l15Cost: function 29 -/
mutual
def spec_l15Cost.l0 : Nat → List Int → Int → Int → Int → List Int → List Int → List (S52) → Option (Int)
  | 0, _, _, _, _, _, _, _ => none
  | k + 1, x1, x5, x6, x167000, x167001, x167002, x167003 => if x6 < x167000 then (if 0 ≤ x6 then (if x6 < (x167002.length : Int) then (if x6 < (x1.length : Int) then (if x6 < (x167001.length : Int) then (spec_l15Cost.l0 k x1 (wrap64 (x5 + (wrap64 ((wrap64 ((rd x167002 x6) * (wrap64 ((rd x1 x6) - (rd x167001 x6))))) * (wrap64 ((rd x1 x6) - (rd x167001 x6))))))) (wrap64 (x6 + 1)) x167000 x167001 x167002 x167003) else (none)) else (none)) else (none)) else (none)) else (spec_l15Cost.l1 k x1 x5 0 x167000 x167001 x167002 x167003)
def spec_l15Cost.l1 : Nat → List Int → Int → Int → Int → List Int → List Int → List (S52) → Option (Int)
  | 0, _, _, _, _, _, _, _ => none
  | k + 1, x1, x5, x7, x167000, x167001, x167002, x167003 => if x7 < (x167003.length : Int) then (if 0 ≤ x7 then (spec_l15Cost.l2 k x1 x5 x7 (wrap64 (-((rd_T52 x167003 x7).f1))) 0 x167000 x167001 x167002 x167003) else (none)) else (some x5)
def spec_l15Cost.l2 : Nat → List Int → Int → Int → Int → Int → Int → List Int → List Int → List (S52) → Option (Int)
  | 0, _, _, _, _, _, _, _, _, _ => none
  | k + 1, x1, x5, x7, x8, x9, x167000, x167001, x167002, x167003 => if x9 < x167000 then (if 0 ≤ x7 then (if x7 < (x167003.length : Int) then (if 0 ≤ x9 then (if x9 < (((rd_T52 x167003 x7).f0).length : Int) then (if x9 < (x1.length : Int) then (spec_l15Cost.l2 k x1 x5 x7 (wrap64 (x8 + (wrap64 ((rd ((rd_T52 x167003 x7).f0) x9) * (rd x1 x9))))) (wrap64 (x9 + 1)) x167000 x167001 x167002 x167003) else (none)) else (none)) else (none)) else (none)) else (none)) else (if 0 ≤ x7 then (if x7 < (x167003.length : Int) then (spec_l15Cost.l1 k x1 (wrap64 (x5 + (wrap64 ((wrap64 (((rd_T52 x167003 x7).f2) * x8)) * x8)))) (wrap64 (x7 + 1)) x167000 x167001 x167002 x167003) else (none)) else (none))
end
def spec_l15Cost.f (k : Nat) (a0_0 : Int) (l0_1 : List Int) (l0_2 : List Int) (l0_3 : List (S52)) (l1 : List Int) : Option (Int) := spec_l15Cost.l0 k l1 0 0 a0_0 l0_1 l0_2 l0_3
theorem spec_l15Cost.mono_l : ∀ k, (∀ y0 y1 y2 y3 y4 y5 y6, LeO (spec_l15Cost.l0 k y0 y1 y2 y3 y4 y5 y6) (spec_l15Cost.l0 (k + 1) y0 y1 y2 y3 y4 y5 y6)) ∧ (∀ y0 y1 y2 y3 y4 y5 y6, LeO (spec_l15Cost.l1 k y0 y1 y2 y3 y4 y5 y6) (spec_l15Cost.l1 (k + 1) y0 y1 y2 y3 y4 y5 y6)) ∧ (∀ y0 y1 y2 y3 y4 y5 y6 y7 y8, LeO (spec_l15Cost.l2 k y0 y1 y2 y3 y4 y5 y6 y7 y8) (spec_l15Cost.l2 (k + 1) y0 y1 y2 y3 y4 y5 y6 y7 y8))
  | 0 => ⟨fun _ _ _ _ _ _ _ r h => by simp [spec_l15Cost.l0] at h, fun _ _ _ _ _ _ _ r h => by simp [spec_l15Cost.l1] at h, fun _ _ _ _ _ _ _ _ _ r h => by simp [spec_l15Cost.l2] at h⟩
  | k + 1 => by
    obtain ⟨ih0, ih1, ih2⟩ := spec_l15Cost.mono_l k
    refine ⟨?_, ?_, ?_⟩
    · intro y0 y1 y2 y3 y4 y5 y6
      unfold spec_l15Cost.l0
      repeat' first
      | (with_reducible exact ih0 _ _ _ _ _ _ _)
      | (with_reducible exact ih1 _ _ _ _ _ _ _)
      | (with_reducible exact ih2 _ _ _ _ _ _ _ _ _)
      | (with_reducible exact LeO.refl _)
      | (with_reducible exact LeO.none _)
      | (with_reducible refine LeO.ite ?_ ?_)
      | (with_reducible refine LeO.bind ?_ (fun _ => ?_))
      | exact ih0 _ _ _ _ _ _ _
      | exact ih1 _ _ _ _ _ _ _
      | exact ih2 _ _ _ _ _ _ _ _ _
      | exact LeO.none _
      | refine LeO.ite ?_ ?_
      | refine LeO.bind ?_ (fun _ => ?_)
    · intro y0 y1 y2 y3 y4 y5 y6
      unfold spec_l15Cost.l1
      repeat' first
      | (with_reducible exact ih0 _ _ _ _ _ _ _)
      | (with_reducible exact ih1 _ _ _ _ _ _ _)
      | (with_reducible exact ih2 _ _ _ _ _ _ _ _ _)
      | (with_reducible exact LeO.refl _)
      | (with_reducible exact LeO.none _)
      | (with_reducible refine LeO.ite ?_ ?_)
      | (with_reducible refine LeO.bind ?_ (fun _ => ?_))
      | exact ih0 _ _ _ _ _ _ _
      | exact ih1 _ _ _ _ _ _ _
      | exact ih2 _ _ _ _ _ _ _ _ _
      | exact LeO.none _
      | refine LeO.ite ?_ ?_
      | refine LeO.bind ?_ (fun _ => ?_)
    · intro y0 y1 y2 y3 y4 y5 y6 y7 y8
      unfold spec_l15Cost.l2
      repeat' first
      | (with_reducible exact ih0 _ _ _ _ _ _ _)
      | (with_reducible exact ih1 _ _ _ _ _ _ _)
      | (with_reducible exact ih2 _ _ _ _ _ _ _ _ _)
      | (with_reducible exact LeO.refl _)
      | (with_reducible exact LeO.none _)
      | (with_reducible refine LeO.ite ?_ ?_)
      | (with_reducible refine LeO.bind ?_ (fun _ => ?_))
      | exact ih0 _ _ _ _ _ _ _
      | exact ih1 _ _ _ _ _ _ _
      | exact ih2 _ _ _ _ _ _ _ _ _
      | exact LeO.none _
      | refine LeO.ite ?_ ?_
      | refine LeO.bind ?_ (fun _ => ?_)
theorem spec_l15Cost.mono : ∀ a0 a1 a2 a3 a4 k, LeO (spec_l15Cost.f k a0 a1 a2 a3 a4) (spec_l15Cost.f (k + 1) a0 a1 a2 a3 a4) := by
  intro a0 a1 a2 a3 a4 k
  obtain ⟨ih0, ih1, ih2⟩ := spec_l15Cost.mono_l k
  unfold spec_l15Cost.f
  repeat' first
      | (with_reducible exact ih0 _ _ _ _ _ _ _)
      | (with_reducible exact ih1 _ _ _ _ _ _ _)
      | (with_reducible exact ih2 _ _ _ _ _ _ _ _ _)
      | (with_reducible exact LeO.refl _)
      | (with_reducible exact LeO.none _)
      | (with_reducible refine LeO.ite ?_ ?_)
      | (with_reducible refine LeO.bind ?_ (fun _ => ?_))
      | exact ih0 _ _ _ _ _ _ _
      | exact ih1 _ _ _ _ _ _ _
      | exact ih2 _ _ _ _ _ _ _ _ _
      | exact LeO.none _
      | refine LeO.ite ?_ ?_
      | refine LeO.bind ?_ (fun _ => ?_)
set_option maxHeartbeats 8000000 in
set_option maxRecDepth 100000 in
theorem spec_l15Cost.calls (k : Nat) (a0_0 : Int) (A0_1 : Option Addr) (c0_1 : Nat) (l0_1 : List Int) (A0_2 : Option Addr) (c0_2 : Nat) (l0_2 : List Int) (A0_3 : Option Addr) (c0_3 : Nat) (l0_3 : List (S52)) (A1 : Option Addr) (c1 : Nat) (l1 : List Int) (r : Int) (w : World) (hr0_1 : Kd.C (Kd.int .i64) w A0_1 l0_1.length l0_1) (hc0_1 : l0_1.length ≤ c0_1) (hr0_2 : Kd.C (Kd.int .i64) w A0_2 l0_2.length l0_2) (hc0_2 : l0_2.length ≤ c0_2) (hr0_3 : Kd.C k52 w A0_3 l0_3.length l0_3) (hc0_3 : l0_3.length ≤ c0_3) (hr1 : Kd.C (Kd.int .i64) w A1 l1.length l1) (hc1 : l1.length ≤ c1) (h : spec_l15Cost.f k a0_0 l0_1 l0_2 l0_3 l1 = some r) :
    Calls Try.prog 29 #[.agg #[.int .i64 a0_0, .slice A0_1 l0_1.length c0_1, .slice A0_2 l0_2.length c0_2, .slice A0_3 l0_3.length c0_3], .slice A1 l1.length c1] w fun e w' => e = .returned (.int .i64 r) ∧ Below w.heap.size w w' := by
  have hu30 := Try.underlying30
  have HR0_1 := Aside0.mk hr0_1
  have HC0_1 := Aside0.mk hc0_1
  clear hr0_1 hc0_1
  have HR0_2 := Aside0.mk hr0_2
  have HC0_2 := Aside0.mk hc0_2
  clear hr0_2 hc0_2
  have HR0_3 := Aside0.mk hr0_3
  have HC0_3 := Aside0.mk hc0_3
  clear hr0_3 hc0_3
  have HR1 := Aside0.mk hr1
  have HC1 := Aside0.mk hc1
  clear hr1 hc1
  have HB := Aside0.mk (Below.refl w.heap.size w)
  have H : (spec_l15Cost.l0 k l1 0 0 a0_0 l0_1 l0_2 l0_3) = some r := h
  clear h
  have H' := Aside0.mk H
  clear H
  go_enter Try.func29, Try.ntmps29
  go_wp2_with (first | ((with_reducible refine gate_dst (N := 2) rfl ?_); refine box_event ?hg (N := 2) ?hd (cs := #[.int .i64 a0_0, .slice A0_1 l0_1.length c0_1, .slice A0_2 l0_2.length c0_2, .slice A0_3 l0_3.length c0_3]) (t := 30) ?hr ?_; (case hd => rfl); (case hg => rfl); (case hr => first | (go_simp; done) | (go_simp; rfl)); intro gb166 hg w3 hbox hb; have n0_ := Aside0.mk (below_step (by repeat (first | (with_reducible first | exact HB.out | apply below_alloc | apply pw_below_drewN | apply below_drew1) | exact HB.out)) hb); have n1_ := Aside0.mk (hbox); have n2_ := Aside0.mk ((by rw [hg]; exact (below_size (by repeat (first | (with_reducible first | exact HB.out | apply below_alloc | apply pw_below_drewN | apply below_drew1) | exact HB.out))) : w.heap.size ≤ gb166)); have n3_ := Aside0.mk ((by rw [hg]; exact (below_size (by repeat (first | (with_reducible first | exact HB.out | apply below_alloc | apply pw_below_drewN | apply below_drew1) | exact HB.out))) : w.heap.size ≤ gb166)); clear HB; have HB := n0_; have BK166 := n1_; have GW166 := n2_; have GE166 := n3_; clear n0_ n1_ n2_ n3_; clear hb hbox hg))
  repeat (go_quiet (first | ((with_reducible refine gate_dst (N := 2) rfl ?_); refine box_event ?hg (N := 2) ?hd (cs := #[.int .i64 a0_0, .slice A0_1 l0_1.length c0_1, .slice A0_2 l0_2.length c0_2, .slice A0_3 l0_3.length c0_3]) (t := 30) ?hr ?_; (case hd => rfl); (case hg => rfl); (case hr => first | (go_simp; done) | (go_simp; rfl)); intro gb166 hg w3 hbox hb; have n0_ := Aside0.mk (below_step (by repeat (first | (with_reducible first | exact HB.out | apply below_alloc | apply pw_below_drewN | apply below_drew1) | exact HB.out)) hb); have n1_ := Aside0.mk (hbox); have n2_ := Aside0.mk ((by rw [hg]; exact (below_size (by repeat (first | (with_reducible first | exact HB.out | apply below_alloc | apply pw_below_drewN | apply below_drew1) | exact HB.out))) : w.heap.size ≤ gb166)); have n3_ := Aside0.mk ((by rw [hg]; exact (below_size (by repeat (first | (with_reducible first | exact HB.out | apply below_alloc | apply pw_below_drewN | apply below_drew1) | exact HB.out))) : w.heap.size ≤ gb166)); clear HB; have HB := n0_; have BK166 := n1_; have GW166 := n2_; have GE166 := n3_; clear n0_ n1_ n2_ n3_; clear hb hbox hg)); try go_wp2_with (first | ((with_reducible refine gate_dst (N := 2) rfl ?_); refine box_event ?hg (N := 2) ?hd (cs := #[.int .i64 a0_0, .slice A0_1 l0_1.length c0_1, .slice A0_2 l0_2.length c0_2, .slice A0_3 l0_3.length c0_3]) (t := 30) ?hr ?_; (case hd => rfl); (case hg => rfl); (case hr => first | (go_simp; done) | (go_simp; rfl)); intro gb166 hg w3 hbox hb; have n0_ := Aside0.mk (below_step (by repeat (first | (with_reducible first | exact HB.out | apply below_alloc | apply pw_below_drewN | apply below_drew1) | exact HB.out)) hb); have n1_ := Aside0.mk (hbox); have n2_ := Aside0.mk ((by rw [hg]; exact (below_size (by repeat (first | (with_reducible first | exact HB.out | apply below_alloc | apply pw_below_drewN | apply below_drew1) | exact HB.out))) : w.heap.size ≤ gb166)); have n3_ := Aside0.mk ((by rw [hg]; exact (below_size (by repeat (first | (with_reducible first | exact HB.out | apply below_alloc | apply pw_below_drewN | apply below_drew1) | exact HB.out))) : w.heap.size ≤ gb166)); clear HB; have HB := n0_; have BK166 := n1_; have GW166 := n2_; have GE166 := n3_; clear n0_ n1_ n2_ n3_; clear hb hbox hg)))
  go_loopg [5, 6] k (fun kq v5 v6 w' => ∃ (x5_1 : Int) (x6_1 : Int), v5 = .int .i64 x5_1 ∧ v6 = .int .i64 x6_1 ∧ Aside0 (spec_l15Cost.l0 kq l1 x5_1 x6_1 a0_0 l0_1 l0_2 l0_3 = some r) ∧ Aside0 (kq ≤ k) ∧ Aside0 (w'.heap[gb166]? = some (.cells #[.int .i64 a0_0, (.slice A0_1 l0_1.length c0_1), (.slice A0_2 l0_2.length c0_2), (.slice A0_3 l0_3.length c0_3)] 30 (0, 0))) ∧ Aside0 (Below w.heap.size w w'))
  case atStart => exact ⟨(0), (0), (by first | rfl | (simp; done) | (simp [*]; done)), (by first | rfl | (simp; done) | (simp [*]; done)), H', ⟨Nat.le_refl _⟩, ⟨by (with_reducible repeat (first | refine blk_drewN ?_ _ | refine blk_drew ?_ | refine blk_alloc ?_ _)); exact BK166.out⟩, ⟨by repeat (first | (with_reducible first | exact HB.out | apply below_alloc | apply pw_below_drewN | apply below_drew1 | refine below_set ?_ GE166.out) | exact HB.out)⟩⟩
  case round =>
    clear H'
    try clear c1
    try clear c2
    try clear p2
    obtain ⟨x5_1, x6_1, rfl, rfl, HA, HK1, BK166, HB⟩ := hrel
    cases gk with
    | zero => exact absurd HA.out (by simp [spec_l15Cost.l0])
    | succ k1 =>
      have H := HA.out
      clear HA
      simp only [spec_l15Cost.l0] at H
      by_cases c4 : x6_1 < a0_0
      · rw [if_pos c4] at H
        have c4b0 : decide (x6_1 < a0_0) = true := decide_eq_true c4
        clear c4
        by_cases c5 : 0 ≤ x6_1
        · rw [if_pos c5] at H
          have c5b0 : decide (0 ≤ x6_1) = true := decide_eq_true c5
          clear c5
          by_cases c6 : x6_1 < (l0_2.length : Int)
          · rw [if_pos c6] at H
            have c6b0 : decide (x6_1 < (l0_2.length : Int)) = true := decide_eq_true c6
            clear c6
            by_cases c7 : x6_1 < (l1.length : Int)
            · rw [if_pos c7] at H
              have c7b0 : decide (x6_1 < (l1.length : Int)) = true := decide_eq_true c7
              clear c7
              by_cases c8 : x6_1 < (l0_1.length : Int)
              · rw [if_pos c8] at H
                have c8b0 : decide (x6_1 < (l0_1.length : Int)) = true := decide_eq_true c8
                clear c8
                have H' := Aside0.mk H
                clear H
                have hcz9_0 : wr.cell? ⟨gb166, 0, none⟩ = some (.int .i64 a0_0) := (blk_cell BK166.out 0).trans rfl
                have hcz9_1 : wr.cell? ⟨gb166, 1, none⟩ = some (.slice A0_1 l0_1.length c0_1) := (blk_cell BK166.out 1).trans rfl
                have hcz9_2 : wr.cell? ⟨gb166, 2, none⟩ = some (.slice A0_2 l0_2.length c0_2) := (blk_cell BK166.out 2).trans rfl
                have hcz9_3 : wr.cell? ⟨gb166, 3, none⟩ = some (.slice A0_3 l0_3.length c0_3) := (blk_cell BK166.out 3).trans rfl
                have hfz9_0 := blk_frozen BK166.out 0
                have hfz9_1 := blk_frozen BK166.out 1
                have hfz9_2 := blk_frozen BK166.out 2
                have hfz9_3 := blk_frozen BK166.out 3
                have p167 : 0 ≤ (x6_1 : Int) := of_decide_eq_true (by first | (with_reducible assumption) | assumption)
                have q167 : x6_1 < (l0_2.length : Int) := of_decide_eq_true (by first | (with_reducible assumption) | assumption)
                obtain ⟨ad167, e167, hx167_0⟩ := Kd.at_int HR0_2.out x6_1 p167 q167
                cases e167
                replace hx167_0 := (HB.out.cell (World.block_lt_of_cell? w _ hx167_0)).trans hx167_0
                replace p167 := eq_true p167
                replace q167 := eq_true q167
                have p168 : 0 ≤ (x6_1 : Int) := of_decide_eq_true (by first | (with_reducible assumption) | assumption)
                have q168 : x6_1 < (l1.length : Int) := of_decide_eq_true (by first | (with_reducible assumption) | assumption)
                obtain ⟨ad168, e168, hx168_0⟩ := Kd.at_int HR1.out x6_1 p168 q168
                cases e168
                replace hx168_0 := (HB.out.cell (World.block_lt_of_cell? w _ hx168_0)).trans hx168_0
                replace p168 := eq_true p168
                replace q168 := eq_true q168
                have p169 : 0 ≤ (x6_1 : Int) := of_decide_eq_true (by first | (with_reducible assumption) | assumption)
                have q169 : x6_1 < (l0_1.length : Int) := of_decide_eq_true (by first | (with_reducible assumption) | assumption)
                obtain ⟨ad169, e169, hx169_0⟩ := Kd.at_int HR0_1.out x6_1 p169 q169
                cases e169
                replace hx169_0 := (HB.out.cell (World.block_lt_of_cell? w _ hx169_0)).trans hx169_0
                replace p169 := eq_true p169
                replace q169 := eq_true q169
                have p170 : 0 ≤ (x6_1 : Int) := of_decide_eq_true (by first | (with_reducible assumption) | assumption)
                have q170 : x6_1 < (l1.length : Int) := of_decide_eq_true (by first | (with_reducible assumption) | assumption)
                obtain ⟨ad170, e170, hx170_0⟩ := Kd.at_int HR1.out x6_1 p170 q170
                obtain rfl : ad168 = ad170 := (by injection e170)
                replace hx170_0 := (HB.out.cell (World.block_lt_of_cell? w _ hx170_0)).trans hx170_0
                replace p170 := eq_true p170
                replace q170 := eq_true q170
                have p171 : 0 ≤ (x6_1 : Int) := of_decide_eq_true (by first | (with_reducible assumption) | assumption)
                have q171 : x6_1 < (l0_1.length : Int) := of_decide_eq_true (by first | (with_reducible assumption) | assumption)
                obtain ⟨ad171, e171, hx171_0⟩ := Kd.at_int HR0_1.out x6_1 p171 q171
                obtain rfl : ad169 = ad171 := (by injection e171)
                replace hx171_0 := (HB.out.cell (World.block_lt_of_cell? w _ hx171_0)).trans hx171_0
                replace p171 := eq_true p171
                replace q171 := eq_true q171
                go_wp2
                repeat (go_quiet (fail); try go_wp2)
                go_roundg k1
                case measure => have := HK1.out; omega
                case rel => exact ⟨(wrap64 (x5_1 + (wrap64 ((wrap64 ((rd l0_2 x6_1) * (wrap64 ((rd l1 x6_1) - (rd l0_1 x6_1))))) * (wrap64 ((rd l1 x6_1) - (rd l0_1 x6_1))))))), (wrap64 (x6_1 + 1)), (by first | rfl | (simp; done) | (simp [*]; done)), (by first | rfl | (simp; done) | (simp [*]; done)), H', ⟨by have := HK1.out; omega⟩, ⟨by (with_reducible repeat (first | refine blk_drewN ?_ _ | refine blk_drew ?_ | refine blk_alloc ?_ _)); exact BK166.out⟩, ⟨by repeat (first | (with_reducible first | exact HB.out | apply below_alloc | apply pw_below_drewN | apply below_drew1 | refine below_set ?_ GE166.out) | exact HB.out)⟩⟩
              · rw [if_neg c8] at H
                exact absurd H (by simp)
            · rw [if_neg c7] at H
              exact absurd H (by simp)
          · rw [if_neg c6] at H
            exact absurd H (by simp)
        · rw [if_neg c5] at H
          exact absurd H (by simp)
      · rw [if_neg c4] at H
        have c4b0 : decide (x6_1 < a0_0) = false := decide_eq_false c4
        clear c4
        have H' := Aside0.mk H
        clear H
        have hcz10_0 : wr.cell? ⟨gb166, 0, none⟩ = some (.int .i64 a0_0) := (blk_cell BK166.out 0).trans rfl
        have hcz10_1 : wr.cell? ⟨gb166, 1, none⟩ = some (.slice A0_1 l0_1.length c0_1) := (blk_cell BK166.out 1).trans rfl
        have hcz10_2 : wr.cell? ⟨gb166, 2, none⟩ = some (.slice A0_2 l0_2.length c0_2) := (blk_cell BK166.out 2).trans rfl
        have hcz10_3 : wr.cell? ⟨gb166, 3, none⟩ = some (.slice A0_3 l0_3.length c0_3) := (blk_cell BK166.out 3).trans rfl
        have hfz10_0 := blk_frozen BK166.out 0
        have hfz10_1 := blk_frozen BK166.out 1
        have hfz10_2 := blk_frozen BK166.out 2
        have hfz10_3 := blk_frozen BK166.out 3
        go_wp2
        repeat (go_quiet (fail); try go_wp2)
        go_loopg [5, 7] k1 (fun kq v5 v7 w' => ∃ (x5_2 : Int) (x7_2 : Int), v5 = .int .i64 x5_2 ∧ v7 = .int .i64 x7_2 ∧ Aside0 (spec_l15Cost.l1 kq l1 x5_2 x7_2 a0_0 l0_1 l0_2 l0_3 = some r) ∧ Aside0 (kq ≤ k1) ∧ Aside0 (w'.heap[gb166]? = some (.cells #[.int .i64 a0_0, (.slice A0_1 l0_1.length c0_1), (.slice A0_2 l0_2.length c0_2), (.slice A0_3 l0_3.length c0_3)] 30 (0, 0))) ∧ Aside0 (Below w.heap.size w w'))
        case atStart => exact ⟨(x5_1), (0), (by first | rfl | (simp; done) | (simp [*]; done)), (by first | rfl | (simp; done) | (simp [*]; done)), H', ⟨Nat.le_refl _⟩, ⟨by (with_reducible repeat (first | refine blk_drewN ?_ _ | refine blk_drew ?_ | refine blk_alloc ?_ _)); exact BK166.out⟩, ⟨by repeat (first | (with_reducible first | exact HB.out | apply below_alloc | apply pw_below_drewN | apply below_drew1 | refine below_set ?_ GE166.out) | exact HB.out)⟩⟩
        case round =>
          clear H'
          try clear c1
          try clear p1
          try clear q1
          try clear hx1
          try clear c2
          try clear p2
          try clear c4
          try clear c4b0
          try clear c5
          try clear c5b0
          try clear c6
          try clear c6b0
          try clear p6
          try clear c7
          try clear c7b0
          try clear c8
          try clear c8b0
          try clear hcz10_0
          try clear hcz10_1
          try clear hcz10_2
          try clear hcz10_3
          try clear hcz9_0
          try clear hcz9_1
          try clear hcz9_2
          try clear hcz9_3
          try clear hfz10_0
          try clear hfz10_1
          try clear hfz10_2
          try clear hfz10_3
          try clear hfz9_0
          try clear hfz9_1
          try clear hfz9_2
          try clear hfz9_3
          try clear hx167_0
          try clear hx168_0
          try clear hx169_0
          try clear hx170_0
          try clear hx171_0
          try clear p167
          try clear p168
          try clear p169
          try clear p170
          try clear p171
          try clear p2
          try clear q167
          try clear q168
          try clear q169
          try clear q170
          try clear q171
          obtain ⟨x5_2, x7_2, rfl, rfl, HA, HK2, BK166, HB⟩ := hrel
          cases gk with
          | zero => exact absurd HA.out (by simp [spec_l15Cost.l1])
          | succ k2 =>
            have H := HA.out
            clear HA
            simp only [spec_l15Cost.l1] at H
            by_cases c11 : x7_2 < (l0_3.length : Int)
            · rw [if_pos c11] at H
              have c11b0 : decide (x7_2 < (l0_3.length : Int)) = true := decide_eq_true c11
              clear c11
              by_cases c12 : 0 ≤ x7_2
              · rw [if_pos c12] at H
                have c12b0 : decide (0 ≤ x7_2) = true := decide_eq_true c12
                clear c12
                have H' := Aside0.mk H
                clear H
                have hcz13_0 : wr.cell? ⟨gb166, 0, none⟩ = some (.int .i64 a0_0) := (blk_cell BK166.out 0).trans rfl
                have hcz13_1 : wr.cell? ⟨gb166, 1, none⟩ = some (.slice A0_1 l0_1.length c0_1) := (blk_cell BK166.out 1).trans rfl
                have hcz13_2 : wr.cell? ⟨gb166, 2, none⟩ = some (.slice A0_2 l0_2.length c0_2) := (blk_cell BK166.out 2).trans rfl
                have hcz13_3 : wr.cell? ⟨gb166, 3, none⟩ = some (.slice A0_3 l0_3.length c0_3) := (blk_cell BK166.out 3).trans rfl
                have hfz13_0 := blk_frozen BK166.out 0
                have hfz13_1 := blk_frozen BK166.out 1
                have hfz13_2 := blk_frozen BK166.out 2
                have hfz13_3 := blk_frozen BK166.out 3
                have p172 : 0 ≤ (x7_2 : Int) := of_decide_eq_true (by first | (with_reducible assumption) | assumption)
                have q172 : x7_2 < (l0_3.length : Int) := of_decide_eq_true (by first | (with_reducible assumption) | assumption)
                obtain ⟨ad172, A172_0, c172_0, e172, hx172_0, hx172_1, hx172_2, hl172_0, hi172_0⟩ := at_T52 HR0_3.out x7_2 p172 q172
                cases e172
                replace hx172_0 := (HB.out.cell (World.block_lt_of_cell? w _ hx172_0)).trans hx172_0
                replace hx172_1 := (HB.out.cell (World.block_lt_of_cell? w _ hx172_1)).trans hx172_1
                replace hx172_2 := (HB.out.cell (World.block_lt_of_cell? w _ hx172_2)).trans hx172_2
                have HR172_0 := Aside0.mk hi172_0
                have HC172_0 := Aside0.mk hl172_0
                clear hi172_0 hl172_0
                replace p172 := eq_true p172
                replace q172 := eq_true q172
                go_wp2
                repeat (go_quiet (fail); try go_wp2)
                go_loopg [8, 9] k2 (fun kq v8 v9 w' => ∃ (x8_3 : Int) (x9_3 : Int), v8 = .int .i64 x8_3 ∧ v9 = .int .i64 x9_3 ∧ Aside0 (spec_l15Cost.l2 kq l1 x5_2 x7_2 x8_3 x9_3 a0_0 l0_1 l0_2 l0_3 = some r) ∧ Aside0 (kq ≤ k2) ∧ Aside0 (w'.heap[gb166]? = some (.cells #[.int .i64 a0_0, (.slice A0_1 l0_1.length c0_1), (.slice A0_2 l0_2.length c0_2), (.slice (some ad172) l0_3.length c0_3)] 30 (0, 0))) ∧ Aside0 (Below w.heap.size w w'))
                case atStart => exact ⟨(wrap64 (-((rd_T52 l0_3 x7_2).f1))), (0), (by first | rfl | (simp; done) | (simp [*]; done)), (by first | rfl | (simp; done) | (simp [*]; done)), H', ⟨Nat.le_refl _⟩, ⟨by (with_reducible repeat (first | refine blk_drewN ?_ _ | refine blk_drew ?_ | refine blk_alloc ?_ _)); exact BK166.out⟩, ⟨by repeat (first | (with_reducible first | exact HB.out | apply below_alloc | apply pw_below_drewN | apply below_drew1 | refine below_set ?_ GE166.out) | exact HB.out)⟩⟩
                case round =>
                  clear H'
                  try clear c1
                  try clear p1
                  try clear q1
                  try clear hx1
                  try clear c2
                  try clear p2
                  try clear c4
                  try clear c4b0
                  try clear c5
                  try clear c5b0
                  try clear c6
                  try clear c6b0
                  try clear p6
                  try clear c7
                  try clear c7b0
                  try clear c8
                  try clear c8b0
                  try clear c11
                  try clear c11b0
                  try clear c12
                  try clear c12b0
                  try clear hcz10_0
                  try clear hcz10_1
                  try clear hcz10_2
                  try clear hcz10_3
                  try clear hcz13_0
                  try clear hcz13_1
                  try clear hcz13_2
                  try clear hcz13_3
                  try clear hcz9_0
                  try clear hcz9_1
                  try clear hcz9_2
                  try clear hcz9_3
                  try clear hfz10_0
                  try clear hfz10_1
                  try clear hfz10_2
                  try clear hfz10_3
                  try clear hfz13_0
                  try clear hfz13_1
                  try clear hfz13_2
                  try clear hfz13_3
                  try clear hfz9_0
                  try clear hfz9_1
                  try clear hfz9_2
                  try clear hfz9_3
                  try clear hx167_0
                  try clear hx168_0
                  try clear hx169_0
                  try clear hx170_0
                  try clear hx171_0
                  try clear hx172_0
                  try clear hx172_1
                  try clear hx172_2
                  try clear p1
                  try clear p167
                  try clear p168
                  try clear p169
                  try clear p170
                  try clear p171
                  try clear p172
                  try clear p2
                  try clear p6
                  try clear q1
                  try clear q167
                  try clear q168
                  try clear q169
                  try clear q170
                  try clear q171
                  try clear q172
                  obtain ⟨x8_3, x9_3, rfl, rfl, HA, HK3, BK166, HB⟩ := hrel
                  cases gk with
                  | zero => exact absurd HA.out (by simp [spec_l15Cost.l2])
                  | succ k3 =>
                    have H := HA.out
                    clear HA
                    simp only [spec_l15Cost.l2] at H
                    by_cases c14 : x9_3 < a0_0
                    · rw [if_pos c14] at H
                      have c14b0 : decide (x9_3 < a0_0) = true := decide_eq_true c14
                      clear c14
                      by_cases c15 : 0 ≤ x7_2
                      · rw [if_pos c15] at H
                        have c15b0 : decide (0 ≤ x7_2) = true := decide_eq_true c15
                        clear c15
                        by_cases c16 : x7_2 < (l0_3.length : Int)
                        · rw [if_pos c16] at H
                          have c16b0 : decide (x7_2 < (l0_3.length : Int)) = true := decide_eq_true c16
                          clear c16
                          by_cases c17 : 0 ≤ x9_3
                          · rw [if_pos c17] at H
                            have c17b0 : decide (0 ≤ x9_3) = true := decide_eq_true c17
                            clear c17
                            by_cases c18 : x9_3 < (((rd_T52 l0_3 x7_2).f0).length : Int)
                            · rw [if_pos c18] at H
                              have c18b0 : decide (x9_3 < (((rd_T52 l0_3 x7_2).f0).length : Int)) = true := decide_eq_true c18
                              clear c18
                              by_cases c19 : x9_3 < (l1.length : Int)
                              · rw [if_pos c19] at H
                                have c19b0 : decide (x9_3 < (l1.length : Int)) = true := decide_eq_true c19
                                clear c19
                                have H' := Aside0.mk H
                                clear H
                                have hcz20_0 : wr.cell? ⟨gb166, 0, none⟩ = some (.int .i64 a0_0) := (blk_cell BK166.out 0).trans rfl
                                have hcz20_1 : wr.cell? ⟨gb166, 1, none⟩ = some (.slice A0_1 l0_1.length c0_1) := (blk_cell BK166.out 1).trans rfl
                                have hcz20_2 : wr.cell? ⟨gb166, 2, none⟩ = some (.slice A0_2 l0_2.length c0_2) := (blk_cell BK166.out 2).trans rfl
                                have hcz20_3 : wr.cell? ⟨gb166, 3, none⟩ = some (.slice (some ad172) l0_3.length c0_3) := (blk_cell BK166.out 3).trans rfl
                                have hfz20_0 := blk_frozen BK166.out 0
                                have hfz20_1 := blk_frozen BK166.out 1
                                have hfz20_2 := blk_frozen BK166.out 2
                                have hfz20_3 := blk_frozen BK166.out 3
                                have p173 : 0 ≤ (x7_2 : Int) := of_decide_eq_true (by first | (with_reducible assumption) | assumption)
                                have q173 : x7_2 < (l0_3.length : Int) := of_decide_eq_true (by first | (with_reducible assumption) | assumption)
                                obtain ⟨ad173, A173_0, c173_0, e173, hx173_0, hx173_1, hx173_2, hl173_0, hi173_0⟩ := at_T52 HR0_3.out x7_2 p173 q173
                                obtain rfl : ad172 = ad173 := (by injection e173)
                                replace hx173_0 := (HB.out.cell (World.block_lt_of_cell? w _ hx173_0)).trans hx173_0
                                replace hx173_1 := (HB.out.cell (World.block_lt_of_cell? w _ hx173_1)).trans hx173_1
                                replace hx173_2 := (HB.out.cell (World.block_lt_of_cell? w _ hx173_2)).trans hx173_2
                                have HR173_0 := Aside0.mk hi173_0
                                have HC173_0 := Aside0.mk hl173_0
                                clear hi173_0 hl173_0
                                replace p173 := eq_true p173
                                replace q173 := eq_true q173
                                have p174 : 0 ≤ (x9_3 : Int) := of_decide_eq_true (by first | (with_reducible assumption) | assumption)
                                have q174 : x9_3 < (((rd_T52 l0_3 x7_2).f0).length : Int) := of_decide_eq_true (by first | (with_reducible assumption) | assumption)
                                obtain ⟨ad174, e174, hx174_0⟩ := Kd.at_int HR173_0.out x9_3 p174 q174
                                cases e174
                                replace hx174_0 := (HB.out.cell (World.block_lt_of_cell? w _ hx174_0)).trans hx174_0
                                replace p174 := eq_true p174
                                replace q174 := eq_true q174
                                have p175 : 0 ≤ (x9_3 : Int) := of_decide_eq_true (by first | (with_reducible assumption) | assumption)
                                have q175 : x9_3 < (l1.length : Int) := of_decide_eq_true (by first | (with_reducible assumption) | assumption)
                                obtain ⟨ad175, e175, hx175_0⟩ := Kd.at_int HR1.out x9_3 p175 q175
                                cases e175
                                replace hx175_0 := (HB.out.cell (World.block_lt_of_cell? w _ hx175_0)).trans hx175_0
                                replace p175 := eq_true p175
                                replace q175 := eq_true q175
                                go_wp2
                                repeat (go_quiet (fail); try go_wp2)
                                go_roundg k3
                                case measure => have := HK1.out; have := HK2.out; have := HK3.out; omega
                                case rel => exact ⟨(wrap64 (x8_3 + (wrap64 ((rd ((rd_T52 l0_3 x7_2).f0) x9_3) * (rd l1 x9_3))))), (wrap64 (x9_3 + 1)), (by first | rfl | (simp; done) | (simp [*]; done)), (by first | rfl | (simp; done) | (simp [*]; done)), H', ⟨by have := HK1.out; have := HK2.out; have := HK3.out; omega⟩, ⟨by (with_reducible repeat (first | refine blk_drewN ?_ _ | refine blk_drew ?_ | refine blk_alloc ?_ _)); exact BK166.out⟩, ⟨by repeat (first | (with_reducible first | exact HB.out | apply below_alloc | apply pw_below_drewN | apply below_drew1 | refine below_set ?_ GE166.out) | exact HB.out)⟩⟩
                              · rw [if_neg c19] at H
                                exact absurd H (by simp)
                            · rw [if_neg c18] at H
                              exact absurd H (by simp)
                          · rw [if_neg c17] at H
                            exact absurd H (by simp)
                        · rw [if_neg c16] at H
                          exact absurd H (by simp)
                      · rw [if_neg c15] at H
                        exact absurd H (by simp)
                    · rw [if_neg c14] at H
                      have c14b0 : decide (x9_3 < a0_0) = false := decide_eq_false c14
                      clear c14
                      by_cases c21 : 0 ≤ x7_2
                      · rw [if_pos c21] at H
                        have c21b0 : decide (0 ≤ x7_2) = true := decide_eq_true c21
                        clear c21
                        by_cases c22 : x7_2 < (l0_3.length : Int)
                        · rw [if_pos c22] at H
                          have c22b0 : decide (x7_2 < (l0_3.length : Int)) = true := decide_eq_true c22
                          clear c22
                          have H' := Aside0.mk H
                          clear H
                          have hcz23_0 : wr.cell? ⟨gb166, 0, none⟩ = some (.int .i64 a0_0) := (blk_cell BK166.out 0).trans rfl
                          have hcz23_1 : wr.cell? ⟨gb166, 1, none⟩ = some (.slice A0_1 l0_1.length c0_1) := (blk_cell BK166.out 1).trans rfl
                          have hcz23_2 : wr.cell? ⟨gb166, 2, none⟩ = some (.slice A0_2 l0_2.length c0_2) := (blk_cell BK166.out 2).trans rfl
                          have hcz23_3 : wr.cell? ⟨gb166, 3, none⟩ = some (.slice (some ad172) l0_3.length c0_3) := (blk_cell BK166.out 3).trans rfl
                          have hfz23_0 := blk_frozen BK166.out 0
                          have hfz23_1 := blk_frozen BK166.out 1
                          have hfz23_2 := blk_frozen BK166.out 2
                          have hfz23_3 := blk_frozen BK166.out 3
                          have p176 : 0 ≤ (x7_2 : Int) := of_decide_eq_true (by first | (with_reducible assumption) | assumption)
                          have q176 : x7_2 < (l0_3.length : Int) := of_decide_eq_true (by first | (with_reducible assumption) | assumption)
                          obtain ⟨ad176, A176_0, c176_0, e176, hx176_0, hx176_1, hx176_2, hl176_0, hi176_0⟩ := at_T52 HR0_3.out x7_2 p176 q176
                          obtain rfl : ad172 = ad176 := (by injection e176)
                          replace hx176_0 := (HB.out.cell (World.block_lt_of_cell? w _ hx176_0)).trans hx176_0
                          replace hx176_1 := (HB.out.cell (World.block_lt_of_cell? w _ hx176_1)).trans hx176_1
                          replace hx176_2 := (HB.out.cell (World.block_lt_of_cell? w _ hx176_2)).trans hx176_2
                          have HR176_0 := Aside0.mk hi176_0
                          have HC176_0 := Aside0.mk hl176_0
                          clear hi176_0 hl176_0
                          replace p176 := eq_true p176
                          replace q176 := eq_true q176
                          go_wp2
                          repeat (go_quiet (fail); try go_wp2)
                          go_roundg k3
                          case measure => have := HK1.out; have := HK2.out; have := HK3.out; omega
                          case rel => exact ⟨(wrap64 (x5_2 + (wrap64 ((wrap64 (((rd_T52 l0_3 x7_2).f2) * x8_3)) * x8_3)))), (wrap64 (x7_2 + 1)), (by first | rfl | (simp; done) | (simp [*]; done)), (by first | rfl | (simp; done) | (simp [*]; done)), H', ⟨by have := HK1.out; have := HK2.out; have := HK3.out; omega⟩, ⟨by (with_reducible repeat (first | refine blk_drewN ?_ _ | refine blk_drew ?_ | refine blk_alloc ?_ _)); exact BK166.out⟩, ⟨by repeat (first | (with_reducible first | exact HB.out | apply below_alloc | apply pw_below_drewN | apply below_drew1 | refine below_set ?_ GE166.out) | exact HB.out)⟩⟩
                        · rw [if_neg c22] at H
                          exact absurd H (by simp)
                      · rw [if_neg c21] at H
                        exact absurd H (by simp)
              · rw [if_neg c12] at H
                exact absurd H (by simp)
            · rw [if_neg c11] at H
              have c11b0 : decide (x7_2 < (l0_3.length : Int)) = false := decide_eq_false c11
              clear c11
              obtain rfl := Option.some.inj H
              have hcz24_0 : wr.cell? ⟨gb166, 0, none⟩ = some (.int .i64 a0_0) := (blk_cell BK166.out 0).trans rfl
              have hcz24_1 : wr.cell? ⟨gb166, 1, none⟩ = some (.slice A0_1 l0_1.length c0_1) := (blk_cell BK166.out 1).trans rfl
              have hcz24_2 : wr.cell? ⟨gb166, 2, none⟩ = some (.slice A0_2 l0_2.length c0_2) := (blk_cell BK166.out 2).trans rfl
              have hcz24_3 : wr.cell? ⟨gb166, 3, none⟩ = some (.slice A0_3 l0_3.length c0_3) := (blk_cell BK166.out 3).trans rfl
              have hfz24_0 := blk_frozen BK166.out 0
              have hfz24_1 := blk_frozen BK166.out 1
              have hfz24_2 := blk_frozen BK166.out 2
              have hfz24_3 := blk_frozen BK166.out 3
              go_wp2
              repeat (go_quiet (fail); try go_wp2)
              go_ret
              exact ⟨by first | rfl | (simp [errW_none, errW_some] <;> rfl) | (simp [*, errW_none, errW_some] <;> rfl), by repeat (first | (with_reducible first | exact HB.out | apply below_alloc | apply pw_below_drewN | apply below_drew1 | refine below_set ?_ GE166.out) | exact HB.out)⟩

/-! ### spec_l15Moved: function 35 -/
def spec_l15Moved.f (l0 : List Int) (a1 : Int) (a2 : Int) : Option (List Int) := (some (([] : List Int) : List Int)).bind fun y177 => (if y177.length + l0.length < 17592186044416 then ((some (y177 ++ l0 : List Int)).bind fun y180 => (if 0 ≤ a1 then (if a1 < (y180.length : Int) then (some (y180.set (a1 : Int).toNat (wrap64 ((rd y180 a1) + a2)))) else (none)) else (none))) else (none))
set_option maxHeartbeats 8000000 in
set_option maxRecDepth 100000 in
theorem spec_l15Moved.calls (A0 : Option Addr) (c0 : Nat) (l0 : List Int) (a1 : Int) (a2 : Int) (r : List Int) (w : World) (hr0 : Kd.C (Kd.int .i64) w A0 l0.length l0) (hc0 : l0.length ≤ c0) (h : spec_l15Moved.f l0 a1 a2 = some r) :
    Calls Try.prog 35 #[.slice A0 l0.length c0, .int .i64 a1, .int .i64 a2] w fun e w' => ∃ v0_ : Value, e = .returned (v0_) ∧ Kd.R (Kd.int .i64) 2 w' w.heap.size (fun _ => True) v0_ r ∧ Below w.heap.size w w' := by
  have HR0 := Aside0.mk hr0
  have HC0 := Aside0.mk hc0
  clear hr0 hc0
  have HB := Aside0.mk (Below.refl w.heap.size w)
  have H : ((some (([] : List Int) : List Int)).bind fun y177 => (if y177.length + l0.length < 17592186044416 then ((some (y177 ++ l0 : List Int)).bind fun y180 => (if 0 ≤ a1 then (if a1 < (y180.length : Int) then (some (y180.set (a1 : Int).toNat (wrap64 ((rd y180 a1) + a2)))) else (none)) else (none))) else (none))) = some r := h
  clear h
  obtain ⟨y177, hy177⟩ : ∃ y_ : List Int, y_ = (([] : List Int)) := ⟨_, rfl⟩
  replace H : (if y177.length + l0.length < 17592186044416 then ((some (y177 ++ l0 : List Int)).bind fun y180 => (if 0 ≤ a1 then (if a1 < (y180.length : Int) then (some (y180.set (a1 : Int).toNat (wrap64 ((rd y180 a1) + a2)))) else (none)) else (none))) else (none)) = some r := by first | (rw [hy177]; with_reducible exact H) | (have H2_ := (Option.bind_some _ _).symm.trans H; rw [hy177]; with_reducible exact H2_) | (have H2_ := (Option.bind_some _ _).symm.trans H; with_reducible exact H2_) | with_reducible exact H | (rw [hy177]; exact H) | exact H
  have Ny177 := Aside0.mk hy177
  clear hy177
  by_cases c4 : y177.length + l0.length < 17592186044416
  · rw [if_pos c4] at H
    have LMc4 := Aside0.mk c4
    clear c4
    obtain ⟨y180, hy180⟩ : ∃ y_ : List Int, y_ = (y177 ++ l0) := ⟨_, rfl⟩
    replace H : (if 0 ≤ a1 then (if a1 < (y180.length : Int) then (some (y180.set (a1 : Int).toNat (wrap64 ((rd y180 a1) + a2)))) else (none)) else (none)) = some r := by first | (rw [hy180]; with_reducible exact H) | (have H2_ := (Option.bind_some _ _).symm.trans H; rw [hy180]; with_reducible exact H2_) | (have H2_ := (Option.bind_some _ _).symm.trans H; with_reducible exact H2_) | with_reducible exact H | (rw [hy180]; exact H) | exact H
    have Ny180 := Aside0.mk hy180
    clear hy180
    by_cases c5 : 0 ≤ a1
    · rw [if_pos c5] at H
      have c5b0 : decide (0 ≤ a1) = true := decide_eq_true c5
      clear c5
      by_cases c6 : a1 < (y180.length : Int)
      · rw [if_pos c6] at H
        have c6b0 : decide (a1 < (y180.length : Int)) = true := decide_eq_true c6
        clear c6
        obtain ⟨y184, hy184⟩ : ∃ y_ : List Int, y_ = (y180.set (a1 : Int).toNat (wrap64 ((rd y180 a1) + a2))) := ⟨_, rfl⟩
        replace H : (some y184) = some r := by first | (rw [hy184]; with_reducible exact H) | (have H2_ := (Option.bind_some _ _).symm.trans H; rw [hy184]; with_reducible exact H2_) | (have H2_ := (Option.bind_some _ _).symm.trans H; with_reducible exact H2_) | with_reducible exact H | (rw [hy184]; exact H) | exact H
        have Ny184 := Aside0.mk hy184
        clear hy184
        obtain rfl := Option.some.inj H
        go_enter Try.func35, Try.ntmps35
        go_wp2_with (first | ((with_reducible refine gate_dst (N := 8) rfl ?_); refine Kd.R_lit (Kd.int .i64) _ 2 ?hg (N := 8) ?hd (xs := ([] : List Int)) (inner := []) (ok := fun _ => True) (okp := fun _ => True) ?hr ?hp (fun _ hk => hk) trivial (Below.refl _ _) (Nat.le_refl _) (by simp) ?_; (case hd => rfl); (case hg => rfl); (case hr => first | (go_simp; done) | (go_simp; rfl)); (case hp => exact (Reps.none _ _)); intro v178 w8 ho9 hb hg_ hnew_; clear hg_ hnew_; (first | rw [← Ny177.out] at ho9 | (simp only [Int.reduceToNat] at ho9; rw [← Ny177.out] at ho9)); have n0_ := Aside0.mk (Kd.R_lower ho9 (below_size (by repeat (first | (with_reducible first | exact HB.out | apply below_alloc | apply pw_below_drewN | apply below_drew1) | exact HB.out)))); have n1_ := Aside0.mk (below_step (by repeat (first | (with_reducible first | exact HB.out | apply below_alloc | apply pw_below_drewN | apply below_drew1) | exact HB.out)) hb); clear HB; have HO179 := n0_; have HB := n1_; clear n0_ n1_; clear hb ho9) | ((with_reducible refine gate_builtin (b := .append) (xs := #[.tmp 8, .tmp 9]) rfl ?_); at_builtin; refine Kd.R_append_rows (Kd.int .i64) (w0 := w) w.heap.size rfl (.tmp 8) (.tmp 9) 22 2 (.int .i64 0) 8 rfl Try.underlying22 info2 rfl (by decide) (by omega) v178 y177 l0 _ _ _ (fun _ => True) (fun _ => False) rfl rfl ?aO ?aR (fun _ _ h => h) (fun _ h => h.elim) ?aF ?aB ?aS ?aL ?_; (case aR => repeat (first | exact (Kd.C_below HR0.out HB.out) | (with_reducible refine Kd.C_alloc ?_ _) | (with_reducible refine Kd.C_drewN ?_ _) | (with_reducible refine Kd.C_drew ?_))); (case aB => exact (by repeat (first | (with_reducible first | exact HB.out | apply below_alloc | apply pw_below_drewN | apply below_drew1) | exact HB.out))); (case aF => exact (fun _ _ => trivial)); (case aO => exact (by (with_reducible repeat (first | apply Kd.R_alloc | apply Kd.R_drewN | apply Kd.R_drew)); exact HO179.out)); (case aS => exact (below_size (by repeat (first | (with_reducible first | exact HB.out | apply below_alloc | apply pw_below_drewN | apply below_drew1) | exact HB.out)))); (case aL => have := LMc4.out; omega); intro v181 w10 ho hb hg hat; rw [← Ny180.out] at ho; have n0_ := Aside0.mk (hb); have n1_ := Aside0.mk (ho); clear HB; clear HO179; have HB := n0_; have HO182 := n1_; clear n0_ n1_; clear ho hb hg hat; obtain ⟨Ao11, co11, eo11⟩ := Kd.R_slice HO182.out; subst eo11; have p183 : 0 ≤ (a1 : Int) := of_decide_eq_true (by first | (with_reducible assumption) | assumption); have q183 : a1 < (y180.length : Int) := of_decide_eq_true (by first | (with_reducible assumption) | assumption); obtain ⟨ad183, e183, hx183_0⟩ := Kd.at_int (Kd.R_reads' HO182.out).2.2 a1 p183 q183; cases e183; replace p183 := eq_true p183; replace q183 := eq_true q183; have p7 : 0 ≤ (a1 : Int) := of_decide_eq_true (by first | (with_reducible assumption) | assumption); have q7 : (a1 : Int) < ((y180.length : Int) : Int) := of_decide_eq_true (by first | (with_reducible assumption) | assumption); obtain ⟨go7, co7, eo7, gb7, gl7, cl7, HG7⟩ := Kd.R_form HO182.out (by omega); (first | cases eo7 | (injection eo7 with ea_ en_ ec_; (first | subst ea_ | (injection ea_ with ea_; subst ea_)); subst ec_; clear en_)); have GB7 := Aside0.mk gb7; have GG7 := Aside0.mk HG7; clear gb7 gl7 HG7; (first | simp only [add_plain] at hx183_0 | skip); obtain ⟨hx7_0, hf7_0⟩ := Kd.R_celln 0 HO182.out (a1 : Int) p7 q7; replace p7 := eq_true p7; replace q7 := eq_true q7; obtain ⟨hy12_, hz12_⟩ := Kd.R_celln 0 HO182.out (a1 : Int) (of_decide_eq_true (by first | (with_reducible assumption) | assumption)) (of_decide_eq_true (by first | (with_reducible assumption) | assumption)); have HP12 := Kd.R_putg HO182.out (a1 : Int) (wrap64 ((rd y180 a1) + a2))) | ((with_reducible refine gate_store (t := 2) (p := 19) rfl ?_); refine store_event (t := 2) (p := 19) (v := ?vo_w13) (w1 := (w10.setCell ⟨go7, (a1 : Int).toNat, none⟩ (.int .i64 (wrap64 ((rd y180 a1) + a2))))) ?hg ?ho ?hn ?hr ?_; (case ho => rfl); (case hg => rfl); (case hn => rfl); (case hr => first | (go_simp; done) | (go_simp; rfl)); intro w13 hw; have hg : w10.grownBy w13 (some go7) := (by rw [hw]; exact HP12.2); have hp_ : Kd.R (Kd.int .i64) 2 w13 w.heap.size (fun _ => True) (.slice (some ⟨go7, 0, none⟩) y180.length co11) y184 := (by rw [hw, Ny184.out]; exact HP12.1); clear HP12; have n0_ := Aside0.mk (hp_); have n1_ := Aside0.mk ((by rw [hw]; exact below_set (HB.out) GB7.out : Below w.heap.size w w13)); clear HO182; clear HB; have HO182 := n0_; have HB := n1_; clear n0_ n1_; clear hg hw hp_))
        go_ret
        exact ⟨_, by first | rfl | (simp [errW_none, errW_some] <;> rfl) | (simp [*, errW_none, errW_some] <;> rfl), by (with_reducible repeat (first | apply Kd.R_alloc | apply Kd.R_drewN | apply Kd.R_drew)); exact HO182.out, by repeat (first | (with_reducible first | exact HB.out | apply below_alloc | apply pw_below_drewN | apply below_drew1) | exact HB.out)⟩
      · rw [if_neg c6] at H
        exact absurd H (by simp)
    · rw [if_neg c5] at H
      exact absurd H (by simp)
  · rw [if_neg c4] at H
    exact absurd H (by simp)

end Go.Proofs.Ytcjhbmjimjbphaa.QFnExactDescend
