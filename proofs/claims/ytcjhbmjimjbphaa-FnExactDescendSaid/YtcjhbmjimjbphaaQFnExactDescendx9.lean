-- Written by a program of this session out of the printer's texts and contracts of its own.
import Derived.Test.YtcjhbmjimjbphaaQFnExactDescendx0
import Derived.Test.YtcjhbmjimjbphaaQFnExactDescendx8
namespace Go.Proofs.Ytcjhbmjimjbphaa.QFnExactDescend
open Go.RowKit Go.Proofs.YtcjhbmjimjbphaaW.PrintWords Go.Proofs.YtcjhbmjimjbphaaW.PrintLast Go.Proofs.YtcjhbmjimjbphaaW.PrintMore
attribute [local go_sem] max2_int min2_int max_two min_two max_three min_three max_four min_four   -- for this text's walks alone
set_option linter.unusedVariables false
set_option linter.unusedSimpArgs false

/-! ### impl_best: function 40 -/
mutual
def impl_best.l0 : Nat → List Int → Int → Int → Int → List (S52) → Int → Int → Option (Int)
  | 0, _, _, _, _, _, _, _ => none
  | k + 1, x1, x2, x7, x8, x39, x40, x41 => if x41 < x40 then (if 0 ≤ x41 then (if x41 < (x39.length : Int) then (impl_best.l1 k x1 x2 x7 x8 (wrap64 (-((rd_T52 x39 x41).f1))) x39 x40 x41 ((rd_T52 x39 x41).f0) (((rd_T52 x39 x41).f0).length : Int) 0 ((rd_T52 x39 x41).f0) ((rd_T52 x39 x41).f1) ((rd_T52 x39 x41).f2)) else (none)) else (none)) else ((impl_floorDiv.f (wrap64 (-x8)) x7).bind fun t244 => (if (wrap64 ((wrap64 ((wrap64 (x7 * (wrap64 (t244 + 1)))) * (wrap64 (t244 + 1)))) + (wrap64 ((wrap64 (2 * x8)) * (wrap64 (t244 + 1)))))) < (wrap64 ((wrap64 ((wrap64 (x7 * t244)) * t244)) + (wrap64 ((wrap64 (2 * x8)) * t244)))) then (some (wrap64 (t244 + 1))) else (if (wrap64 ((wrap64 ((wrap64 (x7 * (wrap64 (t244 + 1)))) * (wrap64 (t244 + 1)))) + (wrap64 ((wrap64 (2 * x8)) * (wrap64 (t244 + 1)))))) = (wrap64 ((wrap64 ((wrap64 (x7 * t244)) * t244)) + (wrap64 ((wrap64 (2 * x8)) * t244)))) then (if (mx (wrap64 (t244 + 1)) (wrap64 ((wrap64 (-t244)) - 1))) < (mx t244 (wrap64 (-t244))) then (some (wrap64 (t244 + 1))) else (if (mx (wrap64 (t244 + 1)) (wrap64 ((wrap64 (-t244)) - 1))) = (mx t244 (wrap64 (-t244))) then (if (wrap64 (t244 + 1)) > 0 then (some (wrap64 (t244 + 1))) else (some t244)) else (some t244))) else (some t244))))
def impl_best.l1 : Nat → List Int → Int → Int → Int → Int → List (S52) → Int → Int → List Int → Int → Int → List Int → Int → Int → Option (Int)
  | 0, _, _, _, _, _, _, _, _, _, _, _, _, _, _ => none
  | k + 1, x1, x2, x7, x8, x11, x39, x40, x41, x49, x50, x51, x247000, x247001, x247002 => if x51 < x50 then (if 0 ≤ x51 then (if x51 < (x49.length : Int) then (if x51 < (x1.length : Int) then (impl_best.l1 k x1 x2 x7 x8 (wrap64 (x11 + (wrap64 ((rd x49 x51) * (rd x1 x51))))) x39 x40 x41 x49 x50 (wrap64 (x51 + 1)) x247000 x247001 x247002) else (none)) else (none)) else (none)) else (if 0 ≤ x2 then (if x2 < (x247000.length : Int) then (impl_best.l0 k x1 x2 (wrap64 (x7 + (wrap64 ((wrap64 (x247002 * (rd x247000 x2))) * (rd x247000 x2))))) (wrap64 (x8 + (wrap64 ((wrap64 (x247002 * x11)) * (rd x247000 x2))))) x39 x40 (wrap64 (x41 + 1))) else (none)) else (none))
end
def impl_best.f (k : Nat) (a0_0 : Int) (l0_1 : List Int) (l0_2 : List Int) (l0_3 : List (S52)) (l1 : List Int) (a2 : Int) : Option (Int) := if 0 ≤ a2 then (if a2 < (l0_2.length : Int) then (if a2 < (l1.length : Int) then (if a2 < (l0_1.length : Int) then (impl_best.l0 k l1 a2 (rd l0_2 a2) (wrap64 ((rd l0_2 a2) * (wrap64 ((rd l1 a2) - (rd l0_1 a2))))) l0_3 (l0_3.length : Int) 0) else (none)) else (none)) else (none)) else (none)
theorem impl_best.mono_l : ∀ k, (∀ y0 y1 y2 y3 y4 y5 y6, LeO (impl_best.l0 k y0 y1 y2 y3 y4 y5 y6) (impl_best.l0 (k + 1) y0 y1 y2 y3 y4 y5 y6)) ∧ (∀ y0 y1 y2 y3 y4 y5 y6 y7 y8 y9 y10 y11 y12 y13, LeO (impl_best.l1 k y0 y1 y2 y3 y4 y5 y6 y7 y8 y9 y10 y11 y12 y13) (impl_best.l1 (k + 1) y0 y1 y2 y3 y4 y5 y6 y7 y8 y9 y10 y11 y12 y13))
  | 0 => ⟨fun _ _ _ _ _ _ _ r h => by simp [impl_best.l0] at h, fun _ _ _ _ _ _ _ _ _ _ _ _ _ _ r h => by simp [impl_best.l1] at h⟩
  | k + 1 => by
    obtain ⟨ih0, ih1⟩ := impl_best.mono_l k
    refine ⟨?_, ?_⟩
    · intro y0 y1 y2 y3 y4 y5 y6
      unfold impl_best.l0
      repeat' first
      | (with_reducible exact ih0 _ _ _ _ _ _ _)
      | (with_reducible exact ih1 _ _ _ _ _ _ _ _ _ _ _ _ _ _)
      | (with_reducible exact LeO.refl _)
      | (with_reducible exact LeO.none _)
      | (with_reducible refine LeO.ite ?_ ?_)
      | (with_reducible refine LeO.bind ?_ (fun _ => ?_))
      | exact ih0 _ _ _ _ _ _ _
      | exact ih1 _ _ _ _ _ _ _ _ _ _ _ _ _ _
      | exact LeO.none _
      | refine LeO.ite ?_ ?_
      | refine LeO.bind ?_ (fun _ => ?_)
    · intro y0 y1 y2 y3 y4 y5 y6 y7 y8 y9 y10 y11 y12 y13
      unfold impl_best.l1
      repeat' first
      | (with_reducible exact ih0 _ _ _ _ _ _ _)
      | (with_reducible exact ih1 _ _ _ _ _ _ _ _ _ _ _ _ _ _)
      | (with_reducible exact LeO.refl _)
      | (with_reducible exact LeO.none _)
      | (with_reducible refine LeO.ite ?_ ?_)
      | (with_reducible refine LeO.bind ?_ (fun _ => ?_))
      | exact ih0 _ _ _ _ _ _ _
      | exact ih1 _ _ _ _ _ _ _ _ _ _ _ _ _ _
      | exact LeO.none _
      | refine LeO.ite ?_ ?_
      | refine LeO.bind ?_ (fun _ => ?_)
theorem impl_best.mono : ∀ a0 a1 a2 a3 a4 a5 k, LeO (impl_best.f k a0 a1 a2 a3 a4 a5) (impl_best.f (k + 1) a0 a1 a2 a3 a4 a5) := by
  intro a0 a1 a2 a3 a4 a5 k
  obtain ⟨ih0, ih1⟩ := impl_best.mono_l k
  unfold impl_best.f
  repeat' first
      | (with_reducible exact ih0 _ _ _ _ _ _ _)
      | (with_reducible exact ih1 _ _ _ _ _ _ _ _ _ _ _ _ _ _)
      | (with_reducible exact LeO.refl _)
      | (with_reducible exact LeO.none _)
      | (with_reducible refine LeO.ite ?_ ?_)
      | (with_reducible refine LeO.bind ?_ (fun _ => ?_))
      | exact ih0 _ _ _ _ _ _ _
      | exact ih1 _ _ _ _ _ _ _ _ _ _ _ _ _ _
      | exact LeO.none _
      | refine LeO.ite ?_ ?_
      | refine LeO.bind ?_ (fun _ => ?_)
set_option maxHeartbeats 8000000 in
set_option maxRecDepth 100000 in
theorem impl_best.calls (k : Nat) (a0_0 : Int) (A0_1 : Option Addr) (c0_1 : Nat) (l0_1 : List Int) (A0_2 : Option Addr) (c0_2 : Nat) (l0_2 : List Int) (A0_3 : Option Addr) (c0_3 : Nat) (l0_3 : List (S52)) (A1 : Option Addr) (c1 : Nat) (l1 : List Int) (a2 : Int) (r : Int) (w : World) (hr0_1 : Kd.C (Kd.int .i64) w A0_1 l0_1.length l0_1) (hc0_1 : l0_1.length ≤ c0_1) (hr0_2 : Kd.C (Kd.int .i64) w A0_2 l0_2.length l0_2) (hc0_2 : l0_2.length ≤ c0_2) (hr0_3 : Kd.C k52 w A0_3 l0_3.length l0_3) (hc0_3 : l0_3.length ≤ c0_3) (hr1 : Kd.C (Kd.int .i64) w A1 l1.length l1) (hc1 : l1.length ≤ c1) (h : impl_best.f k a0_0 l0_1 l0_2 l0_3 l1 a2 = some r) :
    Calls Try.prog 40 #[.agg #[.int .i64 a0_0, .slice A0_1 l0_1.length c0_1, .slice A0_2 l0_2.length c0_2, .slice A0_3 l0_3.length c0_3], .slice A1 l1.length c1, .int .i64 a2] w fun e w' => e = .returned (.int .i64 r) ∧ Below w.heap.size w w' := by
  have hu30 := Try.underlying30
  have hu52 := Try.underlying52
  have HR0_1 := Aside0.mk hr0_1
  have HC0_1 := Aside0.mk hc0_1
  clear hr0_1 hc0_1
  have HR0_2 := Aside0.mk hr0_2
  have HC0_2 := Aside0.mk hc0_2
  clear hr0_2 hc0_2
  have HR0_3 := Aside0.mk hr0_3
  have HC0_3 := Aside0.mk hc0_3
  clear hr0_3 hc0_3
  have HR1 := Aside0.mk hr1
  have HC1 := Aside0.mk hc1
  clear hr1 hc1
  have HB := Aside0.mk (Below.refl w.heap.size w)
  have H : (if 0 ≤ a2 then (if a2 < (l0_2.length : Int) then (if a2 < (l1.length : Int) then (if a2 < (l0_1.length : Int) then (impl_best.l0 k l1 a2 (rd l0_2 a2) (wrap64 ((rd l0_2 a2) * (wrap64 ((rd l1 a2) - (rd l0_1 a2))))) l0_3 (l0_3.length : Int) 0) else (none)) else (none)) else (none)) else (none)) = some r := h
  clear h
  by_cases c4 : 0 ≤ a2
  · rw [if_pos c4] at H
    have c4b0 : decide (0 ≤ a2) = true := decide_eq_true c4
    clear c4
    by_cases c5 : a2 < (l0_2.length : Int)
    · rw [if_pos c5] at H
      have c5b0 : decide (a2 < (l0_2.length : Int)) = true := decide_eq_true c5
      clear c5
      by_cases c6 : a2 < (l1.length : Int)
      · rw [if_pos c6] at H
        have c6b0 : decide (a2 < (l1.length : Int)) = true := decide_eq_true c6
        clear c6
        by_cases c7 : a2 < (l0_1.length : Int)
        · rw [if_pos c7] at H
          have c7b0 : decide (a2 < (l0_1.length : Int)) = true := decide_eq_true c7
          clear c7
          have H' := Aside0.mk H
          clear H
          go_enter Try.func40, Try.ntmps40
          go_wp2_with (first | ((with_reducible refine gate_dst (N := 3) rfl ?_); (try (refine gate_guard (by rfl) ?_; dsimp only)); refine box_event ?hg (N := 3) ?hd (cs := #[.int .i64 a0_0, .slice A0_1 l0_1.length c0_1, .slice A0_2 l0_2.length c0_2, .slice A0_3 l0_3.length c0_3]) (t := 30) ?hr ?_; (case hd => rfl); (case hg => rfl); (case hr => first | (go_simp; done) | (go_simp; rfl)); intro gb239 hg w8 hbox hb; have n0_ := Aside0.mk (below_step (by repeat (first | (with_reducible first | exact HB.out | apply below_alloc | apply pw_below_drewN | apply below_drew1) | exact HB.out)) hb); have n1_ := Aside0.mk (hbox); have n2_ := Aside0.mk ((by rw [hg]; exact (below_size (by repeat (first | (with_reducible first | exact HB.out | apply below_alloc | apply pw_below_drewN | apply below_drew1) | exact HB.out))) : w.heap.size ≤ gb239)); have n3_ := Aside0.mk ((by rw [hg]; exact (below_size (by repeat (first | (with_reducible first | exact HB.out | apply below_alloc | apply pw_below_drewN | apply below_drew1) | exact HB.out))) : w.heap.size ≤ gb239)); clear HB; have HB := n0_; have BK239 := n1_; have GW239 := n2_; have GE239 := n3_; clear n0_ n1_ n2_ n3_; clear hb hbox hg; have hcz9_0 : w8.cell? ⟨gb239, 0, none⟩ = some (.int .i64 a0_0) := (blk_cell BK239.out 0).trans rfl; have hcz9_1 : w8.cell? ⟨gb239, 1, none⟩ = some (.slice A0_1 l0_1.length c0_1) := (blk_cell BK239.out 1).trans rfl; have hcz9_2 : w8.cell? ⟨gb239, 2, none⟩ = some (.slice A0_2 l0_2.length c0_2) := (blk_cell BK239.out 2).trans rfl; have hcz9_3 : w8.cell? ⟨gb239, 3, none⟩ = some (.slice A0_3 l0_3.length c0_3) := (blk_cell BK239.out 3).trans rfl; have hfz9_0 := blk_frozen BK239.out 0; have hfz9_1 := blk_frozen BK239.out 1; have hfz9_2 := blk_frozen BK239.out 2; have hfz9_3 := blk_frozen BK239.out 3; have p240 : 0 ≤ (a2 : Int) := of_decide_eq_true (by first | (with_reducible assumption) | assumption); have q240 : a2 < (l0_2.length : Int) := of_decide_eq_true (by first | (with_reducible assumption) | assumption); obtain ⟨ad240, e240, hx240_0⟩ := Kd.at_int HR0_2.out a2 p240 q240; cases e240; replace hx240_0 := (HB.out.cell (World.block_lt_of_cell? w _ hx240_0)).trans hx240_0; replace p240 := eq_true p240; replace q240 := eq_true q240; have p241 : 0 ≤ (a2 : Int) := of_decide_eq_true (by first | (with_reducible assumption) | assumption); have q241 : a2 < (l0_2.length : Int) := of_decide_eq_true (by first | (with_reducible assumption) | assumption); obtain ⟨ad241, e241, hx241_0⟩ := Kd.at_int HR0_2.out a2 p241 q241; obtain rfl : ad240 = ad241 := (by injection e241); replace hx241_0 := (HB.out.cell (World.block_lt_of_cell? w _ hx241_0)).trans hx241_0; replace p241 := eq_true p241; replace q241 := eq_true q241; have p242 : 0 ≤ (a2 : Int) := of_decide_eq_true (by first | (with_reducible assumption) | assumption); have q242 : a2 < (l1.length : Int) := of_decide_eq_true (by first | (with_reducible assumption) | assumption); obtain ⟨ad242, e242, hx242_0⟩ := Kd.at_int HR1.out a2 p242 q242; cases e242; replace hx242_0 := (HB.out.cell (World.block_lt_of_cell? w _ hx242_0)).trans hx242_0; replace p242 := eq_true p242; replace q242 := eq_true q242; have p243 : 0 ≤ (a2 : Int) := of_decide_eq_true (by first | (with_reducible assumption) | assumption); have q243 : a2 < (l0_1.length : Int) := of_decide_eq_true (by first | (with_reducible assumption) | assumption); obtain ⟨ad243, e243, hx243_0⟩ := Kd.at_int HR0_1.out a2 p243 q243; cases e243; replace hx243_0 := (HB.out.cell (World.block_lt_of_cell? w _ hx243_0)).trans hx243_0; replace p243 := eq_true p243; replace q243 := eq_true q243))
          repeat (go_quiet (first | ((with_reducible refine gate_dst (N := 3) rfl ?_); (try (refine gate_guard (by rfl) ?_; dsimp only)); refine box_event ?hg (N := 3) ?hd (cs := #[.int .i64 a0_0, .slice A0_1 l0_1.length c0_1, .slice A0_2 l0_2.length c0_2, .slice A0_3 l0_3.length c0_3]) (t := 30) ?hr ?_; (case hd => rfl); (case hg => rfl); (case hr => first | (go_simp; done) | (go_simp; rfl)); intro gb239 hg w8 hbox hb; have n0_ := Aside0.mk (below_step (by repeat (first | (with_reducible first | exact HB.out | apply below_alloc | apply pw_below_drewN | apply below_drew1) | exact HB.out)) hb); have n1_ := Aside0.mk (hbox); have n2_ := Aside0.mk ((by rw [hg]; exact (below_size (by repeat (first | (with_reducible first | exact HB.out | apply below_alloc | apply pw_below_drewN | apply below_drew1) | exact HB.out))) : w.heap.size ≤ gb239)); have n3_ := Aside0.mk ((by rw [hg]; exact (below_size (by repeat (first | (with_reducible first | exact HB.out | apply below_alloc | apply pw_below_drewN | apply below_drew1) | exact HB.out))) : w.heap.size ≤ gb239)); clear HB; have HB := n0_; have BK239 := n1_; have GW239 := n2_; have GE239 := n3_; clear n0_ n1_ n2_ n3_; clear hb hbox hg; have hcz9_0 : w8.cell? ⟨gb239, 0, none⟩ = some (.int .i64 a0_0) := (blk_cell BK239.out 0).trans rfl; have hcz9_1 : w8.cell? ⟨gb239, 1, none⟩ = some (.slice A0_1 l0_1.length c0_1) := (blk_cell BK239.out 1).trans rfl; have hcz9_2 : w8.cell? ⟨gb239, 2, none⟩ = some (.slice A0_2 l0_2.length c0_2) := (blk_cell BK239.out 2).trans rfl; have hcz9_3 : w8.cell? ⟨gb239, 3, none⟩ = some (.slice A0_3 l0_3.length c0_3) := (blk_cell BK239.out 3).trans rfl; have hfz9_0 := blk_frozen BK239.out 0; have hfz9_1 := blk_frozen BK239.out 1; have hfz9_2 := blk_frozen BK239.out 2; have hfz9_3 := blk_frozen BK239.out 3; have p240 : 0 ≤ (a2 : Int) := of_decide_eq_true (by first | (with_reducible assumption) | assumption); have q240 : a2 < (l0_2.length : Int) := of_decide_eq_true (by first | (with_reducible assumption) | assumption); obtain ⟨ad240, e240, hx240_0⟩ := Kd.at_int HR0_2.out a2 p240 q240; cases e240; replace hx240_0 := (HB.out.cell (World.block_lt_of_cell? w _ hx240_0)).trans hx240_0; replace p240 := eq_true p240; replace q240 := eq_true q240; have p241 : 0 ≤ (a2 : Int) := of_decide_eq_true (by first | (with_reducible assumption) | assumption); have q241 : a2 < (l0_2.length : Int) := of_decide_eq_true (by first | (with_reducible assumption) | assumption); obtain ⟨ad241, e241, hx241_0⟩ := Kd.at_int HR0_2.out a2 p241 q241; obtain rfl : ad240 = ad241 := (by injection e241); replace hx241_0 := (HB.out.cell (World.block_lt_of_cell? w _ hx241_0)).trans hx241_0; replace p241 := eq_true p241; replace q241 := eq_true q241; have p242 : 0 ≤ (a2 : Int) := of_decide_eq_true (by first | (with_reducible assumption) | assumption); have q242 : a2 < (l1.length : Int) := of_decide_eq_true (by first | (with_reducible assumption) | assumption); obtain ⟨ad242, e242, hx242_0⟩ := Kd.at_int HR1.out a2 p242 q242; cases e242; replace hx242_0 := (HB.out.cell (World.block_lt_of_cell? w _ hx242_0)).trans hx242_0; replace p242 := eq_true p242; replace q242 := eq_true q242; have p243 : 0 ≤ (a2 : Int) := of_decide_eq_true (by first | (with_reducible assumption) | assumption); have q243 : a2 < (l0_1.length : Int) := of_decide_eq_true (by first | (with_reducible assumption) | assumption); obtain ⟨ad243, e243, hx243_0⟩ := Kd.at_int HR0_1.out a2 p243 q243; cases e243; replace hx243_0 := (HB.out.cell (World.block_lt_of_cell? w _ hx243_0)).trans hx243_0; replace p243 := eq_true p243; replace q243 := eq_true q243)); try go_wp2_with (first | ((with_reducible refine gate_dst (N := 3) rfl ?_); (try (refine gate_guard (by rfl) ?_; dsimp only)); refine box_event ?hg (N := 3) ?hd (cs := #[.int .i64 a0_0, .slice A0_1 l0_1.length c0_1, .slice A0_2 l0_2.length c0_2, .slice A0_3 l0_3.length c0_3]) (t := 30) ?hr ?_; (case hd => rfl); (case hg => rfl); (case hr => first | (go_simp; done) | (go_simp; rfl)); intro gb239 hg w8 hbox hb; have n0_ := Aside0.mk (below_step (by repeat (first | (with_reducible first | exact HB.out | apply below_alloc | apply pw_below_drewN | apply below_drew1) | exact HB.out)) hb); have n1_ := Aside0.mk (hbox); have n2_ := Aside0.mk ((by rw [hg]; exact (below_size (by repeat (first | (with_reducible first | exact HB.out | apply below_alloc | apply pw_below_drewN | apply below_drew1) | exact HB.out))) : w.heap.size ≤ gb239)); have n3_ := Aside0.mk ((by rw [hg]; exact (below_size (by repeat (first | (with_reducible first | exact HB.out | apply below_alloc | apply pw_below_drewN | apply below_drew1) | exact HB.out))) : w.heap.size ≤ gb239)); clear HB; have HB := n0_; have BK239 := n1_; have GW239 := n2_; have GE239 := n3_; clear n0_ n1_ n2_ n3_; clear hb hbox hg; have hcz9_0 : w8.cell? ⟨gb239, 0, none⟩ = some (.int .i64 a0_0) := (blk_cell BK239.out 0).trans rfl; have hcz9_1 : w8.cell? ⟨gb239, 1, none⟩ = some (.slice A0_1 l0_1.length c0_1) := (blk_cell BK239.out 1).trans rfl; have hcz9_2 : w8.cell? ⟨gb239, 2, none⟩ = some (.slice A0_2 l0_2.length c0_2) := (blk_cell BK239.out 2).trans rfl; have hcz9_3 : w8.cell? ⟨gb239, 3, none⟩ = some (.slice A0_3 l0_3.length c0_3) := (blk_cell BK239.out 3).trans rfl; have hfz9_0 := blk_frozen BK239.out 0; have hfz9_1 := blk_frozen BK239.out 1; have hfz9_2 := blk_frozen BK239.out 2; have hfz9_3 := blk_frozen BK239.out 3; have p240 : 0 ≤ (a2 : Int) := of_decide_eq_true (by first | (with_reducible assumption) | assumption); have q240 : a2 < (l0_2.length : Int) := of_decide_eq_true (by first | (with_reducible assumption) | assumption); obtain ⟨ad240, e240, hx240_0⟩ := Kd.at_int HR0_2.out a2 p240 q240; cases e240; replace hx240_0 := (HB.out.cell (World.block_lt_of_cell? w _ hx240_0)).trans hx240_0; replace p240 := eq_true p240; replace q240 := eq_true q240; have p241 : 0 ≤ (a2 : Int) := of_decide_eq_true (by first | (with_reducible assumption) | assumption); have q241 : a2 < (l0_2.length : Int) := of_decide_eq_true (by first | (with_reducible assumption) | assumption); obtain ⟨ad241, e241, hx241_0⟩ := Kd.at_int HR0_2.out a2 p241 q241; obtain rfl : ad240 = ad241 := (by injection e241); replace hx241_0 := (HB.out.cell (World.block_lt_of_cell? w _ hx241_0)).trans hx241_0; replace p241 := eq_true p241; replace q241 := eq_true q241; have p242 : 0 ≤ (a2 : Int) := of_decide_eq_true (by first | (with_reducible assumption) | assumption); have q242 : a2 < (l1.length : Int) := of_decide_eq_true (by first | (with_reducible assumption) | assumption); obtain ⟨ad242, e242, hx242_0⟩ := Kd.at_int HR1.out a2 p242 q242; cases e242; replace hx242_0 := (HB.out.cell (World.block_lt_of_cell? w _ hx242_0)).trans hx242_0; replace p242 := eq_true p242; replace q242 := eq_true q242; have p243 : 0 ≤ (a2 : Int) := of_decide_eq_true (by first | (with_reducible assumption) | assumption); have q243 : a2 < (l0_1.length : Int) := of_decide_eq_true (by first | (with_reducible assumption) | assumption); obtain ⟨ad243, e243, hx243_0⟩ := Kd.at_int HR0_1.out a2 p243 q243; cases e243; replace hx243_0 := (HB.out.cell (World.block_lt_of_cell? w _ hx243_0)).trans hx243_0; replace p243 := eq_true p243; replace q243 := eq_true q243)))
          go_loopg [7, 8, 41] k (fun kq v7 v8 v41 w' => ∃ (x7_1 : Int) (x8_1 : Int) (x41_1 : Int), v7 = .int .i64 x7_1 ∧ v8 = .int .i64 x8_1 ∧ v41 = .int .i64 x41_1 ∧ Aside0 (impl_best.l0 kq l1 a2 x7_1 x8_1 l0_3 (l0_3.length : Int) x41_1 = some r) ∧ Aside0 (kq ≤ k) ∧ Aside0 (w'.heap[gb239]? = some (.cells #[.int .i64 a0_0, (.slice (some ad243) l0_1.length c0_1), (.slice (some ad240) l0_2.length c0_2), (.slice A0_3 l0_3.length c0_3)] 30 (0, 0))) ∧ Aside0 (Below w.heap.size w w'))
          case atStart => exact ⟨(rd l0_2 a2), (wrap64 ((rd l0_2 a2) * (wrap64 ((rd l1 a2) - (rd l0_1 a2))))), (0), (by first | rfl | (simp; done) | (simp [*]; done)), (by first | rfl | (simp; done) | (simp [*]; done)), (by first | rfl | (simp; done) | (simp [*]; done)), H', ⟨Nat.le_refl _⟩, ⟨by (with_reducible repeat (first | refine blk_drewN ?_ _ | refine blk_drew ?_ | refine blk_alloc ?_ _)); exact BK239.out⟩, ⟨by repeat (first | (with_reducible first | exact HB.out | apply below_alloc | apply pw_below_drewN | apply below_drew1 | refine below_set ?_ GE239.out) | exact HB.out)⟩⟩
          case round =>
            clear H'
            try clear c1
            try clear p2
            try clear q2
            try clear hx2
            try clear c4
            try clear c4b0
            try clear c5
            try clear c5b0
            try clear c6
            try clear c6b0
            try clear p6
            try clear c7
            try clear c7b0
            try clear hcz9_0
            try clear hcz9_1
            try clear hcz9_2
            try clear hcz9_3
            try clear hfz9_0
            try clear hfz9_1
            try clear hfz9_2
            try clear hfz9_3
            try clear hx240_0
            try clear hx241_0
            try clear hx242_0
            try clear hx243_0
            try clear p240
            try clear p241
            try clear p242
            try clear p243
            try clear q240
            try clear q241
            try clear q242
            try clear q243
            obtain ⟨x7_1, x8_1, x41_1, rfl, rfl, rfl, HA, HK1, BK239, HB⟩ := hrel
            cases gk with
            | zero => exact absurd HA.out (by simp [impl_best.l0])
            | succ k1 =>
              have H := HA.out
              clear HA
              simp only [impl_best.l0] at H
              by_cases c10 : x41_1 < (l0_3.length : Int)
              · rw [if_pos c10] at H
                have c10b0 : decide (x41_1 < (l0_3.length : Int)) = true := decide_eq_true c10
                clear c10
                by_cases c11 : 0 ≤ x41_1
                · rw [if_pos c11] at H
                  have c11b0 : decide (0 ≤ x41_1) = true := decide_eq_true c11
                  clear c11
                  by_cases c12 : x41_1 < (l0_3.length : Int)
                  · rw [if_pos c12] at H
                    have c12b0 : decide (x41_1 < (l0_3.length : Int)) = true := decide_eq_true c12
                    clear c12
                    have H' := Aside0.mk H
                    clear H
                    have p245 : 0 ≤ (x41_1 : Int) := of_decide_eq_true (by first | (with_reducible assumption) | assumption)
                    have q245 : x41_1 < (l0_3.length : Int) := of_decide_eq_true (by first | (with_reducible assumption) | assumption)
                    obtain ⟨ad245, A245_0, c245_0, e245, hx245_0, hx245_1, hx245_2, hl245_0, hi245_0⟩ := at_T52 HR0_3.out x41_1 p245 q245
                    cases e245
                    replace hx245_0 := (HB.out.cell (World.block_lt_of_cell? w _ hx245_0)).trans hx245_0
                    replace hx245_1 := (HB.out.cell (World.block_lt_of_cell? w _ hx245_1)).trans hx245_1
                    replace hx245_2 := (HB.out.cell (World.block_lt_of_cell? w _ hx245_2)).trans hx245_2
                    have HR245_0 := Aside0.mk hi245_0
                    have HC245_0 := Aside0.mk hl245_0
                    clear hi245_0 hl245_0
                    replace p245 := eq_true p245
                    replace q245 := eq_true q245
                    go_wp2_with (first | ((with_reducible refine gate_dst (N := 10) rfl ?_); (try (refine gate_guard (by rfl) ?_; dsimp only)); refine box_event ?hg (N := 10) ?hd (cs := #[.slice none 0 0, .int .i64 0, .int .i64 0]) (t := 52) ?hr ?_; (case hd => rfl); (case hg => rfl); (case hr => first | (go_simp; done) | (go_simp; rfl)); intro gb246 hg w13 hbox hb; have n0_ := Aside0.mk (blk_below (g := gb239) (o := .cells #[.int .i64 a0_0, .slice (some ad243) l0_1.length c0_1, .slice (some ad240) l0_2.length c0_2, .slice (some ad245) l0_3.length c0_3] 30 (0, 0)) (by (with_reducible repeat (first | refine blk_drewN ?_ _ | refine blk_drew ?_ | refine blk_alloc ?_ _)); exact BK239.out) hb); have n1_ := Aside0.mk (below_step (by repeat (first | (with_reducible first | exact HB.out | apply below_alloc | apply pw_below_drewN | apply below_drew1 | refine below_set ?_ GE239.out) | exact HB.out)) hb); have n2_ := Aside0.mk (hbox); have n3_ := Aside0.mk ((by rw [hg]; exact (below_size (by repeat (first | (with_reducible first | exact HB.out | apply below_alloc | apply pw_below_drewN | apply below_drew1 | refine below_set ?_ GE239.out) | exact HB.out))) : w.heap.size ≤ gb246)); have n4_ := Aside0.mk ((by rw [hg]; exact (below_size (by repeat (first | (with_reducible first | exact HB.out | apply below_alloc | apply pw_below_drewN | apply below_drew1 | refine below_set ?_ GE239.out) | exact HB.out))) : w.heap.size ≤ gb246)); have n5_ := Aside0.mk ((by rw [hg]; exact Nat.ne_of_lt (blk_lt (g := gb239) (o := .cells #[.int .i64 a0_0, .slice (some ad243) l0_1.length c0_1, .slice (some ad240) l0_2.length c0_2, .slice (some ad245) l0_3.length c0_3] 30 (0, 0)) (by (with_reducible repeat (first | refine blk_drewN ?_ _ | refine blk_drew ?_ | refine blk_alloc ?_ _)); exact BK239.out)) : gb239 ≠ gb246)); have n6_ := Aside0.mk ((by rw [hg]; exact Nat.ne_of_gt (blk_lt (g := gb239) (o := .cells #[.int .i64 a0_0, .slice (some ad243) l0_1.length c0_1, .slice (some ad240) l0_2.length c0_2, .slice (some ad245) l0_3.length c0_3] 30 (0, 0)) (by (with_reducible repeat (first | refine blk_drewN ?_ _ | refine blk_drew ?_ | refine blk_alloc ?_ _)); exact BK239.out)) : gb246 ≠ gb239)); clear BK239; clear HB; have BK239 := n0_; have HB := n1_; have BK246 := n2_; have GW246 := n3_; have GE246 := n4_; have NB239_246 := n5_; have NB246_239 := n6_; clear n0_ n1_ n2_ n3_ n4_ n5_ n6_; clear hb hbox hg; have hnb14 := NB246_239.out; have hnc14 := NB239_246.out; have hcz15_0 : w13.cell? ⟨gb246, 0, none⟩ = some (.slice none 0 0) := (blk_cell BK246.out 0).trans rfl; have hcz15_1 : w13.cell? ⟨gb246, 1, none⟩ = some (.int .i64 0) := (blk_cell BK246.out 1).trans rfl; have hcz15_2 : w13.cell? ⟨gb246, 2, none⟩ = some (.int .i64 0) := (blk_cell BK246.out 2).trans rfl; have hfz15_0 := blk_frozen BK246.out 0; have hfz15_1 := blk_frozen BK246.out 1; have hfz15_2 := blk_frozen BK246.out 2))
                    repeat (go_quiet (first | ((with_reducible refine gate_dst (N := 10) rfl ?_); (try (refine gate_guard (by rfl) ?_; dsimp only)); refine box_event ?hg (N := 10) ?hd (cs := #[.slice none 0 0, .int .i64 0, .int .i64 0]) (t := 52) ?hr ?_; (case hd => rfl); (case hg => rfl); (case hr => first | (go_simp; done) | (go_simp; rfl)); intro gb246 hg w13 hbox hb; have n0_ := Aside0.mk (blk_below (g := gb239) (o := .cells #[.int .i64 a0_0, .slice (some ad243) l0_1.length c0_1, .slice (some ad240) l0_2.length c0_2, .slice (some ad245) l0_3.length c0_3] 30 (0, 0)) (by (with_reducible repeat (first | refine blk_drewN ?_ _ | refine blk_drew ?_ | refine blk_alloc ?_ _)); exact BK239.out) hb); have n1_ := Aside0.mk (below_step (by repeat (first | (with_reducible first | exact HB.out | apply below_alloc | apply pw_below_drewN | apply below_drew1 | refine below_set ?_ GE239.out) | exact HB.out)) hb); have n2_ := Aside0.mk (hbox); have n3_ := Aside0.mk ((by rw [hg]; exact (below_size (by repeat (first | (with_reducible first | exact HB.out | apply below_alloc | apply pw_below_drewN | apply below_drew1 | refine below_set ?_ GE239.out) | exact HB.out))) : w.heap.size ≤ gb246)); have n4_ := Aside0.mk ((by rw [hg]; exact (below_size (by repeat (first | (with_reducible first | exact HB.out | apply below_alloc | apply pw_below_drewN | apply below_drew1 | refine below_set ?_ GE239.out) | exact HB.out))) : w.heap.size ≤ gb246)); have n5_ := Aside0.mk ((by rw [hg]; exact Nat.ne_of_lt (blk_lt (g := gb239) (o := .cells #[.int .i64 a0_0, .slice (some ad243) l0_1.length c0_1, .slice (some ad240) l0_2.length c0_2, .slice (some ad245) l0_3.length c0_3] 30 (0, 0)) (by (with_reducible repeat (first | refine blk_drewN ?_ _ | refine blk_drew ?_ | refine blk_alloc ?_ _)); exact BK239.out)) : gb239 ≠ gb246)); have n6_ := Aside0.mk ((by rw [hg]; exact Nat.ne_of_gt (blk_lt (g := gb239) (o := .cells #[.int .i64 a0_0, .slice (some ad243) l0_1.length c0_1, .slice (some ad240) l0_2.length c0_2, .slice (some ad245) l0_3.length c0_3] 30 (0, 0)) (by (with_reducible repeat (first | refine blk_drewN ?_ _ | refine blk_drew ?_ | refine blk_alloc ?_ _)); exact BK239.out)) : gb246 ≠ gb239)); clear BK239; clear HB; have BK239 := n0_; have HB := n1_; have BK246 := n2_; have GW246 := n3_; have GE246 := n4_; have NB239_246 := n5_; have NB246_239 := n6_; clear n0_ n1_ n2_ n3_ n4_ n5_ n6_; clear hb hbox hg; have hnb14 := NB246_239.out; have hnc14 := NB239_246.out; have hcz15_0 : w13.cell? ⟨gb246, 0, none⟩ = some (.slice none 0 0) := (blk_cell BK246.out 0).trans rfl; have hcz15_1 : w13.cell? ⟨gb246, 1, none⟩ = some (.int .i64 0) := (blk_cell BK246.out 1).trans rfl; have hcz15_2 : w13.cell? ⟨gb246, 2, none⟩ = some (.int .i64 0) := (blk_cell BK246.out 2).trans rfl; have hfz15_0 := blk_frozen BK246.out 0; have hfz15_1 := blk_frozen BK246.out 1; have hfz15_2 := blk_frozen BK246.out 2)); try go_wp2_with (first | ((with_reducible refine gate_dst (N := 10) rfl ?_); (try (refine gate_guard (by rfl) ?_; dsimp only)); refine box_event ?hg (N := 10) ?hd (cs := #[.slice none 0 0, .int .i64 0, .int .i64 0]) (t := 52) ?hr ?_; (case hd => rfl); (case hg => rfl); (case hr => first | (go_simp; done) | (go_simp; rfl)); intro gb246 hg w13 hbox hb; have n0_ := Aside0.mk (blk_below (g := gb239) (o := .cells #[.int .i64 a0_0, .slice (some ad243) l0_1.length c0_1, .slice (some ad240) l0_2.length c0_2, .slice (some ad245) l0_3.length c0_3] 30 (0, 0)) (by (with_reducible repeat (first | refine blk_drewN ?_ _ | refine blk_drew ?_ | refine blk_alloc ?_ _)); exact BK239.out) hb); have n1_ := Aside0.mk (below_step (by repeat (first | (with_reducible first | exact HB.out | apply below_alloc | apply pw_below_drewN | apply below_drew1 | refine below_set ?_ GE239.out) | exact HB.out)) hb); have n2_ := Aside0.mk (hbox); have n3_ := Aside0.mk ((by rw [hg]; exact (below_size (by repeat (first | (with_reducible first | exact HB.out | apply below_alloc | apply pw_below_drewN | apply below_drew1 | refine below_set ?_ GE239.out) | exact HB.out))) : w.heap.size ≤ gb246)); have n4_ := Aside0.mk ((by rw [hg]; exact (below_size (by repeat (first | (with_reducible first | exact HB.out | apply below_alloc | apply pw_below_drewN | apply below_drew1 | refine below_set ?_ GE239.out) | exact HB.out))) : w.heap.size ≤ gb246)); have n5_ := Aside0.mk ((by rw [hg]; exact Nat.ne_of_lt (blk_lt (g := gb239) (o := .cells #[.int .i64 a0_0, .slice (some ad243) l0_1.length c0_1, .slice (some ad240) l0_2.length c0_2, .slice (some ad245) l0_3.length c0_3] 30 (0, 0)) (by (with_reducible repeat (first | refine blk_drewN ?_ _ | refine blk_drew ?_ | refine blk_alloc ?_ _)); exact BK239.out)) : gb239 ≠ gb246)); have n6_ := Aside0.mk ((by rw [hg]; exact Nat.ne_of_gt (blk_lt (g := gb239) (o := .cells #[.int .i64 a0_0, .slice (some ad243) l0_1.length c0_1, .slice (some ad240) l0_2.length c0_2, .slice (some ad245) l0_3.length c0_3] 30 (0, 0)) (by (with_reducible repeat (first | refine blk_drewN ?_ _ | refine blk_drew ?_ | refine blk_alloc ?_ _)); exact BK239.out)) : gb246 ≠ gb239)); clear BK239; clear HB; have BK239 := n0_; have HB := n1_; have BK246 := n2_; have GW246 := n3_; have GE246 := n4_; have NB239_246 := n5_; have NB246_239 := n6_; clear n0_ n1_ n2_ n3_ n4_ n5_ n6_; clear hb hbox hg; have hnb14 := NB246_239.out; have hnc14 := NB239_246.out; have hcz15_0 : w13.cell? ⟨gb246, 0, none⟩ = some (.slice none 0 0) := (blk_cell BK246.out 0).trans rfl; have hcz15_1 : w13.cell? ⟨gb246, 1, none⟩ = some (.int .i64 0) := (blk_cell BK246.out 1).trans rfl; have hcz15_2 : w13.cell? ⟨gb246, 2, none⟩ = some (.int .i64 0) := (blk_cell BK246.out 2).trans rfl; have hfz15_0 := blk_frozen BK246.out 0; have hfz15_1 := blk_frozen BK246.out 1; have hfz15_2 := blk_frozen BK246.out 2)))
                    go_loopg [11, 51] k1 (fun kq v11 v51 w' => ∃ (x11_2 : Int) (x51_2 : Int), v11 = .int .i64 x11_2 ∧ v51 = .int .i64 x51_2 ∧ Aside0 (impl_best.l1 kq l1 a2 x7_1 x8_1 x11_2 l0_3 (l0_3.length : Int) x41_1 ((rd_T52 l0_3 x41_1).f0) (((rd_T52 l0_3 x41_1).f0).length : Int) x51_2 ((rd_T52 l0_3 x41_1).f0) ((rd_T52 l0_3 x41_1).f1) ((rd_T52 l0_3 x41_1).f2) = some r) ∧ Aside0 (kq ≤ k1) ∧ Aside0 (w'.heap[gb239]? = some (.cells #[.int .i64 a0_0, (.slice (some ad243) l0_1.length c0_1), (.slice (some ad240) l0_2.length c0_2), (.slice (some ad245) l0_3.length c0_3)] 30 (0, 0))) ∧ Aside0 (w'.heap[gb246]? = some (.cells #[(.slice A245_0 ((rd_T52 l0_3 x41_1).f0).length c245_0), .int .i64 ((rd_T52 l0_3 x41_1).f1), .int .i64 ((rd_T52 l0_3 x41_1).f2)] 52 (0, 0))) ∧ Aside0 (Below w.heap.size w w'))
                    case atStart => exact ⟨(wrap64 (-((rd_T52 l0_3 x41_1).f1))), (0), (by first | rfl | (simp; done) | (simp [*]; done)), (by first | rfl | (simp; done) | (simp [*]; done)), H', ⟨Nat.le_refl _⟩, ⟨by (with_reducible repeat (first | refine blk_drewN ?_ _ | refine blk_drew ?_ | refine blk_alloc ?_ _)); refine blk_far ?_ NB239_246.out _; (with_reducible repeat (first | refine blk_drewN ?_ _ | refine blk_drew ?_ | refine blk_alloc ?_ _)); refine blk_far ?_ NB239_246.out _; (with_reducible repeat (first | refine blk_drewN ?_ _ | refine blk_drew ?_ | refine blk_alloc ?_ _)); refine blk_far ?_ NB239_246.out _; (with_reducible repeat (first | refine blk_drewN ?_ _ | refine blk_drew ?_ | refine blk_alloc ?_ _)); exact BK239.out⟩, ⟨by (with_reducible repeat (first | refine blk_drewN ?_ _ | refine blk_drew ?_ | refine blk_alloc ?_ _)); refine blk_put (cs := #[.slice A245_0 ((rd_T52 l0_3 x41_1).f0).length c245_0, .int .i64 ((rd_T52 l0_3 x41_1).f1), .int .i64 0]) ?_ 2 _ rfl; (with_reducible repeat (first | refine blk_drewN ?_ _ | refine blk_drew ?_ | refine blk_alloc ?_ _)); refine blk_put (cs := #[.slice A245_0 ((rd_T52 l0_3 x41_1).f0).length c245_0, .int .i64 0, .int .i64 0]) ?_ 1 _ rfl; (with_reducible repeat (first | refine blk_drewN ?_ _ | refine blk_drew ?_ | refine blk_alloc ?_ _)); refine blk_put (cs := #[.slice none 0 0, .int .i64 0, .int .i64 0]) ?_ 0 _ rfl; (with_reducible repeat (first | refine blk_drewN ?_ _ | refine blk_drew ?_ | refine blk_alloc ?_ _)); exact BK246.out⟩, ⟨by repeat (first | (with_reducible first | exact HB.out | apply below_alloc | apply pw_below_drewN | apply below_drew1 | refine below_set ?_ GE239.out | refine below_set ?_ GE246.out) | exact HB.out)⟩⟩
                    case round =>
                      clear H'
                      try clear c1
                      try clear c2
                      try clear p2
                      try clear q2
                      try clear hx2
                      try clear c4
                      try clear c4b0
                      try clear c5
                      try clear c5b0
                      try clear c6
                      try clear c6b0
                      try clear p6
                      try clear c7
                      try clear c7b0
                      try clear c10
                      try clear c10b0
                      try clear c11
                      try clear c11b0
                      try clear c12
                      try clear c12b0
                      try clear c14
                      try clear hcz15_0
                      try clear hcz15_1
                      try clear hcz15_2
                      try clear hcz9_0
                      try clear hcz9_1
                      try clear hcz9_2
                      try clear hcz9_3
                      try clear hfz15_0
                      try clear hfz15_1
                      try clear hfz15_2
                      try clear hfz9_0
                      try clear hfz9_1
                      try clear hfz9_2
                      try clear hfz9_3
                      try clear hx240_0
                      try clear hx241_0
                      try clear hx242_0
                      try clear hx243_0
                      try clear hx245_0
                      try clear hx245_1
                      try clear hx245_2
                      try clear p2
                      try clear p240
                      try clear p241
                      try clear p242
                      try clear p243
                      try clear p245
                      try clear p6
                      try clear q2
                      try clear q240
                      try clear q241
                      try clear q242
                      try clear q243
                      try clear q245
                      obtain ⟨x11_2, x51_2, rfl, rfl, HA, HK2, BK239, BK246, HB⟩ := hrel
                      cases gk with
                      | zero => exact absurd HA.out (by simp [impl_best.l1])
                      | succ k2 =>
                        have H := HA.out
                        clear HA
                        simp only [impl_best.l1] at H
                        by_cases c16 : x51_2 < (((rd_T52 l0_3 x41_1).f0).length : Int)
                        · rw [if_pos c16] at H
                          have c16b0 : decide (x51_2 < (((rd_T52 l0_3 x41_1).f0).length : Int)) = true := decide_eq_true c16
                          clear c16
                          by_cases c17 : 0 ≤ x51_2
                          · rw [if_pos c17] at H
                            have c17b0 : decide (0 ≤ x51_2) = true := decide_eq_true c17
                            clear c17
                            by_cases c18 : x51_2 < (((rd_T52 l0_3 x41_1).f0).length : Int)
                            · rw [if_pos c18] at H
                              have c18b0 : decide (x51_2 < (((rd_T52 l0_3 x41_1).f0).length : Int)) = true := decide_eq_true c18
                              clear c18
                              by_cases c19 : x51_2 < (l1.length : Int)
                              · rw [if_pos c19] at H
                                have c19b0 : decide (x51_2 < (l1.length : Int)) = true := decide_eq_true c19
                                clear c19
                                have H' := Aside0.mk H
                                clear H
                                have p247 : 0 ≤ (x51_2 : Int) := of_decide_eq_true (by first | (with_reducible assumption) | assumption)
                                have q247 : x51_2 < (((rd_T52 l0_3 x41_1).f0).length : Int) := of_decide_eq_true (by first | (with_reducible assumption) | assumption)
                                obtain ⟨ad247, e247, hx247_0⟩ := Kd.at_int HR245_0.out x51_2 p247 q247
                                cases e247
                                replace hx247_0 := (HB.out.cell (World.block_lt_of_cell? w _ hx247_0)).trans hx247_0
                                replace p247 := eq_true p247
                                replace q247 := eq_true q247
                                have p248 : 0 ≤ (x51_2 : Int) := of_decide_eq_true (by first | (with_reducible assumption) | assumption)
                                have q248 : x51_2 < (l1.length : Int) := of_decide_eq_true (by first | (with_reducible assumption) | assumption)
                                obtain ⟨ad248, e248, hx248_0⟩ := Kd.at_int HR1.out x51_2 p248 q248
                                obtain rfl : ad242 = ad248 := (by injection e248)
                                replace hx248_0 := (HB.out.cell (World.block_lt_of_cell? w _ hx248_0)).trans hx248_0
                                replace p248 := eq_true p248
                                replace q248 := eq_true q248
                                go_wp2
                                repeat (go_quiet (fail); try go_wp2)
                                go_roundg k2
                                case measure => have := HK1.out; have := HK2.out; omega
                                case rel => exact ⟨(wrap64 (x11_2 + (wrap64 ((rd ((rd_T52 l0_3 x41_1).f0) x51_2) * (rd l1 x51_2))))), (wrap64 (x51_2 + 1)), (by first | rfl | (simp; done) | (simp [*]; done)), (by first | rfl | (simp; done) | (simp [*]; done)), H', ⟨by have := HK1.out; have := HK2.out; omega⟩, ⟨by (with_reducible repeat (first | refine blk_drewN ?_ _ | refine blk_drew ?_ | refine blk_alloc ?_ _)); exact BK239.out⟩, ⟨by (with_reducible repeat (first | refine blk_drewN ?_ _ | refine blk_drew ?_ | refine blk_alloc ?_ _)); exact BK246.out⟩, ⟨by repeat (first | (with_reducible first | exact HB.out | apply below_alloc | apply pw_below_drewN | apply below_drew1 | refine below_set ?_ GE239.out | refine below_set ?_ GE246.out) | exact HB.out)⟩⟩
                              · rw [if_neg c19] at H
                                exact absurd H (by simp)
                            · rw [if_neg c18] at H
                              exact absurd H (by simp)
                          · rw [if_neg c17] at H
                            exact absurd H (by simp)
                        · rw [if_neg c16] at H
                          have c16b0 : decide (x51_2 < (((rd_T52 l0_3 x41_1).f0).length : Int)) = false := decide_eq_false c16
                          clear c16
                          by_cases c20 : 0 ≤ a2
                          · rw [if_pos c20] at H
                            have c20b0 : decide (0 ≤ a2) = true := decide_eq_true c20
                            clear c20
                            by_cases c21 : a2 < (((rd_T52 l0_3 x41_1).f0).length : Int)
                            · rw [if_pos c21] at H
                              have c21b0 : decide (a2 < (((rd_T52 l0_3 x41_1).f0).length : Int)) = true := decide_eq_true c21
                              clear c21
                              have H' := Aside0.mk H
                              clear H
                              have hnb22 := NB246_239.out
                              have hnc22 := NB239_246.out
                              have hcz23_0 : wr.cell? ⟨gb246, 0, none⟩ = some (.slice A245_0 ((rd_T52 l0_3 x41_1).f0).length c245_0) := (blk_cell BK246.out 0).trans rfl
                              have hcz23_1 : wr.cell? ⟨gb246, 1, none⟩ = some (.int .i64 ((rd_T52 l0_3 x41_1).f1)) := (blk_cell BK246.out 1).trans rfl
                              have hcz23_2 : wr.cell? ⟨gb246, 2, none⟩ = some (.int .i64 ((rd_T52 l0_3 x41_1).f2)) := (blk_cell BK246.out 2).trans rfl
                              have hfz23_0 := blk_frozen BK246.out 0
                              have hfz23_1 := blk_frozen BK246.out 1
                              have hfz23_2 := blk_frozen BK246.out 2
                              have p249 : 0 ≤ (a2 : Int) := of_decide_eq_true (by first | (with_reducible assumption) | assumption)
                              have q249 : a2 < (((rd_T52 l0_3 x41_1).f0).length : Int) := of_decide_eq_true (by first | (with_reducible assumption) | assumption)
                              obtain ⟨ad249, e249, hx249_0⟩ := Kd.at_int HR245_0.out a2 p249 q249
                              cases e249
                              replace hx249_0 := (HB.out.cell (World.block_lt_of_cell? w _ hx249_0)).trans hx249_0
                              replace p249 := eq_true p249
                              replace q249 := eq_true q249
                              have p250 : 0 ≤ (a2 : Int) := of_decide_eq_true (by first | (with_reducible assumption) | assumption)
                              have q250 : a2 < (((rd_T52 l0_3 x41_1).f0).length : Int) := of_decide_eq_true (by first | (with_reducible assumption) | assumption)
                              obtain ⟨ad250, e250, hx250_0⟩ := Kd.at_int HR245_0.out a2 p250 q250
                              obtain rfl : ad249 = ad250 := (by injection e250)
                              replace hx250_0 := (HB.out.cell (World.block_lt_of_cell? w _ hx250_0)).trans hx250_0
                              replace p250 := eq_true p250
                              replace q250 := eq_true q250
                              have p251 : 0 ≤ (a2 : Int) := of_decide_eq_true (by first | (with_reducible assumption) | assumption)
                              have q251 : a2 < (((rd_T52 l0_3 x41_1).f0).length : Int) := of_decide_eq_true (by first | (with_reducible assumption) | assumption)
                              obtain ⟨ad251, e251, hx251_0⟩ := Kd.at_int HR245_0.out a2 p251 q251
                              obtain rfl : ad249 = ad251 := (by injection e251)
                              replace hx251_0 := (HB.out.cell (World.block_lt_of_cell? w _ hx251_0)).trans hx251_0
                              replace p251 := eq_true p251
                              replace q251 := eq_true q251
                              go_wp2
                              repeat (go_quiet (fail); try go_wp2)
                              go_roundg k2
                              case measure => have := HK1.out; have := HK2.out; omega
                              case rel => exact ⟨(wrap64 (x7_1 + (wrap64 ((wrap64 (((rd_T52 l0_3 x41_1).f2) * (rd ((rd_T52 l0_3 x41_1).f0) a2))) * (rd ((rd_T52 l0_3 x41_1).f0) a2))))), (wrap64 (x8_1 + (wrap64 ((wrap64 (((rd_T52 l0_3 x41_1).f2) * x11_2)) * (rd ((rd_T52 l0_3 x41_1).f0) a2))))), (wrap64 (x41_1 + 1)), (by first | rfl | (simp; done) | (simp [*]; done)), (by first | rfl | (simp; done) | (simp [*]; done)), (by first | rfl | (simp; done) | (simp [*]; done)), H', ⟨by have := HK1.out; have := HK2.out; omega⟩, ⟨by (with_reducible repeat (first | refine blk_drewN ?_ _ | refine blk_drew ?_ | refine blk_alloc ?_ _)); exact BK239.out⟩, ⟨by repeat (first | (with_reducible first | exact HB.out | apply below_alloc | apply pw_below_drewN | apply below_drew1 | refine below_set ?_ GE239.out | refine below_set ?_ GE246.out) | exact HB.out)⟩⟩
                            · rw [if_neg c21] at H
                              exact absurd H (by simp)
                          · rw [if_neg c20] at H
                            exact absurd H (by simp)
                  · rw [if_neg c12] at H
                    exact absurd H (by simp)
                · rw [if_neg c11] at H
                  exact absurd H (by simp)
              · rw [if_neg c10] at H
                have c10b0 : decide (x41_1 < (l0_3.length : Int)) = false := decide_eq_false c10
                clear c10
                replace H := Option.bind_eq_some_iff.mp H
                obtain ⟨t244, A240, H⟩ := H
                replace H : (if (wrap64 ((wrap64 ((wrap64 (x7_1 * (wrap64 (t244 + 1)))) * (wrap64 (t244 + 1)))) + (wrap64 ((wrap64 (2 * x8_1)) * (wrap64 (t244 + 1)))))) < (wrap64 ((wrap64 ((wrap64 (x7_1 * t244)) * t244)) + (wrap64 ((wrap64 (2 * x8_1)) * t244)))) then (some (wrap64 (t244 + 1))) else (if (wrap64 ((wrap64 ((wrap64 (x7_1 * (wrap64 (t244 + 1)))) * (wrap64 (t244 + 1)))) + (wrap64 ((wrap64 (2 * x8_1)) * (wrap64 (t244 + 1)))))) = (wrap64 ((wrap64 ((wrap64 (x7_1 * t244)) * t244)) + (wrap64 ((wrap64 (2 * x8_1)) * t244)))) then (if (mx (wrap64 (t244 + 1)) (wrap64 ((wrap64 (-t244)) - 1))) < (mx t244 (wrap64 (-t244))) then (some (wrap64 (t244 + 1))) else (if (mx (wrap64 (t244 + 1)) (wrap64 ((wrap64 (-t244)) - 1))) = (mx t244 (wrap64 (-t244))) then (if (wrap64 (t244 + 1)) > 0 then (some (wrap64 (t244 + 1))) else (some t244)) else (some t244))) else (some t244))) = some r := H
                have A24 := Aside0.mk A240
                clear A240
                by_cases c25 : (wrap64 ((wrap64 ((wrap64 (x7_1 * (wrap64 (t244 + 1)))) * (wrap64 (t244 + 1)))) + (wrap64 ((wrap64 (2 * x8_1)) * (wrap64 (t244 + 1)))))) < (wrap64 ((wrap64 ((wrap64 (x7_1 * t244)) * t244)) + (wrap64 ((wrap64 (2 * x8_1)) * t244))))
                · rw [if_pos c25] at H
                  have c25b0 : decide ((wrap64 ((wrap64 ((wrap64 (x7_1 * (wrap64 (t244 + 1)))) * (wrap64 (t244 + 1)))) + (wrap64 ((wrap64 (2 * x8_1)) * (wrap64 (t244 + 1)))))) < (wrap64 ((wrap64 ((wrap64 (x7_1 * t244)) * t244)) + (wrap64 ((wrap64 (2 * x8_1)) * t244))))) = true := decide_eq_true c25
                  clear c25
                  obtain rfl := Option.some.inj H
                  go_wp2_with (first | (go_at_call 50; (with_reducible refine (impl_floorDiv.calls (wrap64 (-x8_1)) x7_1 t244 _ A24.out).mono ?_); rintro e w' ⟨rfl, ⟨nd, rfl⟩⟩; (try first | exact ⟨rfl, _, World.drewN_drewN _ _ _⟩ | exact ⟨rfl, _, Eq.trans (World.drewN_drewN _ _ _) (congrArg (World.drewN _) (Nat.add_assoc _ _ _))⟩)))
                  repeat (go_quiet (first | (go_at_call 50; (with_reducible refine (impl_floorDiv.calls (wrap64 (-x8_1)) x7_1 t244 _ A24.out).mono ?_); rintro e w' ⟨rfl, ⟨nd, rfl⟩⟩; (try first | exact ⟨rfl, _, World.drewN_drewN _ _ _⟩ | exact ⟨rfl, _, Eq.trans (World.drewN_drewN _ _ _) (congrArg (World.drewN _) (Nat.add_assoc _ _ _))⟩))); try go_wp2_with (first | (go_at_call 50; (with_reducible refine (impl_floorDiv.calls (wrap64 (-x8_1)) x7_1 t244 _ A24.out).mono ?_); rintro e w' ⟨rfl, ⟨nd, rfl⟩⟩; (try first | exact ⟨rfl, _, World.drewN_drewN _ _ _⟩ | exact ⟨rfl, _, Eq.trans (World.drewN_drewN _ _ _) (congrArg (World.drewN _) (Nat.add_assoc _ _ _))⟩))))
                  go_ret
                  exact ⟨by first | rfl | (simp [errW_none, errW_some] <;> rfl) | (simp [*, errW_none, errW_some] <;> rfl), by repeat (first | (with_reducible first | exact HB.out | apply below_alloc | apply pw_below_drewN | apply below_drew1 | refine below_set ?_ GE239.out) | exact HB.out)⟩
                · rw [if_neg c25] at H
                  have c25b0 : decide ((wrap64 ((wrap64 ((wrap64 (x7_1 * (wrap64 (t244 + 1)))) * (wrap64 (t244 + 1)))) + (wrap64 ((wrap64 (2 * x8_1)) * (wrap64 (t244 + 1)))))) < (wrap64 ((wrap64 ((wrap64 (x7_1 * t244)) * t244)) + (wrap64 ((wrap64 (2 * x8_1)) * t244))))) = false := decide_eq_false c25
                  clear c25
                  by_cases c26 : (wrap64 ((wrap64 ((wrap64 (x7_1 * (wrap64 (t244 + 1)))) * (wrap64 (t244 + 1)))) + (wrap64 ((wrap64 (2 * x8_1)) * (wrap64 (t244 + 1)))))) = (wrap64 ((wrap64 ((wrap64 (x7_1 * t244)) * t244)) + (wrap64 ((wrap64 (2 * x8_1)) * t244))))
                  · rw [if_pos c26] at H
                    have c26b0 : ((wrap64 ((wrap64 ((wrap64 (x7_1 * (wrap64 (t244 + 1)))) * (wrap64 (t244 + 1)))) + (wrap64 ((wrap64 (2 * x8_1)) * (wrap64 (t244 + 1)))))) == (wrap64 ((wrap64 ((wrap64 (x7_1 * t244)) * t244)) + (wrap64 ((wrap64 (2 * x8_1)) * t244))))) = true := beq_iff_eq.mpr c26
                    have c26b1 : ((wrap64 ((wrap64 ((wrap64 (x7_1 * (wrap64 (t244 + 1)))) * (wrap64 (t244 + 1)))) + (wrap64 ((wrap64 (2 * x8_1)) * (wrap64 (t244 + 1)))))) != (wrap64 ((wrap64 ((wrap64 (x7_1 * t244)) * t244)) + (wrap64 ((wrap64 (2 * x8_1)) * t244))))) = false := bne_eq_false_iff_eq.mpr c26
                    clear c26
                    obtain ⟨ji27, hji27⟩ : ∃ j_ : Int, (mx (wrap64 (t244 + 1)) (wrap64 ((wrap64 (-t244)) - 1))) = j_ := ⟨_, rfl⟩
                    replace H : (if (ji27) < (mx t244 (wrap64 (-t244))) then (some (wrap64 (t244 + 1))) else (if (ji27) = (mx t244 (wrap64 (-t244))) then (if (wrap64 (t244 + 1)) > 0 then (some (wrap64 (t244 + 1))) else (some t244)) else (some t244))) = some r := by first | (rw [hji27] at H; exact H) | (simp only [hji27] at H ⊢; exact H)
                    (try rw [hji27] at A24)
                    have hji27_ : (if (wrap64 (t244 + 1)) < (wrap64 ((wrap64 (-t244)) - 1)) then (wrap64 ((wrap64 (-t244)) - 1)) else (wrap64 (t244 + 1))) = ji27 := hji27
                    obtain ⟨ji28, hji28⟩ : ∃ j_ : Int, (mx t244 (wrap64 (-t244))) = j_ := ⟨_, rfl⟩
                    replace H : (if (ji27) < (ji28) then (some (wrap64 (t244 + 1))) else (if (ji27) = (ji28) then (if (wrap64 (t244 + 1)) > 0 then (some (wrap64 (t244 + 1))) else (some t244)) else (some t244))) = some r := by first | (rw [hji28] at H; exact H) | (simp only [hji28] at H ⊢; exact H)
                    (try rw [hji28] at A24)
                    have hji28_ : (if t244 < (wrap64 (-t244)) then (wrap64 (-t244)) else t244) = ji28 := hji28
                    by_cases c29 : (ji27) < (ji28)
                    · rw [if_pos c29] at H
                      have c29b0 : decide ((ji27) < (ji28)) = true := decide_eq_true c29
                      clear c29
                      obtain rfl := Option.some.inj H
                      go_wp2_with (first | (go_at_call 50; (with_reducible refine (impl_floorDiv.calls (wrap64 (-x8_1)) x7_1 t244 _ A24.out).mono ?_); rintro e w' ⟨rfl, ⟨nd, rfl⟩⟩; (try first | exact ⟨rfl, _, World.drewN_drewN _ _ _⟩ | exact ⟨rfl, _, Eq.trans (World.drewN_drewN _ _ _) (congrArg (World.drewN _) (Nat.add_assoc _ _ _))⟩)))
                      repeat (go_quiet (first | (go_at_call 50; (with_reducible refine (impl_floorDiv.calls (wrap64 (-x8_1)) x7_1 t244 _ A24.out).mono ?_); rintro e w' ⟨rfl, ⟨nd, rfl⟩⟩; (try first | exact ⟨rfl, _, World.drewN_drewN _ _ _⟩ | exact ⟨rfl, _, Eq.trans (World.drewN_drewN _ _ _) (congrArg (World.drewN _) (Nat.add_assoc _ _ _))⟩))); try go_wp2_with (first | (go_at_call 50; (with_reducible refine (impl_floorDiv.calls (wrap64 (-x8_1)) x7_1 t244 _ A24.out).mono ?_); rintro e w' ⟨rfl, ⟨nd, rfl⟩⟩; (try first | exact ⟨rfl, _, World.drewN_drewN _ _ _⟩ | exact ⟨rfl, _, Eq.trans (World.drewN_drewN _ _ _) (congrArg (World.drewN _) (Nat.add_assoc _ _ _))⟩))))
                      go_ret
                      exact ⟨by first | rfl | (simp [errW_none, errW_some] <;> rfl) | (simp only [← hji27, ← hji28]; first | rfl | (simp [errW_none, errW_some] <;> rfl)) | (simp [*, errW_none, errW_some] <;> rfl), by repeat (first | (with_reducible first | exact HB.out | apply below_alloc | apply pw_below_drewN | apply below_drew1 | refine below_set ?_ GE239.out) | exact HB.out)⟩
                    · rw [if_neg c29] at H
                      have c29b0 : decide ((ji27) < (ji28)) = false := decide_eq_false c29
                      clear c29
                      by_cases c32 : (ji27) = (ji28)
                      · rw [if_pos c32] at H
                        have c32b0 : ((ji27) == (ji28)) = true := beq_iff_eq.mpr c32
                        have c32b1 : ((ji27) != (ji28)) = false := bne_eq_false_iff_eq.mpr c32
                        clear c32
                        by_cases c33 : (wrap64 (t244 + 1)) > 0
                        · rw [if_pos c33] at H
                          have c33b0 : decide (0 < (wrap64 (t244 + 1))) = true := decide_eq_true c33
                          clear c33
                          obtain rfl := Option.some.inj H
                          go_wp2_with (first | (go_at_call 50; (with_reducible refine (impl_floorDiv.calls (wrap64 (-x8_1)) x7_1 t244 _ A24.out).mono ?_); rintro e w' ⟨rfl, ⟨nd, rfl⟩⟩; (try first | exact ⟨rfl, _, World.drewN_drewN _ _ _⟩ | exact ⟨rfl, _, Eq.trans (World.drewN_drewN _ _ _) (congrArg (World.drewN _) (Nat.add_assoc _ _ _))⟩)))
                          repeat (go_quiet (first | (go_at_call 50; (with_reducible refine (impl_floorDiv.calls (wrap64 (-x8_1)) x7_1 t244 _ A24.out).mono ?_); rintro e w' ⟨rfl, ⟨nd, rfl⟩⟩; (try first | exact ⟨rfl, _, World.drewN_drewN _ _ _⟩ | exact ⟨rfl, _, Eq.trans (World.drewN_drewN _ _ _) (congrArg (World.drewN _) (Nat.add_assoc _ _ _))⟩))); try go_wp2_with (first | (go_at_call 50; (with_reducible refine (impl_floorDiv.calls (wrap64 (-x8_1)) x7_1 t244 _ A24.out).mono ?_); rintro e w' ⟨rfl, ⟨nd, rfl⟩⟩; (try first | exact ⟨rfl, _, World.drewN_drewN _ _ _⟩ | exact ⟨rfl, _, Eq.trans (World.drewN_drewN _ _ _) (congrArg (World.drewN _) (Nat.add_assoc _ _ _))⟩))))
                          go_ret
                          exact ⟨by first | rfl | (simp [errW_none, errW_some] <;> rfl) | (simp only [← hji27, ← hji28]; first | rfl | (simp [errW_none, errW_some] <;> rfl)) | (simp [*, errW_none, errW_some] <;> rfl), by repeat (first | (with_reducible first | exact HB.out | apply below_alloc | apply pw_below_drewN | apply below_drew1 | refine below_set ?_ GE239.out) | exact HB.out)⟩
                        · rw [if_neg c33] at H
                          have c33b0 : decide (0 < (wrap64 (t244 + 1))) = false := decide_eq_false c33
                          clear c33
                          obtain rfl := Option.some.inj H
                          go_wp2_with (first | (go_at_call 50; (with_reducible refine (impl_floorDiv.calls (wrap64 (-x8_1)) x7_1 t244 _ A24.out).mono ?_); rintro e w' ⟨rfl, ⟨nd, rfl⟩⟩; (try first | exact ⟨rfl, _, World.drewN_drewN _ _ _⟩ | exact ⟨rfl, _, Eq.trans (World.drewN_drewN _ _ _) (congrArg (World.drewN _) (Nat.add_assoc _ _ _))⟩)))
                          repeat (go_quiet (first | (go_at_call 50; (with_reducible refine (impl_floorDiv.calls (wrap64 (-x8_1)) x7_1 t244 _ A24.out).mono ?_); rintro e w' ⟨rfl, ⟨nd, rfl⟩⟩; (try first | exact ⟨rfl, _, World.drewN_drewN _ _ _⟩ | exact ⟨rfl, _, Eq.trans (World.drewN_drewN _ _ _) (congrArg (World.drewN _) (Nat.add_assoc _ _ _))⟩))); try go_wp2_with (first | (go_at_call 50; (with_reducible refine (impl_floorDiv.calls (wrap64 (-x8_1)) x7_1 t244 _ A24.out).mono ?_); rintro e w' ⟨rfl, ⟨nd, rfl⟩⟩; (try first | exact ⟨rfl, _, World.drewN_drewN _ _ _⟩ | exact ⟨rfl, _, Eq.trans (World.drewN_drewN _ _ _) (congrArg (World.drewN _) (Nat.add_assoc _ _ _))⟩))))
                          go_ret
                          exact ⟨by first | rfl | (simp [errW_none, errW_some] <;> rfl) | (simp only [← hji27, ← hji28]; first | rfl | (simp [errW_none, errW_some] <;> rfl)) | (simp [*, errW_none, errW_some] <;> rfl), by repeat (first | (with_reducible first | exact HB.out | apply below_alloc | apply pw_below_drewN | apply below_drew1 | refine below_set ?_ GE239.out) | exact HB.out)⟩
                      · rw [if_neg c32] at H
                        have c32b0 : ((ji27) == (ji28)) = false := beq_eq_false_iff_ne.mpr c32
                        have c32b1 : ((ji27) != (ji28)) = true := bne_iff_ne.mpr c32
                        obtain rfl := Option.some.inj H
                        go_wp2_with (first | (go_at_call 50; (with_reducible refine (impl_floorDiv.calls (wrap64 (-x8_1)) x7_1 t244 _ A24.out).mono ?_); rintro e w' ⟨rfl, ⟨nd, rfl⟩⟩; (try first | exact ⟨rfl, _, World.drewN_drewN _ _ _⟩ | exact ⟨rfl, _, Eq.trans (World.drewN_drewN _ _ _) (congrArg (World.drewN _) (Nat.add_assoc _ _ _))⟩)))
                        repeat (go_quiet (first | (go_at_call 50; (with_reducible refine (impl_floorDiv.calls (wrap64 (-x8_1)) x7_1 t244 _ A24.out).mono ?_); rintro e w' ⟨rfl, ⟨nd, rfl⟩⟩; (try first | exact ⟨rfl, _, World.drewN_drewN _ _ _⟩ | exact ⟨rfl, _, Eq.trans (World.drewN_drewN _ _ _) (congrArg (World.drewN _) (Nat.add_assoc _ _ _))⟩))); try go_wp2_with (first | (go_at_call 50; (with_reducible refine (impl_floorDiv.calls (wrap64 (-x8_1)) x7_1 t244 _ A24.out).mono ?_); rintro e w' ⟨rfl, ⟨nd, rfl⟩⟩; (try first | exact ⟨rfl, _, World.drewN_drewN _ _ _⟩ | exact ⟨rfl, _, Eq.trans (World.drewN_drewN _ _ _) (congrArg (World.drewN _) (Nat.add_assoc _ _ _))⟩))))
                        go_ret
                        exact ⟨by first | rfl | (simp [errW_none, errW_some] <;> rfl) | (simp only [← hji27, ← hji28]; first | rfl | (simp [errW_none, errW_some] <;> rfl)) | (simp [*, errW_none, errW_some] <;> rfl), by repeat (first | (with_reducible first | exact HB.out | apply below_alloc | apply pw_below_drewN | apply below_drew1 | refine below_set ?_ GE239.out) | exact HB.out)⟩
                  · rw [if_neg c26] at H
                    have c26b0 : ((wrap64 ((wrap64 ((wrap64 (x7_1 * (wrap64 (t244 + 1)))) * (wrap64 (t244 + 1)))) + (wrap64 ((wrap64 (2 * x8_1)) * (wrap64 (t244 + 1)))))) == (wrap64 ((wrap64 ((wrap64 (x7_1 * t244)) * t244)) + (wrap64 ((wrap64 (2 * x8_1)) * t244))))) = false := beq_eq_false_iff_ne.mpr c26
                    have c26b1 : ((wrap64 ((wrap64 ((wrap64 (x7_1 * (wrap64 (t244 + 1)))) * (wrap64 (t244 + 1)))) + (wrap64 ((wrap64 (2 * x8_1)) * (wrap64 (t244 + 1)))))) != (wrap64 ((wrap64 ((wrap64 (x7_1 * t244)) * t244)) + (wrap64 ((wrap64 (2 * x8_1)) * t244))))) = true := bne_iff_ne.mpr c26
                    obtain rfl := Option.some.inj H
                    go_wp2_with (first | (go_at_call 50; (with_reducible refine (impl_floorDiv.calls (wrap64 (-x8_1)) x7_1 t244 _ A24.out).mono ?_); rintro e w' ⟨rfl, ⟨nd, rfl⟩⟩; (try first | exact ⟨rfl, _, World.drewN_drewN _ _ _⟩ | exact ⟨rfl, _, Eq.trans (World.drewN_drewN _ _ _) (congrArg (World.drewN _) (Nat.add_assoc _ _ _))⟩)))
                    repeat (go_quiet (first | (go_at_call 50; (with_reducible refine (impl_floorDiv.calls (wrap64 (-x8_1)) x7_1 t244 _ A24.out).mono ?_); rintro e w' ⟨rfl, ⟨nd, rfl⟩⟩; (try first | exact ⟨rfl, _, World.drewN_drewN _ _ _⟩ | exact ⟨rfl, _, Eq.trans (World.drewN_drewN _ _ _) (congrArg (World.drewN _) (Nat.add_assoc _ _ _))⟩))); try go_wp2_with (first | (go_at_call 50; (with_reducible refine (impl_floorDiv.calls (wrap64 (-x8_1)) x7_1 t244 _ A24.out).mono ?_); rintro e w' ⟨rfl, ⟨nd, rfl⟩⟩; (try first | exact ⟨rfl, _, World.drewN_drewN _ _ _⟩ | exact ⟨rfl, _, Eq.trans (World.drewN_drewN _ _ _) (congrArg (World.drewN _) (Nat.add_assoc _ _ _))⟩))))
                    go_ret
                    exact ⟨by first | rfl | (simp [errW_none, errW_some] <;> rfl) | (simp [*, errW_none, errW_some] <;> rfl), by repeat (first | (with_reducible first | exact HB.out | apply below_alloc | apply pw_below_drewN | apply below_drew1 | refine below_set ?_ GE239.out) | exact HB.out)⟩
        · rw [if_neg c7] at H
          exact absurd H (by simp)
      · rw [if_neg c6] at H
        exact absurd H (by simp)
    · rw [if_neg c5] at H
      exact absurd H (by simp)
  · rw [if_neg c4] at H
    exact absurd H (by simp)

end Go.Proofs.Ytcjhbmjimjbphaa.QFnExactDescend
