-- Written by a program of this session out of the printer's texts and contracts of its own.
import Derived.Test.YtefagcpmadpefaaQFnExactPickx0
import Derived.Test.YtefagcpmadpefaaQFnExactPickx5
namespace Go.Proofs.Ytefagcpmadpefaa.QFnExactPick
open Go.RowKit Go.Proofs.YtefagcpmadpefaaW.PrintWords Go.Proofs.YtefagcpmadpefaaW.PrintLast Go.Proofs.YtefagcpmadpefaaW.PrintMore
attribute [local go_sem] max2_int min2_int max_two min_two max_three min_three max_four min_four   -- for this text's walks alone
set_option linter.unusedVariables false
set_option linter.unusedSimpArgs false
theorem sABelo_6 {b : Nat} {w W : World} (h : Below b w W := by repeat (first | (with_reducible first | exact Aside0.out (by assumption) | apply below_alloc | apply pw_below_drewN | apply below_drew1 | refine below_set ?_ (Aside0.out (by assumption))) | exact Aside0.out (by assumption))) : Below b w W := h

/-! ### impl_archiveOk: function 31 -/
def impl_archiveOk.l0 : Nat → List (S44) → List (S44) → Int → Int → Option (Bool)
 | 0, _, _, _, _ => none
 | k + 1, x0, x8, x9, x10 => if x10 < x9 then (if 0 ≤ x10 then (if x10 < (x8.length : Int) then ((impl_entryOk.f k ((rd_T44 x8 x10).f0) ((rd_T44 x8 x10).f1) ((rd_T44 x8 x10).f2) ((rd_T44 x8 x10).f3) ((rd_T44 x8 x10).f4)).bind fun t207 => (if t207 = true then (if x10 > 0 then (if 0 ≤ (wrap64 (x10 - 1)) then (if (wrap64 (x10 - 1)) < (x0.length : Int) then ((impl_keyCompare.f k ((rd_T44 x0 (wrap64 (x10 - 1))).f0) ((rd_T44 x0 (wrap64 (x10 - 1))).f1) ((rd_T44 x0 (wrap64 (x10 - 1))).f2) ((rd_T44 x0 (wrap64 (x10 - 1))).f3) ((rd_T44 x0 (wrap64 (x10 - 1))).f4) ((rd_T44 x8 x10).f0) ((rd_T44 x8 x10).f1) ((rd_T44 x8 x10).f2) ((rd_T44 x8 x10).f3) ((rd_T44 x8 x10).f4)).bind fun t209 => (if t209 ≥ 0 then (some false) else (impl_archiveOk.l0 k x0 x8 x9 (wrap64 (x10 + 1))))) else (none)) else (none)) else (impl_archiveOk.l0 k x0 x8 x9 (wrap64 (x10 + 1)))) else (some false))) else (none)) else (none)) else (some true)
def impl_archiveOk.f (k : Nat) (l0 : List (S44)) : Option (Bool) := if (l0.length : Int) > 300 then (some false) else (impl_archiveOk.l0 k l0 l0 (l0.length : Int) 0)
theorem impl_archiveOk.mono_l : ∀ k, (∀ y0 y1 y2 y3, LeO (impl_archiveOk.l0 k y0 y1 y2 y3) (impl_archiveOk.l0 (k + 1) y0 y1 y2 y3))
 | 0 => fun _ _ _ _ r h => by simp [impl_archiveOk.l0] at h
 | k + 1 => by
  have ih0 := impl_archiveOk.mono_l k
  ·intro y0 y1 y2 y3; unfold impl_archiveOk.l0
   repeat' first
   | (with_reducible exact ih0 _ _ _ _)
   | (with_reducible exact impl_entryOk.mono _ _ _ _ _ _)
   | (with_reducible exact impl_keyCompare.mono _ _ _ _ _ _ _ _ _ _ _)
   | (with_reducible exact LeO.refl _)
   | (with_reducible exact LeO.none _)
   | (with_reducible refine LeO.ite ?_ ?_)
   | (with_reducible refine LeO.bind ?_ (fun _ => ?_))
   | exact ih0 _ _ _ _
   | exact impl_entryOk.mono _ _ _ _ _ _
   | exact impl_keyCompare.mono _ _ _ _ _ _ _ _ _ _ _
   | exact LeO.none _
   | refine LeO.ite ?_ ?_
   | refine LeO.bind ?_ (fun _ => ?_)
theorem impl_archiveOk.mono : ∀ a0 k, LeO (impl_archiveOk.f k a0) (impl_archiveOk.f (k + 1) a0) := by
 intro a0 k; have ih0 := impl_archiveOk.mono_l k; unfold impl_archiveOk.f
 repeat' first
   | (with_reducible exact ih0 _ _ _ _)
   | (with_reducible exact impl_entryOk.mono _ _ _ _ _ _)
   | (with_reducible exact impl_keyCompare.mono _ _ _ _ _ _ _ _ _ _ _)
   | (with_reducible exact LeO.refl _)
   | (with_reducible exact LeO.none _)
   | (with_reducible refine LeO.ite ?_ ?_)
   | (with_reducible refine LeO.bind ?_ (fun _ => ?_))
   | exact ih0 _ _ _ _
   | exact impl_entryOk.mono _ _ _ _ _ _
   | exact impl_keyCompare.mono _ _ _ _ _ _ _ _ _ _ _
   | exact LeO.none _
   | refine LeO.ite ?_ ?_
   | refine LeO.bind ?_ (fun _ => ?_)
def impl_archiveOk.T6 : Bool × List (List Nat × List Nat) := (true, [([], []), ([0], [0]), ([1], [1]), ([2, 1], [2]), ([3], [3]), ([4, 3], [3, 4]), ([5, 3, 3], [3, 5]), ([6], [6]), ([6], [6]), ([8, 6], [6, 8]), ([7, 9, 6], [6, 7, 9]), ([10, 6], [6, 10]), ([6], [6]), ([11, 12, 6, 6], [6, 11, 12]), ([13, 6], [6, 13]), ([6, 14, 3], [3, 6, 14]), ([3, 15], [3, 15])])
def impl_archiveOk.B6 : List Nat := [0, 1, 3, 7, 15, 31, 63, 127, 127, 383, 1023, 2047, 127, 8191, 16383, 32767, 65535]
theorem impl_archiveOk.tab6 : rtab .any (opsOf Try.f31 6) = impl_archiveOk.T6 := by kernel_rfl
theorem impl_archiveOk.bits6 : waitsOk impl_archiveOk.T6.2 impl_archiveOk.B6 = true := by kernel_rfl
set_option maxHeartbeats 8000000 in
set_option maxRecDepth 100000 in
theorem impl_archiveOk.calls (k : Nat) (A0 : Option Addr) (c0 : Nat) (l0 : List (S44)) (r : Bool) (w : World) (hr0 : Kd.C k44 w A0 l0.length l0) (hc0 : l0.length ≤ c0) (h : impl_archiveOk.f k l0 = some r) :
  Calls Try.prog 31 #[.slice A0 l0.length c0] w fun e w' => e = .returned (.bool r) ∧ Below w.heap.size w w' := by
 have hu44 := Try.underlying44; have HR0 := Aside0.mk hr0; have HC0 := Aside0.mk hc0; clear hr0 hc0; have HB := Aside0.mk (Below.refl w.heap.size w); have H : (if (l0.length : Int) > 300 then (some false) else (impl_archiveOk.l0 k l0 l0 (l0.length : Int) 0)) = some r := h; clear h
 by_cases c2 : (l0.length : Int) > 300
 ·rw [if_pos c2] at H; have c2b0 : decide (300 < (l0.length : Int)) = true := decide_eq_true c2; have c2b1 : decide (300 < l0.length) = true := decide_eq_true (by omega); clear c2; obtain rfl := Option.some.inj H; go_enter Try.func31, Try.ntmps31
  go_wp2
  go_ret; exact ⟨by first | rfl | (simp [errW_none, errW_some] <;> rfl) | (simp [*, errW_none, errW_some] <;> rfl), sABelo_6⟩
 ·rw [if_neg c2] at H; have c2b0 : decide (300 < (l0.length : Int)) = false := decide_eq_false c2; have c2b1 : decide (300 < l0.length) = false := decide_eq_false (by omega); clear c2; have H' := Aside0.mk H; clear H; go_enter Try.func31, Try.ntmps31
  go_wp2
  go_loopg [10] k (fun kq v10 w' => ∃ (x10_1 : Int), v10 = .int .i64 x10_1 ∧ Aside0 (impl_archiveOk.l0 kq l0 l0 (l0.length : Int) x10_1 = some r) ∧ Aside0 (kq ≤ k) ∧ Aside0 (Below w.heap.size w w'))
  case atStart => exact ⟨(0), (by first | rfl | (simp; done) | (simp [*]; done)), H', ⟨Nat.le_refl _⟩, ⟨sABelo_6⟩⟩
  case round =>
   clear H'
   try clear c2
   try clear c2b0
   try clear c2b1
   try clear p2
   obtain ⟨x10_1, rfl, HA, HK1, HB⟩ := hrel
   cases gk with
   | zero => exact absurd HA.out (by simp [impl_archiveOk.l0])
   | succ k1 =>
    have H := HA.out; clear HA; simp only [impl_archiveOk.l0] at H
    by_cases c3 : x10_1 < (l0.length : Int)
    ·rw [if_pos c3] at H; have c3b0 : decide (x10_1 < (l0.length : Int)) = true := decide_eq_true c3; clear c3
     by_cases c4 : 0 ≤ x10_1
     ·rw [if_pos c4] at H; have c4b0 : decide (0 ≤ x10_1) = true := decide_eq_true c4; clear c4
      by_cases c5 : x10_1 < (l0.length : Int)
      ·rw [if_pos c5] at H; have c5b0 : decide (x10_1 < (l0.length : Int)) = true := decide_eq_true c5; clear c5; replace H := Option.bind_eq_some_iff.mp H; obtain ⟨t207, A60, H⟩ := H; replace H : (if t207 = true then (if x10_1 > 0 then (if 0 ≤ (wrap64 (x10_1 - 1)) then (if (wrap64 (x10_1 - 1)) < (l0.length : Int) then ((impl_keyCompare.f k1 ((rd_T44 l0 (wrap64 (x10_1 - 1))).f0) ((rd_T44 l0 (wrap64 (x10_1 - 1))).f1) ((rd_T44 l0 (wrap64 (x10_1 - 1))).f2) ((rd_T44 l0 (wrap64 (x10_1 - 1))).f3) ((rd_T44 l0 (wrap64 (x10_1 - 1))).f4) ((rd_T44 l0 x10_1).f0) ((rd_T44 l0 x10_1).f1) ((rd_T44 l0 x10_1).f2) ((rd_T44 l0 x10_1).f3) ((rd_T44 l0 x10_1).f4)).bind fun t209 => (if t209 ≥ 0 then (some false) else (impl_archiveOk.l0 k1 l0 l0 (l0.length : Int) (wrap64 (x10_1 + 1))))) else (none)) else (none)) else (impl_archiveOk.l0 k1 l0 l0 (l0.length : Int) (wrap64 (x10_1 + 1)))) else (some false)) = some r := H; have A6 := Aside0.mk A60; clear A60
       by_cases c7 : t207 = true
       ·subst c7; have H1 : (if x10_1 > 0 then (if 0 ≤ (wrap64 (x10_1 - 1)) then (if (wrap64 (x10_1 - 1)) < (l0.length : Int) then ((impl_keyCompare.f k1 ((rd_T44 l0 (wrap64 (x10_1 - 1))).f0) ((rd_T44 l0 (wrap64 (x10_1 - 1))).f1) ((rd_T44 l0 (wrap64 (x10_1 - 1))).f2) ((rd_T44 l0 (wrap64 (x10_1 - 1))).f3) ((rd_T44 l0 (wrap64 (x10_1 - 1))).f4) ((rd_T44 l0 x10_1).f0) ((rd_T44 l0 x10_1).f1) ((rd_T44 l0 x10_1).f2) ((rd_T44 l0 x10_1).f3) ((rd_T44 l0 x10_1).f4)).bind fun t209 => (if t209 ≥ 0 then (some false) else (impl_archiveOk.l0 k1 l0 l0 (l0.length : Int) (wrap64 (x10_1 + 1))))) else (none)) else (none)) else (impl_archiveOk.l0 k1 l0 l0 (l0.length : Int) (wrap64 (x10_1 + 1)))) = some r := by rw [if_pos rfl] at H; exact H
        clear H; have H := H1; clear H1
        by_cases c8 : x10_1 > 0
        ·rw [if_pos c8] at H; have c8b0 : decide (0 < x10_1) = true := decide_eq_true c8; clear c8; obtain ⟨ji9, hji9⟩ : ∃ j_ : Int, (wrap64 (x10_1 - 1)) = j_ := ⟨_, rfl⟩
         replace H : (if 0 ≤ (ji9) then (if (ji9) < (l0.length : Int) then ((impl_keyCompare.f k1 ((rd_T44 l0 (ji9)).f0) ((rd_T44 l0 (ji9)).f1) ((rd_T44 l0 (ji9)).f2) ((rd_T44 l0 (ji9)).f3) ((rd_T44 l0 (ji9)).f4) ((rd_T44 l0 x10_1).f0) ((rd_T44 l0 x10_1).f1) ((rd_T44 l0 x10_1).f2) ((rd_T44 l0 x10_1).f3) ((rd_T44 l0 x10_1).f4)).bind fun t209 => (if t209 ≥ 0 then (some false) else (impl_archiveOk.l0 k1 l0 l0 (l0.length : Int) (wrap64 (x10_1 + 1))))) else (none)) else (none)) = some r := by first | (rw [hji9] at H; exact H) | (simp only [hji9] at H ⊢; exact H)
         (try rw [hji9] at A6); have hji9w : (IntKind.i64.wrap (x10_1 - 1)) = ji9 := (i64_w _).trans hji9
         by_cases c10 : 0 ≤ (ji9)
         ·rw [if_pos c10] at H; have c10b0 : decide (0 ≤ (ji9)) = true := decide_eq_true c10; clear c10
          by_cases c11 : (ji9) < (l0.length : Int)
          ·rw [if_pos c11] at H; have c11b0 : decide ((ji9) < (l0.length : Int)) = true := decide_eq_true c11; clear c11; replace H := Option.bind_eq_some_iff.mp H; obtain ⟨t209, A120, H⟩ := H; replace H : (if t209 ≥ 0 then (some false) else (impl_archiveOk.l0 k1 l0 l0 (l0.length : Int) (wrap64 (x10_1 + 1)))) = some r := H; have A12 := Aside0.mk A120; clear A120
           by_cases c13 : t209 ≥ 0
           ·rw [if_pos c13] at H; have c13b0 : decide (0 ≤ t209) = true := decide_eq_true c13; clear c13; obtain rfl := Option.some.inj H; have p205 : 0 ≤ (x10_1 : Int) := of_decide_eq_true (by first | (with_reducible assumption) | assumption); have q205 : x10_1 < (l0.length : Int) := of_decide_eq_true (by first | (with_reducible assumption) | assumption); obtain ⟨ad205, e205, hx205_0, hx205_1, hx205_2, hx205_3, hx205_4⟩ := at_T44 HR0.out x10_1 p205 q205
            cases e205
            replace hx205_0 := (HB.out.cell (World.block_lt_of_cell? w _ hx205_0)).trans hx205_0; replace hx205_1 := (HB.out.cell (World.block_lt_of_cell? w _ hx205_1)).trans hx205_1; replace hx205_2 := (HB.out.cell (World.block_lt_of_cell? w _ hx205_2)).trans hx205_2; replace hx205_3 := (HB.out.cell (World.block_lt_of_cell? w _ hx205_3)).trans hx205_3; replace hx205_4 := (HB.out.cell (World.block_lt_of_cell? w _ hx205_4)).trans hx205_4; replace p205 := eq_true p205; replace q205 := eq_true q205
            try go_wp2_with (first | ((with_reducible refine gate_dst (N := 4) rfl ?_); refine box_event ?hg (N := 4) ?hd (cs := #[.string (⟨#[]⟩ : ByteArray), .int .i64 0, .int .i64 0, .int .i64 0, .int .i64 0]) (t := 44) ?hr ?_; (case hd => rfl); (case hg => rfl); (case hr => first | (go_simp; done) | (go_simp; rfl)); intro gb206 hg w14 hbox hb; have n0_ := Aside0.mk (below_step sABelo_6 hb); have n1_ := Aside0.mk (hbox); have n2_ := Aside0.mk ((by rw [hg]; exact (below_size sABelo_6) : w.heap.size ≤ gb206)); have n3_ := Aside0.mk ((by rw [hg]; exact (below_size sABelo_6) : w.heap.size ≤ gb206)); clear HB; have HB := n0_; have BK206 := n1_; have GW206 := n2_; have GE206 := n3_; clear n0_ n1_ n2_ n3_; clear hb hbox hg; have hcz15_0 : w14.cell? ⟨gb206, 0, none⟩ = some (.string (⟨#[]⟩ : ByteArray)) := (blk_cell BK206.out 0).trans rfl; have hcz15_1 : w14.cell? ⟨gb206, 1, none⟩ = some (.int .i64 0) := (blk_cell BK206.out 1).trans rfl; have hcz15_2 : w14.cell? ⟨gb206, 2, none⟩ = some (.int .i64 0) := (blk_cell BK206.out 2).trans rfl; have hcz15_3 : w14.cell? ⟨gb206, 3, none⟩ = some (.int .i64 0) := (blk_cell BK206.out 3).trans rfl; have hcz15_4 : w14.cell? ⟨gb206, 4, none⟩ = some (.int .i64 0) := (blk_cell BK206.out 4).trans rfl; have hfz15_0 := blk_frozen BK206.out 0; have hfz15_1 := blk_frozen BK206.out 1; have hfz15_2 := blk_frozen BK206.out 2; have hfz15_3 := blk_frozen BK206.out 3; have hfz15_4 := blk_frozen BK206.out 4))
            have n0_ : Aside0 ((((((w14.setCell ⟨gb206, 0, none⟩ (.string ((rd_T44 l0 x10_1).f0))).setCell ⟨gb206, 1, none⟩ (.int .i64 ((rd_T44 l0 x10_1).f1))).setCell ⟨gb206, 2, none⟩ (.int .i64 ((rd_T44 l0 x10_1).f2))).setCell ⟨gb206, 3, none⟩ (.int .i64 ((rd_T44 l0 x10_1).f3))).setCell ⟨gb206, 4, none⟩ (.int .i64 ((rd_T44 l0 x10_1).f4))).heap[gb206]? = some (.cells #[.string ((rd_T44 l0 x10_1).f0), .int .i64 ((rd_T44 l0 x10_1).f1), .int .i64 ((rd_T44 l0 x10_1).f2), .int .i64 ((rd_T44 l0 x10_1).f3), .int .i64 ((rd_T44 l0 x10_1).f4)] 44 (0, 0))) := ⟨by (with_reducible repeat (first | refine blk_drewN ?_ _ | refine blk_drew ?_ | refine blk_alloc ?_ _)); refine blk_put (cs := #[.string ((rd_T44 l0 x10_1).f0), .int .i64 ((rd_T44 l0 x10_1).f1), .int .i64 ((rd_T44 l0 x10_1).f2), .int .i64 ((rd_T44 l0 x10_1).f3), .int .i64 0]) ?_ 4 _ rfl; (with_reducible repeat (first | refine blk_drewN ?_ _ | refine blk_drew ?_ | refine blk_alloc ?_ _)); refine blk_put (cs := #[.string ((rd_T44 l0 x10_1).f0), .int .i64 ((rd_T44 l0 x10_1).f1), .int .i64 ((rd_T44 l0 x10_1).f2), .int .i64 0, .int .i64 0]) ?_ 3 _ rfl; (with_reducible repeat (first | refine blk_drewN ?_ _ | refine blk_drew ?_ | refine blk_alloc ?_ _)); refine blk_put (cs := #[.string ((rd_T44 l0 x10_1).f0), .int .i64 ((rd_T44 l0 x10_1).f1), .int .i64 0, .int .i64 0, .int .i64 0]) ?_ 2 _ rfl; (with_reducible repeat (first | refine blk_drewN ?_ _ | refine blk_drew ?_ | refine blk_alloc ?_ _)); refine blk_put (cs := #[.string ((rd_T44 l0 x10_1).f0), .int .i64 0, .int .i64 0, .int .i64 0, .int .i64 0]) ?_ 1 _ rfl; (with_reducible repeat (first | refine blk_drewN ?_ _ | refine blk_drew ?_ | refine blk_alloc ?_ _)); refine blk_put (cs := #[.string (⟨#[]⟩ : ByteArray), .int .i64 0, .int .i64 0, .int .i64 0, .int .i64 0]) ?_ 0 _ rfl; (with_reducible repeat (first | refine blk_drewN ?_ _ | refine blk_drew ?_ | refine blk_alloc ?_ _)); exact BK206.out⟩; have n1_ : Aside0 (Below w.heap.size w (((((w14.setCell ⟨gb206, 0, none⟩ (.string ((rd_T44 l0 x10_1).f0))).setCell ⟨gb206, 1, none⟩ (.int .i64 ((rd_T44 l0 x10_1).f1))).setCell ⟨gb206, 2, none⟩ (.int .i64 ((rd_T44 l0 x10_1).f2))).setCell ⟨gb206, 3, none⟩ (.int .i64 ((rd_T44 l0 x10_1).f3))).setCell ⟨gb206, 4, none⟩ (.int .i64 ((rd_T44 l0 x10_1).f4)))) := ⟨sABelo_6⟩; (try clear BK206); (try clear HB)
            generalize (((((w14.setCell ⟨gb206, 0, none⟩ (.string ((rd_T44 l0 x10_1).f0))).setCell ⟨gb206, 1, none⟩ (.int .i64 ((rd_T44 l0 x10_1).f1))).setCell ⟨gb206, 2, none⟩ (.int .i64 ((rd_T44 l0 x10_1).f2))).setCell ⟨gb206, 3, none⟩ (.int .i64 ((rd_T44 l0 x10_1).f3))).setCell ⟨gb206, 4, none⟩ (.int .i64 ((rd_T44 l0 x10_1).f4))) = w16 at n0_ n1_ ⊢
            have BK206 := n0_; have HB := n1_; clear n0_ n1_; have n0_ := Aside0.mk (blk_drew BK206.out); have n1_ := Aside0.mk (below_drew1 HB.out); clear BK206; clear HB; have BK206 := n0_; have HB := n1_; clear n0_ n1_; have p208 : 0 ≤ ((ji9) : Int) := of_decide_eq_true (by first | (with_reducible assumption) | assumption); have q208 : (ji9) < (l0.length : Int) := of_decide_eq_true (by first | (with_reducible assumption) | assumption); obtain ⟨ad208, e208, hx208_0, hx208_1, hx208_2, hx208_3, hx208_4⟩ := at_T44 HR0.out (ji9) p208 q208; have hw208_4 := hx208_4; have hw208_3 := hx208_3; have hw208_2 := hx208_2; have hw208_1 := hx208_1; have hw208_0 := hx208_0; obtain rfl : ad205 = ad208 := (by injection e208); replace hx208_0 := (HB.out.cell (World.block_lt_of_cell? w _ hx208_0)).trans hx208_0; replace hx208_1 := (HB.out.cell (World.block_lt_of_cell? w _ hx208_1)).trans hx208_1; replace hx208_2 := (HB.out.cell (World.block_lt_of_cell? w _ hx208_2)).trans hx208_2; replace hx208_3 := (HB.out.cell (World.block_lt_of_cell? w _ hx208_3)).trans hx208_3; replace hx208_4 := (HB.out.cell (World.block_lt_of_cell? w _ hx208_4)).trans hx208_4; replace p208 := eq_true p208; replace q208 := eq_true q208; refine start_ (n := 17) (S := fun w' => w'.cell? ⟨gb206, 0, none⟩ = some (.string ((rd_T44 l0 x10_1).f0)) ∧ w'.cell? ⟨gb206, 1, none⟩ = some (.int .i64 ((rd_T44 l0 x10_1).f1)) ∧ w'.cell? ⟨gb206, 2, none⟩ = some (.int .i64 ((rd_T44 l0 x10_1).f2)) ∧ w'.cell? ⟨gb206, 3, none⟩ = some (.int .i64 ((rd_T44 l0 x10_1).f3)) ∧ w'.cell? ⟨gb206, 4, none⟩ = some (.int .i64 ((rd_T44 l0 x10_1).f4)) ∧ w'.cell? (ad205.add (((ji9)).toNat * 5)) = some (.string ((rd_T44 l0 (ji9)).f0)) ∧ w'.cell? ⟨(ad205.add (((ji9)).toNat * 5)).block, (ad205.add (((ji9)).toNat * 5)).off + 1, none⟩ = some (.int .i64 ((rd_T44 l0 (ji9)).f1)) ∧ w'.cell? ⟨(ad205.add (((ji9)).toNat * 5)).block, (ad205.add (((ji9)).toNat * 5)).off + 2, none⟩ = some (.int .i64 ((rd_T44 l0 (ji9)).f2)) ∧ w'.cell? ⟨(ad205.add (((ji9)).toNat * 5)).block, (ad205.add (((ji9)).toNat * 5)).off + 3, none⟩ = some (.int .i64 ((rd_T44 l0 (ji9)).f3)) ∧ w'.cell? ⟨(ad205.add (((ji9)).toNat * 5)).block, (ad205.add (((ji9)).toNat * 5)).off + 4, none⟩ = some (.int .i64 ((rd_T44 l0 (ji9)).f4))) (ds := []) #[false, false, false, false, false, false, false, false, false, false, false, false, false, false, false, false, false] (by kernel_rfl) rfl rfl ⟨(blk_cell BK206.out 0).trans rfl, (blk_cell BK206.out 1).trans rfl, (blk_cell BK206.out 2).trans rfl, (blk_cell BK206.out 3).trans rfl, (blk_cell BK206.out 4).trans rfl, ((HB.out.cell (World.block_lt_of_cell? w _ hw208_0)).trans hw208_0), ((HB.out.cell (World.block_lt_of_cell? w _ hw208_1)).trans hw208_1), ((HB.out.cell (World.block_lt_of_cell? w _ hw208_2)).trans hw208_2), ((HB.out.cell (World.block_lt_of_cell? w _ hw208_3)).trans hw208_3), ((HB.out.cell (World.block_lt_of_cell? w _ hw208_4)).trans hw208_4)⟩ (fun hHeld => ?_); refine with_tabW impl_archiveOk.tab6 impl_archiveOk.bits6 (fun HT_ HW_ => ?_)
            generalize w16.drew = w17 at BK206 HB hx208_0 hx208_1 hx208_2 hx208_3 hx208_4 hHeld ⊢
            refine take_ (i := 0) (N := some 15) (v := ?_) (a' := ?_) #[true, false, false, false, false, false, false, false, false, false, false, false, false, false, false, false, false] rfl rfl (take_ofW HT_.out HW_.out (by kernel_rfl)) (fun _ _ _ h => h) (Or.inl ⟨by rfl, ?_⟩) hHeld ?_ ?_
            rotate_left
            ·rintro w' ⟨s0, s1, s2, s3, s4, s5, s6, s7, s8, s9⟩
             go_simp
             with_reducible rfl
            rotate_left
            ·simp only [Act.put, List.setIfInBounds_toArray, List.set_cons_zero, List.set_cons_succ, i64_w, i32_w]
             rfl
            refine one_ (i := 1) (N := some 16) #[true, true, false, false, false, false, false, false, false, false, false, false, false, false, false, false, false] rfl rfl (one_of HT_.out (by kernel_rfl)) (by decide) (fun K hK => ?_); refine goes_ Try.func44 (by kernel_rfl) rfl #[.agg #[.string ((rd_T44 l0 x10_1).f0), .int .i64 ((rd_T44 l0 x10_1).f1), .int .i64 ((rd_T44 l0 x10_1).f2), .int .i64 ((rd_T44 l0 x10_1).f3), .int .i64 ((rd_T44 l0 x10_1).f4)]] (by rfl) rfl rfl (by (try simp only [List.map_toArray, List.map_cons, List.map_nil]); first | done | rfl | (simp only [List.length_drop, List.length_take]; rfl)) ?_
            with_reducible refine (impl_entryOk.calls k1 ((rd_T44 l0 x10_1).f0) ((rd_T44 l0 x10_1).f1) ((rd_T44 l0 x10_1).f2) ((rd_T44 l0 x10_1).f3) ((rd_T44 l0 x10_1).f4) true _ A6.out).mono ?_
            rintro e w18 ⟨rfl, hb⟩; refine ⟨_, rfl, ?_⟩; have n0_ := Aside0.mk (blk_below (g := gb206) (o := .cells #[.string ((rd_T44 l0 x10_1).f0), .int .i64 ((rd_T44 l0 x10_1).f1), .int .i64 ((rd_T44 l0 x10_1).f2), .int .i64 ((rd_T44 l0 x10_1).f3), .int .i64 ((rd_T44 l0 x10_1).f4)] 44 (0, 0)) (by (with_reducible repeat (first | refine blk_drewN ?_ _ | refine blk_drew ?_ | refine blk_alloc ?_ _)); exact BK206.out) hb); have n1_ := Aside0.mk (below_step sABelo_6 hb); clear BK206; clear HB; have BK206 := n0_; have HB := n1_; clear n0_ n1_; (try clear hb); (try clear hb2); (try clear hk); (try clear hi); refine hK.out _ _ ⟨(blk_cell BK206.out 0).trans rfl, (blk_cell BK206.out 1).trans rfl, (blk_cell BK206.out 2).trans rfl, (blk_cell BK206.out 3).trans rfl, (blk_cell BK206.out 4).trans rfl, ((HB.out.cell (World.block_lt_of_cell? w _ hw208_0)).trans hw208_0), ((HB.out.cell (World.block_lt_of_cell? w _ hw208_1)).trans hw208_1), ((HB.out.cell (World.block_lt_of_cell? w _ hw208_2)).trans hw208_2), ((HB.out.cell (World.block_lt_of_cell? w _ hw208_3)).trans hw208_3), ((HB.out.cell (World.block_lt_of_cell? w _ hw208_4)).trans hw208_4)⟩ (fun hHeld => ?_); clear hK K; refine norm_ (a' := ?_) ?_ ?_
            rotate_left
            ·show Act.put _ (some 16) _ = _
             simp only [Act.put, List.setIfInBounds_toArray, List.set_cons_zero, List.set_cons_succ, i64_w, i32_w]
             rfl
            refine pure_ (i := 2) (N := some 17) (v := ?_) (a' := ?_) #[true, true, true, false, false, false, false, false, false, false, false, false, false, false, false, false, false] rfl rfl (any_of HT_.out (by kernel_rfl)) (fun _ _ _ h => h) (Or.inl ⟨by rfl, ?_⟩) ?_ ?_
            rotate_left
            ·intro w'
             go_simp
             with_reducible rfl
            rotate_left
            ·simp only [Act.put, List.setIfInBounds_toArray, List.set_cons_zero, List.set_cons_succ, i64_w, i32_w]
             rfl
            refine pure_ (i := 3) (N := some 18) (v := ?_) (a' := ?_) #[true, true, true, true, false, false, false, false, false, false, false, false, false, false, false, false, false] rfl rfl (any_of HT_.out (by kernel_rfl)) (fun _ _ _ h => h) (Or.inl ⟨by rfl, ?_⟩) ?_ ?_
            rotate_left
            ·intro w'
             go_simp
             with_reducible rfl
            rotate_left
            ·simp only [Act.put, List.setIfInBounds_toArray, List.set_cons_zero, List.set_cons_succ, i64_w, i32_w]
             rfl
            refine pure_ (i := 4) (N := some 19) (v := ?_) (a' := ?_) #[true, true, true, true, true, false, false, false, false, false, false, false, false, false, false, false, false] rfl rfl (any_of HT_.out (by kernel_rfl)) (fun _ _ _ h => h) (Or.inl ⟨by rfl, ?_⟩) ?_ ?_
            rotate_left
            ·intro w'
             go_simp
             with_reducible rfl
            rotate_left
            ·simp only [Act.put, List.setIfInBounds_toArray, List.set_cons_zero, List.set_cons_succ, i64_w, i32_w]
             rfl
            refine pure_ (i := 5) (N := some 20) (v := ?_) (a' := ?_) #[true, true, true, true, true, true, false, false, false, false, false, false, false, false, false, false, false] rfl rfl (any_of HT_.out (by kernel_rfl)) (fun _ _ _ h => h) (Or.inl ⟨by rfl, ?_⟩) ?_ ?_
            rotate_left
            ·intro w'
             go_simp
             with_reducible rfl
            rotate_left
            ·simp only [Act.put, List.setIfInBounds_toArray, List.set_cons_zero, List.set_cons_succ, i64_w, i32_w]
             rfl
            refine pure_ (i := 6) (N := some 21) (v := ?_) (a' := ?_) #[true, true, true, true, true, true, true, false, false, false, false, false, false, false, false, false, false] rfl rfl (any_of HT_.out (by kernel_rfl)) (fun _ _ _ h => h) (Or.inl ⟨by rfl, ?_⟩) ?_ ?_
            rotate_left
            ·intro w'
             go_simp
             with_reducible rfl
            rotate_left
            ·simp only [Act.put, List.setIfInBounds_toArray, List.set_cons_zero, List.set_cons_succ, i64_w, i32_w]
             rfl
            refine pure_ (i := 7) (N := some 22) (v := ?_) (a' := ?_) #[true, true, true, true, true, true, true, true, false, false, false, false, false, false, false, false, false] rfl rfl (any_of HT_.out (by kernel_rfl)) (fun _ _ _ h => h) (Or.inl ⟨by rfl, ?_⟩) ?_ ?_
            rotate_left
            ·intro w'
             go_simp
             with_reducible rfl
            rotate_left
            ·simp only [Act.put, List.setIfInBounds_toArray, List.set_cons_zero, List.set_cons_succ, i64_w, i32_w]
             rfl
            refine pure_ (i := 8) (N := some 23) (v := ?_) (a' := ?_) #[true, true, true, true, true, true, true, true, true, false, false, false, false, false, false, false, false] rfl rfl (any_of HT_.out (by kernel_rfl)) (fun _ _ _ h => h) (Or.inl ⟨by rfl, ?_⟩) ?_ ?_
            rotate_left
            ·intro w'
             go_simp
             with_reducible rfl
            rotate_left
            ·simp only [Act.put, List.setIfInBounds_toArray, List.set_cons_zero, List.set_cons_succ, i64_w, i32_w]
             rfl
            refine pure_ (i := 9) (N := some 24) (v := ?_) (a' := ?_) #[true, true, true, true, true, true, true, true, true, true, false, false, false, false, false, false, false] rfl rfl (any_of HT_.out (by kernel_rfl)) (fun _ _ _ h => h) (Or.inl ⟨by rfl, ?_⟩) ?_ ?_
            rotate_left
            ·intro w'
             go_simp
             with_reducible rfl
            rotate_left
            ·simp only [Act.put, List.setIfInBounds_toArray, List.set_cons_zero, List.set_cons_succ, i64_w, i32_w]
             rfl
            refine pure_ (i := 10) (N := some 25) (v := ?_) (a' := ?_) #[true, true, true, true, true, true, true, true, true, true, true, false, false, false, false, false, false] rfl rfl (any_of HT_.out (by kernel_rfl)) (fun _ _ _ h => h) (Or.inl ⟨by rfl, ?_⟩) ?_ ?_
            rotate_left
            ·intro w'
             go_simp
             with_reducible rfl
            rotate_left
            ·simp only [Act.put, List.setIfInBounds_toArray, List.set_cons_zero, List.set_cons_succ, i64_w, i32_w]
             rfl
            refine take_ (i := 11) (N := some 26) (v := ?_) (a' := ?_) #[true, true, true, true, true, true, true, true, true, true, true, true, false, false, false, false, false] rfl rfl (take_ofW HT_.out HW_.out (by kernel_rfl)) (fun _ _ _ h => h) (Or.inl ⟨by rfl, ?_⟩) hHeld ?_ ?_
            rotate_left
            ·rintro w' ⟨s0, s1, s2, s3, s4, s5, s6, s7, s8, s9⟩
             go_simp
             with_reducible rfl
            rotate_left
            ·simp only [Act.put, List.setIfInBounds_toArray, List.set_cons_zero, List.set_cons_succ, i64_w, i32_w]
             rfl
            refine take_ (i := 12) (N := some 27) (v := ?_) (a' := ?_) #[true, true, true, true, true, true, true, true, true, true, true, true, true, false, false, false, false] rfl rfl (take_ofW HT_.out HW_.out (by kernel_rfl)) (fun _ _ _ h => h) (Or.inl ⟨by rfl, ?_⟩) hHeld ?_ ?_
            rotate_left
            ·rintro w' ⟨s0, s1, s2, s3, s4, s5, s6, s7, s8, s9⟩
             go_simp
             with_reducible rfl
            rotate_left
            ·simp only [Act.put, List.setIfInBounds_toArray, List.set_cons_zero, List.set_cons_succ, i64_w, i32_w]
             rfl
            refine one_ (i := 13) (N := some 28) #[true, true, true, true, true, true, true, true, true, true, true, true, true, true, false, false, false] rfl rfl (one_of HT_.out (by kernel_rfl)) (by decide) (fun K hK => ?_); refine goes_ Try.func48 (by kernel_rfl) rfl #[.agg #[.string ((rd_T44 l0 (ji9)).f0), .int .i64 ((rd_T44 l0 (ji9)).f1), .int .i64 ((rd_T44 l0 (ji9)).f2), .int .i64 ((rd_T44 l0 (ji9)).f3), .int .i64 ((rd_T44 l0 (ji9)).f4)], .agg #[.string ((rd_T44 l0 x10_1).f0), .int .i64 ((rd_T44 l0 x10_1).f1), .int .i64 ((rd_T44 l0 x10_1).f2), .int .i64 ((rd_T44 l0 x10_1).f3), .int .i64 ((rd_T44 l0 x10_1).f4)]] (by rfl) rfl rfl (by (try simp only [List.map_toArray, List.map_cons, List.map_nil]); first | done | (simp only [hji9]; rfl) | rfl | (simp only [List.length_drop, List.length_take]; rfl)) ?_
            with_reducible refine (impl_keyCompare.calls k1 ((rd_T44 l0 (ji9)).f0) ((rd_T44 l0 (ji9)).f1) ((rd_T44 l0 (ji9)).f2) ((rd_T44 l0 (ji9)).f3) ((rd_T44 l0 (ji9)).f4) ((rd_T44 l0 x10_1).f0) ((rd_T44 l0 x10_1).f1) ((rd_T44 l0 x10_1).f2) ((rd_T44 l0 x10_1).f3) ((rd_T44 l0 x10_1).f4) t209 _ A12.out).mono ?_
            rintro e w19 ⟨rfl, hb⟩; refine ⟨_, rfl, ?_⟩; have n0_ := Aside0.mk (blk_below (g := gb206) (o := .cells #[.string ((rd_T44 l0 x10_1).f0), .int .i64 ((rd_T44 l0 x10_1).f1), .int .i64 ((rd_T44 l0 x10_1).f2), .int .i64 ((rd_T44 l0 x10_1).f3), .int .i64 ((rd_T44 l0 x10_1).f4)] 44 (0, 0)) (by (with_reducible repeat (first | refine blk_drewN ?_ _ | refine blk_drew ?_ | refine blk_alloc ?_ _)); exact BK206.out) hb); have n1_ := Aside0.mk (below_step sABelo_6 hb); clear BK206; clear HB; have BK206 := n0_; have HB := n1_; clear n0_ n1_; (try clear hb); (try clear hb2); (try clear hk); (try clear hi); refine hK.out _ _ ⟨(blk_cell BK206.out 0).trans rfl, (blk_cell BK206.out 1).trans rfl, (blk_cell BK206.out 2).trans rfl, (blk_cell BK206.out 3).trans rfl, (blk_cell BK206.out 4).trans rfl, ((HB.out.cell (World.block_lt_of_cell? w _ hw208_0)).trans hw208_0), ((HB.out.cell (World.block_lt_of_cell? w _ hw208_1)).trans hw208_1), ((HB.out.cell (World.block_lt_of_cell? w _ hw208_2)).trans hw208_2), ((HB.out.cell (World.block_lt_of_cell? w _ hw208_3)).trans hw208_3), ((HB.out.cell (World.block_lt_of_cell? w _ hw208_4)).trans hw208_4)⟩ (fun hHeld => ?_); clear hK K; refine norm_ (a' := ?_) ?_ ?_
            rotate_left
            ·show Act.put _ (some 28) _ = _
             simp only [Act.put, List.setIfInBounds_toArray, List.set_cons_zero, List.set_cons_succ, i64_w, i32_w]
             rfl
            refine pure_ (i := 14) (N := some 29) (v := ?_) (a' := ?_) #[true, true, true, true, true, true, true, true, true, true, true, true, true, true, true, false, false] rfl rfl (any_of HT_.out (by kernel_rfl)) (fun _ _ _ h => h) (Or.inl ⟨by rfl, ?_⟩) ?_ ?_
            rotate_left
            ·intro w'
             go_simp
             with_reducible rfl
            rotate_left
            ·simp only [Act.put, List.setIfInBounds_toArray, List.set_cons_zero, List.set_cons_succ, i64_w, i32_w]
             rfl
            refine pure_ (i := 15) (N := some 30) (v := ?_) (a' := ?_) #[true, true, true, true, true, true, true, true, true, true, true, true, true, true, true, true, false] rfl rfl (any_of HT_.out (by kernel_rfl)) (fun _ _ _ h => h) (Or.inl ⟨by rfl, ?_⟩) ?_ ?_
            rotate_left
            ·intro w'
             go_simp
             with_reducible rfl
            rotate_left
            ·simp only [Act.put, List.setIfInBounds_toArray, List.set_cons_zero, List.set_cons_succ, i64_w, i32_w]
             rfl
            refine pure_ (i := 16) (N := some 31) (v := ?_) (a' := ?_) #[true, true, true, true, true, true, true, true, true, true, true, true, true, true, true, true, true] rfl rfl (any_of HT_.out (by kernel_rfl)) (fun _ _ _ h => h) (Or.inl ⟨by rfl, ?_⟩) ?_ ?_
            rotate_left
            ·intro w'
             go_simp
             with_reducible rfl
            rotate_left
            ·simp only [Act.put, List.setIfInBounds_toArray, List.set_cons_zero, List.set_cons_succ, i64_w, i32_w]
             rfl
            refine done_ (done_of HT_.out (by kernel_rfl)) ?_
            try go_wp2
            go_ret; exact ⟨by first | rfl | (simp [errW_none, errW_some] <;> rfl) | (simp only [← hji9]; first | rfl | (simp [errW_none, errW_some] <;> rfl)) | (simp [*, errW_none, errW_some] <;> rfl), sABelo_6⟩
           ·rw [if_neg c13] at H; have c13b0 : decide (0 ≤ t209) = false := decide_eq_false c13; clear c13; have H' := Aside0.mk H; clear H; have p205 : 0 ≤ (x10_1 : Int) := of_decide_eq_true (by first | (with_reducible assumption) | assumption); have q205 : x10_1 < (l0.length : Int) := of_decide_eq_true (by first | (with_reducible assumption) | assumption); obtain ⟨ad205, e205, hx205_0, hx205_1, hx205_2, hx205_3, hx205_4⟩ := at_T44 HR0.out x10_1 p205 q205
            cases e205
            replace hx205_0 := (HB.out.cell (World.block_lt_of_cell? w _ hx205_0)).trans hx205_0; replace hx205_1 := (HB.out.cell (World.block_lt_of_cell? w _ hx205_1)).trans hx205_1; replace hx205_2 := (HB.out.cell (World.block_lt_of_cell? w _ hx205_2)).trans hx205_2; replace hx205_3 := (HB.out.cell (World.block_lt_of_cell? w _ hx205_3)).trans hx205_3; replace hx205_4 := (HB.out.cell (World.block_lt_of_cell? w _ hx205_4)).trans hx205_4; replace p205 := eq_true p205; replace q205 := eq_true q205
            try go_wp2_with (first | ((with_reducible refine gate_dst (N := 4) rfl ?_); refine box_event ?hg (N := 4) ?hd (cs := #[.string (⟨#[]⟩ : ByteArray), .int .i64 0, .int .i64 0, .int .i64 0, .int .i64 0]) (t := 44) ?hr ?_; (case hd => rfl); (case hg => rfl); (case hr => first | (go_simp; done) | (go_simp; rfl)); intro gb206 hg w20 hbox hb; have n0_ := Aside0.mk (below_step sABelo_6 hb); have n1_ := Aside0.mk (hbox); have n2_ := Aside0.mk ((by rw [hg]; exact (below_size sABelo_6) : w.heap.size ≤ gb206)); have n3_ := Aside0.mk ((by rw [hg]; exact (below_size sABelo_6) : w.heap.size ≤ gb206)); clear HB; have HB := n0_; have BK206 := n1_; have GW206 := n2_; have GE206 := n3_; clear n0_ n1_ n2_ n3_; clear hb hbox hg; have hcz21_0 : w20.cell? ⟨gb206, 0, none⟩ = some (.string (⟨#[]⟩ : ByteArray)) := (blk_cell BK206.out 0).trans rfl; have hcz21_1 : w20.cell? ⟨gb206, 1, none⟩ = some (.int .i64 0) := (blk_cell BK206.out 1).trans rfl; have hcz21_2 : w20.cell? ⟨gb206, 2, none⟩ = some (.int .i64 0) := (blk_cell BK206.out 2).trans rfl; have hcz21_3 : w20.cell? ⟨gb206, 3, none⟩ = some (.int .i64 0) := (blk_cell BK206.out 3).trans rfl; have hcz21_4 : w20.cell? ⟨gb206, 4, none⟩ = some (.int .i64 0) := (blk_cell BK206.out 4).trans rfl; have hfz21_0 := blk_frozen BK206.out 0; have hfz21_1 := blk_frozen BK206.out 1; have hfz21_2 := blk_frozen BK206.out 2; have hfz21_3 := blk_frozen BK206.out 3; have hfz21_4 := blk_frozen BK206.out 4))
            have n0_ : Aside0 ((((((w20.setCell ⟨gb206, 0, none⟩ (.string ((rd_T44 l0 x10_1).f0))).setCell ⟨gb206, 1, none⟩ (.int .i64 ((rd_T44 l0 x10_1).f1))).setCell ⟨gb206, 2, none⟩ (.int .i64 ((rd_T44 l0 x10_1).f2))).setCell ⟨gb206, 3, none⟩ (.int .i64 ((rd_T44 l0 x10_1).f3))).setCell ⟨gb206, 4, none⟩ (.int .i64 ((rd_T44 l0 x10_1).f4))).heap[gb206]? = some (.cells #[.string ((rd_T44 l0 x10_1).f0), .int .i64 ((rd_T44 l0 x10_1).f1), .int .i64 ((rd_T44 l0 x10_1).f2), .int .i64 ((rd_T44 l0 x10_1).f3), .int .i64 ((rd_T44 l0 x10_1).f4)] 44 (0, 0))) := ⟨by (with_reducible repeat (first | refine blk_drewN ?_ _ | refine blk_drew ?_ | refine blk_alloc ?_ _)); refine blk_put (cs := #[.string ((rd_T44 l0 x10_1).f0), .int .i64 ((rd_T44 l0 x10_1).f1), .int .i64 ((rd_T44 l0 x10_1).f2), .int .i64 ((rd_T44 l0 x10_1).f3), .int .i64 0]) ?_ 4 _ rfl; (with_reducible repeat (first | refine blk_drewN ?_ _ | refine blk_drew ?_ | refine blk_alloc ?_ _)); refine blk_put (cs := #[.string ((rd_T44 l0 x10_1).f0), .int .i64 ((rd_T44 l0 x10_1).f1), .int .i64 ((rd_T44 l0 x10_1).f2), .int .i64 0, .int .i64 0]) ?_ 3 _ rfl; (with_reducible repeat (first | refine blk_drewN ?_ _ | refine blk_drew ?_ | refine blk_alloc ?_ _)); refine blk_put (cs := #[.string ((rd_T44 l0 x10_1).f0), .int .i64 ((rd_T44 l0 x10_1).f1), .int .i64 0, .int .i64 0, .int .i64 0]) ?_ 2 _ rfl; (with_reducible repeat (first | refine blk_drewN ?_ _ | refine blk_drew ?_ | refine blk_alloc ?_ _)); refine blk_put (cs := #[.string ((rd_T44 l0 x10_1).f0), .int .i64 0, .int .i64 0, .int .i64 0, .int .i64 0]) ?_ 1 _ rfl; (with_reducible repeat (first | refine blk_drewN ?_ _ | refine blk_drew ?_ | refine blk_alloc ?_ _)); refine blk_put (cs := #[.string (⟨#[]⟩ : ByteArray), .int .i64 0, .int .i64 0, .int .i64 0, .int .i64 0]) ?_ 0 _ rfl; (with_reducible repeat (first | refine blk_drewN ?_ _ | refine blk_drew ?_ | refine blk_alloc ?_ _)); exact BK206.out⟩; have n1_ : Aside0 (Below w.heap.size w (((((w20.setCell ⟨gb206, 0, none⟩ (.string ((rd_T44 l0 x10_1).f0))).setCell ⟨gb206, 1, none⟩ (.int .i64 ((rd_T44 l0 x10_1).f1))).setCell ⟨gb206, 2, none⟩ (.int .i64 ((rd_T44 l0 x10_1).f2))).setCell ⟨gb206, 3, none⟩ (.int .i64 ((rd_T44 l0 x10_1).f3))).setCell ⟨gb206, 4, none⟩ (.int .i64 ((rd_T44 l0 x10_1).f4)))) := ⟨sABelo_6⟩; (try clear BK206); (try clear HB)
            generalize (((((w20.setCell ⟨gb206, 0, none⟩ (.string ((rd_T44 l0 x10_1).f0))).setCell ⟨gb206, 1, none⟩ (.int .i64 ((rd_T44 l0 x10_1).f1))).setCell ⟨gb206, 2, none⟩ (.int .i64 ((rd_T44 l0 x10_1).f2))).setCell ⟨gb206, 3, none⟩ (.int .i64 ((rd_T44 l0 x10_1).f3))).setCell ⟨gb206, 4, none⟩ (.int .i64 ((rd_T44 l0 x10_1).f4))) = w22 at n0_ n1_ ⊢
            have BK206 := n0_; have HB := n1_; clear n0_ n1_; have n0_ := Aside0.mk (blk_drew BK206.out); have n1_ := Aside0.mk (below_drew1 HB.out); clear BK206; clear HB; have BK206 := n0_; have HB := n1_; clear n0_ n1_; have p208 : 0 ≤ ((ji9) : Int) := of_decide_eq_true (by first | (with_reducible assumption) | assumption); have q208 : (ji9) < (l0.length : Int) := of_decide_eq_true (by first | (with_reducible assumption) | assumption); obtain ⟨ad208, e208, hx208_0, hx208_1, hx208_2, hx208_3, hx208_4⟩ := at_T44 HR0.out (ji9) p208 q208; have hw208_4 := hx208_4; have hw208_3 := hx208_3; have hw208_2 := hx208_2; have hw208_1 := hx208_1; have hw208_0 := hx208_0; obtain rfl : ad205 = ad208 := (by injection e208); replace hx208_0 := (HB.out.cell (World.block_lt_of_cell? w _ hx208_0)).trans hx208_0; replace hx208_1 := (HB.out.cell (World.block_lt_of_cell? w _ hx208_1)).trans hx208_1; replace hx208_2 := (HB.out.cell (World.block_lt_of_cell? w _ hx208_2)).trans hx208_2; replace hx208_3 := (HB.out.cell (World.block_lt_of_cell? w _ hx208_3)).trans hx208_3; replace hx208_4 := (HB.out.cell (World.block_lt_of_cell? w _ hx208_4)).trans hx208_4; replace p208 := eq_true p208; replace q208 := eq_true q208; refine start_ (n := 17) (S := fun w' => w'.cell? ⟨gb206, 0, none⟩ = some (.string ((rd_T44 l0 x10_1).f0)) ∧ w'.cell? ⟨gb206, 1, none⟩ = some (.int .i64 ((rd_T44 l0 x10_1).f1)) ∧ w'.cell? ⟨gb206, 2, none⟩ = some (.int .i64 ((rd_T44 l0 x10_1).f2)) ∧ w'.cell? ⟨gb206, 3, none⟩ = some (.int .i64 ((rd_T44 l0 x10_1).f3)) ∧ w'.cell? ⟨gb206, 4, none⟩ = some (.int .i64 ((rd_T44 l0 x10_1).f4)) ∧ w'.cell? (ad205.add (((ji9)).toNat * 5)) = some (.string ((rd_T44 l0 (ji9)).f0)) ∧ w'.cell? ⟨(ad205.add (((ji9)).toNat * 5)).block, (ad205.add (((ji9)).toNat * 5)).off + 1, none⟩ = some (.int .i64 ((rd_T44 l0 (ji9)).f1)) ∧ w'.cell? ⟨(ad205.add (((ji9)).toNat * 5)).block, (ad205.add (((ji9)).toNat * 5)).off + 2, none⟩ = some (.int .i64 ((rd_T44 l0 (ji9)).f2)) ∧ w'.cell? ⟨(ad205.add (((ji9)).toNat * 5)).block, (ad205.add (((ji9)).toNat * 5)).off + 3, none⟩ = some (.int .i64 ((rd_T44 l0 (ji9)).f3)) ∧ w'.cell? ⟨(ad205.add (((ji9)).toNat * 5)).block, (ad205.add (((ji9)).toNat * 5)).off + 4, none⟩ = some (.int .i64 ((rd_T44 l0 (ji9)).f4))) (ds := []) #[false, false, false, false, false, false, false, false, false, false, false, false, false, false, false, false, false] (by kernel_rfl) rfl rfl ⟨(blk_cell BK206.out 0).trans rfl, (blk_cell BK206.out 1).trans rfl, (blk_cell BK206.out 2).trans rfl, (blk_cell BK206.out 3).trans rfl, (blk_cell BK206.out 4).trans rfl, ((HB.out.cell (World.block_lt_of_cell? w _ hw208_0)).trans hw208_0), ((HB.out.cell (World.block_lt_of_cell? w _ hw208_1)).trans hw208_1), ((HB.out.cell (World.block_lt_of_cell? w _ hw208_2)).trans hw208_2), ((HB.out.cell (World.block_lt_of_cell? w _ hw208_3)).trans hw208_3), ((HB.out.cell (World.block_lt_of_cell? w _ hw208_4)).trans hw208_4)⟩ (fun hHeld => ?_); refine with_tabW impl_archiveOk.tab6 impl_archiveOk.bits6 (fun HT_ HW_ => ?_)
            generalize w22.drew = w23 at BK206 HB hx208_0 hx208_1 hx208_2 hx208_3 hx208_4 hHeld ⊢
            refine take_ (i := 0) (N := some 15) (v := ?_) (a' := ?_) #[true, false, false, false, false, false, false, false, false, false, false, false, false, false, false, false, false] rfl rfl (take_ofW HT_.out HW_.out (by kernel_rfl)) (fun _ _ _ h => h) (Or.inl ⟨by rfl, ?_⟩) hHeld ?_ ?_
            rotate_left
            ·rintro w' ⟨s0, s1, s2, s3, s4, s5, s6, s7, s8, s9⟩
             go_simp
             with_reducible rfl
            rotate_left
            ·simp only [Act.put, List.setIfInBounds_toArray, List.set_cons_zero, List.set_cons_succ, i64_w, i32_w]
             rfl
            refine one_ (i := 1) (N := some 16) #[true, true, false, false, false, false, false, false, false, false, false, false, false, false, false, false, false] rfl rfl (one_of HT_.out (by kernel_rfl)) (by decide) (fun K hK => ?_); refine goes_ Try.func44 (by kernel_rfl) rfl #[.agg #[.string ((rd_T44 l0 x10_1).f0), .int .i64 ((rd_T44 l0 x10_1).f1), .int .i64 ((rd_T44 l0 x10_1).f2), .int .i64 ((rd_T44 l0 x10_1).f3), .int .i64 ((rd_T44 l0 x10_1).f4)]] (by rfl) rfl rfl (by (try simp only [List.map_toArray, List.map_cons, List.map_nil]); first | done | rfl | (simp only [List.length_drop, List.length_take]; rfl)) ?_
            with_reducible refine (impl_entryOk.calls k1 ((rd_T44 l0 x10_1).f0) ((rd_T44 l0 x10_1).f1) ((rd_T44 l0 x10_1).f2) ((rd_T44 l0 x10_1).f3) ((rd_T44 l0 x10_1).f4) true _ A6.out).mono ?_
            rintro e w24 ⟨rfl, hb⟩; refine ⟨_, rfl, ?_⟩; have n0_ := Aside0.mk (blk_below (g := gb206) (o := .cells #[.string ((rd_T44 l0 x10_1).f0), .int .i64 ((rd_T44 l0 x10_1).f1), .int .i64 ((rd_T44 l0 x10_1).f2), .int .i64 ((rd_T44 l0 x10_1).f3), .int .i64 ((rd_T44 l0 x10_1).f4)] 44 (0, 0)) (by (with_reducible repeat (first | refine blk_drewN ?_ _ | refine blk_drew ?_ | refine blk_alloc ?_ _)); exact BK206.out) hb); have n1_ := Aside0.mk (below_step sABelo_6 hb); clear BK206; clear HB; have BK206 := n0_; have HB := n1_; clear n0_ n1_; (try clear hb); (try clear hb2); (try clear hk); (try clear hi); refine hK.out _ _ ⟨(blk_cell BK206.out 0).trans rfl, (blk_cell BK206.out 1).trans rfl, (blk_cell BK206.out 2).trans rfl, (blk_cell BK206.out 3).trans rfl, (blk_cell BK206.out 4).trans rfl, ((HB.out.cell (World.block_lt_of_cell? w _ hw208_0)).trans hw208_0), ((HB.out.cell (World.block_lt_of_cell? w _ hw208_1)).trans hw208_1), ((HB.out.cell (World.block_lt_of_cell? w _ hw208_2)).trans hw208_2), ((HB.out.cell (World.block_lt_of_cell? w _ hw208_3)).trans hw208_3), ((HB.out.cell (World.block_lt_of_cell? w _ hw208_4)).trans hw208_4)⟩ (fun hHeld => ?_); clear hK K; refine norm_ (a' := ?_) ?_ ?_
            rotate_left
            ·show Act.put _ (some 16) _ = _
             simp only [Act.put, List.setIfInBounds_toArray, List.set_cons_zero, List.set_cons_succ, i64_w, i32_w]
             rfl
            refine pure_ (i := 2) (N := some 17) (v := ?_) (a' := ?_) #[true, true, true, false, false, false, false, false, false, false, false, false, false, false, false, false, false] rfl rfl (any_of HT_.out (by kernel_rfl)) (fun _ _ _ h => h) (Or.inl ⟨by rfl, ?_⟩) ?_ ?_
            rotate_left
            ·intro w'
             go_simp
             with_reducible rfl
            rotate_left
            ·simp only [Act.put, List.setIfInBounds_toArray, List.set_cons_zero, List.set_cons_succ, i64_w, i32_w]
             rfl
            refine pure_ (i := 3) (N := some 18) (v := ?_) (a' := ?_) #[true, true, true, true, false, false, false, false, false, false, false, false, false, false, false, false, false] rfl rfl (any_of HT_.out (by kernel_rfl)) (fun _ _ _ h => h) (Or.inl ⟨by rfl, ?_⟩) ?_ ?_
            rotate_left
            ·intro w'
             go_simp
             with_reducible rfl
            rotate_left
            ·simp only [Act.put, List.setIfInBounds_toArray, List.set_cons_zero, List.set_cons_succ, i64_w, i32_w]
             rfl
            refine pure_ (i := 4) (N := some 19) (v := ?_) (a' := ?_) #[true, true, true, true, true, false, false, false, false, false, false, false, false, false, false, false, false] rfl rfl (any_of HT_.out (by kernel_rfl)) (fun _ _ _ h => h) (Or.inl ⟨by rfl, ?_⟩) ?_ ?_
            rotate_left
            ·intro w'
             go_simp
             with_reducible rfl
            rotate_left
            ·simp only [Act.put, List.setIfInBounds_toArray, List.set_cons_zero, List.set_cons_succ, i64_w, i32_w]
             rfl
            refine pure_ (i := 5) (N := some 20) (v := ?_) (a' := ?_) #[true, true, true, true, true, true, false, false, false, false, false, false, false, false, false, false, false] rfl rfl (any_of HT_.out (by kernel_rfl)) (fun _ _ _ h => h) (Or.inl ⟨by rfl, ?_⟩) ?_ ?_
            rotate_left
            ·intro w'
             go_simp
             with_reducible rfl
            rotate_left
            ·simp only [Act.put, List.setIfInBounds_toArray, List.set_cons_zero, List.set_cons_succ, i64_w, i32_w]
             rfl
            refine pure_ (i := 6) (N := some 21) (v := ?_) (a' := ?_) #[true, true, true, true, true, true, true, false, false, false, false, false, false, false, false, false, false] rfl rfl (any_of HT_.out (by kernel_rfl)) (fun _ _ _ h => h) (Or.inl ⟨by rfl, ?_⟩) ?_ ?_
            rotate_left
            ·intro w'
             go_simp
             with_reducible rfl
            rotate_left
            ·simp only [Act.put, List.setIfInBounds_toArray, List.set_cons_zero, List.set_cons_succ, i64_w, i32_w]
             rfl
            refine pure_ (i := 7) (N := some 22) (v := ?_) (a' := ?_) #[true, true, true, true, true, true, true, true, false, false, false, false, false, false, false, false, false] rfl rfl (any_of HT_.out (by kernel_rfl)) (fun _ _ _ h => h) (Or.inl ⟨by rfl, ?_⟩) ?_ ?_
            rotate_left
            ·intro w'
             go_simp
             with_reducible rfl
            rotate_left
            ·simp only [Act.put, List.setIfInBounds_toArray, List.set_cons_zero, List.set_cons_succ, i64_w, i32_w]
             rfl
            refine pure_ (i := 8) (N := some 23) (v := ?_) (a' := ?_) #[true, true, true, true, true, true, true, true, true, false, false, false, false, false, false, false, false] rfl rfl (any_of HT_.out (by kernel_rfl)) (fun _ _ _ h => h) (Or.inl ⟨by rfl, ?_⟩) ?_ ?_
            rotate_left
            ·intro w'
             go_simp
             with_reducible rfl
            rotate_left
            ·simp only [Act.put, List.setIfInBounds_toArray, List.set_cons_zero, List.set_cons_succ, i64_w, i32_w]
             rfl
            refine pure_ (i := 9) (N := some 24) (v := ?_) (a' := ?_) #[true, true, true, true, true, true, true, true, true, true, false, false, false, false, false, false, false] rfl rfl (any_of HT_.out (by kernel_rfl)) (fun _ _ _ h => h) (Or.inl ⟨by rfl, ?_⟩) ?_ ?_
            rotate_left
            ·intro w'
             go_simp
             with_reducible rfl
            rotate_left
            ·simp only [Act.put, List.setIfInBounds_toArray, List.set_cons_zero, List.set_cons_succ, i64_w, i32_w]
             rfl
            refine pure_ (i := 10) (N := some 25) (v := ?_) (a' := ?_) #[true, true, true, true, true, true, true, true, true, true, true, false, false, false, false, false, false] rfl rfl (any_of HT_.out (by kernel_rfl)) (fun _ _ _ h => h) (Or.inl ⟨by rfl, ?_⟩) ?_ ?_
            rotate_left
            ·intro w'
             go_simp
             with_reducible rfl
            rotate_left
            ·simp only [Act.put, List.setIfInBounds_toArray, List.set_cons_zero, List.set_cons_succ, i64_w, i32_w]
             rfl
            refine take_ (i := 11) (N := some 26) (v := ?_) (a' := ?_) #[true, true, true, true, true, true, true, true, true, true, true, true, false, false, false, false, false] rfl rfl (take_ofW HT_.out HW_.out (by kernel_rfl)) (fun _ _ _ h => h) (Or.inl ⟨by rfl, ?_⟩) hHeld ?_ ?_
            rotate_left
            ·rintro w' ⟨s0, s1, s2, s3, s4, s5, s6, s7, s8, s9⟩
             go_simp
             with_reducible rfl
            rotate_left
            ·simp only [Act.put, List.setIfInBounds_toArray, List.set_cons_zero, List.set_cons_succ, i64_w, i32_w]
             rfl
            refine take_ (i := 12) (N := some 27) (v := ?_) (a' := ?_) #[true, true, true, true, true, true, true, true, true, true, true, true, true, false, false, false, false] rfl rfl (take_ofW HT_.out HW_.out (by kernel_rfl)) (fun _ _ _ h => h) (Or.inl ⟨by rfl, ?_⟩) hHeld ?_ ?_
            rotate_left
            ·rintro w' ⟨s0, s1, s2, s3, s4, s5, s6, s7, s8, s9⟩
             go_simp
             with_reducible rfl
            rotate_left
            ·simp only [Act.put, List.setIfInBounds_toArray, List.set_cons_zero, List.set_cons_succ, i64_w, i32_w]
             rfl
            refine one_ (i := 13) (N := some 28) #[true, true, true, true, true, true, true, true, true, true, true, true, true, true, false, false, false] rfl rfl (one_of HT_.out (by kernel_rfl)) (by decide) (fun K hK => ?_); refine goes_ Try.func48 (by kernel_rfl) rfl #[.agg #[.string ((rd_T44 l0 (ji9)).f0), .int .i64 ((rd_T44 l0 (ji9)).f1), .int .i64 ((rd_T44 l0 (ji9)).f2), .int .i64 ((rd_T44 l0 (ji9)).f3), .int .i64 ((rd_T44 l0 (ji9)).f4)], .agg #[.string ((rd_T44 l0 x10_1).f0), .int .i64 ((rd_T44 l0 x10_1).f1), .int .i64 ((rd_T44 l0 x10_1).f2), .int .i64 ((rd_T44 l0 x10_1).f3), .int .i64 ((rd_T44 l0 x10_1).f4)]] (by rfl) rfl rfl (by (try simp only [List.map_toArray, List.map_cons, List.map_nil]); first | done | (simp only [hji9]; rfl) | rfl | (simp only [List.length_drop, List.length_take]; rfl)) ?_
            with_reducible refine (impl_keyCompare.calls k1 ((rd_T44 l0 (ji9)).f0) ((rd_T44 l0 (ji9)).f1) ((rd_T44 l0 (ji9)).f2) ((rd_T44 l0 (ji9)).f3) ((rd_T44 l0 (ji9)).f4) ((rd_T44 l0 x10_1).f0) ((rd_T44 l0 x10_1).f1) ((rd_T44 l0 x10_1).f2) ((rd_T44 l0 x10_1).f3) ((rd_T44 l0 x10_1).f4) t209 _ A12.out).mono ?_
            rintro e w25 ⟨rfl, hb⟩; refine ⟨_, rfl, ?_⟩; have n0_ := Aside0.mk (blk_below (g := gb206) (o := .cells #[.string ((rd_T44 l0 x10_1).f0), .int .i64 ((rd_T44 l0 x10_1).f1), .int .i64 ((rd_T44 l0 x10_1).f2), .int .i64 ((rd_T44 l0 x10_1).f3), .int .i64 ((rd_T44 l0 x10_1).f4)] 44 (0, 0)) (by (with_reducible repeat (first | refine blk_drewN ?_ _ | refine blk_drew ?_ | refine blk_alloc ?_ _)); exact BK206.out) hb); have n1_ := Aside0.mk (below_step sABelo_6 hb); clear BK206; clear HB; have BK206 := n0_; have HB := n1_; clear n0_ n1_; (try clear hb); (try clear hb2); (try clear hk); (try clear hi); refine hK.out _ _ ⟨(blk_cell BK206.out 0).trans rfl, (blk_cell BK206.out 1).trans rfl, (blk_cell BK206.out 2).trans rfl, (blk_cell BK206.out 3).trans rfl, (blk_cell BK206.out 4).trans rfl, ((HB.out.cell (World.block_lt_of_cell? w _ hw208_0)).trans hw208_0), ((HB.out.cell (World.block_lt_of_cell? w _ hw208_1)).trans hw208_1), ((HB.out.cell (World.block_lt_of_cell? w _ hw208_2)).trans hw208_2), ((HB.out.cell (World.block_lt_of_cell? w _ hw208_3)).trans hw208_3), ((HB.out.cell (World.block_lt_of_cell? w _ hw208_4)).trans hw208_4)⟩ (fun hHeld => ?_); clear hK K; refine norm_ (a' := ?_) ?_ ?_
            rotate_left
            ·show Act.put _ (some 28) _ = _
             simp only [Act.put, List.setIfInBounds_toArray, List.set_cons_zero, List.set_cons_succ, i64_w, i32_w]
             rfl
            refine pure_ (i := 14) (N := some 29) (v := ?_) (a' := ?_) #[true, true, true, true, true, true, true, true, true, true, true, true, true, true, true, false, false] rfl rfl (any_of HT_.out (by kernel_rfl)) (fun _ _ _ h => h) (Or.inl ⟨by rfl, ?_⟩) ?_ ?_
            rotate_left
            ·intro w'
             go_simp
             with_reducible rfl
            rotate_left
            ·simp only [Act.put, List.setIfInBounds_toArray, List.set_cons_zero, List.set_cons_succ, i64_w, i32_w]
             rfl
            refine pure_ (i := 15) (N := some 30) (v := ?_) (a' := ?_) #[true, true, true, true, true, true, true, true, true, true, true, true, true, true, true, true, false] rfl rfl (any_of HT_.out (by kernel_rfl)) (fun _ _ _ h => h) (Or.inl ⟨by rfl, ?_⟩) ?_ ?_
            rotate_left
            ·intro w'
             go_simp
             with_reducible rfl
            rotate_left
            ·simp only [Act.put, List.setIfInBounds_toArray, List.set_cons_zero, List.set_cons_succ, i64_w, i32_w]
             rfl
            refine pure_ (i := 16) (N := some 31) (v := ?_) (a' := ?_) #[true, true, true, true, true, true, true, true, true, true, true, true, true, true, true, true, true] rfl rfl (any_of HT_.out (by kernel_rfl)) (fun _ _ _ h => h) (Or.inl ⟨by rfl, ?_⟩) ?_ ?_
            rotate_left
            ·intro w'
             go_simp
             with_reducible rfl
            rotate_left
            ·simp only [Act.put, List.setIfInBounds_toArray, List.set_cons_zero, List.set_cons_succ, i64_w, i32_w]
             rfl
            refine done_ (done_of HT_.out (by kernel_rfl)) ?_
            try go_wp2
            go_roundg k1
            case measure => have := HK1.out; omega
            case rel => exact ⟨(wrap64 (x10_1 + 1)), (by first | rfl | (simp; done) | (simp [*]; done)), H', ⟨by have := HK1.out; omega⟩, ⟨sABelo_6⟩⟩
          ·rw [if_neg c11] at H; exact absurd H (by simp)
         ·rw [if_neg c10] at H; exact absurd H (by simp)
        ·rw [if_neg c8] at H; have c8b0 : decide (0 < x10_1) = false := decide_eq_false c8; clear c8; have H' := Aside0.mk H; clear H; have p205 : 0 ≤ (x10_1 : Int) := of_decide_eq_true (by first | (with_reducible assumption) | assumption); have q205 : x10_1 < (l0.length : Int) := of_decide_eq_true (by first | (with_reducible assumption) | assumption); obtain ⟨ad205, e205, hx205_0, hx205_1, hx205_2, hx205_3, hx205_4⟩ := at_T44 HR0.out x10_1 p205 q205
         cases e205
         replace hx205_0 := (HB.out.cell (World.block_lt_of_cell? w _ hx205_0)).trans hx205_0; replace hx205_1 := (HB.out.cell (World.block_lt_of_cell? w _ hx205_1)).trans hx205_1; replace hx205_2 := (HB.out.cell (World.block_lt_of_cell? w _ hx205_2)).trans hx205_2; replace hx205_3 := (HB.out.cell (World.block_lt_of_cell? w _ hx205_3)).trans hx205_3; replace hx205_4 := (HB.out.cell (World.block_lt_of_cell? w _ hx205_4)).trans hx205_4; replace p205 := eq_true p205; replace q205 := eq_true q205
         try go_wp2_with (first | ((with_reducible refine gate_dst (N := 4) rfl ?_); refine box_event ?hg (N := 4) ?hd (cs := #[.string (⟨#[]⟩ : ByteArray), .int .i64 0, .int .i64 0, .int .i64 0, .int .i64 0]) (t := 44) ?hr ?_; (case hd => rfl); (case hg => rfl); (case hr => first | (go_simp; done) | (go_simp; rfl)); intro gb206 hg w26 hbox hb; have n0_ := Aside0.mk (below_step sABelo_6 hb); have n1_ := Aside0.mk (hbox); have n2_ := Aside0.mk ((by rw [hg]; exact (below_size sABelo_6) : w.heap.size ≤ gb206)); have n3_ := Aside0.mk ((by rw [hg]; exact (below_size sABelo_6) : w.heap.size ≤ gb206)); clear HB; have HB := n0_; have BK206 := n1_; have GW206 := n2_; have GE206 := n3_; clear n0_ n1_ n2_ n3_; clear hb hbox hg; have hcz27_0 : w26.cell? ⟨gb206, 0, none⟩ = some (.string (⟨#[]⟩ : ByteArray)) := (blk_cell BK206.out 0).trans rfl; have hcz27_1 : w26.cell? ⟨gb206, 1, none⟩ = some (.int .i64 0) := (blk_cell BK206.out 1).trans rfl; have hcz27_2 : w26.cell? ⟨gb206, 2, none⟩ = some (.int .i64 0) := (blk_cell BK206.out 2).trans rfl; have hcz27_3 : w26.cell? ⟨gb206, 3, none⟩ = some (.int .i64 0) := (blk_cell BK206.out 3).trans rfl; have hcz27_4 : w26.cell? ⟨gb206, 4, none⟩ = some (.int .i64 0) := (blk_cell BK206.out 4).trans rfl; have hfz27_0 := blk_frozen BK206.out 0; have hfz27_1 := blk_frozen BK206.out 1; have hfz27_2 := blk_frozen BK206.out 2; have hfz27_3 := blk_frozen BK206.out 3; have hfz27_4 := blk_frozen BK206.out 4))
         have n0_ : Aside0 ((((((w26.setCell ⟨gb206, 0, none⟩ (.string ((rd_T44 l0 x10_1).f0))).setCell ⟨gb206, 1, none⟩ (.int .i64 ((rd_T44 l0 x10_1).f1))).setCell ⟨gb206, 2, none⟩ (.int .i64 ((rd_T44 l0 x10_1).f2))).setCell ⟨gb206, 3, none⟩ (.int .i64 ((rd_T44 l0 x10_1).f3))).setCell ⟨gb206, 4, none⟩ (.int .i64 ((rd_T44 l0 x10_1).f4))).heap[gb206]? = some (.cells #[.string ((rd_T44 l0 x10_1).f0), .int .i64 ((rd_T44 l0 x10_1).f1), .int .i64 ((rd_T44 l0 x10_1).f2), .int .i64 ((rd_T44 l0 x10_1).f3), .int .i64 ((rd_T44 l0 x10_1).f4)] 44 (0, 0))) := ⟨by (with_reducible repeat (first | refine blk_drewN ?_ _ | refine blk_drew ?_ | refine blk_alloc ?_ _)); refine blk_put (cs := #[.string ((rd_T44 l0 x10_1).f0), .int .i64 ((rd_T44 l0 x10_1).f1), .int .i64 ((rd_T44 l0 x10_1).f2), .int .i64 ((rd_T44 l0 x10_1).f3), .int .i64 0]) ?_ 4 _ rfl; (with_reducible repeat (first | refine blk_drewN ?_ _ | refine blk_drew ?_ | refine blk_alloc ?_ _)); refine blk_put (cs := #[.string ((rd_T44 l0 x10_1).f0), .int .i64 ((rd_T44 l0 x10_1).f1), .int .i64 ((rd_T44 l0 x10_1).f2), .int .i64 0, .int .i64 0]) ?_ 3 _ rfl; (with_reducible repeat (first | refine blk_drewN ?_ _ | refine blk_drew ?_ | refine blk_alloc ?_ _)); refine blk_put (cs := #[.string ((rd_T44 l0 x10_1).f0), .int .i64 ((rd_T44 l0 x10_1).f1), .int .i64 0, .int .i64 0, .int .i64 0]) ?_ 2 _ rfl; (with_reducible repeat (first | refine blk_drewN ?_ _ | refine blk_drew ?_ | refine blk_alloc ?_ _)); refine blk_put (cs := #[.string ((rd_T44 l0 x10_1).f0), .int .i64 0, .int .i64 0, .int .i64 0, .int .i64 0]) ?_ 1 _ rfl; (with_reducible repeat (first | refine blk_drewN ?_ _ | refine blk_drew ?_ | refine blk_alloc ?_ _)); refine blk_put (cs := #[.string (⟨#[]⟩ : ByteArray), .int .i64 0, .int .i64 0, .int .i64 0, .int .i64 0]) ?_ 0 _ rfl; (with_reducible repeat (first | refine blk_drewN ?_ _ | refine blk_drew ?_ | refine blk_alloc ?_ _)); exact BK206.out⟩; have n1_ : Aside0 (Below w.heap.size w (((((w26.setCell ⟨gb206, 0, none⟩ (.string ((rd_T44 l0 x10_1).f0))).setCell ⟨gb206, 1, none⟩ (.int .i64 ((rd_T44 l0 x10_1).f1))).setCell ⟨gb206, 2, none⟩ (.int .i64 ((rd_T44 l0 x10_1).f2))).setCell ⟨gb206, 3, none⟩ (.int .i64 ((rd_T44 l0 x10_1).f3))).setCell ⟨gb206, 4, none⟩ (.int .i64 ((rd_T44 l0 x10_1).f4)))) := ⟨sABelo_6⟩; (try clear BK206); (try clear HB)
         generalize (((((w26.setCell ⟨gb206, 0, none⟩ (.string ((rd_T44 l0 x10_1).f0))).setCell ⟨gb206, 1, none⟩ (.int .i64 ((rd_T44 l0 x10_1).f1))).setCell ⟨gb206, 2, none⟩ (.int .i64 ((rd_T44 l0 x10_1).f2))).setCell ⟨gb206, 3, none⟩ (.int .i64 ((rd_T44 l0 x10_1).f3))).setCell ⟨gb206, 4, none⟩ (.int .i64 ((rd_T44 l0 x10_1).f4))) = w28 at n0_ n1_ ⊢
         have BK206 := n0_; have HB := n1_; clear n0_ n1_; have n0_ := Aside0.mk (blk_drew BK206.out); have n1_ := Aside0.mk (below_drew1 HB.out); clear BK206; clear HB; have BK206 := n0_; have HB := n1_; clear n0_ n1_; refine start_ (n := 17) (S := fun w' => w'.cell? ⟨gb206, 0, none⟩ = some (.string ((rd_T44 l0 x10_1).f0)) ∧ w'.cell? ⟨gb206, 1, none⟩ = some (.int .i64 ((rd_T44 l0 x10_1).f1)) ∧ w'.cell? ⟨gb206, 2, none⟩ = some (.int .i64 ((rd_T44 l0 x10_1).f2)) ∧ w'.cell? ⟨gb206, 3, none⟩ = some (.int .i64 ((rd_T44 l0 x10_1).f3)) ∧ w'.cell? ⟨gb206, 4, none⟩ = some (.int .i64 ((rd_T44 l0 x10_1).f4))) (ds := []) #[false, false, false, false, false, false, false, false, false, false, false, false, false, false, false, false, false] (by kernel_rfl) rfl rfl ⟨(blk_cell BK206.out 0).trans rfl, (blk_cell BK206.out 1).trans rfl, (blk_cell BK206.out 2).trans rfl, (blk_cell BK206.out 3).trans rfl, (blk_cell BK206.out 4).trans rfl⟩ (fun hHeld => ?_); refine with_tabW impl_archiveOk.tab6 impl_archiveOk.bits6 (fun HT_ HW_ => ?_)
         generalize w28.drew = w29 at BK206 HB hHeld ⊢
         refine take_ (i := 0) (N := some 15) (v := ?_) (a' := ?_) #[true, false, false, false, false, false, false, false, false, false, false, false, false, false, false, false, false] rfl rfl (take_ofW HT_.out HW_.out (by kernel_rfl)) (fun _ _ _ h => h) (Or.inl ⟨by rfl, ?_⟩) hHeld ?_ ?_
         rotate_left
         ·rintro w' ⟨s0, s1, s2, s3, s4⟩
          go_simp
          with_reducible rfl
         rotate_left
         ·simp only [Act.put, List.setIfInBounds_toArray, List.set_cons_zero, List.set_cons_succ, i64_w, i32_w]
          rfl
         refine one_ (i := 1) (N := some 16) #[true, true, false, false, false, false, false, false, false, false, false, false, false, false, false, false, false] rfl rfl (one_of HT_.out (by kernel_rfl)) (by decide) (fun K hK => ?_); refine goes_ Try.func44 (by kernel_rfl) rfl #[.agg #[.string ((rd_T44 l0 x10_1).f0), .int .i64 ((rd_T44 l0 x10_1).f1), .int .i64 ((rd_T44 l0 x10_1).f2), .int .i64 ((rd_T44 l0 x10_1).f3), .int .i64 ((rd_T44 l0 x10_1).f4)]] (by rfl) rfl rfl (by (try simp only [List.map_toArray, List.map_cons, List.map_nil]); first | done | rfl | (simp only [List.length_drop, List.length_take]; rfl)) ?_
         with_reducible refine (impl_entryOk.calls k1 ((rd_T44 l0 x10_1).f0) ((rd_T44 l0 x10_1).f1) ((rd_T44 l0 x10_1).f2) ((rd_T44 l0 x10_1).f3) ((rd_T44 l0 x10_1).f4) true _ A6.out).mono ?_
         rintro e w30 ⟨rfl, hb⟩; refine ⟨_, rfl, ?_⟩; have n0_ := Aside0.mk (blk_below (g := gb206) (o := .cells #[.string ((rd_T44 l0 x10_1).f0), .int .i64 ((rd_T44 l0 x10_1).f1), .int .i64 ((rd_T44 l0 x10_1).f2), .int .i64 ((rd_T44 l0 x10_1).f3), .int .i64 ((rd_T44 l0 x10_1).f4)] 44 (0, 0)) (by (with_reducible repeat (first | refine blk_drewN ?_ _ | refine blk_drew ?_ | refine blk_alloc ?_ _)); exact BK206.out) hb); have n1_ := Aside0.mk (below_step sABelo_6 hb); clear BK206; clear HB; have BK206 := n0_; have HB := n1_; clear n0_ n1_; (try clear hb); (try clear hb2); (try clear hk); (try clear hi); refine hK.out _ _ ⟨(blk_cell BK206.out 0).trans rfl, (blk_cell BK206.out 1).trans rfl, (blk_cell BK206.out 2).trans rfl, (blk_cell BK206.out 3).trans rfl, (blk_cell BK206.out 4).trans rfl⟩ (fun hHeld => ?_); clear hK K; refine norm_ (a' := ?_) ?_ ?_
         rotate_left
         ·show Act.put _ (some 16) _ = _
          simp only [Act.put, List.setIfInBounds_toArray, List.set_cons_zero, List.set_cons_succ, i64_w, i32_w]
          rfl
         refine pure_ (i := 2) (N := some 17) (v := ?_) (a' := ?_) #[true, true, true, false, false, false, false, false, false, false, false, false, false, false, false, false, false] rfl rfl (any_of HT_.out (by kernel_rfl)) (fun _ _ _ h => h) (Or.inl ⟨by rfl, ?_⟩) ?_ ?_
         rotate_left
         ·intro w'
          go_simp
          with_reducible rfl
         rotate_left
         ·simp only [Act.put, List.setIfInBounds_toArray, List.set_cons_zero, List.set_cons_succ, i64_w, i32_w]
          rfl
         refine pure_ (i := 3) (N := some 18) (v := ?_) (a' := ?_) #[true, true, true, true, false, false, false, false, false, false, false, false, false, false, false, false, false] rfl rfl (any_of HT_.out (by kernel_rfl)) (fun _ _ _ h => h) (Or.inl ⟨by rfl, ?_⟩) ?_ ?_
         rotate_left
         ·intro w'
          go_simp
          with_reducible rfl
         rotate_left
         ·simp only [Act.put, List.setIfInBounds_toArray, List.set_cons_zero, List.set_cons_succ, i64_w, i32_w]
          rfl
         refine pure_ (i := 4) (N := some 19) (v := ?_) (a' := ?_) #[true, true, true, true, true, false, false, false, false, false, false, false, false, false, false, false, false] rfl rfl (any_of HT_.out (by kernel_rfl)) (fun _ _ _ h => h) (Or.inl ⟨by rfl, ?_⟩) ?_ ?_
         rotate_left
         ·intro w'
          go_simp
          with_reducible rfl
         rotate_left
         ·simp only [Act.put, List.setIfInBounds_toArray, List.set_cons_zero, List.set_cons_succ, i64_w, i32_w]
          rfl
         refine pure_ (i := 5) (N := some 20) (v := ?_) (a' := ?_) #[true, true, true, true, true, true, false, false, false, false, false, false, false, false, false, false, false] rfl rfl (any_of HT_.out (by kernel_rfl)) (fun _ _ _ h => h) (Or.inl ⟨by rfl, ?_⟩) ?_ ?_
         rotate_left
         ·intro w'
          go_simp
          with_reducible rfl
         rotate_left
         ·simp only [Act.put, List.setIfInBounds_toArray, List.set_cons_zero, List.set_cons_succ, i64_w, i32_w]
          rfl
         refine pure_ (i := 6) (N := some 21) (v := ?_) (a' := ?_) #[true, true, true, true, true, true, true, false, false, false, false, false, false, false, false, false, false] rfl rfl (any_of HT_.out (by kernel_rfl)) (fun _ _ _ h => h) (Or.inl ⟨by rfl, ?_⟩) ?_ ?_
         rotate_left
         ·intro w'
          go_simp
          with_reducible rfl
         rotate_left
         ·simp only [Act.put, List.setIfInBounds_toArray, List.set_cons_zero, List.set_cons_succ, i64_w, i32_w]
          rfl
         refine pure_ (i := 7) (N := some 22) (v := undef) (a' := ?_) #[true, true, true, true, true, true, true, true, false, false, false, false, false, false, false, false, false] rfl rfl (any_of HT_.out (by kernel_rfl)) (fun _ _ _ h => h) (Or.inr ⟨by rfl, rfl⟩) ?_ ?_
         rotate_left
         ·simp only [Act.put, List.setIfInBounds_toArray, List.set_cons_zero, List.set_cons_succ, i64_w, i32_w]
          rfl
         refine pure_ (i := 8) (N := some 23) (v := undef) (a' := ?_) #[true, true, true, true, true, true, true, true, true, false, false, false, false, false, false, false, false] rfl rfl (any_of HT_.out (by kernel_rfl)) (fun _ _ _ h => h) (Or.inr ⟨by rfl, rfl⟩) ?_ ?_
         rotate_left
         ·simp only [Act.put, List.setIfInBounds_toArray, List.set_cons_zero, List.set_cons_succ, i64_w, i32_w]
          rfl
         refine pure_ (i := 9) (N := some 24) (v := undef) (a' := ?_) #[true, true, true, true, true, true, true, true, true, true, false, false, false, false, false, false, false] rfl rfl (any_of HT_.out (by kernel_rfl)) (fun _ _ _ h => h) (Or.inr ⟨by rfl, rfl⟩) ?_ ?_
         rotate_left
         ·simp only [Act.put, List.setIfInBounds_toArray, List.set_cons_zero, List.set_cons_succ, i64_w, i32_w]
          rfl
         refine pure_ (i := 10) (N := some 25) (v := undef) (a' := ?_) #[true, true, true, true, true, true, true, true, true, true, true, false, false, false, false, false, false] rfl rfl (any_of HT_.out (by kernel_rfl)) (fun _ _ _ h => h) (Or.inr ⟨by rfl, rfl⟩) ?_ ?_
         rotate_left
         ·simp only [Act.put, List.setIfInBounds_toArray, List.set_cons_zero, List.set_cons_succ, i64_w, i32_w]
          rfl
         refine pure_ (i := 11) (N := some 26) (v := undef) (a' := ?_) #[true, true, true, true, true, true, true, true, true, true, true, true, false, false, false, false, false] rfl rfl (any_of HT_.out (by kernel_rfl)) (fun _ _ _ h => h) (Or.inr ⟨by rfl, rfl⟩) ?_ ?_
         rotate_left
         ·simp only [Act.put, List.setIfInBounds_toArray, List.set_cons_zero, List.set_cons_succ, i64_w, i32_w]
          rfl
         refine pure_ (i := 12) (N := some 27) (v := undef) (a' := ?_) #[true, true, true, true, true, true, true, true, true, true, true, true, true, false, false, false, false] rfl rfl (any_of HT_.out (by kernel_rfl)) (fun _ _ _ h => h) (Or.inr ⟨by rfl, rfl⟩) ?_ ?_
         rotate_left
         ·simp only [Act.put, List.setIfInBounds_toArray, List.set_cons_zero, List.set_cons_succ, i64_w, i32_w]
          rfl
         refine pure_ (i := 13) (N := some 28) (v := undef) (a' := ?_) #[true, true, true, true, true, true, true, true, true, true, true, true, true, true, false, false, false] rfl rfl (any_of HT_.out (by kernel_rfl)) (fun _ _ _ h => h) (Or.inr ⟨by rfl, rfl⟩) ?_ ?_
         rotate_left
         ·simp only [Act.put, List.setIfInBounds_toArray, List.set_cons_zero, List.set_cons_succ, i64_w, i32_w]
          rfl
         refine pure_ (i := 14) (N := some 29) (v := undef) (a' := ?_) #[true, true, true, true, true, true, true, true, true, true, true, true, true, true, true, false, false] rfl rfl (any_of HT_.out (by kernel_rfl)) (fun _ _ _ h => h) (Or.inr ⟨by rfl, rfl⟩) ?_ ?_
         rotate_left
         ·simp only [Act.put, List.setIfInBounds_toArray, List.set_cons_zero, List.set_cons_succ, i64_w, i32_w]
          rfl
         refine pure_ (i := 15) (N := some 30) (v := ?_) (a' := ?_) #[true, true, true, true, true, true, true, true, true, true, true, true, true, true, true, true, false] rfl rfl (any_of HT_.out (by kernel_rfl)) (fun _ _ _ h => h) (Or.inl ⟨by rfl, ?_⟩) ?_ ?_
         rotate_left
         ·intro w'
          go_simp
          with_reducible rfl
         rotate_left
         ·simp only [Act.put, List.setIfInBounds_toArray, List.set_cons_zero, List.set_cons_succ, i64_w, i32_w]
          rfl
         refine pure_ (i := 16) (N := some 31) (v := ?_) (a' := ?_) #[true, true, true, true, true, true, true, true, true, true, true, true, true, true, true, true, true] rfl rfl (any_of HT_.out (by kernel_rfl)) (fun _ _ _ h => h) (Or.inl ⟨by rfl, ?_⟩) ?_ ?_
         rotate_left
         ·intro w'
          go_simp
          with_reducible rfl
         rotate_left
         ·simp only [Act.put, List.setIfInBounds_toArray, List.set_cons_zero, List.set_cons_succ, i64_w, i32_w]
          rfl
         refine done_ (done_of HT_.out (by kernel_rfl)) ?_
         try go_wp2
         go_roundg k1
         case measure => have := HK1.out; omega
         case rel => exact ⟨(wrap64 (x10_1 + 1)), (by first | rfl | (simp; done) | (simp [*]; done)), H', ⟨by have := HK1.out; omega⟩, ⟨sABelo_6⟩⟩
       ·replace c7 := Bool.eq_false_iff.mpr c7; subst c7; have H1 : (some false) = some r := by rw [if_neg (show ¬ (false = true) by decide)] at H; exact H
        clear H; have H := H1; clear H1; obtain rfl := Option.some.inj H; have p205 : 0 ≤ (x10_1 : Int) := of_decide_eq_true (by first | (with_reducible assumption) | assumption); have q205 : x10_1 < (l0.length : Int) := of_decide_eq_true (by first | (with_reducible assumption) | assumption); obtain ⟨ad205, e205, hx205_0, hx205_1, hx205_2, hx205_3, hx205_4⟩ := at_T44 HR0.out x10_1 p205 q205
        cases e205
        replace hx205_0 := (HB.out.cell (World.block_lt_of_cell? w _ hx205_0)).trans hx205_0; replace hx205_1 := (HB.out.cell (World.block_lt_of_cell? w _ hx205_1)).trans hx205_1; replace hx205_2 := (HB.out.cell (World.block_lt_of_cell? w _ hx205_2)).trans hx205_2; replace hx205_3 := (HB.out.cell (World.block_lt_of_cell? w _ hx205_3)).trans hx205_3; replace hx205_4 := (HB.out.cell (World.block_lt_of_cell? w _ hx205_4)).trans hx205_4; replace p205 := eq_true p205; replace q205 := eq_true q205
        try go_wp2_with (first | ((with_reducible refine gate_dst (N := 4) rfl ?_); refine box_event ?hg (N := 4) ?hd (cs := #[.string (⟨#[]⟩ : ByteArray), .int .i64 0, .int .i64 0, .int .i64 0, .int .i64 0]) (t := 44) ?hr ?_; (case hd => rfl); (case hg => rfl); (case hr => first | (go_simp; done) | (go_simp; rfl)); intro gb206 hg w31 hbox hb; have n0_ := Aside0.mk (below_step sABelo_6 hb); have n1_ := Aside0.mk (hbox); have n2_ := Aside0.mk ((by rw [hg]; exact (below_size sABelo_6) : w.heap.size ≤ gb206)); have n3_ := Aside0.mk ((by rw [hg]; exact (below_size sABelo_6) : w.heap.size ≤ gb206)); clear HB; have HB := n0_; have BK206 := n1_; have GW206 := n2_; have GE206 := n3_; clear n0_ n1_ n2_ n3_; clear hb hbox hg; have hcz32_0 : w31.cell? ⟨gb206, 0, none⟩ = some (.string (⟨#[]⟩ : ByteArray)) := (blk_cell BK206.out 0).trans rfl; have hcz32_1 : w31.cell? ⟨gb206, 1, none⟩ = some (.int .i64 0) := (blk_cell BK206.out 1).trans rfl; have hcz32_2 : w31.cell? ⟨gb206, 2, none⟩ = some (.int .i64 0) := (blk_cell BK206.out 2).trans rfl; have hcz32_3 : w31.cell? ⟨gb206, 3, none⟩ = some (.int .i64 0) := (blk_cell BK206.out 3).trans rfl; have hcz32_4 : w31.cell? ⟨gb206, 4, none⟩ = some (.int .i64 0) := (blk_cell BK206.out 4).trans rfl; have hfz32_0 := blk_frozen BK206.out 0; have hfz32_1 := blk_frozen BK206.out 1; have hfz32_2 := blk_frozen BK206.out 2; have hfz32_3 := blk_frozen BK206.out 3; have hfz32_4 := blk_frozen BK206.out 4))
        have n0_ : Aside0 ((((((w31.setCell ⟨gb206, 0, none⟩ (.string ((rd_T44 l0 x10_1).f0))).setCell ⟨gb206, 1, none⟩ (.int .i64 ((rd_T44 l0 x10_1).f1))).setCell ⟨gb206, 2, none⟩ (.int .i64 ((rd_T44 l0 x10_1).f2))).setCell ⟨gb206, 3, none⟩ (.int .i64 ((rd_T44 l0 x10_1).f3))).setCell ⟨gb206, 4, none⟩ (.int .i64 ((rd_T44 l0 x10_1).f4))).heap[gb206]? = some (.cells #[.string ((rd_T44 l0 x10_1).f0), .int .i64 ((rd_T44 l0 x10_1).f1), .int .i64 ((rd_T44 l0 x10_1).f2), .int .i64 ((rd_T44 l0 x10_1).f3), .int .i64 ((rd_T44 l0 x10_1).f4)] 44 (0, 0))) := ⟨by (with_reducible repeat (first | refine blk_drewN ?_ _ | refine blk_drew ?_ | refine blk_alloc ?_ _)); refine blk_put (cs := #[.string ((rd_T44 l0 x10_1).f0), .int .i64 ((rd_T44 l0 x10_1).f1), .int .i64 ((rd_T44 l0 x10_1).f2), .int .i64 ((rd_T44 l0 x10_1).f3), .int .i64 0]) ?_ 4 _ rfl; (with_reducible repeat (first | refine blk_drewN ?_ _ | refine blk_drew ?_ | refine blk_alloc ?_ _)); refine blk_put (cs := #[.string ((rd_T44 l0 x10_1).f0), .int .i64 ((rd_T44 l0 x10_1).f1), .int .i64 ((rd_T44 l0 x10_1).f2), .int .i64 0, .int .i64 0]) ?_ 3 _ rfl; (with_reducible repeat (first | refine blk_drewN ?_ _ | refine blk_drew ?_ | refine blk_alloc ?_ _)); refine blk_put (cs := #[.string ((rd_T44 l0 x10_1).f0), .int .i64 ((rd_T44 l0 x10_1).f1), .int .i64 0, .int .i64 0, .int .i64 0]) ?_ 2 _ rfl; (with_reducible repeat (first | refine blk_drewN ?_ _ | refine blk_drew ?_ | refine blk_alloc ?_ _)); refine blk_put (cs := #[.string ((rd_T44 l0 x10_1).f0), .int .i64 0, .int .i64 0, .int .i64 0, .int .i64 0]) ?_ 1 _ rfl; (with_reducible repeat (first | refine blk_drewN ?_ _ | refine blk_drew ?_ | refine blk_alloc ?_ _)); refine blk_put (cs := #[.string (⟨#[]⟩ : ByteArray), .int .i64 0, .int .i64 0, .int .i64 0, .int .i64 0]) ?_ 0 _ rfl; (with_reducible repeat (first | refine blk_drewN ?_ _ | refine blk_drew ?_ | refine blk_alloc ?_ _)); exact BK206.out⟩; have n1_ : Aside0 (Below w.heap.size w (((((w31.setCell ⟨gb206, 0, none⟩ (.string ((rd_T44 l0 x10_1).f0))).setCell ⟨gb206, 1, none⟩ (.int .i64 ((rd_T44 l0 x10_1).f1))).setCell ⟨gb206, 2, none⟩ (.int .i64 ((rd_T44 l0 x10_1).f2))).setCell ⟨gb206, 3, none⟩ (.int .i64 ((rd_T44 l0 x10_1).f3))).setCell ⟨gb206, 4, none⟩ (.int .i64 ((rd_T44 l0 x10_1).f4)))) := ⟨sABelo_6⟩; (try clear BK206); (try clear HB)
        generalize (((((w31.setCell ⟨gb206, 0, none⟩ (.string ((rd_T44 l0 x10_1).f0))).setCell ⟨gb206, 1, none⟩ (.int .i64 ((rd_T44 l0 x10_1).f1))).setCell ⟨gb206, 2, none⟩ (.int .i64 ((rd_T44 l0 x10_1).f2))).setCell ⟨gb206, 3, none⟩ (.int .i64 ((rd_T44 l0 x10_1).f3))).setCell ⟨gb206, 4, none⟩ (.int .i64 ((rd_T44 l0 x10_1).f4))) = w33 at n0_ n1_ ⊢
        have BK206 := n0_; have HB := n1_; clear n0_ n1_; have n0_ := Aside0.mk (blk_drew BK206.out); have n1_ := Aside0.mk (below_drew1 HB.out); clear BK206; clear HB; have BK206 := n0_; have HB := n1_; clear n0_ n1_; refine start_ (n := 17) (S := fun w' => w'.cell? ⟨gb206, 0, none⟩ = some (.string ((rd_T44 l0 x10_1).f0)) ∧ w'.cell? ⟨gb206, 1, none⟩ = some (.int .i64 ((rd_T44 l0 x10_1).f1)) ∧ w'.cell? ⟨gb206, 2, none⟩ = some (.int .i64 ((rd_T44 l0 x10_1).f2)) ∧ w'.cell? ⟨gb206, 3, none⟩ = some (.int .i64 ((rd_T44 l0 x10_1).f3)) ∧ w'.cell? ⟨gb206, 4, none⟩ = some (.int .i64 ((rd_T44 l0 x10_1).f4))) (ds := []) #[false, false, false, false, false, false, false, false, false, false, false, false, false, false, false, false, false] (by kernel_rfl) rfl rfl ⟨(blk_cell BK206.out 0).trans rfl, (blk_cell BK206.out 1).trans rfl, (blk_cell BK206.out 2).trans rfl, (blk_cell BK206.out 3).trans rfl, (blk_cell BK206.out 4).trans rfl⟩ (fun hHeld => ?_); refine with_tabW impl_archiveOk.tab6 impl_archiveOk.bits6 (fun HT_ HW_ => ?_)
        generalize w33.drew = w34 at BK206 HB hHeld ⊢
        refine take_ (i := 0) (N := some 15) (v := ?_) (a' := ?_) #[true, false, false, false, false, false, false, false, false, false, false, false, false, false, false, false, false] rfl rfl (take_ofW HT_.out HW_.out (by kernel_rfl)) (fun _ _ _ h => h) (Or.inl ⟨by rfl, ?_⟩) hHeld ?_ ?_
        rotate_left
        ·rintro w' ⟨s0, s1, s2, s3, s4⟩
         go_simp
         with_reducible rfl
        rotate_left
        ·simp only [Act.put, List.setIfInBounds_toArray, List.set_cons_zero, List.set_cons_succ, i64_w, i32_w]
         rfl
        refine one_ (i := 1) (N := some 16) #[true, true, false, false, false, false, false, false, false, false, false, false, false, false, false, false, false] rfl rfl (one_of HT_.out (by kernel_rfl)) (by decide) (fun K hK => ?_); refine goes_ Try.func44 (by kernel_rfl) rfl #[.agg #[.string ((rd_T44 l0 x10_1).f0), .int .i64 ((rd_T44 l0 x10_1).f1), .int .i64 ((rd_T44 l0 x10_1).f2), .int .i64 ((rd_T44 l0 x10_1).f3), .int .i64 ((rd_T44 l0 x10_1).f4)]] (by rfl) rfl rfl (by (try simp only [List.map_toArray, List.map_cons, List.map_nil]); first | done | rfl | (simp only [List.length_drop, List.length_take]; rfl)) ?_
        with_reducible refine (impl_entryOk.calls k1 ((rd_T44 l0 x10_1).f0) ((rd_T44 l0 x10_1).f1) ((rd_T44 l0 x10_1).f2) ((rd_T44 l0 x10_1).f3) ((rd_T44 l0 x10_1).f4) false _ A6.out).mono ?_
        rintro e w35 ⟨rfl, hb⟩; refine ⟨_, rfl, ?_⟩; have n0_ := Aside0.mk (blk_below (g := gb206) (o := .cells #[.string ((rd_T44 l0 x10_1).f0), .int .i64 ((rd_T44 l0 x10_1).f1), .int .i64 ((rd_T44 l0 x10_1).f2), .int .i64 ((rd_T44 l0 x10_1).f3), .int .i64 ((rd_T44 l0 x10_1).f4)] 44 (0, 0)) (by (with_reducible repeat (first | refine blk_drewN ?_ _ | refine blk_drew ?_ | refine blk_alloc ?_ _)); exact BK206.out) hb); have n1_ := Aside0.mk (below_step sABelo_6 hb); clear BK206; clear HB; have BK206 := n0_; have HB := n1_; clear n0_ n1_; (try clear hb); (try clear hb2); (try clear hk); (try clear hi); refine hK.out _ _ ⟨(blk_cell BK206.out 0).trans rfl, (blk_cell BK206.out 1).trans rfl, (blk_cell BK206.out 2).trans rfl, (blk_cell BK206.out 3).trans rfl, (blk_cell BK206.out 4).trans rfl⟩ (fun hHeld => ?_); clear hK K; refine norm_ (a' := ?_) ?_ ?_
        rotate_left
        ·show Act.put _ (some 16) _ = _
         simp only [Act.put, List.setIfInBounds_toArray, List.set_cons_zero, List.set_cons_succ, i64_w, i32_w]
         rfl
        refine pure_ (i := 2) (N := some 17) (v := ?_) (a' := ?_) #[true, true, true, false, false, false, false, false, false, false, false, false, false, false, false, false, false] rfl rfl (any_of HT_.out (by kernel_rfl)) (fun _ _ _ h => h) (Or.inl ⟨by rfl, ?_⟩) ?_ ?_
        rotate_left
        ·intro w'
         go_simp
         with_reducible rfl
        rotate_left
        ·simp only [Act.put, List.setIfInBounds_toArray, List.set_cons_zero, List.set_cons_succ, i64_w, i32_w]
         rfl
        refine pure_ (i := 3) (N := some 18) (v := ?_) (a' := ?_) #[true, true, true, true, false, false, false, false, false, false, false, false, false, false, false, false, false] rfl rfl (any_of HT_.out (by kernel_rfl)) (fun _ _ _ h => h) (Or.inl ⟨by rfl, ?_⟩) ?_ ?_
        rotate_left
        ·intro w'
         go_simp
         with_reducible rfl
        rotate_left
        ·simp only [Act.put, List.setIfInBounds_toArray, List.set_cons_zero, List.set_cons_succ, i64_w, i32_w]
         rfl
        refine pure_ (i := 4) (N := some 19) (v := undef) (a' := ?_) #[true, true, true, true, true, false, false, false, false, false, false, false, false, false, false, false, false] rfl rfl (any_of HT_.out (by kernel_rfl)) (fun _ _ _ h => h) (Or.inr ⟨by rfl, rfl⟩) ?_ ?_
        rotate_left
        ·simp only [Act.put, List.setIfInBounds_toArray, List.set_cons_zero, List.set_cons_succ, i64_w, i32_w]
         rfl
        refine pure_ (i := 5) (N := some 20) (v := undef) (a' := ?_) #[true, true, true, true, true, true, false, false, false, false, false, false, false, false, false, false, false] rfl rfl (any_of HT_.out (by kernel_rfl)) (fun _ _ _ h => h) (Or.inr ⟨by rfl, rfl⟩) ?_ ?_
        rotate_left
        ·simp only [Act.put, List.setIfInBounds_toArray, List.set_cons_zero, List.set_cons_succ, i64_w, i32_w]
         rfl
        refine pure_ (i := 6) (N := some 21) (v := undef) (a' := ?_) #[true, true, true, true, true, true, true, false, false, false, false, false, false, false, false, false, false] rfl rfl (any_of HT_.out (by kernel_rfl)) (fun _ _ _ h => h) (Or.inr ⟨by rfl, rfl⟩) ?_ ?_
        rotate_left
        ·simp only [Act.put, List.setIfInBounds_toArray, List.set_cons_zero, List.set_cons_succ, i64_w, i32_w]
         rfl
        refine pure_ (i := 7) (N := some 22) (v := undef) (a' := ?_) #[true, true, true, true, true, true, true, true, false, false, false, false, false, false, false, false, false] rfl rfl (any_of HT_.out (by kernel_rfl)) (fun _ _ _ h => h) (Or.inr ⟨by rfl, rfl⟩) ?_ ?_
        rotate_left
        ·simp only [Act.put, List.setIfInBounds_toArray, List.set_cons_zero, List.set_cons_succ, i64_w, i32_w]
         rfl
        refine pure_ (i := 8) (N := some 23) (v := undef) (a' := ?_) #[true, true, true, true, true, true, true, true, true, false, false, false, false, false, false, false, false] rfl rfl (any_of HT_.out (by kernel_rfl)) (fun _ _ _ h => h) (Or.inr ⟨by rfl, rfl⟩) ?_ ?_
        rotate_left
        ·simp only [Act.put, List.setIfInBounds_toArray, List.set_cons_zero, List.set_cons_succ, i64_w, i32_w]
         rfl
        refine pure_ (i := 9) (N := some 24) (v := undef) (a' := ?_) #[true, true, true, true, true, true, true, true, true, true, false, false, false, false, false, false, false] rfl rfl (any_of HT_.out (by kernel_rfl)) (fun _ _ _ h => h) (Or.inr ⟨by rfl, rfl⟩) ?_ ?_
        rotate_left
        ·simp only [Act.put, List.setIfInBounds_toArray, List.set_cons_zero, List.set_cons_succ, i64_w, i32_w]
         rfl
        refine pure_ (i := 10) (N := some 25) (v := undef) (a' := ?_) #[true, true, true, true, true, true, true, true, true, true, true, false, false, false, false, false, false] rfl rfl (any_of HT_.out (by kernel_rfl)) (fun _ _ _ h => h) (Or.inr ⟨by rfl, rfl⟩) ?_ ?_
        rotate_left
        ·simp only [Act.put, List.setIfInBounds_toArray, List.set_cons_zero, List.set_cons_succ, i64_w, i32_w]
         rfl
        refine pure_ (i := 11) (N := some 26) (v := undef) (a' := ?_) #[true, true, true, true, true, true, true, true, true, true, true, true, false, false, false, false, false] rfl rfl (any_of HT_.out (by kernel_rfl)) (fun _ _ _ h => h) (Or.inr ⟨by rfl, rfl⟩) ?_ ?_
        rotate_left
        ·simp only [Act.put, List.setIfInBounds_toArray, List.set_cons_zero, List.set_cons_succ, i64_w, i32_w]
         rfl
        refine pure_ (i := 12) (N := some 27) (v := undef) (a' := ?_) #[true, true, true, true, true, true, true, true, true, true, true, true, true, false, false, false, false] rfl rfl (any_of HT_.out (by kernel_rfl)) (fun _ _ _ h => h) (Or.inr ⟨by rfl, rfl⟩) ?_ ?_
        rotate_left
        ·simp only [Act.put, List.setIfInBounds_toArray, List.set_cons_zero, List.set_cons_succ, i64_w, i32_w]
         rfl
        refine pure_ (i := 13) (N := some 28) (v := undef) (a' := ?_) #[true, true, true, true, true, true, true, true, true, true, true, true, true, true, false, false, false] rfl rfl (any_of HT_.out (by kernel_rfl)) (fun _ _ _ h => h) (Or.inr ⟨by rfl, rfl⟩) ?_ ?_
        rotate_left
        ·simp only [Act.put, List.setIfInBounds_toArray, List.set_cons_zero, List.set_cons_succ, i64_w, i32_w]
         rfl
        refine pure_ (i := 14) (N := some 29) (v := undef) (a' := ?_) #[true, true, true, true, true, true, true, true, true, true, true, true, true, true, true, false, false] rfl rfl (any_of HT_.out (by kernel_rfl)) (fun _ _ _ h => h) (Or.inr ⟨by rfl, rfl⟩) ?_ ?_
        rotate_left
        ·simp only [Act.put, List.setIfInBounds_toArray, List.set_cons_zero, List.set_cons_succ, i64_w, i32_w]
         rfl
        refine pure_ (i := 15) (N := some 30) (v := undef) (a' := ?_) #[true, true, true, true, true, true, true, true, true, true, true, true, true, true, true, true, false] rfl rfl (any_of HT_.out (by kernel_rfl)) (fun _ _ _ h => h) (Or.inr ⟨by rfl, rfl⟩) ?_ ?_
        rotate_left
        ·simp only [Act.put, List.setIfInBounds_toArray, List.set_cons_zero, List.set_cons_succ, i64_w, i32_w]
         rfl
        refine pure_ (i := 16) (N := some 31) (v := ?_) (a' := ?_) #[true, true, true, true, true, true, true, true, true, true, true, true, true, true, true, true, true] rfl rfl (any_of HT_.out (by kernel_rfl)) (fun _ _ _ h => h) (Or.inl ⟨by rfl, ?_⟩) ?_ ?_
        rotate_left
        ·intro w'
         go_simp
         with_reducible rfl
        rotate_left
        ·simp only [Act.put, List.setIfInBounds_toArray, List.set_cons_zero, List.set_cons_succ, i64_w, i32_w]
         rfl
        refine done_ (done_of HT_.out (by kernel_rfl)) ?_
        try go_wp2
        go_ret; exact ⟨by first | rfl | (simp [errW_none, errW_some] <;> rfl) | (simp [*, errW_none, errW_some] <;> rfl), sABelo_6⟩
      ·rw [if_neg c5] at H; exact absurd H (by simp)
     ·rw [if_neg c4] at H; exact absurd H (by simp)
    ·rw [if_neg c3] at H; have c3b0 : decide (x10_1 < (l0.length : Int)) = false := decide_eq_false c3; clear c3; obtain rfl := Option.some.inj H
     go_wp2
     go_ret; exact ⟨by first | rfl | (simp [errW_none, errW_some] <;> rfl) | (simp [*, errW_none, errW_some] <;> rfl), sABelo_6⟩

end Go.Proofs.Ytefagcpmadpefaa.QFnExactPick
