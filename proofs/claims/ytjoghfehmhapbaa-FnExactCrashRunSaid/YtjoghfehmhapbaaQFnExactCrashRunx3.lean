-- Written by a program of this session out of the printer's texts and contracts of its own.
import Derived.Test.YtjoghfehmhapbaaSq
import Derived.Test.YtjoghfehmhapbaaQFnExactCrashRunx0
import Derived.Test.YtjoghfehmhapbaaQFnExactCrashRunx1
import Derived.Test.YtjoghfehmhapbaaQFnExactCrashRunx2
namespace Go.Proofs.Ytjoghfehmhapbaa.QFnExactCrashRun
open Go.RowKit Go.Proofs.YtjoghfehmhapbaaW.PrintWords Go.Proofs.YtjoghfehmhapbaaW.PrintLast Go.Proofs.YtjoghfehmhapbaaW.PrintMore Go.Proofs.Ytjoghfehmhapbaa.Sq
attribute [local go_sem] max2_int min2_int max_two min_two max_three min_three max_four min_four   -- for this text's walks alone
set_option linter.unusedVariables false
set_option linter.unusedSimpArgs false
theorem sABelo_3 {b : Nat} {w W : World} (h : Below b w W := by repeat (first | (with_reducible first | exact Aside0.out (by assumption) | apply below_alloc | apply pw_below_drewN | apply below_drew1 | refine below_set ?_ (Aside0.out (by assumption))) | exact Aside0.out (by assumption))) : Below b w W := h

/-! ### spec_SuiteOk: function 44 -/
mutual
def spec_SuiteOk.j0 : Nat → Bool → List (S39) → List Int → Option (Bool)
 | 0, _, _, _ => none
 | k + 1, x36, x118000, x118001 => if x36 = true then (some false) else (spec_SuiteOk.l0 k 0 x118000 x118001)
def spec_SuiteOk.l0 : Nat → Int → List (S39) → List Int → Option (Bool)
 | 0, _, _, _ => none
 | k + 1, x3, x118000, x118001 => if x3 < (x118000.length : Int) then (if 0 ≤ x3 then (if (((rd_T39 x118000 x3).f0).length : Int) > x3 then (spec_SuiteOk.j2 k x3 true x118000 x118001 ((rd_T39 x118000 x3).f0) ((rd_T39 x118000 x3).f1) ((rd_T39 x118000 x3).f2) ((rd_T39 x118000 x3).f3)) else ((spec_l2In.f ((rd_T39 x118000 x3).f1) 1 (x118001.length : Int)).bind fun t121 => (if t121 = true then ((spec_l2In.f ((rd_T39 x118000 x3).f2) 0 1000000000000).bind fun t122 => (if t122 = true then ((spec_l2In.f ((rd_T39 x118000 x3).f3) 1 5).bind fun t123 => (spec_SuiteOk.j2 k x3 (!t123) x118000 x118001 ((rd_T39 x118000 x3).f0) ((rd_T39 x118000 x3).f1) ((rd_T39 x118000 x3).f2) ((rd_T39 x118000 x3).f3))) else (spec_SuiteOk.j2 k x3 true x118000 x118001 ((rd_T39 x118000 x3).f0) ((rd_T39 x118000 x3).f1) ((rd_T39 x118000 x3).f2) ((rd_T39 x118000 x3).f3)))) else (spec_SuiteOk.j2 k x3 true x118000 x118001 ((rd_T39 x118000 x3).f0) ((rd_T39 x118000 x3).f1) ((rd_T39 x118000 x3).f2) ((rd_T39 x118000 x3).f3))))) else (none)) else (some true)
def spec_SuiteOk.j2 : Nat → Int → Bool → List (S39) → List Int → List Int → Int → Int → Int → Option (Bool)
 | 0, _, _, _, _, _, _, _, _ => none
 | k + 1, x3, x74, x118000, x118001, x121000, x121001, x121002, x121003 => if x74 = true then (some false) else (spec_SuiteOk.l1 k x3 0 x118000 x118001 x121000 x121001 x121002 x121003)
def spec_SuiteOk.l1 : Nat → Int → Int → List (S39) → List Int → List Int → Int → Int → Int → Option (Bool)
 | 0, _, _, _, _, _, _, _, _ => none
 | k + 1, x3, x5, x118000, x118001, x121000, x121001, x121002, x121003 => if x5 < (x121000.length : Int) then (if 0 ≤ x5 then ((spec_l2In.f (rd x121000 x5) 1 x3).bind fun t125 => (if t125 = true then (if x5 > 0 then (if 0 ≤ (wrap64 (x5 - 1)) then (if (wrap64 (x5 - 1)) < (x121000.length : Int) then (if (rd x121000 x5) ≤ (rd x121000 (wrap64 (x5 - 1))) then (some false) else (spec_SuiteOk.l1 k x3 (wrap64 (x5 + 1)) x118000 x118001 x121000 x121001 x121002 x121003)) else (none)) else (none)) else (spec_SuiteOk.l1 k x3 (wrap64 (x5 + 1)) x118000 x118001 x121000 x121001 x121002 x121003)) else (some false))) else (none)) else (spec_SuiteOk.l0 k (wrap64 (x3 + 1)) x118000 x118001)
end
def spec_SuiteOk.f (k : Nat) (l0_0 : List (S39)) (l0_1 : List Int) : Option (Bool) := if (l0_0.length : Int) < 1 then (spec_SuiteOk.j0 k true l0_0 l0_1) else (if (l0_0.length : Int) > 60 then (spec_SuiteOk.j0 k true l0_0 l0_1) else (if (l0_1.length : Int) < 1 then (spec_SuiteOk.j0 k true l0_0 l0_1) else (if (l0_1.length : Int) > 6 then (spec_SuiteOk.j0 k true l0_0 l0_1) else ((spec_l15All.f k l0_1 (l0_1.length : Int) 1 60).bind fun t118 => (spec_SuiteOk.j0 k (!t118) l0_0 l0_1)))))
theorem spec_SuiteOk.mono_l : ∀ k, (∀ y0 y1 y2, LeO (spec_SuiteOk.j0 k y0 y1 y2) (spec_SuiteOk.j0 (k + 1) y0 y1 y2)) ∧ (∀ y0 y1 y2, LeO (spec_SuiteOk.l0 k y0 y1 y2) (spec_SuiteOk.l0 (k + 1) y0 y1 y2)) ∧ (∀ y0 y1 y2 y3 y4 y5 y6 y7, LeO (spec_SuiteOk.j2 k y0 y1 y2 y3 y4 y5 y6 y7) (spec_SuiteOk.j2 (k + 1) y0 y1 y2 y3 y4 y5 y6 y7)) ∧ (∀ y0 y1 y2 y3 y4 y5 y6 y7, LeO (spec_SuiteOk.l1 k y0 y1 y2 y3 y4 y5 y6 y7) (spec_SuiteOk.l1 (k + 1) y0 y1 y2 y3 y4 y5 y6 y7))
 | 0 => ⟨fun _ _ _ r h => by simp [spec_SuiteOk.j0] at h, fun _ _ _ r h => by simp [spec_SuiteOk.l0] at h, fun _ _ _ _ _ _ _ _ r h => by simp [spec_SuiteOk.j2] at h, fun _ _ _ _ _ _ _ _ r h => by simp [spec_SuiteOk.l1] at h⟩
 | k + 1 => by
  obtain ⟨ih0, ih1, ih2, ih3⟩ := spec_SuiteOk.mono_l k
  refine ⟨?_, ?_, ?_, ?_⟩
  intro y0 y1 y2; unfold spec_SuiteOk.j0; rotate_left
  intro y0 y1 y2; unfold spec_SuiteOk.l0; rotate_left
  intro y0 y1 y2 y3 y4 y5 y6 y7; unfold spec_SuiteOk.j2; rotate_left
  intro y0 y1 y2 y3 y4 y5 y6 y7; unfold spec_SuiteOk.l1; rotate_left
  all_goals repeat' first
  | (with_reducible exact ih0 _ _ _)
  | (with_reducible exact ih1 _ _ _)
  | (with_reducible exact ih2 _ _ _ _ _ _ _ _)
  | (with_reducible exact ih3 _ _ _ _ _ _ _ _)
  | (with_reducible exact spec_l15All.mono _ _ _ _ _)
  | (with_reducible exact LeO.refl _)
  | (with_reducible exact LeO.none _)
  | (with_reducible refine LeO.ite ?_ ?_)
  | (with_reducible refine LeO.bind ?_ (fun _ => ?_))
  | exact ih0 _ _ _
  | exact ih1 _ _ _
  | exact ih2 _ _ _ _ _ _ _ _
  | exact ih3 _ _ _ _ _ _ _ _
  | exact spec_l15All.mono _ _ _ _ _
  | exact LeO.none _
  | refine LeO.ite ?_ ?_
  | refine LeO.bind ?_ (fun _ => ?_)
theorem spec_SuiteOk.mono : ∀ a0 a1 k, LeO (spec_SuiteOk.f k a0 a1) (spec_SuiteOk.f (k + 1) a0 a1) := by
 intro a0 a1 k
 obtain ⟨ih0, ih1, ih2, ih3⟩ := spec_SuiteOk.mono_l k
 unfold spec_SuiteOk.f
 repeat' first
   | (with_reducible exact ih0 _ _ _)
   | (with_reducible exact ih1 _ _ _)
   | (with_reducible exact ih2 _ _ _ _ _ _ _ _)
   | (with_reducible exact ih3 _ _ _ _ _ _ _ _)
   | (with_reducible exact spec_l15All.mono _ _ _ _ _)
   | (with_reducible exact LeO.refl _)
   | (with_reducible exact LeO.none _)
   | (with_reducible refine LeO.ite ?_ ?_)
   | (with_reducible refine LeO.bind ?_ (fun _ => ?_))
   | exact ih0 _ _ _
   | exact ih1 _ _ _
   | exact ih2 _ _ _ _ _ _ _ _
   | exact ih3 _ _ _ _ _ _ _ _
   | exact spec_l15All.mono _ _ _ _ _
   | exact LeO.none _
   | refine LeO.ite ?_ ?_
   | refine LeO.bind ?_ (fun _ => ?_)
set_option maxHeartbeats 8000000 in
set_option maxRecDepth 100000 in
theorem spec_SuiteOk.calls (k : Nat) (A0_0 : Option Addr) (c0_0 : Nat) (l0_0 : List (S39)) (A0_1 : Option Addr) (c0_1 : Nat) (l0_1 : List Int) (r : Bool) (w : World) (hr0_0 : Kd.C k39 w A0_0 l0_0.length l0_0) (hc0_0 : l0_0.length ≤ c0_0) (hr0_1 : Kd.C (Kd.int .i64) w A0_1 l0_1.length l0_1) (hc0_1 : l0_1.length ≤ c0_1) (h : spec_SuiteOk.f k l0_0 l0_1 = some r) :
  Calls Try.prog 44 #[.agg #[.slice A0_0 l0_0.length c0_0, .slice A0_1 l0_1.length c0_1]] w fun e w' => e = .returned (.bool r) ∧ Below w.heap.size w w' := by
 have hu27 := Try.underlying27; have hu39 := Try.underlying39; have HR0_0 := Aside0.mk hr0_0; have HC0_0 := Aside0.mk hc0_0; clear hr0_0 hc0_0; have HR0_1 := Aside0.mk hr0_1; have HC0_1 := Aside0.mk hc0_1; clear hr0_1 hc0_1
 have HB := Aside0.mk (Below.refl w.heap.size w)
 have H : (if (l0_0.length : Int) < 1 then (spec_SuiteOk.j0 k true l0_0 l0_1) else (if (l0_0.length : Int) > 60 then (spec_SuiteOk.j0 k true l0_0 l0_1) else (if (l0_1.length : Int) < 1 then (spec_SuiteOk.j0 k true l0_0 l0_1) else (if (l0_1.length : Int) > 6 then (spec_SuiteOk.j0 k true l0_0 l0_1) else ((spec_l15All.f k l0_1 (l0_1.length : Int) 1 60).bind fun t118 => (spec_SuiteOk.j0 k (!t118) l0_0 l0_1)))))) = some r := h
 clear h; have HC2 := Aside0.mk H; clear H
 go_enter Try.func44, Try.ntmps44
 go_upto_region 1 with (first | ((with_reducible refine gate_dst (N := 1) rfl ?_); (try (refine gate_guard (by rfl) ?_; dsimp only)); refine box_event ?hg (N := 1) ?hd (cs := #[.slice A0_0 l0_0.length c0_0, .slice A0_1 l0_1.length c0_1]) (t := 27) ?hr ?_; (case hd => rfl); (case hg => rfl); (case hr => first | (go_simp; done) | (go_simp; rfl)); intro gb117 hg w3 hbox hb; have BK117 := Aside0.mk (hbox); have GW117 := gE_ HB hg; have GE117 := gE_ HB hg; replace HB := bS_ HB hb; clear hb hbox hg))
 repeat (go_quiet (fail); go_upto_region 1 with (first | ((with_reducible refine gate_dst (N := 1) rfl ?_); (try (refine gate_guard (by rfl) ?_; dsimp only)); refine box_event ?hg (N := 1) ?hd (cs := #[.slice A0_0 l0_0.length c0_0, .slice A0_1 l0_1.length c0_1]) (t := 27) ?hr ?_; (case hd => rfl); (case hg => rfl); (case hr => first | (go_simp; done) | (go_simp; rfl)); intro gb117 hg w3 hbox hb; have BK117 := Aside0.mk (hbox); have GW117 := gE_ HB hg; have GE117 := gE_ HB hg; replace HB := bS_ HB hb; clear hb hbox hg)))
 (try simp only [Act.put, List.setIfInBounds_toArray, List.set_cons_zero, List.set_cons_succ])
 go_cut [36] (fun v36 wc => ∃ (kq : Nat) (x36_1 : Bool), v36 = .bool x36_1 ∧ Aside0 (spec_SuiteOk.j0 kq x36_1 l0_0 l0_1 = some r) ∧ Aside0 (kq ≤ k) ∧ Aside0 (wc.heap[gb117]? = some (.cells #[(.slice A0_0 l0_0.length c0_0), (.slice A0_1 l0_1.length c0_1)] 27 (0, 0))) ∧ Aside0 (Below w.heap.size w wc))
 case first =>
  have H := HC2.out; clear HC2
  by_cases c4 : (l0_0.length : Int) < 1
  ·rw [if_pos c4] at H
   have c4b0 : decide ((l0_0.length : Int) < 1) = true := decide_eq_true c4
   have c4b1 : decide (l0_0.length < 1) = true := decide_eq_true (by omega)
   clear c4
   (first | rw [c4b0] | (simp only [i64_w, i32_w]; rw [c4b0]) | skip)
   have H' := Aside0.mk H; clear H
   have hcz5_0 : w3.cell? ⟨gb117, 0, none⟩ = some (.slice A0_0 l0_0.length c0_0) := (blk_cell BK117.out 0).trans rfl
   have hcz5_1 : w3.cell? ⟨gb117, 1, none⟩ = some (.slice A0_1 l0_1.length c0_1) := (blk_cell BK117.out 1).trans rfl
   have hfz5_0 := blk_frozen BK117.out 0; have hfz5_1 := blk_frozen BK117.out 1
   go_wp2
   repeat (go_quiet (fail); try go_wp2)
   go_meet
   case rel => exact ⟨_, (true), (by first | rfl | (simp; done) | (simp [*]; done)), H', ⟨by first | omega | exact Nat.le_refl _⟩, ⟨by exact bT_ BK117⟩, ⟨sABelo_3⟩⟩
  ·rw [if_neg c4] at H
   have c4b0 : decide ((l0_0.length : Int) < 1) = false := decide_eq_false c4
   have c4b1 : decide (l0_0.length < 1) = false := decide_eq_false (by omega)
   clear c4
   (first | rw [c4b0] | (simp only [i64_w, i32_w]; rw [c4b0]) | skip)
   by_cases c6 : (l0_0.length : Int) > 60
   ·rw [if_pos c6] at H
    have c6b0 : decide (60 < (l0_0.length : Int)) = true := decide_eq_true c6
    have c6b1 : decide (60 < l0_0.length) = true := decide_eq_true (by omega)
    clear c6; have H' := Aside0.mk H; clear H
    have hcz7_0 : w3.cell? ⟨gb117, 0, none⟩ = some (.slice A0_0 l0_0.length c0_0) := (blk_cell BK117.out 0).trans rfl
    have hcz7_1 : w3.cell? ⟨gb117, 1, none⟩ = some (.slice A0_1 l0_1.length c0_1) := (blk_cell BK117.out 1).trans rfl
    have hfz7_0 := blk_frozen BK117.out 0; have hfz7_1 := blk_frozen BK117.out 1
    go_wp2
    repeat (go_quiet (fail); try go_wp2)
    go_meet
    case rel => exact ⟨_, (true), (by first | rfl | (simp; done) | (simp [*]; done)), H', ⟨by first | omega | exact Nat.le_refl _⟩, ⟨by exact bT_ BK117⟩, ⟨sABelo_3⟩⟩
   ·rw [if_neg c6] at H
    have c6b0 : decide (60 < (l0_0.length : Int)) = false := decide_eq_false c6
    have c6b1 : decide (60 < l0_0.length) = false := decide_eq_false (by omega)
    clear c6
    by_cases c8 : (l0_1.length : Int) < 1
    ·rw [if_pos c8] at H
     have c8b0 : decide ((l0_1.length : Int) < 1) = true := decide_eq_true c8
     have c8b1 : decide (l0_1.length < 1) = true := decide_eq_true (by omega)
     clear c8; have H' := Aside0.mk H; clear H
     have hcz9_0 : w3.cell? ⟨gb117, 0, none⟩ = some (.slice A0_0 l0_0.length c0_0) := (blk_cell BK117.out 0).trans rfl
     have hcz9_1 : w3.cell? ⟨gb117, 1, none⟩ = some (.slice A0_1 l0_1.length c0_1) := (blk_cell BK117.out 1).trans rfl
     have hfz9_0 := blk_frozen BK117.out 0; have hfz9_1 := blk_frozen BK117.out 1
     go_wp2
     repeat (go_quiet (fail); try go_wp2)
     go_meet
     case rel => exact ⟨_, (true), (by first | rfl | (simp; done) | (simp [*]; done)), H', ⟨by first | omega | exact Nat.le_refl _⟩, ⟨by exact bT_ BK117⟩, ⟨sABelo_3⟩⟩
    ·rw [if_neg c8] at H
     have c8b0 : decide ((l0_1.length : Int) < 1) = false := decide_eq_false c8
     have c8b1 : decide (l0_1.length < 1) = false := decide_eq_false (by omega)
     clear c8
     by_cases c10 : (l0_1.length : Int) > 6
     ·rw [if_pos c10] at H
      have c10b0 : decide (6 < (l0_1.length : Int)) = true := decide_eq_true c10
      have c10b1 : decide (6 < l0_1.length) = true := decide_eq_true (by omega)
      clear c10; have H' := Aside0.mk H; clear H
      have hcz11_0 : w3.cell? ⟨gb117, 0, none⟩ = some (.slice A0_0 l0_0.length c0_0) := (blk_cell BK117.out 0).trans rfl
      have hcz11_1 : w3.cell? ⟨gb117, 1, none⟩ = some (.slice A0_1 l0_1.length c0_1) := (blk_cell BK117.out 1).trans rfl
      have hfz11_0 := blk_frozen BK117.out 0; have hfz11_1 := blk_frozen BK117.out 1
      go_wp2
      repeat (go_quiet (fail); try go_wp2)
      go_meet
      case rel => exact ⟨_, (true), (by first | rfl | (simp; done) | (simp [*]; done)), H', ⟨by first | omega | exact Nat.le_refl _⟩, ⟨by exact bT_ BK117⟩, ⟨sABelo_3⟩⟩
     ·rw [if_neg c10] at H
      have c10b0 : decide (6 < (l0_1.length : Int)) = false := decide_eq_false c10
      have c10b1 : decide (6 < l0_1.length) = false := decide_eq_false (by omega)
      clear c10; replace H := Option.bind_eq_some_iff.mp H
      obtain ⟨t118, A120, H⟩ := H
      replace H : (spec_SuiteOk.j0 k (!t118) l0_0 l0_1) = some r := H
      have A12 := Aside0.mk A120; clear A120; have H' := Aside0.mk H; clear H
      have hcz13_0 : w3.cell? ⟨gb117, 0, none⟩ = some (.slice A0_0 l0_0.length c0_0) := (blk_cell BK117.out 0).trans rfl
      have hcz13_1 : w3.cell? ⟨gb117, 1, none⟩ = some (.slice A0_1 l0_1.length c0_1) := (blk_cell BK117.out 1).trans rfl
      have hfz13_0 := blk_frozen BK117.out 0; have hfz13_1 := blk_frozen BK117.out 1
      go_wp2_with (first | (go_at_call 77; (with_reducible refine (spec_l15All.calls k _ _ l0_1 (l0_1.length : Int) 1 60 t118 _ ?side1 ?side2 A12.out).mono ?_); (case side1 => exact cB_ HR0_1 HB); (case side2 => exact HC0_1.out); rintro e w' ⟨rfl, ⟨nd, rfl⟩⟩; (try first | exact ⟨rfl, _, World.drewN_drewN _ _ _⟩ | exact ⟨rfl, _, Eq.trans (World.drewN_drewN _ _ _) (congrArg (World.drewN _) (Nat.add_assoc _ _ _))⟩)))
      repeat (go_quiet (first | (go_at_call 77; (with_reducible refine (spec_l15All.calls k _ _ l0_1 (l0_1.length : Int) 1 60 t118 _ ?side1 ?side2 A12.out).mono ?_); (case side1 => exact cB_ HR0_1 HB); (case side2 => exact HC0_1.out); rintro e w' ⟨rfl, ⟨nd, rfl⟩⟩; (try first | exact ⟨rfl, _, World.drewN_drewN _ _ _⟩ | exact ⟨rfl, _, Eq.trans (World.drewN_drewN _ _ _) (congrArg (World.drewN _) (Nat.add_assoc _ _ _))⟩))); try go_wp2_with (first | (go_at_call 77; (with_reducible refine (spec_l15All.calls k _ _ l0_1 (l0_1.length : Int) 1 60 t118 _ ?side1 ?side2 A12.out).mono ?_); (case side1 => exact cB_ HR0_1 HB); (case side2 => exact HC0_1.out); rintro e w' ⟨rfl, ⟨nd, rfl⟩⟩; (try first | exact ⟨rfl, _, World.drewN_drewN _ _ _⟩ | exact ⟨rfl, _, Eq.trans (World.drewN_drewN _ _ _) (congrArg (World.drewN _) (Nat.add_assoc _ _ _))⟩))))
      go_meet
      case rel => exact ⟨_, (!t118), (by first | rfl | (simp; done) | (simp [*]; done)), H', ⟨by first | omega | exact Nat.le_refl _⟩, ⟨by exact bT_ BK117⟩, ⟨sABelo_3⟩⟩
 case rest =>
  clear HC2; (try clear c1); (try clear p2); (try clear c4); (try clear c4b0); (try clear c4b1); (try clear c6); (try clear c6b0); (try clear c6b1); (try clear c8); (try clear c8b0); (try clear c8b1); (try clear c10); (try clear c10b0); (try clear c10b1); (try clear hcz11_0); (try clear hcz11_1); (try clear hcz13_0); (try clear hcz13_1); (try clear hcz5_0); (try clear hcz5_1); (try clear hcz7_0); (try clear hcz7_1); (try clear hcz9_0); (try clear hcz9_1); (try clear hfz11_0); (try clear hfz11_1); (try clear hfz13_0); (try clear hfz13_1); (try clear hfz5_0); (try clear hfz5_1); (try clear hfz7_0); (try clear hfz7_1); (try clear hfz9_0); (try clear hfz9_1)
  obtain ⟨kq, x36_1, rfl, HA, HJ1, BK117, HB⟩ := hcut
  cases kq with
  | zero => exact absurd HA.out (by simp [spec_SuiteOk.j0])
  | succ kj1 =>
   have H := HA.out; clear HA
   simp only [spec_SuiteOk.j0] at H
   by_cases c14 : x36_1 = true
   ·subst c14
    have H1 : (some false) = some r := by rw [if_pos rfl] at H; exact H
    clear H; have H := H1; clear H1
    obtain rfl := Option.some.inj H
    go_wp2
    repeat (go_quiet (fail); try go_wp2)
    go_ret
    exact ⟨by first | rfl | (simp [errW_none, errW_some] <;> rfl) | (simp [*, errW_none, errW_some] <;> rfl), sABelo_3⟩
   ·replace c14 := Bool.eq_false_iff.mpr c14
    subst c14
    have H1 : (spec_SuiteOk.l0 kj1 0 l0_0 l0_1) = some r := by rw [if_neg (show ¬ (false = true) by decide)] at H; exact H
    clear H; have H := H1; clear H1; have H' := Aside0.mk H; clear H
    go_wp2
    repeat (go_quiet (fail); try go_wp2)
    go_loopg [3] kj1 (fun kq v3 w' => ∃ (x3_2 : Int), v3 = .int .i64 x3_2 ∧ Aside0 (spec_SuiteOk.l0 kq x3_2 l0_0 l0_1 = some r) ∧ Aside0 (kq ≤ kj1) ∧ Aside0 (w'.heap[gb117]? = some (.cells #[(.slice A0_0 l0_0.length c0_0), (.slice A0_1 l0_1.length c0_1)] 27 (0, 0))) ∧ Aside0 (Below w.heap.size w w'))
    case atStart => exact ⟨(0), (by first | rfl | (simp; done) | (simp [*]; done)), H', ⟨Nat.le_refl _⟩, ⟨by exact bT_ BK117⟩, ⟨sABelo_3⟩⟩
    case round =>
     clear H'; (try clear c1); (try clear p2); (try clear c4); (try clear c4b0); (try clear c4b1); (try clear c6); (try clear c6b0); (try clear c6b1); (try clear c8); (try clear c8b0); (try clear c8b1); (try clear c10); (try clear c10b0); (try clear c10b1); (try clear c14); (try clear hcz11_0); (try clear hcz11_1); (try clear hcz13_0); (try clear hcz13_1); (try clear hcz5_0); (try clear hcz5_1); (try clear hcz7_0); (try clear hcz7_1); (try clear hcz9_0); (try clear hcz9_1); (try clear hfz11_0); (try clear hfz11_1); (try clear hfz13_0); (try clear hfz13_1); (try clear hfz5_0); (try clear hfz5_1); (try clear hfz7_0); (try clear hfz7_1); (try clear hfz9_0); (try clear hfz9_1); (try clear p2)
     obtain ⟨x3_2, rfl, HA, HK2, BK117, HB⟩ := hrel
     cases gk with
     | zero => exact absurd HA.out (by simp [spec_SuiteOk.l0])
     | succ k2 =>
      have H := HA.out; clear HA
      simp only [spec_SuiteOk.l0] at H
      by_cases c15 : x3_2 < (l0_0.length : Int)
      ·rw [if_pos c15] at H
       have c15b0 : decide (x3_2 < (l0_0.length : Int)) = true := decide_eq_true c15
       clear c15
       obtain ⟨c16, H⟩ := ifS_ H
       have c16b0 : decide (0 ≤ x3_2) = true := decide_eq_true c16
       clear c16; have HC17 := Aside0.mk H; clear H
       have hcz18_0 : wr.cell? ⟨gb117, 0, none⟩ = some (.slice A0_0 l0_0.length c0_0) := (blk_cell BK117.out 0).trans rfl
       have hcz18_1 : wr.cell? ⟨gb117, 1, none⟩ = some (.slice A0_1 l0_1.length c0_1) := (blk_cell BK117.out 1).trans rfl
       have hfz18_0 := blk_frozen BK117.out 0; have hfz18_1 := blk_frozen BK117.out 1
       have p119 : 0 ≤ (x3_2 : Int) := of_decide_eq_true (by first | (with_reducible assumption) | assumption)
       have q119 : x3_2 < (l0_0.length : Int) := of_decide_eq_true (by first | (with_reducible assumption) | assumption)
       obtain ⟨ad119, A119_0, c119_0, e119, hx119_0, hx119_1, hx119_2, hx119_3, hl119_0, hi119_0⟩ := at_T39 HR0_0.out x3_2 p119 q119
       cases e119
       replace hx119_0 := (HB.out.cell (World.block_lt_of_cell? w _ hx119_0)).trans hx119_0
       replace hx119_1 := (HB.out.cell (World.block_lt_of_cell? w _ hx119_1)).trans hx119_1
       replace hx119_2 := (HB.out.cell (World.block_lt_of_cell? w _ hx119_2)).trans hx119_2
       replace hx119_3 := (HB.out.cell (World.block_lt_of_cell? w _ hx119_3)).trans hx119_3
       have HR119_0 := Aside0.mk hi119_0; have HC119_0 := Aside0.mk hl119_0; clear hi119_0 hl119_0; replace p119 := eq_true p119; replace q119 := eq_true q119
       go_upto_region 7 with (first | ((with_reducible refine gate_dst (N := 4) rfl ?_); (try (refine gate_guard (by rfl) ?_; dsimp only)); refine box_event ?hg (N := 4) ?hd (cs := #[.slice none 0 0, .int .i64 0, .int .i64 0, .int .i64 0]) (t := 39) ?hr ?_; (case hd => rfl); (case hg => rfl); (case hr => first | (go_simp; done) | (go_simp; rfl)); intro gb120 hg w19 hbox hb; have BK120 := Aside0.mk (hbox); have GW120 := gE_ HB hg; have GE120 := gE_ HB hg; replace HB := bS_ HB hb; have NB117_120 := nL_ BK117 hg; have NB120_117 := nG_ BK117 hg; replace BK117 := bB_ BK117 hb; clear hb hbox hg; have hnb20 := NB120_117.out; have hnc20 := NB117_120.out; have hcz21_0 : w19.cell? ⟨gb120, 0, none⟩ = some (.slice none 0 0) := (blk_cell BK120.out 0).trans rfl; have hcz21_1 : w19.cell? ⟨gb120, 1, none⟩ = some (.int .i64 0) := (blk_cell BK120.out 1).trans rfl; have hcz21_2 : w19.cell? ⟨gb120, 2, none⟩ = some (.int .i64 0) := (blk_cell BK120.out 2).trans rfl; have hcz21_3 : w19.cell? ⟨gb120, 3, none⟩ = some (.int .i64 0) := (blk_cell BK120.out 3).trans rfl; have hfz21_0 := blk_frozen BK120.out 0; have hfz21_1 := blk_frozen BK120.out 1; have hfz21_2 := blk_frozen BK120.out 2; have hfz21_3 := blk_frozen BK120.out 3))
       repeat (go_quiet (fail); go_upto_region 7 with (first | ((with_reducible refine gate_dst (N := 4) rfl ?_); (try (refine gate_guard (by rfl) ?_; dsimp only)); refine box_event ?hg (N := 4) ?hd (cs := #[.slice none 0 0, .int .i64 0, .int .i64 0, .int .i64 0]) (t := 39) ?hr ?_; (case hd => rfl); (case hg => rfl); (case hr => first | (go_simp; done) | (go_simp; rfl)); intro gb120 hg w19 hbox hb; have BK120 := Aside0.mk (hbox); have GW120 := gE_ HB hg; have GE120 := gE_ HB hg; replace HB := bS_ HB hb; have NB117_120 := nL_ BK117 hg; have NB120_117 := nG_ BK117 hg; replace BK117 := bB_ BK117 hb; clear hb hbox hg; have hnb20 := NB120_117.out; have hnc20 := NB117_120.out; have hcz21_0 : w19.cell? ⟨gb120, 0, none⟩ = some (.slice none 0 0) := (blk_cell BK120.out 0).trans rfl; have hcz21_1 : w19.cell? ⟨gb120, 1, none⟩ = some (.int .i64 0) := (blk_cell BK120.out 1).trans rfl; have hcz21_2 : w19.cell? ⟨gb120, 2, none⟩ = some (.int .i64 0) := (blk_cell BK120.out 2).trans rfl; have hcz21_3 : w19.cell? ⟨gb120, 3, none⟩ = some (.int .i64 0) := (blk_cell BK120.out 3).trans rfl; have hfz21_0 := blk_frozen BK120.out 0; have hfz21_1 := blk_frozen BK120.out 1; have hfz21_2 := blk_frozen BK120.out 2; have hfz21_3 := blk_frozen BK120.out 3)))
       (try simp only [Act.put, List.setIfInBounds_toArray, List.set_cons_zero, List.set_cons_succ])
       go_cut [74] (fun v74 wc => ∃ (kq : Nat) (x74_16 : Bool), v74 = .bool x74_16 ∧ Aside0 (spec_SuiteOk.j2 kq x3_2 x74_16 l0_0 l0_1 ((rd_T39 l0_0 x3_2).f0) ((rd_T39 l0_0 x3_2).f1) ((rd_T39 l0_0 x3_2).f2) ((rd_T39 l0_0 x3_2).f3) = some r) ∧ Aside0 (kq ≤ k2) ∧ Aside0 (wc.heap[gb117]? = some (.cells #[(.slice (some ad119) l0_0.length c0_0), (.slice A0_1 l0_1.length c0_1)] 27 (0, 0))) ∧ Aside0 (wc.heap[gb120]? = some (.cells #[(.slice A119_0 ((rd_T39 l0_0 x3_2).f0).length c119_0), .int .i64 ((rd_T39 l0_0 x3_2).f1), .int .i64 ((rd_T39 l0_0 x3_2).f2), .int .i64 ((rd_T39 l0_0 x3_2).f3)] 39 (0, 0))) ∧ Aside0 (Below w.heap.size w wc))
       case first =>
        have H := HC17.out; clear HC17
        by_cases c22 : (((rd_T39 l0_0 x3_2).f0).length : Int) > x3_2
        ·rw [if_pos c22] at H
         have c22b0 : decide (x3_2 < (((rd_T39 l0_0 x3_2).f0).length : Int)) = true := decide_eq_true c22
         clear c22
         (first | rw [c22b0] | (simp only [i64_w, i32_w]; rw [c22b0]) | skip)
         have H' := Aside0.mk H; clear H; have hnb23 := NB120_117.out; have hnc23 := NB117_120.out
         have hcz24_0 : w19.cell? ⟨gb120, 0, none⟩ = some (.slice none 0 0) := (blk_cell BK120.out 0).trans rfl
         have hcz24_1 : w19.cell? ⟨gb120, 1, none⟩ = some (.int .i64 0) := (blk_cell BK120.out 1).trans rfl
         have hcz24_2 : w19.cell? ⟨gb120, 2, none⟩ = some (.int .i64 0) := (blk_cell BK120.out 2).trans rfl
         have hcz24_3 : w19.cell? ⟨gb120, 3, none⟩ = some (.int .i64 0) := (blk_cell BK120.out 3).trans rfl
         have hfz24_0 := blk_frozen BK120.out 0; have hfz24_1 := blk_frozen BK120.out 1; have hfz24_2 := blk_frozen BK120.out 2; have hfz24_3 := blk_frozen BK120.out 3
         go_wp2
         repeat (go_quiet (fail); try go_wp2)
         go_meet
         case rel => exact ⟨_, (true), (by first | rfl | (simp; done) | (simp [*]; done)), H', ⟨by have := HJ1.out; have := HK2.out; first | omega | exact Nat.le_refl _⟩, ⟨by (with_reducible repeat (first | refine blk_drewN ?_ _ | refine blk_drew ?_ | refine blk_alloc ?_ _)); refine blk_far ?_ NB117_120.out _; (with_reducible repeat (first | refine blk_drewN ?_ _ | refine blk_drew ?_ | refine blk_alloc ?_ _)); refine blk_far ?_ NB117_120.out _; (with_reducible repeat (first | refine blk_drewN ?_ _ | refine blk_drew ?_ | refine blk_alloc ?_ _)); refine blk_far ?_ NB117_120.out _; (with_reducible repeat (first | refine blk_drewN ?_ _ | refine blk_drew ?_ | refine blk_alloc ?_ _)); refine blk_far ?_ NB117_120.out _; exact bT_ BK117⟩, ⟨by (with_reducible repeat (first | refine blk_drewN ?_ _ | refine blk_drew ?_ | refine blk_alloc ?_ _)); refine blk_put (cs := #[.slice A119_0 ((rd_T39 l0_0 x3_2).f0).length c119_0, .int .i64 ((rd_T39 l0_0 x3_2).f1), .int .i64 ((rd_T39 l0_0 x3_2).f2), .int .i64 0]) ?_ 3 _ rfl; (with_reducible repeat (first | refine blk_drewN ?_ _ | refine blk_drew ?_ | refine blk_alloc ?_ _)); refine blk_put (cs := #[.slice A119_0 ((rd_T39 l0_0 x3_2).f0).length c119_0, .int .i64 ((rd_T39 l0_0 x3_2).f1), .int .i64 0, .int .i64 0]) ?_ 2 _ rfl; (with_reducible repeat (first | refine blk_drewN ?_ _ | refine blk_drew ?_ | refine blk_alloc ?_ _)); refine blk_put (cs := #[.slice A119_0 ((rd_T39 l0_0 x3_2).f0).length c119_0, .int .i64 0, .int .i64 0, .int .i64 0]) ?_ 1 _ rfl; (with_reducible repeat (first | refine blk_drewN ?_ _ | refine blk_drew ?_ | refine blk_alloc ?_ _)); refine blk_put (cs := #[.slice none 0 0, .int .i64 0, .int .i64 0, .int .i64 0]) ?_ 0 _ rfl; exact bT_ BK120⟩, ⟨sABelo_3⟩⟩
        ·rw [if_neg c22] at H
         have c22b0 : decide (x3_2 < (((rd_T39 l0_0 x3_2).f0).length : Int)) = false := decide_eq_false c22
         clear c22
         (first | rw [c22b0] | (simp only [i64_w, i32_w]; rw [c22b0]) | skip)
         replace H := Option.bind_eq_some_iff.mp H
         obtain ⟨t121, A250, H⟩ := H
         replace H : (if t121 = true then ((spec_l2In.f ((rd_T39 l0_0 x3_2).f2) 0 1000000000000).bind fun t122 => (if t122 = true then ((spec_l2In.f ((rd_T39 l0_0 x3_2).f3) 1 5).bind fun t123 => (spec_SuiteOk.j2 k2 x3_2 (!t123) l0_0 l0_1 ((rd_T39 l0_0 x3_2).f0) ((rd_T39 l0_0 x3_2).f1) ((rd_T39 l0_0 x3_2).f2) ((rd_T39 l0_0 x3_2).f3))) else (spec_SuiteOk.j2 k2 x3_2 true l0_0 l0_1 ((rd_T39 l0_0 x3_2).f0) ((rd_T39 l0_0 x3_2).f1) ((rd_T39 l0_0 x3_2).f2) ((rd_T39 l0_0 x3_2).f3)))) else (spec_SuiteOk.j2 k2 x3_2 true l0_0 l0_1 ((rd_T39 l0_0 x3_2).f0) ((rd_T39 l0_0 x3_2).f1) ((rd_T39 l0_0 x3_2).f2) ((rd_T39 l0_0 x3_2).f3))) = some r := H
         have A25 := Aside0.mk A250; clear A250
         by_cases c26 : t121 = true
         ·subst c26
          have H1 : ((spec_l2In.f ((rd_T39 l0_0 x3_2).f2) 0 1000000000000).bind fun t122 => (if t122 = true then ((spec_l2In.f ((rd_T39 l0_0 x3_2).f3) 1 5).bind fun t123 => (spec_SuiteOk.j2 k2 x3_2 (!t123) l0_0 l0_1 ((rd_T39 l0_0 x3_2).f0) ((rd_T39 l0_0 x3_2).f1) ((rd_T39 l0_0 x3_2).f2) ((rd_T39 l0_0 x3_2).f3))) else (spec_SuiteOk.j2 k2 x3_2 true l0_0 l0_1 ((rd_T39 l0_0 x3_2).f0) ((rd_T39 l0_0 x3_2).f1) ((rd_T39 l0_0 x3_2).f2) ((rd_T39 l0_0 x3_2).f3)))) = some r := by rw [if_pos rfl] at H; exact H
          clear H; have H := H1; clear H1; replace H := Option.bind_eq_some_iff.mp H
          obtain ⟨t122, A270, H⟩ := H
          replace H : (if t122 = true then ((spec_l2In.f ((rd_T39 l0_0 x3_2).f3) 1 5).bind fun t123 => (spec_SuiteOk.j2 k2 x3_2 (!t123) l0_0 l0_1 ((rd_T39 l0_0 x3_2).f0) ((rd_T39 l0_0 x3_2).f1) ((rd_T39 l0_0 x3_2).f2) ((rd_T39 l0_0 x3_2).f3))) else (spec_SuiteOk.j2 k2 x3_2 true l0_0 l0_1 ((rd_T39 l0_0 x3_2).f0) ((rd_T39 l0_0 x3_2).f1) ((rd_T39 l0_0 x3_2).f2) ((rd_T39 l0_0 x3_2).f3))) = some r := H
          have A27 := Aside0.mk A270; clear A270
          by_cases c28 : t122 = true
          ·subst c28
           have H1 : ((spec_l2In.f ((rd_T39 l0_0 x3_2).f3) 1 5).bind fun t123 => (spec_SuiteOk.j2 k2 x3_2 (!t123) l0_0 l0_1 ((rd_T39 l0_0 x3_2).f0) ((rd_T39 l0_0 x3_2).f1) ((rd_T39 l0_0 x3_2).f2) ((rd_T39 l0_0 x3_2).f3))) = some r := by rw [if_pos rfl] at H; exact H
           clear H; have H := H1; clear H1; replace H := Option.bind_eq_some_iff.mp H
           obtain ⟨t123, A290, H⟩ := H
           replace H : (spec_SuiteOk.j2 k2 x3_2 (!t123) l0_0 l0_1 ((rd_T39 l0_0 x3_2).f0) ((rd_T39 l0_0 x3_2).f1) ((rd_T39 l0_0 x3_2).f2) ((rd_T39 l0_0 x3_2).f3)) = some r := H
           have A29 := Aside0.mk A290; clear A290; have H' := Aside0.mk H; clear H; have hnb30 := NB120_117.out; have hnc30 := NB117_120.out
           have hcz31_0 : w19.cell? ⟨gb120, 0, none⟩ = some (.slice none 0 0) := (blk_cell BK120.out 0).trans rfl
           have hcz31_1 : w19.cell? ⟨gb120, 1, none⟩ = some (.int .i64 0) := (blk_cell BK120.out 1).trans rfl
           have hcz31_2 : w19.cell? ⟨gb120, 2, none⟩ = some (.int .i64 0) := (blk_cell BK120.out 2).trans rfl
           have hcz31_3 : w19.cell? ⟨gb120, 3, none⟩ = some (.int .i64 0) := (blk_cell BK120.out 3).trans rfl
           have hfz31_0 := blk_frozen BK120.out 0; have hfz31_1 := blk_frozen BK120.out 1; have hfz31_2 := blk_frozen BK120.out 2; have hfz31_3 := blk_frozen BK120.out 3
           have hcz32_0 : w19.cell? ⟨gb117, 0, none⟩ = some (.slice (some ad119) l0_0.length c0_0) := (blk_cell BK117.out 0).trans rfl
           have hcz32_1 : w19.cell? ⟨gb117, 1, none⟩ = some (.slice A0_1 l0_1.length c0_1) := (blk_cell BK117.out 1).trans rfl
           have hfz32_0 := blk_frozen BK117.out 0; have hfz32_1 := blk_frozen BK117.out 1
           go_wp2_with (first | (go_at_call 60; (with_reducible refine (spec_l2In.calls ((rd_T39 l0_0 x3_2).f1) 1 (l0_1.length : Int) true _ A25.out).mono ?_); rintro e w' ⟨rfl, ⟨nd, rfl⟩⟩; (try first | exact ⟨rfl, _, World.drewN_drewN _ _ _⟩ | exact ⟨rfl, _, Eq.trans (World.drewN_drewN _ _ _) (congrArg (World.drewN _) (Nat.add_assoc _ _ _))⟩)) | (go_at_call 60; (with_reducible refine (spec_l2In.calls ((rd_T39 l0_0 x3_2).f2) 0 1000000000000 true _ A27.out).mono ?_); rintro e w' ⟨rfl, ⟨nd, rfl⟩⟩; (try first | exact ⟨rfl, _, World.drewN_drewN _ _ _⟩ | exact ⟨rfl, _, Eq.trans (World.drewN_drewN _ _ _) (congrArg (World.drewN _) (Nat.add_assoc _ _ _))⟩)) | (go_at_call 60; (with_reducible refine (spec_l2In.calls ((rd_T39 l0_0 x3_2).f3) 1 5 t123 _ A29.out).mono ?_); rintro e w' ⟨rfl, ⟨nd, rfl⟩⟩; (try first | exact ⟨rfl, _, World.drewN_drewN _ _ _⟩ | exact ⟨rfl, _, Eq.trans (World.drewN_drewN _ _ _) (congrArg (World.drewN _) (Nat.add_assoc _ _ _))⟩)))
           repeat (go_quiet (first | (go_at_call 60; (with_reducible refine (spec_l2In.calls ((rd_T39 l0_0 x3_2).f1) 1 (l0_1.length : Int) true _ A25.out).mono ?_); rintro e w' ⟨rfl, ⟨nd, rfl⟩⟩; (try first | exact ⟨rfl, _, World.drewN_drewN _ _ _⟩ | exact ⟨rfl, _, Eq.trans (World.drewN_drewN _ _ _) (congrArg (World.drewN _) (Nat.add_assoc _ _ _))⟩)) | (go_at_call 60; (with_reducible refine (spec_l2In.calls ((rd_T39 l0_0 x3_2).f2) 0 1000000000000 true _ A27.out).mono ?_); rintro e w' ⟨rfl, ⟨nd, rfl⟩⟩; (try first | exact ⟨rfl, _, World.drewN_drewN _ _ _⟩ | exact ⟨rfl, _, Eq.trans (World.drewN_drewN _ _ _) (congrArg (World.drewN _) (Nat.add_assoc _ _ _))⟩)) | (go_at_call 60; (with_reducible refine (spec_l2In.calls ((rd_T39 l0_0 x3_2).f3) 1 5 t123 _ A29.out).mono ?_); rintro e w' ⟨rfl, ⟨nd, rfl⟩⟩; (try first | exact ⟨rfl, _, World.drewN_drewN _ _ _⟩ | exact ⟨rfl, _, Eq.trans (World.drewN_drewN _ _ _) (congrArg (World.drewN _) (Nat.add_assoc _ _ _))⟩))); try go_wp2_with (first | (go_at_call 60; (with_reducible refine (spec_l2In.calls ((rd_T39 l0_0 x3_2).f1) 1 (l0_1.length : Int) true _ A25.out).mono ?_); rintro e w' ⟨rfl, ⟨nd, rfl⟩⟩; (try first | exact ⟨rfl, _, World.drewN_drewN _ _ _⟩ | exact ⟨rfl, _, Eq.trans (World.drewN_drewN _ _ _) (congrArg (World.drewN _) (Nat.add_assoc _ _ _))⟩)) | (go_at_call 60; (with_reducible refine (spec_l2In.calls ((rd_T39 l0_0 x3_2).f2) 0 1000000000000 true _ A27.out).mono ?_); rintro e w' ⟨rfl, ⟨nd, rfl⟩⟩; (try first | exact ⟨rfl, _, World.drewN_drewN _ _ _⟩ | exact ⟨rfl, _, Eq.trans (World.drewN_drewN _ _ _) (congrArg (World.drewN _) (Nat.add_assoc _ _ _))⟩)) | (go_at_call 60; (with_reducible refine (spec_l2In.calls ((rd_T39 l0_0 x3_2).f3) 1 5 t123 _ A29.out).mono ?_); rintro e w' ⟨rfl, ⟨nd, rfl⟩⟩; (try first | exact ⟨rfl, _, World.drewN_drewN _ _ _⟩ | exact ⟨rfl, _, Eq.trans (World.drewN_drewN _ _ _) (congrArg (World.drewN _) (Nat.add_assoc _ _ _))⟩))))
           go_meet
           case rel => exact ⟨_, (!t123), (by first | rfl | (simp; done) | (simp [*]; done)), H', ⟨by have := HJ1.out; have := HK2.out; first | omega | exact Nat.le_refl _⟩, ⟨by (with_reducible repeat (first | refine blk_drewN ?_ _ | refine blk_drew ?_ | refine blk_alloc ?_ _)); refine blk_far ?_ NB117_120.out _; (with_reducible repeat (first | refine blk_drewN ?_ _ | refine blk_drew ?_ | refine blk_alloc ?_ _)); refine blk_far ?_ NB117_120.out _; (with_reducible repeat (first | refine blk_drewN ?_ _ | refine blk_drew ?_ | refine blk_alloc ?_ _)); refine blk_far ?_ NB117_120.out _; (with_reducible repeat (first | refine blk_drewN ?_ _ | refine blk_drew ?_ | refine blk_alloc ?_ _)); refine blk_far ?_ NB117_120.out _; exact bT_ BK117⟩, ⟨by (with_reducible repeat (first | refine blk_drewN ?_ _ | refine blk_drew ?_ | refine blk_alloc ?_ _)); refine blk_put (cs := #[.slice A119_0 ((rd_T39 l0_0 x3_2).f0).length c119_0, .int .i64 ((rd_T39 l0_0 x3_2).f1), .int .i64 ((rd_T39 l0_0 x3_2).f2), .int .i64 0]) ?_ 3 _ rfl; (with_reducible repeat (first | refine blk_drewN ?_ _ | refine blk_drew ?_ | refine blk_alloc ?_ _)); refine blk_put (cs := #[.slice A119_0 ((rd_T39 l0_0 x3_2).f0).length c119_0, .int .i64 ((rd_T39 l0_0 x3_2).f1), .int .i64 0, .int .i64 0]) ?_ 2 _ rfl; (with_reducible repeat (first | refine blk_drewN ?_ _ | refine blk_drew ?_ | refine blk_alloc ?_ _)); refine blk_put (cs := #[.slice A119_0 ((rd_T39 l0_0 x3_2).f0).length c119_0, .int .i64 0, .int .i64 0, .int .i64 0]) ?_ 1 _ rfl; (with_reducible repeat (first | refine blk_drewN ?_ _ | refine blk_drew ?_ | refine blk_alloc ?_ _)); refine blk_put (cs := #[.slice none 0 0, .int .i64 0, .int .i64 0, .int .i64 0]) ?_ 0 _ rfl; exact bT_ BK120⟩, ⟨sABelo_3⟩⟩
          ·replace c28 := Bool.eq_false_iff.mpr c28
           subst c28
           have H1 : (spec_SuiteOk.j2 k2 x3_2 true l0_0 l0_1 ((rd_T39 l0_0 x3_2).f0) ((rd_T39 l0_0 x3_2).f1) ((rd_T39 l0_0 x3_2).f2) ((rd_T39 l0_0 x3_2).f3)) = some r := by rw [if_neg (show ¬ (false = true) by decide)] at H; exact H
           clear H; have H := H1; clear H1; have H' := Aside0.mk H; clear H; have hnb33 := NB120_117.out; have hnc33 := NB117_120.out
           have hcz34_0 : w19.cell? ⟨gb120, 0, none⟩ = some (.slice none 0 0) := (blk_cell BK120.out 0).trans rfl
           have hcz34_1 : w19.cell? ⟨gb120, 1, none⟩ = some (.int .i64 0) := (blk_cell BK120.out 1).trans rfl
           have hcz34_2 : w19.cell? ⟨gb120, 2, none⟩ = some (.int .i64 0) := (blk_cell BK120.out 2).trans rfl
           have hcz34_3 : w19.cell? ⟨gb120, 3, none⟩ = some (.int .i64 0) := (blk_cell BK120.out 3).trans rfl
           have hfz34_0 := blk_frozen BK120.out 0; have hfz34_1 := blk_frozen BK120.out 1; have hfz34_2 := blk_frozen BK120.out 2; have hfz34_3 := blk_frozen BK120.out 3
           have hcz35_0 : w19.cell? ⟨gb117, 0, none⟩ = some (.slice (some ad119) l0_0.length c0_0) := (blk_cell BK117.out 0).trans rfl
           have hcz35_1 : w19.cell? ⟨gb117, 1, none⟩ = some (.slice A0_1 l0_1.length c0_1) := (blk_cell BK117.out 1).trans rfl
           have hfz35_0 := blk_frozen BK117.out 0; have hfz35_1 := blk_frozen BK117.out 1
           go_wp2_with (first | (go_at_call 60; (with_reducible refine (spec_l2In.calls ((rd_T39 l0_0 x3_2).f1) 1 (l0_1.length : Int) true _ A25.out).mono ?_); rintro e w' ⟨rfl, ⟨nd, rfl⟩⟩; (try first | exact ⟨rfl, _, World.drewN_drewN _ _ _⟩ | exact ⟨rfl, _, Eq.trans (World.drewN_drewN _ _ _) (congrArg (World.drewN _) (Nat.add_assoc _ _ _))⟩)) | (go_at_call 60; (with_reducible refine (spec_l2In.calls ((rd_T39 l0_0 x3_2).f2) 0 1000000000000 false _ A27.out).mono ?_); rintro e w' ⟨rfl, ⟨nd, rfl⟩⟩; (try first | exact ⟨rfl, _, World.drewN_drewN _ _ _⟩ | exact ⟨rfl, _, Eq.trans (World.drewN_drewN _ _ _) (congrArg (World.drewN _) (Nat.add_assoc _ _ _))⟩)))
           repeat (go_quiet (first | (go_at_call 60; (with_reducible refine (spec_l2In.calls ((rd_T39 l0_0 x3_2).f1) 1 (l0_1.length : Int) true _ A25.out).mono ?_); rintro e w' ⟨rfl, ⟨nd, rfl⟩⟩; (try first | exact ⟨rfl, _, World.drewN_drewN _ _ _⟩ | exact ⟨rfl, _, Eq.trans (World.drewN_drewN _ _ _) (congrArg (World.drewN _) (Nat.add_assoc _ _ _))⟩)) | (go_at_call 60; (with_reducible refine (spec_l2In.calls ((rd_T39 l0_0 x3_2).f2) 0 1000000000000 false _ A27.out).mono ?_); rintro e w' ⟨rfl, ⟨nd, rfl⟩⟩; (try first | exact ⟨rfl, _, World.drewN_drewN _ _ _⟩ | exact ⟨rfl, _, Eq.trans (World.drewN_drewN _ _ _) (congrArg (World.drewN _) (Nat.add_assoc _ _ _))⟩))); try go_wp2_with (first | (go_at_call 60; (with_reducible refine (spec_l2In.calls ((rd_T39 l0_0 x3_2).f1) 1 (l0_1.length : Int) true _ A25.out).mono ?_); rintro e w' ⟨rfl, ⟨nd, rfl⟩⟩; (try first | exact ⟨rfl, _, World.drewN_drewN _ _ _⟩ | exact ⟨rfl, _, Eq.trans (World.drewN_drewN _ _ _) (congrArg (World.drewN _) (Nat.add_assoc _ _ _))⟩)) | (go_at_call 60; (with_reducible refine (spec_l2In.calls ((rd_T39 l0_0 x3_2).f2) 0 1000000000000 false _ A27.out).mono ?_); rintro e w' ⟨rfl, ⟨nd, rfl⟩⟩; (try first | exact ⟨rfl, _, World.drewN_drewN _ _ _⟩ | exact ⟨rfl, _, Eq.trans (World.drewN_drewN _ _ _) (congrArg (World.drewN _) (Nat.add_assoc _ _ _))⟩))))
           go_meet
           case rel => exact ⟨_, (true), (by first | rfl | (simp; done) | (simp [*]; done)), H', ⟨by have := HJ1.out; have := HK2.out; first | omega | exact Nat.le_refl _⟩, ⟨by (with_reducible repeat (first | refine blk_drewN ?_ _ | refine blk_drew ?_ | refine blk_alloc ?_ _)); refine blk_far ?_ NB117_120.out _; (with_reducible repeat (first | refine blk_drewN ?_ _ | refine blk_drew ?_ | refine blk_alloc ?_ _)); refine blk_far ?_ NB117_120.out _; (with_reducible repeat (first | refine blk_drewN ?_ _ | refine blk_drew ?_ | refine blk_alloc ?_ _)); refine blk_far ?_ NB117_120.out _; (with_reducible repeat (first | refine blk_drewN ?_ _ | refine blk_drew ?_ | refine blk_alloc ?_ _)); refine blk_far ?_ NB117_120.out _; exact bT_ BK117⟩, ⟨by (with_reducible repeat (first | refine blk_drewN ?_ _ | refine blk_drew ?_ | refine blk_alloc ?_ _)); refine blk_put (cs := #[.slice A119_0 ((rd_T39 l0_0 x3_2).f0).length c119_0, .int .i64 ((rd_T39 l0_0 x3_2).f1), .int .i64 ((rd_T39 l0_0 x3_2).f2), .int .i64 0]) ?_ 3 _ rfl; (with_reducible repeat (first | refine blk_drewN ?_ _ | refine blk_drew ?_ | refine blk_alloc ?_ _)); refine blk_put (cs := #[.slice A119_0 ((rd_T39 l0_0 x3_2).f0).length c119_0, .int .i64 ((rd_T39 l0_0 x3_2).f1), .int .i64 0, .int .i64 0]) ?_ 2 _ rfl; (with_reducible repeat (first | refine blk_drewN ?_ _ | refine blk_drew ?_ | refine blk_alloc ?_ _)); refine blk_put (cs := #[.slice A119_0 ((rd_T39 l0_0 x3_2).f0).length c119_0, .int .i64 0, .int .i64 0, .int .i64 0]) ?_ 1 _ rfl; (with_reducible repeat (first | refine blk_drewN ?_ _ | refine blk_drew ?_ | refine blk_alloc ?_ _)); refine blk_put (cs := #[.slice none 0 0, .int .i64 0, .int .i64 0, .int .i64 0]) ?_ 0 _ rfl; exact bT_ BK120⟩, ⟨sABelo_3⟩⟩
         ·replace c26 := Bool.eq_false_iff.mpr c26
          subst c26
          have H1 : (spec_SuiteOk.j2 k2 x3_2 true l0_0 l0_1 ((rd_T39 l0_0 x3_2).f0) ((rd_T39 l0_0 x3_2).f1) ((rd_T39 l0_0 x3_2).f2) ((rd_T39 l0_0 x3_2).f3)) = some r := by rw [if_neg (show ¬ (false = true) by decide)] at H; exact H
          clear H; have H := H1; clear H1; have H' := Aside0.mk H; clear H; have hnb36 := NB120_117.out; have hnc36 := NB117_120.out
          have hcz37_0 : w19.cell? ⟨gb120, 0, none⟩ = some (.slice none 0 0) := (blk_cell BK120.out 0).trans rfl
          have hcz37_1 : w19.cell? ⟨gb120, 1, none⟩ = some (.int .i64 0) := (blk_cell BK120.out 1).trans rfl
          have hcz37_2 : w19.cell? ⟨gb120, 2, none⟩ = some (.int .i64 0) := (blk_cell BK120.out 2).trans rfl
          have hcz37_3 : w19.cell? ⟨gb120, 3, none⟩ = some (.int .i64 0) := (blk_cell BK120.out 3).trans rfl
          have hfz37_0 := blk_frozen BK120.out 0; have hfz37_1 := blk_frozen BK120.out 1; have hfz37_2 := blk_frozen BK120.out 2; have hfz37_3 := blk_frozen BK120.out 3
          have hcz38_0 : w19.cell? ⟨gb117, 0, none⟩ = some (.slice (some ad119) l0_0.length c0_0) := (blk_cell BK117.out 0).trans rfl
          have hcz38_1 : w19.cell? ⟨gb117, 1, none⟩ = some (.slice A0_1 l0_1.length c0_1) := (blk_cell BK117.out 1).trans rfl
          have hfz38_0 := blk_frozen BK117.out 0; have hfz38_1 := blk_frozen BK117.out 1
          go_wp2_with (first | (go_at_call 60; (with_reducible refine (spec_l2In.calls ((rd_T39 l0_0 x3_2).f1) 1 (l0_1.length : Int) false _ A25.out).mono ?_); rintro e w' ⟨rfl, ⟨nd, rfl⟩⟩; (try first | exact ⟨rfl, _, World.drewN_drewN _ _ _⟩ | exact ⟨rfl, _, Eq.trans (World.drewN_drewN _ _ _) (congrArg (World.drewN _) (Nat.add_assoc _ _ _))⟩)))
          repeat (go_quiet (first | (go_at_call 60; (with_reducible refine (spec_l2In.calls ((rd_T39 l0_0 x3_2).f1) 1 (l0_1.length : Int) false _ A25.out).mono ?_); rintro e w' ⟨rfl, ⟨nd, rfl⟩⟩; (try first | exact ⟨rfl, _, World.drewN_drewN _ _ _⟩ | exact ⟨rfl, _, Eq.trans (World.drewN_drewN _ _ _) (congrArg (World.drewN _) (Nat.add_assoc _ _ _))⟩))); try go_wp2_with (first | (go_at_call 60; (with_reducible refine (spec_l2In.calls ((rd_T39 l0_0 x3_2).f1) 1 (l0_1.length : Int) false _ A25.out).mono ?_); rintro e w' ⟨rfl, ⟨nd, rfl⟩⟩; (try first | exact ⟨rfl, _, World.drewN_drewN _ _ _⟩ | exact ⟨rfl, _, Eq.trans (World.drewN_drewN _ _ _) (congrArg (World.drewN _) (Nat.add_assoc _ _ _))⟩))))
          go_meet
          case rel => exact ⟨_, (true), (by first | rfl | (simp; done) | (simp [*]; done)), H', ⟨by have := HJ1.out; have := HK2.out; first | omega | exact Nat.le_refl _⟩, ⟨by (with_reducible repeat (first | refine blk_drewN ?_ _ | refine blk_drew ?_ | refine blk_alloc ?_ _)); refine blk_far ?_ NB117_120.out _; (with_reducible repeat (first | refine blk_drewN ?_ _ | refine blk_drew ?_ | refine blk_alloc ?_ _)); refine blk_far ?_ NB117_120.out _; (with_reducible repeat (first | refine blk_drewN ?_ _ | refine blk_drew ?_ | refine blk_alloc ?_ _)); refine blk_far ?_ NB117_120.out _; (with_reducible repeat (first | refine blk_drewN ?_ _ | refine blk_drew ?_ | refine blk_alloc ?_ _)); refine blk_far ?_ NB117_120.out _; exact bT_ BK117⟩, ⟨by (with_reducible repeat (first | refine blk_drewN ?_ _ | refine blk_drew ?_ | refine blk_alloc ?_ _)); refine blk_put (cs := #[.slice A119_0 ((rd_T39 l0_0 x3_2).f0).length c119_0, .int .i64 ((rd_T39 l0_0 x3_2).f1), .int .i64 ((rd_T39 l0_0 x3_2).f2), .int .i64 0]) ?_ 3 _ rfl; (with_reducible repeat (first | refine blk_drewN ?_ _ | refine blk_drew ?_ | refine blk_alloc ?_ _)); refine blk_put (cs := #[.slice A119_0 ((rd_T39 l0_0 x3_2).f0).length c119_0, .int .i64 ((rd_T39 l0_0 x3_2).f1), .int .i64 0, .int .i64 0]) ?_ 2 _ rfl; (with_reducible repeat (first | refine blk_drewN ?_ _ | refine blk_drew ?_ | refine blk_alloc ?_ _)); refine blk_put (cs := #[.slice A119_0 ((rd_T39 l0_0 x3_2).f0).length c119_0, .int .i64 0, .int .i64 0, .int .i64 0]) ?_ 1 _ rfl; (with_reducible repeat (first | refine blk_drewN ?_ _ | refine blk_drew ?_ | refine blk_alloc ?_ _)); refine blk_put (cs := #[.slice none 0 0, .int .i64 0, .int .i64 0, .int .i64 0]) ?_ 0 _ rfl; exact bT_ BK120⟩, ⟨sABelo_3⟩⟩
       case rest =>
        clear HC17; (try clear c1); (try clear p1); (try clear q1); (try clear hx1); (try clear c2); (try clear p2); (try clear c3); (try clear c4); (try clear c4b0); (try clear c4b1); (try clear c6); (try clear c6b0); (try clear c6b1); (try clear c8); (try clear c8b0); (try clear c8b1); (try clear c10); (try clear c10b0); (try clear c10b1); (try clear c11); (try clear p11); (try clear q11); (try clear hx11); (try clear c14); (try clear c15); (try clear c15b0); (try clear c16); (try clear c16b0); (try clear c20); (try clear c22); (try clear c22b0); (try clear c23); (try clear c26); (try clear c28); (try clear c30); (try clear c33); (try clear c36); (try clear hcz11_0); (try clear hcz11_1); (try clear hcz13_0); (try clear hcz13_1); (try clear hcz18_0); (try clear hcz18_1); (try clear hcz21_0); (try clear hcz21_1); (try clear hcz21_2); (try clear hcz21_3); (try clear hcz24_0); (try clear hcz24_1); (try clear hcz24_2); (try clear hcz24_3); (try clear hcz31_0); (try clear hcz31_1); (try clear hcz31_2); (try clear hcz31_3); (try clear hcz32_0); (try clear hcz32_1); (try clear hcz34_0); (try clear hcz34_1); (try clear hcz34_2); (try clear hcz34_3); (try clear hcz35_0); (try clear hcz35_1); (try clear hcz37_0); (try clear hcz37_1); (try clear hcz37_2); (try clear hcz37_3); (try clear hcz38_0); (try clear hcz38_1); (try clear hcz5_0); (try clear hcz5_1); (try clear hcz7_0); (try clear hcz7_1); (try clear hcz9_0); (try clear hcz9_1); (try clear hfz11_0); (try clear hfz11_1); (try clear hfz13_0); (try clear hfz13_1); (try clear hfz18_0); (try clear hfz18_1); (try clear hfz21_0); (try clear hfz21_1); (try clear hfz21_2); (try clear hfz21_3); (try clear hfz24_0); (try clear hfz24_1); (try clear hfz24_2); (try clear hfz24_3); (try clear hfz31_0); (try clear hfz31_1); (try clear hfz31_2); (try clear hfz31_3); (try clear hfz32_0); (try clear hfz32_1); (try clear hfz34_0); (try clear hfz34_1); (try clear hfz34_2); (try clear hfz34_3); (try clear hfz35_0); (try clear hfz35_1); (try clear hfz37_0); (try clear hfz37_1); (try clear hfz37_2); (try clear hfz37_3); (try clear hfz38_0); (try clear hfz38_1); (try clear hfz5_0); (try clear hfz5_1); (try clear hfz7_0); (try clear hfz7_1); (try clear hfz9_0); (try clear hfz9_1); (try clear hx119_0); (try clear hx119_1); (try clear hx119_2); (try clear hx119_3); (try clear p119); (try clear p2); (try clear q119)
        obtain ⟨kq, x74_16, rfl, HA, HJ16, BK117, BK120, HB⟩ := hcut
        cases kq with
        | zero => exact absurd HA.out (by simp [spec_SuiteOk.j2])
        | succ kj16 =>
         have H := HA.out; clear HA
         simp only [spec_SuiteOk.j2] at H
         by_cases c39 : x74_16 = true
         ·subst c39
          have H1 : (some false) = some r := by rw [if_pos rfl] at H; exact H
          clear H; have H := H1; clear H1
          obtain rfl := Option.some.inj H
          go_wp2
          repeat (go_quiet (fail); try go_wp2)
          go_ret
          exact ⟨by first | rfl | (simp [errW_none, errW_some] <;> rfl) | (simp [*, errW_none, errW_some] <;> rfl), sABelo_3⟩
         ·replace c39 := Bool.eq_false_iff.mpr c39
          subst c39
          have H1 : (spec_SuiteOk.l1 kj16 x3_2 0 l0_0 l0_1 ((rd_T39 l0_0 x3_2).f0) ((rd_T39 l0_0 x3_2).f1) ((rd_T39 l0_0 x3_2).f2) ((rd_T39 l0_0 x3_2).f3)) = some r := by rw [if_neg (show ¬ (false = true) by decide)] at H; exact H
          clear H; have H := H1; clear H1; have H' := Aside0.mk H; clear H
          go_wp2
          repeat (go_quiet (fail); try go_wp2)
          go_loopg [5] kj16 (fun kq v5 w' => ∃ (x5_4 : Int), v5 = .int .i64 x5_4 ∧ Aside0 (spec_SuiteOk.l1 kq x3_2 x5_4 l0_0 l0_1 ((rd_T39 l0_0 x3_2).f0) ((rd_T39 l0_0 x3_2).f1) ((rd_T39 l0_0 x3_2).f2) ((rd_T39 l0_0 x3_2).f3) = some r) ∧ Aside0 (kq ≤ kj16) ∧ Aside0 (w'.heap[gb117]? = some (.cells #[(.slice (some ad119) l0_0.length c0_0), (.slice A0_1 l0_1.length c0_1)] 27 (0, 0))) ∧ Aside0 (w'.heap[gb120]? = some (.cells #[(.slice A119_0 ((rd_T39 l0_0 x3_2).f0).length c119_0), .int .i64 ((rd_T39 l0_0 x3_2).f1), .int .i64 ((rd_T39 l0_0 x3_2).f2), .int .i64 ((rd_T39 l0_0 x3_2).f3)] 39 (0, 0))) ∧ Aside0 (Below w.heap.size w w'))
          case atStart => exact ⟨(0), (by first | rfl | (simp; done) | (simp [*]; done)), H', ⟨Nat.le_refl _⟩, ⟨by exact bT_ BK117⟩, ⟨by exact bT_ BK120⟩, ⟨sABelo_3⟩⟩
          case round =>
           clear H'; (try clear c1); (try clear p1); (try clear q1); (try clear hx1); (try clear c2); (try clear p2); (try clear c3); (try clear c4); (try clear c4b0); (try clear c4b1); (try clear c6); (try clear c6b0); (try clear c6b1); (try clear c8); (try clear c8b0); (try clear c8b1); (try clear c10); (try clear c10b0); (try clear c10b1); (try clear c11); (try clear p11); (try clear q11); (try clear hx11); (try clear c14); (try clear c15); (try clear c15b0); (try clear c16); (try clear c16b0); (try clear c20); (try clear c22); (try clear c22b0); (try clear c23); (try clear c26); (try clear c28); (try clear c30); (try clear c33); (try clear c36); (try clear c39); (try clear hcz11_0); (try clear hcz11_1); (try clear hcz13_0); (try clear hcz13_1); (try clear hcz18_0); (try clear hcz18_1); (try clear hcz21_0); (try clear hcz21_1); (try clear hcz21_2); (try clear hcz21_3); (try clear hcz24_0); (try clear hcz24_1); (try clear hcz24_2); (try clear hcz24_3); (try clear hcz31_0); (try clear hcz31_1); (try clear hcz31_2); (try clear hcz31_3); (try clear hcz32_0); (try clear hcz32_1); (try clear hcz34_0); (try clear hcz34_1); (try clear hcz34_2); (try clear hcz34_3); (try clear hcz35_0); (try clear hcz35_1); (try clear hcz37_0); (try clear hcz37_1); (try clear hcz37_2); (try clear hcz37_3); (try clear hcz38_0); (try clear hcz38_1); (try clear hcz5_0); (try clear hcz5_1); (try clear hcz7_0); (try clear hcz7_1); (try clear hcz9_0); (try clear hcz9_1); (try clear hfz11_0); (try clear hfz11_1); (try clear hfz13_0); (try clear hfz13_1); (try clear hfz18_0); (try clear hfz18_1); (try clear hfz21_0); (try clear hfz21_1); (try clear hfz21_2); (try clear hfz21_3); (try clear hfz24_0); (try clear hfz24_1); (try clear hfz24_2); (try clear hfz24_3); (try clear hfz31_0); (try clear hfz31_1); (try clear hfz31_2); (try clear hfz31_3); (try clear hfz32_0); (try clear hfz32_1); (try clear hfz34_0); (try clear hfz34_1); (try clear hfz34_2); (try clear hfz34_3); (try clear hfz35_0); (try clear hfz35_1); (try clear hfz37_0); (try clear hfz37_1); (try clear hfz37_2); (try clear hfz37_3); (try clear hfz38_0); (try clear hfz38_1); (try clear hfz5_0); (try clear hfz5_1); (try clear hfz7_0); (try clear hfz7_1); (try clear hfz9_0); (try clear hfz9_1); (try clear hx119_0); (try clear hx119_1); (try clear hx119_2); (try clear hx119_3); (try clear p1); (try clear p11); (try clear p119); (try clear p2); (try clear q1); (try clear q11); (try clear q119)
           obtain ⟨x5_4, rfl, HA, HK4, BK117, BK120, HB⟩ := hrel
           cases gk with
           | zero => exact absurd HA.out (by simp [spec_SuiteOk.l1])
           | succ k4 =>
            have H := HA.out; clear HA
            simp only [spec_SuiteOk.l1] at H
            by_cases c40 : x5_4 < (((rd_T39 l0_0 x3_2).f0).length : Int)
            ·rw [if_pos c40] at H
             have c40b0 : decide (x5_4 < (((rd_T39 l0_0 x3_2).f0).length : Int)) = true := decide_eq_true c40
             clear c40
             obtain ⟨c41, H⟩ := ifS_ H
             have c41b0 : decide (0 ≤ x5_4) = true := decide_eq_true c41
             clear c41; replace H := Option.bind_eq_some_iff.mp H
             obtain ⟨t125, A420, H⟩ := H
             replace H : (if t125 = true then (if x5_4 > 0 then (if 0 ≤ (wrap64 (x5_4 - 1)) then (if (wrap64 (x5_4 - 1)) < (((rd_T39 l0_0 x3_2).f0).length : Int) then (if (rd ((rd_T39 l0_0 x3_2).f0) x5_4) ≤ (rd ((rd_T39 l0_0 x3_2).f0) (wrap64 (x5_4 - 1))) then (some false) else (spec_SuiteOk.l1 k4 x3_2 (wrap64 (x5_4 + 1)) l0_0 l0_1 ((rd_T39 l0_0 x3_2).f0) ((rd_T39 l0_0 x3_2).f1) ((rd_T39 l0_0 x3_2).f2) ((rd_T39 l0_0 x3_2).f3))) else (none)) else (none)) else (spec_SuiteOk.l1 k4 x3_2 (wrap64 (x5_4 + 1)) l0_0 l0_1 ((rd_T39 l0_0 x3_2).f0) ((rd_T39 l0_0 x3_2).f1) ((rd_T39 l0_0 x3_2).f2) ((rd_T39 l0_0 x3_2).f3))) else (some false)) = some r := H
             have A42 := Aside0.mk A420; clear A420
             by_cases c43 : t125 = true
             ·subst c43
              have H1 : (if x5_4 > 0 then (if 0 ≤ (wrap64 (x5_4 - 1)) then (if (wrap64 (x5_4 - 1)) < (((rd_T39 l0_0 x3_2).f0).length : Int) then (if (rd ((rd_T39 l0_0 x3_2).f0) x5_4) ≤ (rd ((rd_T39 l0_0 x3_2).f0) (wrap64 (x5_4 - 1))) then (some false) else (spec_SuiteOk.l1 k4 x3_2 (wrap64 (x5_4 + 1)) l0_0 l0_1 ((rd_T39 l0_0 x3_2).f0) ((rd_T39 l0_0 x3_2).f1) ((rd_T39 l0_0 x3_2).f2) ((rd_T39 l0_0 x3_2).f3))) else (none)) else (none)) else (spec_SuiteOk.l1 k4 x3_2 (wrap64 (x5_4 + 1)) l0_0 l0_1 ((rd_T39 l0_0 x3_2).f0) ((rd_T39 l0_0 x3_2).f1) ((rd_T39 l0_0 x3_2).f2) ((rd_T39 l0_0 x3_2).f3))) = some r := by rw [if_pos rfl] at H; exact H
              clear H; have H := H1; clear H1
              by_cases c44 : x5_4 > 0
              ·rw [if_pos c44] at H
               have c44b0 : decide (0 < x5_4) = true := decide_eq_true c44
               clear c44
               obtain ⟨ji45, hji45⟩ : ∃ j_ : Int, (wrap64 (x5_4 - 1)) = j_ := ⟨_, rfl⟩
               replace H : (if 0 ≤ (ji45) then (if (ji45) < (((rd_T39 l0_0 x3_2).f0).length : Int) then (if (rd ((rd_T39 l0_0 x3_2).f0) x5_4) ≤ (rd ((rd_T39 l0_0 x3_2).f0) (ji45)) then (some false) else (spec_SuiteOk.l1 k4 x3_2 (wrap64 (x5_4 + 1)) l0_0 l0_1 ((rd_T39 l0_0 x3_2).f0) ((rd_T39 l0_0 x3_2).f1) ((rd_T39 l0_0 x3_2).f2) ((rd_T39 l0_0 x3_2).f3))) else (none)) else (none)) = some r := by first | (rw [hji45] at H; exact H) | (simp only [hji45] at H ⊢; exact H)
               (try rw [hji45] at A42)
               have hji45w : (IntKind.i64.wrap (x5_4 - 1)) = ji45 := (i64_w _).trans hji45
               obtain ⟨c46, H⟩ := ifS_ H
               have c46b0 : decide (0 ≤ (ji45)) = true := decide_eq_true c46
               clear c46
               obtain ⟨c47, H⟩ := ifS_ H
               have c47b0 : decide ((ji45) < (((rd_T39 l0_0 x3_2).f0).length : Int)) = true := decide_eq_true c47
               clear c47
               by_cases c48 : (rd ((rd_T39 l0_0 x3_2).f0) x5_4) ≤ (rd ((rd_T39 l0_0 x3_2).f0) (ji45))
               ·rw [if_pos c48] at H
                have c48b0 : decide ((rd ((rd_T39 l0_0 x3_2).f0) x5_4) ≤ (rd ((rd_T39 l0_0 x3_2).f0) (ji45))) = true := decide_eq_true c48
                clear c48
                obtain rfl := Option.some.inj H
                have hnb49 := NB120_117.out; have hnc49 := NB117_120.out
                have hcz50_0 : wr.cell? ⟨gb120, 0, none⟩ = some (.slice A119_0 ((rd_T39 l0_0 x3_2).f0).length c119_0) := (blk_cell BK120.out 0).trans rfl
                have hcz50_1 : wr.cell? ⟨gb120, 1, none⟩ = some (.int .i64 ((rd_T39 l0_0 x3_2).f1)) := (blk_cell BK120.out 1).trans rfl
                have hcz50_2 : wr.cell? ⟨gb120, 2, none⟩ = some (.int .i64 ((rd_T39 l0_0 x3_2).f2)) := (blk_cell BK120.out 2).trans rfl
                have hcz50_3 : wr.cell? ⟨gb120, 3, none⟩ = some (.int .i64 ((rd_T39 l0_0 x3_2).f3)) := (blk_cell BK120.out 3).trans rfl
                have hfz50_0 := blk_frozen BK120.out 0; have hfz50_1 := blk_frozen BK120.out 1; have hfz50_2 := blk_frozen BK120.out 2; have hfz50_3 := blk_frozen BK120.out 3
                have p124 : 0 ≤ (x5_4 : Int) := of_decide_eq_true (by first | (with_reducible assumption) | assumption)
                have q124 : x5_4 < (((rd_T39 l0_0 x3_2).f0).length : Int) := of_decide_eq_true (by first | (with_reducible assumption) | assumption)
                obtain ⟨ad124, e124, hx124_0⟩ := Kd.at_int HR119_0.out x5_4 p124 q124
                cases e124
                replace hx124_0 := (HB.out.cell (World.block_lt_of_cell? w _ hx124_0)).trans hx124_0
                replace p124 := eq_true p124; replace q124 := eq_true q124
                go_wp2_with (first | (go_at_call 60; (with_reducible refine (spec_l2In.calls (rd ((rd_T39 l0_0 x3_2).f0) x5_4) 1 x3_2 true _ A42.out).mono ?_); rintro e w' ⟨rfl, ⟨nd, rfl⟩⟩; (try first | exact ⟨rfl, _, World.drewN_drewN _ _ _⟩ | exact ⟨rfl, _, Eq.trans (World.drewN_drewN _ _ _) (congrArg (World.drewN _) (Nat.add_assoc _ _ _))⟩); have p126 : 0 ≤ (x5_4 : Int) := of_decide_eq_true (by first | (with_reducible assumption) | assumption); have q126 : x5_4 < (((rd_T39 l0_0 x3_2).f0).length : Int) := of_decide_eq_true (by first | (with_reducible assumption) | assumption); obtain ⟨ad126, e126, hx126_0⟩ := Kd.at_int HR119_0.out x5_4 p126 q126; obtain rfl : ad124 = ad126 := (by injection e126); replace hx126_0 := (HB.out.cell (World.block_lt_of_cell? w _ hx126_0)).trans hx126_0; replace p126 := eq_true p126; replace q126 := eq_true q126; have p127 : 0 ≤ ((ji45) : Int) := of_decide_eq_true (by first | (with_reducible assumption) | assumption); have q127 : (ji45) < (((rd_T39 l0_0 x3_2).f0).length : Int) := of_decide_eq_true (by first | (with_reducible assumption) | assumption); obtain ⟨ad127, e127, hx127_0⟩ := Kd.at_int HR119_0.out (ji45) p127 q127; obtain rfl : ad124 = ad127 := (by injection e127); replace hx127_0 := (HB.out.cell (World.block_lt_of_cell? w _ hx127_0)).trans hx127_0; replace p127 := eq_true p127; replace q127 := eq_true q127))
                repeat (go_quiet (first | (go_at_call 60; (with_reducible refine (spec_l2In.calls (rd ((rd_T39 l0_0 x3_2).f0) x5_4) 1 x3_2 true _ A42.out).mono ?_); rintro e w' ⟨rfl, ⟨nd, rfl⟩⟩; (try first | exact ⟨rfl, _, World.drewN_drewN _ _ _⟩ | exact ⟨rfl, _, Eq.trans (World.drewN_drewN _ _ _) (congrArg (World.drewN _) (Nat.add_assoc _ _ _))⟩); have p126 : 0 ≤ (x5_4 : Int) := of_decide_eq_true (by first | (with_reducible assumption) | assumption); have q126 : x5_4 < (((rd_T39 l0_0 x3_2).f0).length : Int) := of_decide_eq_true (by first | (with_reducible assumption) | assumption); obtain ⟨ad126, e126, hx126_0⟩ := Kd.at_int HR119_0.out x5_4 p126 q126; obtain rfl : ad124 = ad126 := (by injection e126); replace hx126_0 := (HB.out.cell (World.block_lt_of_cell? w _ hx126_0)).trans hx126_0; replace p126 := eq_true p126; replace q126 := eq_true q126; have p127 : 0 ≤ ((ji45) : Int) := of_decide_eq_true (by first | (with_reducible assumption) | assumption); have q127 : (ji45) < (((rd_T39 l0_0 x3_2).f0).length : Int) := of_decide_eq_true (by first | (with_reducible assumption) | assumption); obtain ⟨ad127, e127, hx127_0⟩ := Kd.at_int HR119_0.out (ji45) p127 q127; obtain rfl : ad124 = ad127 := (by injection e127); replace hx127_0 := (HB.out.cell (World.block_lt_of_cell? w _ hx127_0)).trans hx127_0; replace p127 := eq_true p127; replace q127 := eq_true q127)); try go_wp2_with (first | (go_at_call 60; (with_reducible refine (spec_l2In.calls (rd ((rd_T39 l0_0 x3_2).f0) x5_4) 1 x3_2 true _ A42.out).mono ?_); rintro e w' ⟨rfl, ⟨nd, rfl⟩⟩; (try first | exact ⟨rfl, _, World.drewN_drewN _ _ _⟩ | exact ⟨rfl, _, Eq.trans (World.drewN_drewN _ _ _) (congrArg (World.drewN _) (Nat.add_assoc _ _ _))⟩); have p126 : 0 ≤ (x5_4 : Int) := of_decide_eq_true (by first | (with_reducible assumption) | assumption); have q126 : x5_4 < (((rd_T39 l0_0 x3_2).f0).length : Int) := of_decide_eq_true (by first | (with_reducible assumption) | assumption); obtain ⟨ad126, e126, hx126_0⟩ := Kd.at_int HR119_0.out x5_4 p126 q126; obtain rfl : ad124 = ad126 := (by injection e126); replace hx126_0 := (HB.out.cell (World.block_lt_of_cell? w _ hx126_0)).trans hx126_0; replace p126 := eq_true p126; replace q126 := eq_true q126; have p127 : 0 ≤ ((ji45) : Int) := of_decide_eq_true (by first | (with_reducible assumption) | assumption); have q127 : (ji45) < (((rd_T39 l0_0 x3_2).f0).length : Int) := of_decide_eq_true (by first | (with_reducible assumption) | assumption); obtain ⟨ad127, e127, hx127_0⟩ := Kd.at_int HR119_0.out (ji45) p127 q127; obtain rfl : ad124 = ad127 := (by injection e127); replace hx127_0 := (HB.out.cell (World.block_lt_of_cell? w _ hx127_0)).trans hx127_0; replace p127 := eq_true p127; replace q127 := eq_true q127)))
                go_ret
                exact ⟨by first | rfl | (simp [errW_none, errW_some] <;> rfl) | (simp only [← hji45]; first | rfl | (simp [errW_none, errW_some] <;> rfl)) | (simp [*, errW_none, errW_some] <;> rfl), sABelo_3⟩
               ·rw [if_neg c48] at H
                have c48b0 : decide ((rd ((rd_T39 l0_0 x3_2).f0) x5_4) ≤ (rd ((rd_T39 l0_0 x3_2).f0) (ji45))) = false := decide_eq_false c48
                clear c48; have H' := Aside0.mk H; clear H; have hnb51 := NB120_117.out; have hnc51 := NB117_120.out
                have hcz52_0 : wr.cell? ⟨gb120, 0, none⟩ = some (.slice A119_0 ((rd_T39 l0_0 x3_2).f0).length c119_0) := (blk_cell BK120.out 0).trans rfl
                have hcz52_1 : wr.cell? ⟨gb120, 1, none⟩ = some (.int .i64 ((rd_T39 l0_0 x3_2).f1)) := (blk_cell BK120.out 1).trans rfl
                have hcz52_2 : wr.cell? ⟨gb120, 2, none⟩ = some (.int .i64 ((rd_T39 l0_0 x3_2).f2)) := (blk_cell BK120.out 2).trans rfl
                have hcz52_3 : wr.cell? ⟨gb120, 3, none⟩ = some (.int .i64 ((rd_T39 l0_0 x3_2).f3)) := (blk_cell BK120.out 3).trans rfl
                have hfz52_0 := blk_frozen BK120.out 0; have hfz52_1 := blk_frozen BK120.out 1; have hfz52_2 := blk_frozen BK120.out 2; have hfz52_3 := blk_frozen BK120.out 3
                have p124 : 0 ≤ (x5_4 : Int) := of_decide_eq_true (by first | (with_reducible assumption) | assumption)
                have q124 : x5_4 < (((rd_T39 l0_0 x3_2).f0).length : Int) := of_decide_eq_true (by first | (with_reducible assumption) | assumption)
                obtain ⟨ad124, e124, hx124_0⟩ := Kd.at_int HR119_0.out x5_4 p124 q124
                cases e124
                replace hx124_0 := (HB.out.cell (World.block_lt_of_cell? w _ hx124_0)).trans hx124_0
                replace p124 := eq_true p124; replace q124 := eq_true q124
                go_wp2_with (first | (go_at_call 60; (with_reducible refine (spec_l2In.calls (rd ((rd_T39 l0_0 x3_2).f0) x5_4) 1 x3_2 true _ A42.out).mono ?_); rintro e w' ⟨rfl, ⟨nd, rfl⟩⟩; (try first | exact ⟨rfl, _, World.drewN_drewN _ _ _⟩ | exact ⟨rfl, _, Eq.trans (World.drewN_drewN _ _ _) (congrArg (World.drewN _) (Nat.add_assoc _ _ _))⟩); have p126 : 0 ≤ (x5_4 : Int) := of_decide_eq_true (by first | (with_reducible assumption) | assumption); have q126 : x5_4 < (((rd_T39 l0_0 x3_2).f0).length : Int) := of_decide_eq_true (by first | (with_reducible assumption) | assumption); obtain ⟨ad126, e126, hx126_0⟩ := Kd.at_int HR119_0.out x5_4 p126 q126; obtain rfl : ad124 = ad126 := (by injection e126); replace hx126_0 := (HB.out.cell (World.block_lt_of_cell? w _ hx126_0)).trans hx126_0; replace p126 := eq_true p126; replace q126 := eq_true q126; have p127 : 0 ≤ ((ji45) : Int) := of_decide_eq_true (by first | (with_reducible assumption) | assumption); have q127 : (ji45) < (((rd_T39 l0_0 x3_2).f0).length : Int) := of_decide_eq_true (by first | (with_reducible assumption) | assumption); obtain ⟨ad127, e127, hx127_0⟩ := Kd.at_int HR119_0.out (ji45) p127 q127; obtain rfl : ad124 = ad127 := (by injection e127); replace hx127_0 := (HB.out.cell (World.block_lt_of_cell? w _ hx127_0)).trans hx127_0; replace p127 := eq_true p127; replace q127 := eq_true q127))
                repeat (go_quiet (first | (go_at_call 60; (with_reducible refine (spec_l2In.calls (rd ((rd_T39 l0_0 x3_2).f0) x5_4) 1 x3_2 true _ A42.out).mono ?_); rintro e w' ⟨rfl, ⟨nd, rfl⟩⟩; (try first | exact ⟨rfl, _, World.drewN_drewN _ _ _⟩ | exact ⟨rfl, _, Eq.trans (World.drewN_drewN _ _ _) (congrArg (World.drewN _) (Nat.add_assoc _ _ _))⟩); have p126 : 0 ≤ (x5_4 : Int) := of_decide_eq_true (by first | (with_reducible assumption) | assumption); have q126 : x5_4 < (((rd_T39 l0_0 x3_2).f0).length : Int) := of_decide_eq_true (by first | (with_reducible assumption) | assumption); obtain ⟨ad126, e126, hx126_0⟩ := Kd.at_int HR119_0.out x5_4 p126 q126; obtain rfl : ad124 = ad126 := (by injection e126); replace hx126_0 := (HB.out.cell (World.block_lt_of_cell? w _ hx126_0)).trans hx126_0; replace p126 := eq_true p126; replace q126 := eq_true q126; have p127 : 0 ≤ ((ji45) : Int) := of_decide_eq_true (by first | (with_reducible assumption) | assumption); have q127 : (ji45) < (((rd_T39 l0_0 x3_2).f0).length : Int) := of_decide_eq_true (by first | (with_reducible assumption) | assumption); obtain ⟨ad127, e127, hx127_0⟩ := Kd.at_int HR119_0.out (ji45) p127 q127; obtain rfl : ad124 = ad127 := (by injection e127); replace hx127_0 := (HB.out.cell (World.block_lt_of_cell? w _ hx127_0)).trans hx127_0; replace p127 := eq_true p127; replace q127 := eq_true q127)); try go_wp2_with (first | (go_at_call 60; (with_reducible refine (spec_l2In.calls (rd ((rd_T39 l0_0 x3_2).f0) x5_4) 1 x3_2 true _ A42.out).mono ?_); rintro e w' ⟨rfl, ⟨nd, rfl⟩⟩; (try first | exact ⟨rfl, _, World.drewN_drewN _ _ _⟩ | exact ⟨rfl, _, Eq.trans (World.drewN_drewN _ _ _) (congrArg (World.drewN _) (Nat.add_assoc _ _ _))⟩); have p126 : 0 ≤ (x5_4 : Int) := of_decide_eq_true (by first | (with_reducible assumption) | assumption); have q126 : x5_4 < (((rd_T39 l0_0 x3_2).f0).length : Int) := of_decide_eq_true (by first | (with_reducible assumption) | assumption); obtain ⟨ad126, e126, hx126_0⟩ := Kd.at_int HR119_0.out x5_4 p126 q126; obtain rfl : ad124 = ad126 := (by injection e126); replace hx126_0 := (HB.out.cell (World.block_lt_of_cell? w _ hx126_0)).trans hx126_0; replace p126 := eq_true p126; replace q126 := eq_true q126; have p127 : 0 ≤ ((ji45) : Int) := of_decide_eq_true (by first | (with_reducible assumption) | assumption); have q127 : (ji45) < (((rd_T39 l0_0 x3_2).f0).length : Int) := of_decide_eq_true (by first | (with_reducible assumption) | assumption); obtain ⟨ad127, e127, hx127_0⟩ := Kd.at_int HR119_0.out (ji45) p127 q127; obtain rfl : ad124 = ad127 := (by injection e127); replace hx127_0 := (HB.out.cell (World.block_lt_of_cell? w _ hx127_0)).trans hx127_0; replace p127 := eq_true p127; replace q127 := eq_true q127)))
                go_roundg k4
                case measure => have := HJ1.out; have := HK2.out; have := HJ16.out; have := HK4.out; omega
                case rel => exact ⟨(wrap64 (x5_4 + 1)), (by first | rfl | (simp; done) | (simp [*]; done)), H', ⟨by have := HJ1.out; have := HK2.out; have := HJ16.out; have := HK4.out; omega⟩, ⟨by exact bT_ BK117⟩, ⟨by exact bT_ BK120⟩, ⟨sABelo_3⟩⟩
              ·rw [if_neg c44] at H
               have c44b0 : decide (0 < x5_4) = false := decide_eq_false c44
               clear c44; have H' := Aside0.mk H; clear H; have hnb53 := NB120_117.out; have hnc53 := NB117_120.out
               have hcz54_0 : wr.cell? ⟨gb120, 0, none⟩ = some (.slice A119_0 ((rd_T39 l0_0 x3_2).f0).length c119_0) := (blk_cell BK120.out 0).trans rfl
               have hcz54_1 : wr.cell? ⟨gb120, 1, none⟩ = some (.int .i64 ((rd_T39 l0_0 x3_2).f1)) := (blk_cell BK120.out 1).trans rfl
               have hcz54_2 : wr.cell? ⟨gb120, 2, none⟩ = some (.int .i64 ((rd_T39 l0_0 x3_2).f2)) := (blk_cell BK120.out 2).trans rfl
               have hcz54_3 : wr.cell? ⟨gb120, 3, none⟩ = some (.int .i64 ((rd_T39 l0_0 x3_2).f3)) := (blk_cell BK120.out 3).trans rfl
               have hfz54_0 := blk_frozen BK120.out 0; have hfz54_1 := blk_frozen BK120.out 1; have hfz54_2 := blk_frozen BK120.out 2; have hfz54_3 := blk_frozen BK120.out 3
               have p124 : 0 ≤ (x5_4 : Int) := of_decide_eq_true (by first | (with_reducible assumption) | assumption)
               have q124 : x5_4 < (((rd_T39 l0_0 x3_2).f0).length : Int) := of_decide_eq_true (by first | (with_reducible assumption) | assumption)
               obtain ⟨ad124, e124, hx124_0⟩ := Kd.at_int HR119_0.out x5_4 p124 q124
               cases e124
               replace hx124_0 := (HB.out.cell (World.block_lt_of_cell? w _ hx124_0)).trans hx124_0
               replace p124 := eq_true p124; replace q124 := eq_true q124
               go_wp2_with (first | (go_at_call 60; (with_reducible refine (spec_l2In.calls (rd ((rd_T39 l0_0 x3_2).f0) x5_4) 1 x3_2 true _ A42.out).mono ?_); rintro e w' ⟨rfl, ⟨nd, rfl⟩⟩; (try first | exact ⟨rfl, _, World.drewN_drewN _ _ _⟩ | exact ⟨rfl, _, Eq.trans (World.drewN_drewN _ _ _) (congrArg (World.drewN _) (Nat.add_assoc _ _ _))⟩)))
               repeat (go_quiet (first | (go_at_call 60; (with_reducible refine (spec_l2In.calls (rd ((rd_T39 l0_0 x3_2).f0) x5_4) 1 x3_2 true _ A42.out).mono ?_); rintro e w' ⟨rfl, ⟨nd, rfl⟩⟩; (try first | exact ⟨rfl, _, World.drewN_drewN _ _ _⟩ | exact ⟨rfl, _, Eq.trans (World.drewN_drewN _ _ _) (congrArg (World.drewN _) (Nat.add_assoc _ _ _))⟩))); try go_wp2_with (first | (go_at_call 60; (with_reducible refine (spec_l2In.calls (rd ((rd_T39 l0_0 x3_2).f0) x5_4) 1 x3_2 true _ A42.out).mono ?_); rintro e w' ⟨rfl, ⟨nd, rfl⟩⟩; (try first | exact ⟨rfl, _, World.drewN_drewN _ _ _⟩ | exact ⟨rfl, _, Eq.trans (World.drewN_drewN _ _ _) (congrArg (World.drewN _) (Nat.add_assoc _ _ _))⟩))))
               go_roundg k4
               case measure => have := HJ1.out; have := HK2.out; have := HJ16.out; have := HK4.out; omega
               case rel => exact ⟨(wrap64 (x5_4 + 1)), (by first | rfl | (simp; done) | (simp [*]; done)), H', ⟨by have := HJ1.out; have := HK2.out; have := HJ16.out; have := HK4.out; omega⟩, ⟨by exact bT_ BK117⟩, ⟨by exact bT_ BK120⟩, ⟨sABelo_3⟩⟩
             ·replace c43 := Bool.eq_false_iff.mpr c43
              subst c43
              have H1 : (some false) = some r := by rw [if_neg (show ¬ (false = true) by decide)] at H; exact H
              clear H; have H := H1; clear H1
              obtain rfl := Option.some.inj H
              have hnb55 := NB120_117.out; have hnc55 := NB117_120.out
              have hcz56_0 : wr.cell? ⟨gb120, 0, none⟩ = some (.slice A119_0 ((rd_T39 l0_0 x3_2).f0).length c119_0) := (blk_cell BK120.out 0).trans rfl
              have hcz56_1 : wr.cell? ⟨gb120, 1, none⟩ = some (.int .i64 ((rd_T39 l0_0 x3_2).f1)) := (blk_cell BK120.out 1).trans rfl
              have hcz56_2 : wr.cell? ⟨gb120, 2, none⟩ = some (.int .i64 ((rd_T39 l0_0 x3_2).f2)) := (blk_cell BK120.out 2).trans rfl
              have hcz56_3 : wr.cell? ⟨gb120, 3, none⟩ = some (.int .i64 ((rd_T39 l0_0 x3_2).f3)) := (blk_cell BK120.out 3).trans rfl
              have hfz56_0 := blk_frozen BK120.out 0; have hfz56_1 := blk_frozen BK120.out 1; have hfz56_2 := blk_frozen BK120.out 2; have hfz56_3 := blk_frozen BK120.out 3
              have p124 : 0 ≤ (x5_4 : Int) := of_decide_eq_true (by first | (with_reducible assumption) | assumption)
              have q124 : x5_4 < (((rd_T39 l0_0 x3_2).f0).length : Int) := of_decide_eq_true (by first | (with_reducible assumption) | assumption)
              obtain ⟨ad124, e124, hx124_0⟩ := Kd.at_int HR119_0.out x5_4 p124 q124
              cases e124
              replace hx124_0 := (HB.out.cell (World.block_lt_of_cell? w _ hx124_0)).trans hx124_0
              replace p124 := eq_true p124; replace q124 := eq_true q124
              go_wp2_with (first | (go_at_call 60; (with_reducible refine (spec_l2In.calls (rd ((rd_T39 l0_0 x3_2).f0) x5_4) 1 x3_2 false _ A42.out).mono ?_); rintro e w' ⟨rfl, ⟨nd, rfl⟩⟩; (try first | exact ⟨rfl, _, World.drewN_drewN _ _ _⟩ | exact ⟨rfl, _, Eq.trans (World.drewN_drewN _ _ _) (congrArg (World.drewN _) (Nat.add_assoc _ _ _))⟩)))
              repeat (go_quiet (first | (go_at_call 60; (with_reducible refine (spec_l2In.calls (rd ((rd_T39 l0_0 x3_2).f0) x5_4) 1 x3_2 false _ A42.out).mono ?_); rintro e w' ⟨rfl, ⟨nd, rfl⟩⟩; (try first | exact ⟨rfl, _, World.drewN_drewN _ _ _⟩ | exact ⟨rfl, _, Eq.trans (World.drewN_drewN _ _ _) (congrArg (World.drewN _) (Nat.add_assoc _ _ _))⟩))); try go_wp2_with (first | (go_at_call 60; (with_reducible refine (spec_l2In.calls (rd ((rd_T39 l0_0 x3_2).f0) x5_4) 1 x3_2 false _ A42.out).mono ?_); rintro e w' ⟨rfl, ⟨nd, rfl⟩⟩; (try first | exact ⟨rfl, _, World.drewN_drewN _ _ _⟩ | exact ⟨rfl, _, Eq.trans (World.drewN_drewN _ _ _) (congrArg (World.drewN _) (Nat.add_assoc _ _ _))⟩))))
              go_ret
              exact ⟨by first | rfl | (simp [errW_none, errW_some] <;> rfl) | (simp [*, errW_none, errW_some] <;> rfl), sABelo_3⟩
            ·rw [if_neg c40] at H
             have c40b0 : decide (x5_4 < (((rd_T39 l0_0 x3_2).f0).length : Int)) = false := decide_eq_false c40
             clear c40; have H' := Aside0.mk H; clear H; have hnb57 := NB120_117.out; have hnc57 := NB117_120.out
             have hcz58_0 : wr.cell? ⟨gb120, 0, none⟩ = some (.slice A119_0 ((rd_T39 l0_0 x3_2).f0).length c119_0) := (blk_cell BK120.out 0).trans rfl
             have hcz58_1 : wr.cell? ⟨gb120, 1, none⟩ = some (.int .i64 ((rd_T39 l0_0 x3_2).f1)) := (blk_cell BK120.out 1).trans rfl
             have hcz58_2 : wr.cell? ⟨gb120, 2, none⟩ = some (.int .i64 ((rd_T39 l0_0 x3_2).f2)) := (blk_cell BK120.out 2).trans rfl
             have hcz58_3 : wr.cell? ⟨gb120, 3, none⟩ = some (.int .i64 ((rd_T39 l0_0 x3_2).f3)) := (blk_cell BK120.out 3).trans rfl
             have hfz58_0 := blk_frozen BK120.out 0; have hfz58_1 := blk_frozen BK120.out 1; have hfz58_2 := blk_frozen BK120.out 2; have hfz58_3 := blk_frozen BK120.out 3
             go_wp2
             repeat (go_quiet (fail); try go_wp2)
             go_roundg k4
             case measure => have := HJ1.out; have := HK2.out; have := HJ16.out; have := HK4.out; omega
             case rel => exact ⟨(wrap64 (x3_2 + 1)), (by first | rfl | (simp; done) | (simp [*]; done)), H', ⟨by have := HJ1.out; have := HK2.out; have := HJ16.out; have := HK4.out; omega⟩, ⟨by exact bT_ BK117⟩, ⟨sABelo_3⟩⟩
      ·rw [if_neg c15] at H
       have c15b0 : decide (x3_2 < (l0_0.length : Int)) = false := decide_eq_false c15
       clear c15
       obtain rfl := Option.some.inj H
       have hcz59_0 : wr.cell? ⟨gb117, 0, none⟩ = some (.slice A0_0 l0_0.length c0_0) := (blk_cell BK117.out 0).trans rfl
       have hcz59_1 : wr.cell? ⟨gb117, 1, none⟩ = some (.slice A0_1 l0_1.length c0_1) := (blk_cell BK117.out 1).trans rfl
       have hfz59_0 := blk_frozen BK117.out 0; have hfz59_1 := blk_frozen BK117.out 1
       go_wp2
       repeat (go_quiet (fail); try go_wp2)
       go_ret
       exact ⟨by first | rfl | (simp [errW_none, errW_some] <;> rfl) | (simp [*, errW_none, errW_some] <;> rfl), sABelo_3⟩

end Go.Proofs.Ytjoghfehmhapbaa.QFnExactCrashRun
