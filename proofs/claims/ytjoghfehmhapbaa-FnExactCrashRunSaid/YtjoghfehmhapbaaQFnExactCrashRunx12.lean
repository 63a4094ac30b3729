-- Written by a program of this session out of the printer's texts and contracts of its own.
import Derived.Test.YtjoghfehmhapbaaSq
import Derived.Test.YtjoghfehmhapbaaQFnExactCrashRunx0
import Derived.Test.YtjoghfehmhapbaaQFnExactCrashRunx1
import Derived.Test.YtjoghfehmhapbaaQFnExactCrashRunx3
import Derived.Test.YtjoghfehmhapbaaQFnExactCrashRunx4
namespace Go.Proofs.Ytjoghfehmhapbaa.QFnExactCrashRun
open Go.RowKit Go.Proofs.YtjoghfehmhapbaaW.PrintWords Go.Proofs.YtjoghfehmhapbaaW.PrintLast Go.Proofs.YtjoghfehmhapbaaW.PrintMore Go.Proofs.Ytjoghfehmhapbaa.Sq
attribute [local go_sem] max2_int min2_int max_two min_two max_three min_three max_four min_four   -- for this text's walks alone
set_option linter.unusedVariables false
set_option linter.unusedSimpArgs false
theorem sABelo_12 {b : Nat} {w W : World} (h : Below b w W := by repeat (first | (with_reducible first | exact Aside0.out (by assumption) | apply below_alloc | apply pw_below_drewN | apply below_drew1 | refine below_set ?_ (Aside0.out (by assumption))) | exact Aside0.out (by assumption))) : Below b w W := h

/-! ### spec_l24Ok: function 58 -/
mutual
def spec_l24Ok.j0 : Nat → Bool → List (S39) → List Int → Int → List (S43) → Option (Bool)
 | 0, _, _, _, _, _ => none
 | k + 1, x26, x308000, x308001, x308002, x308003 => if x26 = true then (some false) else (spec_l24Ok.l0 k 0 x308000 x308001 x308002 x308003)
def spec_l24Ok.l0 : Nat → Int → List (S39) → List Int → Int → List (S43) → Option (Bool)
 | 0, _, _, _, _, _ => none
 | k + 1, x3, x308000, x308001, x308002, x308003 => if x3 < (x308003.length : Int) then (if 0 ≤ x3 then (if x3 < (x308000.length : Int) then ((spec_l2In.f ((rd_T43 x308003 x3).f0) 0 3).bind fun t313 => (if t313 = true then ((spec_l2In.f ((rd_T43 x308003 x3).f1) 0 ((rd_T39 x308000 x3).f3)).bind fun t314 => (spec_l24Ok.j2 k x3 ((rd_T39 x308000 x3).f3) (!t314) x308000 x308001 x308002 x308003 ((rd_T43 x308003 x3).f0) ((rd_T43 x308003 x3).f1))) else (spec_l24Ok.j2 k x3 ((rd_T39 x308000 x3).f3) true x308000 x308001 x308002 x308003 ((rd_T43 x308003 x3).f0) ((rd_T43 x308003 x3).f1)))) else (none)) else (none)) else (spec_l24Ok.l1 k 0 x308000 x308001 x308002 x308003)
def spec_l24Ok.j2 : Nat → Int → Int → Bool → List (S39) → List Int → Int → List (S43) → Int → Int → Option (Bool)
 | 0, _, _, _, _, _, _, _, _, _ => none
 | k + 1, x3, x5, x56, x308000, x308001, x308002, x308003, x312000, x312001 => if x56 = true then (some false) else (if x312000 = 0 then (if x312001 = x5 then (some false) else (if x312000 = 3 then (some false) else (spec_l24Ok.l0 k (wrap64 (x3 + 1)) x308000 x308001 x308002 x308003))) else (if x312000 = 3 then (if x312001 = x5 then (if x312001 = 0 then (some false) else ((spec_l24Free.f k x308000 x308001 x308002 x308003 x3).bind fun t315 => (if t315 = true then (spec_l24Ok.l0 k (wrap64 (x3 + 1)) x308000 x308001 x308002 x308003) else (some false)))) else (some false)) else (if x312001 = 0 then (some false) else ((spec_l24Free.f k x308000 x308001 x308002 x308003 x3).bind fun t316 => (if t316 = true then (spec_l24Ok.l0 k (wrap64 (x3 + 1)) x308000 x308001 x308002 x308003) else (some false))))))
def spec_l24Ok.l1 : Nat → Int → List (S39) → List Int → Int → List (S43) → Option (Bool)
 | 0, _, _, _, _, _ => none
 | k + 1, x6, x308000, x308001, x308002, x308003 => if x6 < (x308001.length : Int) then ((spec_l24Running.f k x308000 x308001 x308002 x308003 (wrap64 (x6 + 1))).bind fun t317 => (if 0 ≤ x6 then (if t317 > (rd x308001 x6) then (some false) else (spec_l24Ok.l1 k (wrap64 (x6 + 1)) x308000 x308001 x308002 x308003)) else (none))) else (some true)
end
def spec_l24Ok.f (k : Nat) (l0_0 : List (S39)) (l0_1 : List Int) (a0_2 : Int) (l0_3 : List (S43)) : Option (Bool) := (spec_SuiteOk.f k l0_0 l0_1).bind fun t308 => (if t308 = true then ((spec_l2In.f a0_2 0 1000000000000).bind fun t309 => (if t309 = true then (spec_l24Ok.j0 k ((l0_3.length : Int) != (l0_0.length : Int)) l0_0 l0_1 a0_2 l0_3) else (spec_l24Ok.j0 k true l0_0 l0_1 a0_2 l0_3))) else (spec_l24Ok.j0 k true l0_0 l0_1 a0_2 l0_3))
theorem spec_l24Ok.mono_l : ∀ k, (∀ y0 y1 y2 y3 y4, LeO (spec_l24Ok.j0 k y0 y1 y2 y3 y4) (spec_l24Ok.j0 (k + 1) y0 y1 y2 y3 y4)) ∧ (∀ y0 y1 y2 y3 y4, LeO (spec_l24Ok.l0 k y0 y1 y2 y3 y4) (spec_l24Ok.l0 (k + 1) y0 y1 y2 y3 y4)) ∧ (∀ y0 y1 y2 y3 y4 y5 y6 y7 y8, LeO (spec_l24Ok.j2 k y0 y1 y2 y3 y4 y5 y6 y7 y8) (spec_l24Ok.j2 (k + 1) y0 y1 y2 y3 y4 y5 y6 y7 y8)) ∧ (∀ y0 y1 y2 y3 y4, LeO (spec_l24Ok.l1 k y0 y1 y2 y3 y4) (spec_l24Ok.l1 (k + 1) y0 y1 y2 y3 y4))
 | 0 => ⟨fun _ _ _ _ _ r h => by simp [spec_l24Ok.j0] at h, fun _ _ _ _ _ r h => by simp [spec_l24Ok.l0] at h, fun _ _ _ _ _ _ _ _ _ r h => by simp [spec_l24Ok.j2] at h, fun _ _ _ _ _ r h => by simp [spec_l24Ok.l1] at h⟩
 | k + 1 => by
  obtain ⟨ih0, ih1, ih2, ih3⟩ := spec_l24Ok.mono_l k
  refine ⟨?_, ?_, ?_, ?_⟩
  intro y0 y1 y2 y3 y4; unfold spec_l24Ok.j0; rotate_left
  intro y0 y1 y2 y3 y4; unfold spec_l24Ok.l0; rotate_left
  intro y0 y1 y2 y3 y4 y5 y6 y7 y8; unfold spec_l24Ok.j2; rotate_left
  intro y0 y1 y2 y3 y4; unfold spec_l24Ok.l1; rotate_left
  all_goals repeat' first
  | (with_reducible exact ih0 _ _ _ _ _)
  | (with_reducible exact ih1 _ _ _ _ _)
  | (with_reducible exact ih2 _ _ _ _ _ _ _ _ _)
  | (with_reducible exact ih3 _ _ _ _ _)
  | (with_reducible exact spec_SuiteOk.mono _ _ _)
  | (with_reducible exact spec_l24Free.mono _ _ _ _ _ _)
  | (with_reducible exact spec_l24Running.mono _ _ _ _ _ _)
  | (with_reducible exact LeO.refl _)
  | (with_reducible exact LeO.none _)
  | (with_reducible refine LeO.ite ?_ ?_)
  | (with_reducible refine LeO.bind ?_ (fun _ => ?_))
  | exact ih0 _ _ _ _ _
  | exact ih1 _ _ _ _ _
  | exact ih2 _ _ _ _ _ _ _ _ _
  | exact ih3 _ _ _ _ _
  | exact spec_SuiteOk.mono _ _ _
  | exact spec_l24Free.mono _ _ _ _ _ _
  | exact spec_l24Running.mono _ _ _ _ _ _
  | exact LeO.none _
  | refine LeO.ite ?_ ?_
  | refine LeO.bind ?_ (fun _ => ?_)
theorem spec_l24Ok.mono : ∀ a0 a1 a2 a3 k, LeO (spec_l24Ok.f k a0 a1 a2 a3) (spec_l24Ok.f (k + 1) a0 a1 a2 a3) := by
 intro a0 a1 a2 a3 k
 obtain ⟨ih0, ih1, ih2, ih3⟩ := spec_l24Ok.mono_l k
 unfold spec_l24Ok.f
 repeat' first
   | (with_reducible exact ih0 _ _ _ _ _)
   | (with_reducible exact ih1 _ _ _ _ _)
   | (with_reducible exact ih2 _ _ _ _ _ _ _ _ _)
   | (with_reducible exact ih3 _ _ _ _ _)
   | (with_reducible exact spec_SuiteOk.mono _ _ _)
   | (with_reducible exact spec_l24Free.mono _ _ _ _ _ _)
   | (with_reducible exact spec_l24Running.mono _ _ _ _ _ _)
   | (with_reducible exact LeO.refl _)
   | (with_reducible exact LeO.none _)
   | (with_reducible refine LeO.ite ?_ ?_)
   | (with_reducible refine LeO.bind ?_ (fun _ => ?_))
   | exact ih0 _ _ _ _ _
   | exact ih1 _ _ _ _ _
   | exact ih2 _ _ _ _ _ _ _ _ _
   | exact ih3 _ _ _ _ _
   | exact spec_SuiteOk.mono _ _ _
   | exact spec_l24Free.mono _ _ _ _ _ _
   | exact spec_l24Running.mono _ _ _ _ _ _
   | exact LeO.none _
   | refine LeO.ite ?_ ?_
   | refine LeO.bind ?_ (fun _ => ?_)
def spec_l24Ok.T15 : Bool × List (List Nat × List Nat) := (true, [([], []), ([], []), ([1], [1]), ([0, 2], [0, 2]), ([], []), ([4], [4]), ([5], [5]), ([], []), ([6, 7], [6, 7]), ([8], [8]), ([3, 9], [3, 9])])
def spec_l24Ok.B15 : List Nat := [0, 0, 2, 7, 0, 16, 48, 0, 240, 496, 1023]
theorem spec_l24Ok.tab15 : rtab .any (opsOf Try.f58 15) = spec_l24Ok.T15 := by kernel_rfl
theorem spec_l24Ok.bits15 : waitsOk spec_l24Ok.T15.2 spec_l24Ok.B15 = true := by kernel_rfl
set_option maxHeartbeats 8000000 in
set_option maxRecDepth 100000 in
theorem spec_l24Ok.calls (k : Nat) (A0_0 : Option Addr) (c0_0 : Nat) (l0_0 : List (S39)) (A0_1 : Option Addr) (c0_1 : Nat) (l0_1 : List Int) (a0_2 : Int) (A0_3 : Option Addr) (c0_3 : Nat) (l0_3 : List (S43)) (r : Bool) (w : World) (hr0_0 : Kd.C k39 w A0_0 l0_0.length l0_0) (hc0_0 : l0_0.length ≤ c0_0) (hr0_1 : Kd.C (Kd.int .i64) w A0_1 l0_1.length l0_1) (hc0_1 : l0_1.length ≤ c0_1) (hr0_3 : Kd.C k43 w A0_3 l0_3.length l0_3) (hc0_3 : l0_3.length ≤ c0_3) (h : spec_l24Ok.f k l0_0 l0_1 a0_2 l0_3 = some r) :
  Calls Try.prog 58 #[.agg #[.slice A0_0 l0_0.length c0_0, .slice A0_1 l0_1.length c0_1, .int .i64 a0_2, .slice A0_3 l0_3.length c0_3]] w fun e w' => e = .returned (.bool r) ∧ Below w.heap.size w w' := by
 have hu31 := Try.underlying31; have hu27 := Try.underlying27; have hu43 := Try.underlying43; have HR0_0 := Aside0.mk hr0_0; have HC0_0 := Aside0.mk hc0_0; clear hr0_0 hc0_0; have HR0_1 := Aside0.mk hr0_1; have HC0_1 := Aside0.mk hc0_1; clear hr0_1 hc0_1; have HR0_3 := Aside0.mk hr0_3; have HC0_3 := Aside0.mk hc0_3; clear hr0_3 hc0_3
 have HB := Aside0.mk (Below.refl w.heap.size w)
 have H : ((spec_SuiteOk.f k l0_0 l0_1).bind fun t308 => (if t308 = true then ((spec_l2In.f a0_2 0 1000000000000).bind fun t309 => (if t309 = true then (spec_l24Ok.j0 k ((l0_3.length : Int) != (l0_0.length : Int)) l0_0 l0_1 a0_2 l0_3) else (spec_l24Ok.j0 k true l0_0 l0_1 a0_2 l0_3))) else (spec_l24Ok.j0 k true l0_0 l0_1 a0_2 l0_3))) = some r := h
 clear h; have HC2 := Aside0.mk H; clear H
 go_enter Try.func58, Try.ntmps58
 go_upto_region 1 with (first | ((with_reducible refine gate_dst (N := 1) rfl ?_); (try (refine gate_guard (by rfl) ?_; dsimp only)); refine box_event ?hg (N := 1) ?hd (cs := #[.slice A0_0 l0_0.length c0_0, .slice A0_1 l0_1.length c0_1, .int .i64 a0_2, .slice A0_3 l0_3.length c0_3]) (t := 31) ?hr ?_; (case hd => rfl); (case hg => rfl); (case hr => first | (go_simp; done) | (go_simp; rfl)); intro gb307 hg w3 hbox hb; have BK307 := Aside0.mk (hbox); have GW307 := gE_ HB hg; have GE307 := gE_ HB hg; replace HB := bS_ HB hb; clear hb hbox hg))
 (try simp only [Act.put, List.setIfInBounds_toArray, List.set_cons_zero, List.set_cons_succ])
 go_cut [26] (fun v26 wc => ∃ (kq : Nat) (x26_1 : Bool), v26 = .bool x26_1 ∧ Aside0 (spec_l24Ok.j0 kq x26_1 l0_0 l0_1 a0_2 l0_3 = some r) ∧ Aside0 (kq ≤ k) ∧ Aside0 (wc.heap[gb307]? = some (.cells #[(.slice A0_0 l0_0.length c0_0), (.slice A0_1 l0_1.length c0_1), .int .i64 a0_2, (.slice A0_3 l0_3.length c0_3)] 31 (0, 0))) ∧ Aside0 (Below w.heap.size w wc))
 case first =>
  have H := HC2.out; clear HC2; replace H := Option.bind_eq_some_iff.mp H
  obtain ⟨t308, A40, H⟩ := H
  replace H : (if t308 = true then ((spec_l2In.f a0_2 0 1000000000000).bind fun t309 => (if t309 = true then (spec_l24Ok.j0 k ((l0_3.length : Int) != (l0_0.length : Int)) l0_0 l0_1 a0_2 l0_3) else (spec_l24Ok.j0 k true l0_0 l0_1 a0_2 l0_3))) else (spec_l24Ok.j0 k true l0_0 l0_1 a0_2 l0_3)) = some r := H
  have A4 := Aside0.mk A40; clear A40
  by_cases c5 : t308 = true
  ·subst c5
   have H1 : ((spec_l2In.f a0_2 0 1000000000000).bind fun t309 => (if t309 = true then (spec_l24Ok.j0 k ((l0_3.length : Int) != (l0_0.length : Int)) l0_0 l0_1 a0_2 l0_3) else (spec_l24Ok.j0 k true l0_0 l0_1 a0_2 l0_3))) = some r := by rw [if_pos rfl] at H; exact H
   clear H; have H := H1; clear H1; replace H := Option.bind_eq_some_iff.mp H
   obtain ⟨t309, A60, H⟩ := H
   replace H : (if t309 = true then (spec_l24Ok.j0 k ((l0_3.length : Int) != (l0_0.length : Int)) l0_0 l0_1 a0_2 l0_3) else (spec_l24Ok.j0 k true l0_0 l0_1 a0_2 l0_3)) = some r := H
   have A6 := Aside0.mk A60; clear A60
   by_cases c7 : t309 = true
   ·subst c7
    have H1 : (spec_l24Ok.j0 k ((l0_3.length : Int) != (l0_0.length : Int)) l0_0 l0_1 a0_2 l0_3) = some r := by rw [if_pos rfl] at H; exact H
    clear H; have H := H1; clear H1; have H' := Aside0.mk H; clear H
    have hcz8_0 : w3.cell? ⟨gb307, 0, none⟩ = some (.slice A0_0 l0_0.length c0_0) := (blk_cell BK307.out 0).trans rfl
    have hcz8_1 : w3.cell? ⟨gb307, 1, none⟩ = some (.slice A0_1 l0_1.length c0_1) := (blk_cell BK307.out 1).trans rfl
    have hcz8_2 : w3.cell? ⟨gb307, 2, none⟩ = some (.int .i64 a0_2) := (blk_cell BK307.out 2).trans rfl
    have hcz8_3 : w3.cell? ⟨gb307, 3, none⟩ = some (.slice A0_3 l0_3.length c0_3) := (blk_cell BK307.out 3).trans rfl
    have hfz8_0 := blk_frozen BK307.out 0; have hfz8_1 := blk_frozen BK307.out 1; have hfz8_2 := blk_frozen BK307.out 2; have hfz8_3 := blk_frozen BK307.out 3
    go_wp2_with (first | ((with_reducible refine gate_callee (f := 44) rfl ?_); refine gL_ (some 9) Try.func44 #[.agg #[.slice A0_0 l0_0.length c0_0, .slice A0_1 l0_1.length c0_1]] ?_; (with_reducible refine (spec_SuiteOk.calls k _ _ l0_0 _ _ l0_1 true _ ?side1 ?side2 ?side3 ?side4 A4.out).mono ?_); (case side1 => exact cB_ HR0_0 HB); (case side2 => exact HC0_0.out); (case side3 => exact cB_ HR0_1 HB); (case side4 => exact HC0_1.out); rintro e w9 ⟨rfl, hb⟩; refine ⟨_, rfl, ?_⟩; replace BK307 := bB_ BK307 hb; replace HB := bS_ HB hb; (try clear hb); (try clear hb2); (try clear hk); (try clear hi); have hcz10_0 : w9.cell? ⟨gb307, 0, none⟩ = some (.slice A0_0 l0_0.length c0_0) := (blk_cell BK307.out 0).trans rfl; have hcz10_1 : w9.cell? ⟨gb307, 1, none⟩ = some (.slice A0_1 l0_1.length c0_1) := (blk_cell BK307.out 1).trans rfl; have hcz10_2 : w9.cell? ⟨gb307, 2, none⟩ = some (.int .i64 a0_2) := (blk_cell BK307.out 2).trans rfl; have hcz10_3 : w9.cell? ⟨gb307, 3, none⟩ = some (.slice A0_3 l0_3.length c0_3) := (blk_cell BK307.out 3).trans rfl; have hfz10_0 := blk_frozen BK307.out 0; have hfz10_1 := blk_frozen BK307.out 1; have hfz10_2 := blk_frozen BK307.out 2; have hfz10_3 := blk_frozen BK307.out 3) | (go_at_call 60; (with_reducible refine (spec_l2In.calls a0_2 0 1000000000000 true _ A6.out).mono ?_); rintro e w' ⟨rfl, ⟨nd, rfl⟩⟩))
    go_meet
    case rel => exact ⟨_, (((l0_3.length : Int) != (l0_0.length : Int))), (by first | rfl | (simp; done) | (simp [*]; done)), H', ⟨by first | omega | exact Nat.le_refl _⟩, ⟨by exact bT_ BK307⟩, ⟨sABelo_12⟩⟩
   ·replace c7 := Bool.eq_false_iff.mpr c7
    subst c7
    have H1 : (spec_l24Ok.j0 k true l0_0 l0_1 a0_2 l0_3) = some r := by rw [if_neg (show ¬ (false = true) by decide)] at H; exact H
    clear H; have H := H1; clear H1; have H' := Aside0.mk H; clear H
    have hcz11_0 : w3.cell? ⟨gb307, 0, none⟩ = some (.slice A0_0 l0_0.length c0_0) := (blk_cell BK307.out 0).trans rfl
    have hcz11_1 : w3.cell? ⟨gb307, 1, none⟩ = some (.slice A0_1 l0_1.length c0_1) := (blk_cell BK307.out 1).trans rfl
    have hcz11_2 : w3.cell? ⟨gb307, 2, none⟩ = some (.int .i64 a0_2) := (blk_cell BK307.out 2).trans rfl
    have hcz11_3 : w3.cell? ⟨gb307, 3, none⟩ = some (.slice A0_3 l0_3.length c0_3) := (blk_cell BK307.out 3).trans rfl
    have hfz11_0 := blk_frozen BK307.out 0; have hfz11_1 := blk_frozen BK307.out 1; have hfz11_2 := blk_frozen BK307.out 2; have hfz11_3 := blk_frozen BK307.out 3
    go_wp2_with (first | ((with_reducible refine gate_callee (f := 44) rfl ?_); refine gL_ (some 9) Try.func44 #[.agg #[.slice A0_0 l0_0.length c0_0, .slice A0_1 l0_1.length c0_1]] ?_; (with_reducible refine (spec_SuiteOk.calls k _ _ l0_0 _ _ l0_1 true _ ?side1 ?side2 ?side3 ?side4 A4.out).mono ?_); (case side1 => exact cB_ HR0_0 HB); (case side2 => exact HC0_0.out); (case side3 => exact cB_ HR0_1 HB); (case side4 => exact HC0_1.out); rintro e w12 ⟨rfl, hb⟩; refine ⟨_, rfl, ?_⟩; replace BK307 := bB_ BK307 hb; replace HB := bS_ HB hb; (try clear hb); (try clear hb2); (try clear hk); (try clear hi); have hcz13_0 : w12.cell? ⟨gb307, 0, none⟩ = some (.slice A0_0 l0_0.length c0_0) := (blk_cell BK307.out 0).trans rfl; have hcz13_1 : w12.cell? ⟨gb307, 1, none⟩ = some (.slice A0_1 l0_1.length c0_1) := (blk_cell BK307.out 1).trans rfl; have hcz13_2 : w12.cell? ⟨gb307, 2, none⟩ = some (.int .i64 a0_2) := (blk_cell BK307.out 2).trans rfl; have hcz13_3 : w12.cell? ⟨gb307, 3, none⟩ = some (.slice A0_3 l0_3.length c0_3) := (blk_cell BK307.out 3).trans rfl; have hfz13_0 := blk_frozen BK307.out 0; have hfz13_1 := blk_frozen BK307.out 1; have hfz13_2 := blk_frozen BK307.out 2; have hfz13_3 := blk_frozen BK307.out 3) | (go_at_call 60; (with_reducible refine (spec_l2In.calls a0_2 0 1000000000000 false _ A6.out).mono ?_); rintro e w' ⟨rfl, ⟨nd, rfl⟩⟩))
    go_meet
    case rel => exact ⟨_, (true), (by first | rfl | (simp; done) | (simp [*]; done)), H', ⟨by first | omega | exact Nat.le_refl _⟩, ⟨by exact bT_ BK307⟩, ⟨sABelo_12⟩⟩
  ·replace c5 := Bool.eq_false_iff.mpr c5
   subst c5
   have H1 : (spec_l24Ok.j0 k true l0_0 l0_1 a0_2 l0_3) = some r := by rw [if_neg (show ¬ (false = true) by decide)] at H; exact H
   clear H; have H := H1; clear H1; have H' := Aside0.mk H; clear H
   have hcz14_0 : w3.cell? ⟨gb307, 0, none⟩ = some (.slice A0_0 l0_0.length c0_0) := (blk_cell BK307.out 0).trans rfl
   have hcz14_1 : w3.cell? ⟨gb307, 1, none⟩ = some (.slice A0_1 l0_1.length c0_1) := (blk_cell BK307.out 1).trans rfl
   have hcz14_2 : w3.cell? ⟨gb307, 2, none⟩ = some (.int .i64 a0_2) := (blk_cell BK307.out 2).trans rfl
   have hcz14_3 : w3.cell? ⟨gb307, 3, none⟩ = some (.slice A0_3 l0_3.length c0_3) := (blk_cell BK307.out 3).trans rfl
   have hfz14_0 := blk_frozen BK307.out 0; have hfz14_1 := blk_frozen BK307.out 1; have hfz14_2 := blk_frozen BK307.out 2; have hfz14_3 := blk_frozen BK307.out 3
   go_wp2_with (first | ((with_reducible refine gate_callee (f := 44) rfl ?_); refine gL_ (some 9) Try.func44 #[.agg #[.slice A0_0 l0_0.length c0_0, .slice A0_1 l0_1.length c0_1]] ?_; (with_reducible refine (spec_SuiteOk.calls k _ _ l0_0 _ _ l0_1 false _ ?side1 ?side2 ?side3 ?side4 A4.out).mono ?_); (case side1 => exact cB_ HR0_0 HB); (case side2 => exact HC0_0.out); (case side3 => exact cB_ HR0_1 HB); (case side4 => exact HC0_1.out); rintro e w15 ⟨rfl, hb⟩; refine ⟨_, rfl, ?_⟩; replace BK307 := bB_ BK307 hb; replace HB := bS_ HB hb; (try clear hb); (try clear hb2); (try clear hk); (try clear hi)))
   go_meet
   case rel => exact ⟨_, (true), (by first | rfl | (simp; done) | (simp [*]; done)), H', ⟨by first | omega | exact Nat.le_refl _⟩, ⟨by exact bT_ BK307⟩, ⟨sABelo_12⟩⟩
 case rest =>
  clear HC2; (try clear p2); (try clear c4); (try clear c5); (try clear c7); (try clear hcz10_0); (try clear hcz10_1); (try clear hcz10_2); (try clear hcz10_3); (try clear hcz11_0); (try clear hcz11_1); (try clear hcz11_2); (try clear hcz11_3); (try clear hcz13_0); (try clear hcz13_1); (try clear hcz13_2); (try clear hcz13_3); (try clear hcz14_0); (try clear hcz14_1); (try clear hcz14_2); (try clear hcz14_3); (try clear hcz8_0); (try clear hcz8_1); (try clear hcz8_2); (try clear hcz8_3); (try clear hfz10_0); (try clear hfz10_1); (try clear hfz10_2); (try clear hfz10_3); (try clear hfz11_0); (try clear hfz11_1); (try clear hfz11_2); (try clear hfz11_3); (try clear hfz13_0); (try clear hfz13_1); (try clear hfz13_2); (try clear hfz13_3); (try clear hfz14_0); (try clear hfz14_1); (try clear hfz14_2); (try clear hfz14_3); (try clear hfz8_0); (try clear hfz8_1); (try clear hfz8_2); (try clear hfz8_3)
  obtain ⟨kq, x26_1, rfl, HA, HJ1, BK307, HB⟩ := hcut
  cases kq with
  | zero => exact absurd HA.out (by simp [spec_l24Ok.j0])
  | succ kj1 =>
   have H := HA.out; clear HA
   simp only [spec_l24Ok.j0] at H
   by_cases c16 : x26_1 = true
   ·subst c16
    have H1 : (some false) = some r := by rw [if_pos rfl] at H; exact H
    clear H; have H := H1; clear H1
    obtain rfl := Option.some.inj H
    go_wp2
    go_ret
    exact ⟨by first | rfl | (simp [errW_none, errW_some] <;> rfl) | (simp [*, errW_none, errW_some] <;> rfl), sABelo_12⟩
   ·replace c16 := Bool.eq_false_iff.mpr c16
    subst c16
    have H1 : (spec_l24Ok.l0 kj1 0 l0_0 l0_1 a0_2 l0_3) = some r := by rw [if_neg (show ¬ (false = true) by decide)] at H; exact H
    clear H; have H := H1; clear H1; have H' := Aside0.mk H; clear H
    go_wp2
    go_loopg [3] kj1 (fun kq v3 w' => ∃ (x3_2 : Int), v3 = .int .i64 x3_2 ∧ Aside0 (spec_l24Ok.l0 kq x3_2 l0_0 l0_1 a0_2 l0_3 = some r) ∧ Aside0 (kq ≤ kj1) ∧ Aside0 (w'.heap[gb307]? = some (.cells #[(.slice A0_0 l0_0.length c0_0), (.slice A0_1 l0_1.length c0_1), .int .i64 a0_2, (.slice A0_3 l0_3.length c0_3)] 31 (0, 0))) ∧ Aside0 (Below w.heap.size w w'))
    case atStart => exact ⟨(0), (by first | rfl | (simp; done) | (simp [*]; done)), H', ⟨Nat.le_refl _⟩, ⟨by exact bT_ BK307⟩, ⟨sABelo_12⟩⟩
    case round =>
     clear H'; (try clear c1); (try clear p2); (try clear c4); (try clear c5); (try clear c7); (try clear c16); (try clear hcz10_0); (try clear hcz10_1); (try clear hcz10_2); (try clear hcz10_3); (try clear hcz11_0); (try clear hcz11_1); (try clear hcz11_2); (try clear hcz11_3); (try clear hcz13_0); (try clear hcz13_1); (try clear hcz13_2); (try clear hcz13_3); (try clear hcz14_0); (try clear hcz14_1); (try clear hcz14_2); (try clear hcz14_3); (try clear hcz8_0); (try clear hcz8_1); (try clear hcz8_2); (try clear hcz8_3); (try clear hfz10_0); (try clear hfz10_1); (try clear hfz10_2); (try clear hfz10_3); (try clear hfz11_0); (try clear hfz11_1); (try clear hfz11_2); (try clear hfz11_3); (try clear hfz13_0); (try clear hfz13_1); (try clear hfz13_2); (try clear hfz13_3); (try clear hfz14_0); (try clear hfz14_1); (try clear hfz14_2); (try clear hfz14_3); (try clear hfz8_0); (try clear hfz8_1); (try clear hfz8_2); (try clear hfz8_3); (try clear p2)
     obtain ⟨x3_2, rfl, HA, HK2, BK307, HB⟩ := hrel
     cases gk with
     | zero => exact absurd HA.out (by simp [spec_l24Ok.l0])
     | succ k2 =>
      have H := HA.out; clear HA
      simp only [spec_l24Ok.l0] at H
      by_cases c17 : x3_2 < (l0_3.length : Int)
      ·rw [if_pos c17] at H
       have c17b0 : decide (x3_2 < (l0_3.length : Int)) = true := decide_eq_true c17
       clear c17
       obtain ⟨c18, H⟩ := ifS_ H
       have c18b0 : decide (0 ≤ x3_2) = true := decide_eq_true c18
       clear c18
       obtain ⟨c19, H⟩ := ifS_ H
       have c19b0 : decide (x3_2 < (l0_0.length : Int)) = true := decide_eq_true c19
       clear c19; have HC20 := Aside0.mk H; clear H
       have hcz21_0 : wr.cell? ⟨gb307, 0, none⟩ = some (.slice A0_0 l0_0.length c0_0) := (blk_cell BK307.out 0).trans rfl
       have hcz21_1 : wr.cell? ⟨gb307, 1, none⟩ = some (.slice A0_1 l0_1.length c0_1) := (blk_cell BK307.out 1).trans rfl
       have hcz21_2 : wr.cell? ⟨gb307, 2, none⟩ = some (.int .i64 a0_2) := (blk_cell BK307.out 2).trans rfl
       have hcz21_3 : wr.cell? ⟨gb307, 3, none⟩ = some (.slice A0_3 l0_3.length c0_3) := (blk_cell BK307.out 3).trans rfl
       have hfz21_0 := blk_frozen BK307.out 0; have hfz21_1 := blk_frozen BK307.out 1; have hfz21_2 := blk_frozen BK307.out 2; have hfz21_3 := blk_frozen BK307.out 3
       have p310 : 0 ≤ (x3_2 : Int) := of_decide_eq_true (by first | (with_reducible assumption) | assumption)
       have q310 : x3_2 < (l0_3.length : Int) := of_decide_eq_true (by first | (with_reducible assumption) | assumption)
       obtain ⟨ad310, e310, hx310_0, hx310_1⟩ := at_T43 HR0_3.out x3_2 p310 q310
       cases e310
       replace hx310_0 := (HB.out.cell (World.block_lt_of_cell? w _ hx310_0)).trans hx310_0
       replace hx310_1 := (HB.out.cell (World.block_lt_of_cell? w _ hx310_1)).trans hx310_1
       replace p310 := eq_true p310; replace q310 := eq_true q310
       go_upto_region 8 with (first | ((with_reducible refine gate_dst (N := 4) rfl ?_); (try (refine gate_guard (by rfl) ?_; dsimp only)); refine box_event ?hg (N := 4) ?hd (cs := #[.int .i64 0, .int .i64 0]) (t := 43) ?hr ?_; (case hd => rfl); (case hg => rfl); (case hr => first | (go_simp; done) | (go_simp; rfl)); intro gb311 hg w22 hbox hb; have BK311 := Aside0.mk (hbox); have GW311 := gE_ HB hg; have GE311 := gE_ HB hg; replace HB := bS_ HB hb; have NB307_311 := nL_ BK307 hg; have NB311_307 := nG_ BK307 hg; replace BK307 := bB_ BK307 hb; clear hb hbox hg; have hnb23 := NB311_307.out; have hnc23 := NB307_311.out; have hcz24_0 : w22.cell? ⟨gb311, 0, none⟩ = some (.int .i64 0) := (blk_cell BK311.out 0).trans rfl; have hcz24_1 : w22.cell? ⟨gb311, 1, none⟩ = some (.int .i64 0) := (blk_cell BK311.out 1).trans rfl; have hfz24_0 := blk_frozen BK311.out 0; have hfz24_1 := blk_frozen BK311.out 1; have hcz25_0 : w22.cell? ⟨gb307, 0, none⟩ = some (.slice A0_0 l0_0.length c0_0) := (blk_cell BK307.out 0).trans rfl; have hcz25_1 : w22.cell? ⟨gb307, 1, none⟩ = some (.slice A0_1 l0_1.length c0_1) := (blk_cell BK307.out 1).trans rfl; have hcz25_2 : w22.cell? ⟨gb307, 2, none⟩ = some (.int .i64 a0_2) := (blk_cell BK307.out 2).trans rfl; have hcz25_3 : w22.cell? ⟨gb307, 3, none⟩ = some (.slice (some ad310) l0_3.length c0_3) := (blk_cell BK307.out 3).trans rfl; have hfz25_0 := blk_frozen BK307.out 0; have hfz25_1 := blk_frozen BK307.out 1; have hfz25_2 := blk_frozen BK307.out 2; have hfz25_3 := blk_frozen BK307.out 3; have p312 : 0 ≤ (x3_2 : Int) := of_decide_eq_true (by first | (with_reducible assumption) | assumption); have q312 : x3_2 < (l0_0.length : Int) := of_decide_eq_true (by first | (with_reducible assumption) | assumption); obtain ⟨ad312, A312_0, c312_0, e312, hx312_0, hx312_1, hx312_2, hx312_3, hl312_0, hi312_0⟩ := at_T39 HR0_0.out x3_2 p312 q312; cases e312; have hn312_0 : ad312.block ≠ gb311 := Nat.ne_of_lt (Nat.lt_of_lt_of_le (by have := World.block_lt_of_cell? _ _ hx312_0; first | rwa [add_block] at this | exact this) GW311.out); have hn312_1 : ad312.block ≠ gb311 := Nat.ne_of_lt (Nat.lt_of_lt_of_le (by have := World.block_lt_of_cell? _ _ hx312_0; first | rwa [add_block] at this | exact this) GW311.out); replace hx312_0 := (HB.out.cell (World.block_lt_of_cell? w _ hx312_0)).trans hx312_0; replace hx312_1 := (HB.out.cell (World.block_lt_of_cell? w _ hx312_1)).trans hx312_1; replace hx312_2 := (HB.out.cell (World.block_lt_of_cell? w _ hx312_2)).trans hx312_2; replace hx312_3 := (HB.out.cell (World.block_lt_of_cell? w _ hx312_3)).trans hx312_3; have HR312_0 := Aside0.mk hi312_0; have HC312_0 := Aside0.mk hl312_0; clear hi312_0 hl312_0; replace hx312_0 := (cell_far (p := ⟨gb311, 0, none⟩) (by first | (rw [add_block]; exact hn312_0) | (show (Addr.add _ _).block ≠ _; rw [add_block]; exact hn312_0) | exact hn312_0) (.int .i64 ((rd_T43 l0_3 x3_2).f0))).trans hx312_0; replace hx312_1 := (cell_far (p := ⟨gb311, 0, none⟩) (by first | (rw [add_block]; exact hn312_0) | (show (Addr.add _ _).block ≠ _; rw [add_block]; exact hn312_0) | exact hn312_0) (.int .i64 ((rd_T43 l0_3 x3_2).f0))).trans hx312_1; replace hx312_2 := (cell_far (p := ⟨gb311, 0, none⟩) (by first | (rw [add_block]; exact hn312_0) | (show (Addr.add _ _).block ≠ _; rw [add_block]; exact hn312_0) | exact hn312_0) (.int .i64 ((rd_T43 l0_3 x3_2).f0))).trans hx312_2; replace hx312_3 := (cell_far (p := ⟨gb311, 0, none⟩) (by first | (rw [add_block]; exact hn312_0) | (show (Addr.add _ _).block ≠ _; rw [add_block]; exact hn312_0) | exact hn312_0) (.int .i64 ((rd_T43 l0_3 x3_2).f0))).trans hx312_3; replace hx312_0 := (cell_far (p := ⟨gb311, 1, none⟩) (by first | (rw [add_block]; exact hn312_1) | (show (Addr.add _ _).block ≠ _; rw [add_block]; exact hn312_1) | exact hn312_1) (.int .i64 ((rd_T43 l0_3 x3_2).f1))).trans hx312_0; replace hx312_1 := (cell_far (p := ⟨gb311, 1, none⟩) (by first | (rw [add_block]; exact hn312_1) | (show (Addr.add _ _).block ≠ _; rw [add_block]; exact hn312_1) | exact hn312_1) (.int .i64 ((rd_T43 l0_3 x3_2).f1))).trans hx312_1; replace hx312_2 := (cell_far (p := ⟨gb311, 1, none⟩) (by first | (rw [add_block]; exact hn312_1) | (show (Addr.add _ _).block ≠ _; rw [add_block]; exact hn312_1) | exact hn312_1) (.int .i64 ((rd_T43 l0_3 x3_2).f1))).trans hx312_2; replace hx312_3 := (cell_far (p := ⟨gb311, 1, none⟩) (by first | (rw [add_block]; exact hn312_1) | (show (Addr.add _ _).block ≠ _; rw [add_block]; exact hn312_1) | exact hn312_1) (.int .i64 ((rd_T43 l0_3 x3_2).f1))).trans hx312_3; clear hn312_0; clear hn312_1; replace p312 := eq_true p312; replace q312 := eq_true q312))
       (try simp only [Act.put, List.setIfInBounds_toArray, List.set_cons_zero, List.set_cons_succ])
       go_cut [56] (fun v56 wc => ∃ (kq : Nat) (x56_19 : Bool), v56 = .bool x56_19 ∧ Aside0 (spec_l24Ok.j2 kq x3_2 ((rd_T39 l0_0 x3_2).f3) x56_19 l0_0 l0_1 a0_2 l0_3 ((rd_T43 l0_3 x3_2).f0) ((rd_T43 l0_3 x3_2).f1) = some r) ∧ Aside0 (kq ≤ k2) ∧ Aside0 (wc.heap[gb307]? = some (.cells #[(.slice (some ad312) l0_0.length c0_0), (.slice A0_1 l0_1.length c0_1), .int .i64 a0_2, (.slice (some ad310) l0_3.length c0_3)] 31 (0, 0))) ∧ Aside0 (wc.heap[gb311]? = some (.cells #[.int .i64 ((rd_T43 l0_3 x3_2).f0), .int .i64 ((rd_T43 l0_3 x3_2).f1)] 43 (0, 0))) ∧ Aside0 (Below w.heap.size w wc))
       case first =>
        have H := HC20.out; clear HC20; replace H := Option.bind_eq_some_iff.mp H
        obtain ⟨t313, A260, H⟩ := H
        replace H : (if t313 = true then ((spec_l2In.f ((rd_T43 l0_3 x3_2).f1) 0 ((rd_T39 l0_0 x3_2).f3)).bind fun t314 => (spec_l24Ok.j2 k2 x3_2 ((rd_T39 l0_0 x3_2).f3) (!t314) l0_0 l0_1 a0_2 l0_3 ((rd_T43 l0_3 x3_2).f0) ((rd_T43 l0_3 x3_2).f1))) else (spec_l24Ok.j2 k2 x3_2 ((rd_T39 l0_0 x3_2).f3) true l0_0 l0_1 a0_2 l0_3 ((rd_T43 l0_3 x3_2).f0) ((rd_T43 l0_3 x3_2).f1))) = some r := H
        have A26 := Aside0.mk A260; clear A260
        by_cases c27 : t313 = true
        ·subst c27
         have H1 : ((spec_l2In.f ((rd_T43 l0_3 x3_2).f1) 0 ((rd_T39 l0_0 x3_2).f3)).bind fun t314 => (spec_l24Ok.j2 k2 x3_2 ((rd_T39 l0_0 x3_2).f3) (!t314) l0_0 l0_1 a0_2 l0_3 ((rd_T43 l0_3 x3_2).f0) ((rd_T43 l0_3 x3_2).f1))) = some r := by rw [if_pos rfl] at H; exact H
         clear H; have H := H1; clear H1; replace H := Option.bind_eq_some_iff.mp H
         obtain ⟨t314, A280, H⟩ := H
         replace H : (spec_l24Ok.j2 k2 x3_2 ((rd_T39 l0_0 x3_2).f3) (!t314) l0_0 l0_1 a0_2 l0_3 ((rd_T43 l0_3 x3_2).f0) ((rd_T43 l0_3 x3_2).f1)) = some r := H
         have A28 := Aside0.mk A280; clear A280; have H' := Aside0.mk H; clear H; have hnb29 := NB311_307.out; have hnc29 := NB307_311.out
         have hcz30_0 : w22.cell? ⟨gb311, 0, none⟩ = some (.int .i64 0) := (blk_cell BK311.out 0).trans rfl
         have hcz30_1 : w22.cell? ⟨gb311, 1, none⟩ = some (.int .i64 0) := (blk_cell BK311.out 1).trans rfl
         have hfz30_0 := blk_frozen BK311.out 0; have hfz30_1 := blk_frozen BK311.out 1
         go_wp2_with (first | ((with_reducible refine gate_callee (f := 60) rfl ?_); refine gL_ (some 48) Try.func60 #[.int .i64 ((rd_T43 l0_3 x3_2).f0), .int .i64 0, .int .i64 3] ?_; (with_reducible refine (spec_l2In.calls ((rd_T43 l0_3 x3_2).f0) 0 3 true _ A26.out).mono ?_); rintro e w' ⟨rfl, ⟨nd, rfl⟩⟩; refine ⟨_, rfl, ?_⟩) | (go_at_call 60; (with_reducible refine (spec_l2In.calls ((rd_T43 l0_3 x3_2).f1) 0 ((rd_T39 l0_0 x3_2).f3) t314 _ A28.out).mono ?_); rintro e w' ⟨rfl, ⟨nd, rfl⟩⟩))
         go_meet
         case rel => exact ⟨_, (!t314), (by first | rfl | (simp; done) | (simp [*]; done)), H', ⟨by have := HJ1.out; have := HK2.out; first | omega | exact Nat.le_refl _⟩, ⟨by (with_reducible repeat (first | refine blk_drewN ?_ _ | refine blk_drew ?_ | refine blk_alloc ?_ _)); refine blk_far ?_ NB307_311.out _; (with_reducible repeat (first | refine blk_drewN ?_ _ | refine blk_drew ?_ | refine blk_alloc ?_ _)); refine blk_far ?_ NB307_311.out _; exact bT_ BK307⟩, ⟨by (with_reducible repeat (first | refine blk_drewN ?_ _ | refine blk_drew ?_ | refine blk_alloc ?_ _)); refine blk_put (cs := #[.int .i64 ((rd_T43 l0_3 x3_2).f0), .int .i64 0]) ?_ 1 _ rfl; (with_reducible repeat (first | refine blk_drewN ?_ _ | refine blk_drew ?_ | refine blk_alloc ?_ _)); refine blk_put (cs := #[.int .i64 0, .int .i64 0]) ?_ 0 _ rfl; exact bT_ BK311⟩, ⟨sABelo_12⟩⟩
        ·replace c27 := Bool.eq_false_iff.mpr c27
         subst c27
         have H1 : (spec_l24Ok.j2 k2 x3_2 ((rd_T39 l0_0 x3_2).f3) true l0_0 l0_1 a0_2 l0_3 ((rd_T43 l0_3 x3_2).f0) ((rd_T43 l0_3 x3_2).f1)) = some r := by rw [if_neg (show ¬ (false = true) by decide)] at H; exact H
         clear H; have H := H1; clear H1; have H' := Aside0.mk H; clear H; have hnb31 := NB311_307.out; have hnc31 := NB307_311.out
         have hcz32_0 : w22.cell? ⟨gb311, 0, none⟩ = some (.int .i64 0) := (blk_cell BK311.out 0).trans rfl
         have hcz32_1 : w22.cell? ⟨gb311, 1, none⟩ = some (.int .i64 0) := (blk_cell BK311.out 1).trans rfl
         have hfz32_0 := blk_frozen BK311.out 0; have hfz32_1 := blk_frozen BK311.out 1
         go_wp2_with (first | ((with_reducible refine gate_callee (f := 60) rfl ?_); refine gL_ (some 48) Try.func60 #[.int .i64 ((rd_T43 l0_3 x3_2).f0), .int .i64 0, .int .i64 3] ?_; (with_reducible refine (spec_l2In.calls ((rd_T43 l0_3 x3_2).f0) 0 3 false _ A26.out).mono ?_); rintro e w' ⟨rfl, ⟨nd, rfl⟩⟩; refine ⟨_, rfl, ?_⟩))
         go_meet
         case rel => exact ⟨_, (true), (by first | rfl | (simp; done) | (simp [*]; done)), H', ⟨by have := HJ1.out; have := HK2.out; first | omega | exact Nat.le_refl _⟩, ⟨by (with_reducible repeat (first | refine blk_drewN ?_ _ | refine blk_drew ?_ | refine blk_alloc ?_ _)); refine blk_far ?_ NB307_311.out _; (with_reducible repeat (first | refine blk_drewN ?_ _ | refine blk_drew ?_ | refine blk_alloc ?_ _)); refine blk_far ?_ NB307_311.out _; exact bT_ BK307⟩, ⟨by (with_reducible repeat (first | refine blk_drewN ?_ _ | refine blk_drew ?_ | refine blk_alloc ?_ _)); refine blk_put (cs := #[.int .i64 ((rd_T43 l0_3 x3_2).f0), .int .i64 0]) ?_ 1 _ rfl; (with_reducible repeat (first | refine blk_drewN ?_ _ | refine blk_drew ?_ | refine blk_alloc ?_ _)); refine blk_put (cs := #[.int .i64 0, .int .i64 0]) ?_ 0 _ rfl; exact bT_ BK311⟩, ⟨sABelo_12⟩⟩
       case rest =>
        clear HC20; (try clear c1); (try clear c2); (try clear p2); (try clear c3); (try clear p3); (try clear q3); (try clear hx3); (try clear c4); (try clear c5); (try clear c6); (try clear c7); (try clear c16); (try clear c17); (try clear c17b0); (try clear c18); (try clear c18b0); (try clear c19); (try clear c19b0); (try clear c23); (try clear c27); (try clear c29); (try clear c31); (try clear p31); (try clear q31); (try clear hx31); (try clear hcz10_0); (try clear hcz10_1); (try clear hcz10_2); (try clear hcz10_3); (try clear hcz11_0); (try clear hcz11_1); (try clear hcz11_2); (try clear hcz11_3); (try clear hcz13_0); (try clear hcz13_1); (try clear hcz13_2); (try clear hcz13_3); (try clear hcz14_0); (try clear hcz14_1); (try clear hcz14_2); (try clear hcz14_3); (try clear hcz21_0); (try clear hcz21_1); (try clear hcz21_2); (try clear hcz21_3); (try clear hcz24_0); (try clear hcz24_1); (try clear hcz25_0); (try clear hcz25_1); (try clear hcz25_2); (try clear hcz25_3); (try clear hcz30_0); (try clear hcz30_1); (try clear hcz32_0); (try clear hcz32_1); (try clear hcz8_0); (try clear hcz8_1); (try clear hcz8_2); (try clear hcz8_3); (try clear hfz10_0); (try clear hfz10_1); (try clear hfz10_2); (try clear hfz10_3); (try clear hfz11_0); (try clear hfz11_1); (try clear hfz11_2); (try clear hfz11_3); (try clear hfz13_0); (try clear hfz13_1); (try clear hfz13_2); (try clear hfz13_3); (try clear hfz14_0); (try clear hfz14_1); (try clear hfz14_2); (try clear hfz14_3); (try clear hfz21_0); (try clear hfz21_1); (try clear hfz21_2); (try clear hfz21_3); (try clear hfz24_0); (try clear hfz24_1); (try clear hfz25_0); (try clear hfz25_1); (try clear hfz25_2); (try clear hfz25_3); (try clear hfz30_0); (try clear hfz30_1); (try clear hfz32_0); (try clear hfz32_1); (try clear hfz8_0); (try clear hfz8_1); (try clear hfz8_2); (try clear hfz8_3); (try clear hx310_0); (try clear hx310_1); (try clear hx312_0); (try clear hx312_1); (try clear hx312_2); (try clear hx312_3); (try clear p2); (try clear p310); (try clear p312); (try clear q310); (try clear q312)
        obtain ⟨kq, x56_19, rfl, HA, HJ19, BK307, BK311, HB⟩ := hcut
        cases kq with
        | zero => exact absurd HA.out (by simp [spec_l24Ok.j2])
        | succ kj19 =>
         have H := HA.out; clear HA
         simp only [spec_l24Ok.j2] at H
         by_cases c33 : x56_19 = true
         ·subst c33
          have H1 : (some false) = some r := by rw [if_pos rfl] at H; exact H
          clear H; have H := H1; clear H1
          obtain rfl := Option.some.inj H
          go_wp2
          go_ret
          exact ⟨by first | rfl | (simp [errW_none, errW_some] <;> rfl) | (simp [*, errW_none, errW_some] <;> rfl), sABelo_12⟩
         ·replace c33 := Bool.eq_false_iff.mpr c33
          subst c33
          have H1 : (if ((rd_T43 l0_3 x3_2).f0) = 0 then (if ((rd_T43 l0_3 x3_2).f1) = ((rd_T39 l0_0 x3_2).f3) then (some false) else (if ((rd_T43 l0_3 x3_2).f0) = 3 then (some false) else (spec_l24Ok.l0 kj19 (wrap64 (x3_2 + 1)) l0_0 l0_1 a0_2 l0_3))) else (if ((rd_T43 l0_3 x3_2).f0) = 3 then (if ((rd_T43 l0_3 x3_2).f1) = ((rd_T39 l0_0 x3_2).f3) then (if ((rd_T43 l0_3 x3_2).f1) = 0 then (some false) else ((spec_l24Free.f kj19 l0_0 l0_1 a0_2 l0_3 x3_2).bind fun t315 => (if t315 = true then (spec_l24Ok.l0 kj19 (wrap64 (x3_2 + 1)) l0_0 l0_1 a0_2 l0_3) else (some false)))) else (some false)) else (if ((rd_T43 l0_3 x3_2).f1) = 0 then (some false) else ((spec_l24Free.f kj19 l0_0 l0_1 a0_2 l0_3 x3_2).bind fun t316 => (if t316 = true then (spec_l24Ok.l0 kj19 (wrap64 (x3_2 + 1)) l0_0 l0_1 a0_2 l0_3) else (some false)))))) = some r := by rw [if_neg (show ¬ (false = true) by decide)] at H; exact H
          clear H; have H := H1; clear H1
          by_cases c34 : ((rd_T43 l0_3 x3_2).f0) = 0
          ·rw [if_pos c34] at H
           have c34b0 : (((rd_T43 l0_3 x3_2).f0) == 0) = true := beq_iff_eq.mpr c34
           have c34b1 : (((rd_T43 l0_3 x3_2).f0) != 0) = false := bne_eq_false_iff_eq.mpr c34
           clear c34
           by_cases c35 : ((rd_T43 l0_3 x3_2).f1) = ((rd_T39 l0_0 x3_2).f3)
           ·rw [if_pos c35] at H
            have c35b0 : (((rd_T43 l0_3 x3_2).f1) == ((rd_T39 l0_0 x3_2).f3)) = true := beq_iff_eq.mpr c35
            have c35b1 : (((rd_T43 l0_3 x3_2).f1) != ((rd_T39 l0_0 x3_2).f3)) = false := bne_eq_false_iff_eq.mpr c35
            clear c35
            obtain rfl := Option.some.inj H
            have hnb36 := NB311_307.out; have hnc36 := NB307_311.out
            have hcz37_0 : wc.cell? ⟨gb311, 0, none⟩ = some (.int .i64 ((rd_T43 l0_3 x3_2).f0)) := (blk_cell BK311.out 0).trans rfl
            have hcz37_1 : wc.cell? ⟨gb311, 1, none⟩ = some (.int .i64 ((rd_T43 l0_3 x3_2).f1)) := (blk_cell BK311.out 1).trans rfl
            have hfz37_0 := blk_frozen BK311.out 0; have hfz37_1 := blk_frozen BK311.out 1
            go_wp2
            go_ret
            exact ⟨by first | rfl | (simp [errW_none, errW_some] <;> rfl) | (simp [*, errW_none, errW_some] <;> rfl), sABelo_12⟩
           ·rw [if_neg c35] at H
            have c35b0 : (((rd_T43 l0_3 x3_2).f1) == ((rd_T39 l0_0 x3_2).f3)) = false := beq_eq_false_iff_ne.mpr c35
            have c35b1 : (((rd_T43 l0_3 x3_2).f1) != ((rd_T39 l0_0 x3_2).f3)) = true := bne_iff_ne.mpr c35
            by_cases c38 : ((rd_T43 l0_3 x3_2).f0) = 3
            ·rw [if_pos c38] at H
             have c38b0 : (((rd_T43 l0_3 x3_2).f0) == 3) = true := beq_iff_eq.mpr c38
             have c38b1 : (((rd_T43 l0_3 x3_2).f0) != 3) = false := bne_eq_false_iff_eq.mpr c38
             clear c38
             obtain rfl := Option.some.inj H
             have hnb39 := NB311_307.out; have hnc39 := NB307_311.out
             have hcz40_0 : wc.cell? ⟨gb311, 0, none⟩ = some (.int .i64 ((rd_T43 l0_3 x3_2).f0)) := (blk_cell BK311.out 0).trans rfl
             have hcz40_1 : wc.cell? ⟨gb311, 1, none⟩ = some (.int .i64 ((rd_T43 l0_3 x3_2).f1)) := (blk_cell BK311.out 1).trans rfl
             have hfz40_0 := blk_frozen BK311.out 0; have hfz40_1 := blk_frozen BK311.out 1
             go_wp2
             go_ret
             exact ⟨by first | rfl | (simp [errW_none, errW_some] <;> rfl) | (simp [*, errW_none, errW_some] <;> rfl), sABelo_12⟩
            ·rw [if_neg c38] at H
             have c38b0 : (((rd_T43 l0_3 x3_2).f0) == 3) = false := beq_eq_false_iff_ne.mpr c38
             have c38b1 : (((rd_T43 l0_3 x3_2).f0) != 3) = true := bne_iff_ne.mpr c38
             have H' := Aside0.mk H; clear H; have hnb41 := NB311_307.out; have hnc41 := NB307_311.out
             have hcz42_0 : wc.cell? ⟨gb311, 0, none⟩ = some (.int .i64 ((rd_T43 l0_3 x3_2).f0)) := (blk_cell BK311.out 0).trans rfl
             have hcz42_1 : wc.cell? ⟨gb311, 1, none⟩ = some (.int .i64 ((rd_T43 l0_3 x3_2).f1)) := (blk_cell BK311.out 1).trans rfl
             have hfz42_0 := blk_frozen BK311.out 0; have hfz42_1 := blk_frozen BK311.out 1
             go_wp2
             go_roundg kj19
             case measure => have := HJ1.out; have := HK2.out; have := HJ19.out; omega
             case rel => exact ⟨(wrap64 (x3_2 + 1)), (by first | rfl | (simp; done) | (simp [*]; done)), H', ⟨by have := HJ1.out; have := HK2.out; have := HJ19.out; omega⟩, ⟨by exact bT_ BK307⟩, ⟨sABelo_12⟩⟩
          ·rw [if_neg c34] at H
           have c34b0 : (((rd_T43 l0_3 x3_2).f0) == 0) = false := beq_eq_false_iff_ne.mpr c34
           have c34b1 : (((rd_T43 l0_3 x3_2).f0) != 0) = true := bne_iff_ne.mpr c34
           by_cases c43 : ((rd_T43 l0_3 x3_2).f0) = 3
           ·rw [if_pos c43] at H
            have c43b0 : (((rd_T43 l0_3 x3_2).f0) == 3) = true := beq_iff_eq.mpr c43
            have c43b1 : (((rd_T43 l0_3 x3_2).f0) != 3) = false := bne_eq_false_iff_eq.mpr c43
            clear c43
            by_cases c44 : ((rd_T43 l0_3 x3_2).f1) = ((rd_T39 l0_0 x3_2).f3)
            ·rw [if_pos c44] at H
             have c44b0 : (((rd_T43 l0_3 x3_2).f1) == ((rd_T39 l0_0 x3_2).f3)) = true := beq_iff_eq.mpr c44
             have c44b1 : (((rd_T43 l0_3 x3_2).f1) != ((rd_T39 l0_0 x3_2).f3)) = false := bne_eq_false_iff_eq.mpr c44
             clear c44
             by_cases c45 : ((rd_T43 l0_3 x3_2).f1) = 0
             ·rw [if_pos c45] at H
              have c45b0 : (((rd_T43 l0_3 x3_2).f1) == 0) = true := beq_iff_eq.mpr c45
              have c45b1 : (((rd_T43 l0_3 x3_2).f1) != 0) = false := bne_eq_false_iff_eq.mpr c45
              clear c45
              obtain rfl := Option.some.inj H
              have hnb46 := NB311_307.out; have hnc46 := NB307_311.out
              have hcz47_0 : wc.cell? ⟨gb311, 0, none⟩ = some (.int .i64 ((rd_T43 l0_3 x3_2).f0)) := (blk_cell BK311.out 0).trans rfl
              have hcz47_1 : wc.cell? ⟨gb311, 1, none⟩ = some (.int .i64 ((rd_T43 l0_3 x3_2).f1)) := (blk_cell BK311.out 1).trans rfl
              have hfz47_0 := blk_frozen BK311.out 0; have hfz47_1 := blk_frozen BK311.out 1
              go_wp2
              go_ret
              exact ⟨by first | rfl | (simp [errW_none, errW_some] <;> rfl) | (simp [*, errW_none, errW_some] <;> rfl), sABelo_12⟩
             ·rw [if_neg c45] at H
              have c45b0 : (((rd_T43 l0_3 x3_2).f1) == 0) = false := beq_eq_false_iff_ne.mpr c45
              have c45b1 : (((rd_T43 l0_3 x3_2).f1) != 0) = true := bne_iff_ne.mpr c45
              replace H := Option.bind_eq_some_iff.mp H
              obtain ⟨t315, A480, H⟩ := H
              replace H : (if t315 = true then (spec_l24Ok.l0 kj19 (wrap64 (x3_2 + 1)) l0_0 l0_1 a0_2 l0_3) else (some false)) = some r := H
              have A48 := Aside0.mk A480; clear A480
              by_cases c49 : t315 = true
              ·subst c49
               have H1 : (spec_l24Ok.l0 kj19 (wrap64 (x3_2 + 1)) l0_0 l0_1 a0_2 l0_3) = some r := by rw [if_pos rfl] at H; exact H
               clear H; have H := H1; clear H1; have H' := Aside0.mk H; clear H; have hnb50 := NB311_307.out; have hnc50 := NB307_311.out
               have hcz51_0 : wc.cell? ⟨gb311, 0, none⟩ = some (.int .i64 ((rd_T43 l0_3 x3_2).f0)) := (blk_cell BK311.out 0).trans rfl
               have hcz51_1 : wc.cell? ⟨gb311, 1, none⟩ = some (.int .i64 ((rd_T43 l0_3 x3_2).f1)) := (blk_cell BK311.out 1).trans rfl
               have hfz51_0 := blk_frozen BK311.out 0; have hfz51_1 := blk_frozen BK311.out 1
               have hcz52_0 : wc.cell? ⟨gb307, 0, none⟩ = some (.slice (some ad312) l0_0.length c0_0) := (blk_cell BK307.out 0).trans rfl
               have hcz52_1 : wc.cell? ⟨gb307, 1, none⟩ = some (.slice A0_1 l0_1.length c0_1) := (blk_cell BK307.out 1).trans rfl
               have hcz52_2 : wc.cell? ⟨gb307, 2, none⟩ = some (.int .i64 a0_2) := (blk_cell BK307.out 2).trans rfl
               have hcz52_3 : wc.cell? ⟨gb307, 3, none⟩ = some (.slice (some ad310) l0_3.length c0_3) := (blk_cell BK307.out 3).trans rfl
               have hfz52_0 := blk_frozen BK307.out 0; have hfz52_1 := blk_frozen BK307.out 1; have hfz52_2 := blk_frozen BK307.out 2; have hfz52_3 := blk_frozen BK307.out 3
               go_wp2_with (first | (go_at_call 74; (with_reducible refine (spec_l24Free.calls kj19 _ _ l0_0 _ _ l0_1 a0_2 _ _ l0_3 x3_2 true _ ?side1 ?side2 ?side3 ?side4 ?side5 ?side6 A48.out).mono ?_); (case side1 => exact cB_ HR0_0 HB); (case side2 => exact HC0_0.out); (case side3 => exact cB_ HR0_1 HB); (case side4 => exact HC0_1.out); (case side5 => exact cB_ HR0_3 HB); (case side6 => exact HC0_3.out); rintro e w53 ⟨rfl, hb⟩; replace BK307 := bB_ BK307 hb; replace BK311 := bB_ BK311 hb; replace HB := bS_ HB hb; (try clear hb); (try clear hb2); (try clear hk); (try clear hi)))
               go_roundg kj19
               case measure => have := HJ1.out; have := HK2.out; have := HJ19.out; omega
               case rel => exact ⟨(wrap64 (x3_2 + 1)), (by first | rfl | (simp; done) | (simp [*]; done)), H', ⟨by have := HJ1.out; have := HK2.out; have := HJ19.out; omega⟩, ⟨by exact bT_ BK307⟩, ⟨sABelo_12⟩⟩
              ·replace c49 := Bool.eq_false_iff.mpr c49
               subst c49
               have H1 : (some false) = some r := by rw [if_neg (show ¬ (false = true) by decide)] at H; exact H
               clear H; have H := H1; clear H1
               obtain rfl := Option.some.inj H
               have hnb54 := NB311_307.out; have hnc54 := NB307_311.out
               have hcz55_0 : wc.cell? ⟨gb311, 0, none⟩ = some (.int .i64 ((rd_T43 l0_3 x3_2).f0)) := (blk_cell BK311.out 0).trans rfl
               have hcz55_1 : wc.cell? ⟨gb311, 1, none⟩ = some (.int .i64 ((rd_T43 l0_3 x3_2).f1)) := (blk_cell BK311.out 1).trans rfl
               have hfz55_0 := blk_frozen BK311.out 0; have hfz55_1 := blk_frozen BK311.out 1
               have hcz56_0 : wc.cell? ⟨gb307, 0, none⟩ = some (.slice (some ad312) l0_0.length c0_0) := (blk_cell BK307.out 0).trans rfl
               have hcz56_1 : wc.cell? ⟨gb307, 1, none⟩ = some (.slice A0_1 l0_1.length c0_1) := (blk_cell BK307.out 1).trans rfl
               have hcz56_2 : wc.cell? ⟨gb307, 2, none⟩ = some (.int .i64 a0_2) := (blk_cell BK307.out 2).trans rfl
               have hcz56_3 : wc.cell? ⟨gb307, 3, none⟩ = some (.slice (some ad310) l0_3.length c0_3) := (blk_cell BK307.out 3).trans rfl
               have hfz56_0 := blk_frozen BK307.out 0; have hfz56_1 := blk_frozen BK307.out 1; have hfz56_2 := blk_frozen BK307.out 2; have hfz56_3 := blk_frozen BK307.out 3
               go_wp2_with (first | (go_at_call 74; (with_reducible refine (spec_l24Free.calls kj19 _ _ l0_0 _ _ l0_1 a0_2 _ _ l0_3 x3_2 false _ ?side1 ?side2 ?side3 ?side4 ?side5 ?side6 A48.out).mono ?_); (case side1 => exact cB_ HR0_0 HB); (case side2 => exact HC0_0.out); (case side3 => exact cB_ HR0_1 HB); (case side4 => exact HC0_1.out); (case side5 => exact cB_ HR0_3 HB); (case side6 => exact HC0_3.out); rintro e w57 ⟨rfl, hb⟩; replace BK307 := bB_ BK307 hb; replace BK311 := bB_ BK311 hb; replace HB := bS_ HB hb; (try clear hb); (try clear hb2); (try clear hk); (try clear hi)))
               go_ret
               exact ⟨by first | rfl | (simp [errW_none, errW_some] <;> rfl) | (simp [*, errW_none, errW_some] <;> rfl), sABelo_12⟩
            ·rw [if_neg c44] at H
             have c44b0 : (((rd_T43 l0_3 x3_2).f1) == ((rd_T39 l0_0 x3_2).f3)) = false := beq_eq_false_iff_ne.mpr c44
             have c44b1 : (((rd_T43 l0_3 x3_2).f1) != ((rd_T39 l0_0 x3_2).f3)) = true := bne_iff_ne.mpr c44
             obtain rfl := Option.some.inj H
             have hnb58 := NB311_307.out; have hnc58 := NB307_311.out
             have hcz59_0 : wc.cell? ⟨gb311, 0, none⟩ = some (.int .i64 ((rd_T43 l0_3 x3_2).f0)) := (blk_cell BK311.out 0).trans rfl
             have hcz59_1 : wc.cell? ⟨gb311, 1, none⟩ = some (.int .i64 ((rd_T43 l0_3 x3_2).f1)) := (blk_cell BK311.out 1).trans rfl
             have hfz59_0 := blk_frozen BK311.out 0; have hfz59_1 := blk_frozen BK311.out 1
             go_wp2
             go_ret
             exact ⟨by first | rfl | (simp [errW_none, errW_some] <;> rfl) | (simp [*, errW_none, errW_some] <;> rfl), sABelo_12⟩
           ·rw [if_neg c43] at H
            have c43b0 : (((rd_T43 l0_3 x3_2).f0) == 3) = false := beq_eq_false_iff_ne.mpr c43
            have c43b1 : (((rd_T43 l0_3 x3_2).f0) != 3) = true := bne_iff_ne.mpr c43
            by_cases c60 : ((rd_T43 l0_3 x3_2).f1) = 0
            ·rw [if_pos c60] at H
             have c60b0 : (((rd_T43 l0_3 x3_2).f1) == 0) = true := beq_iff_eq.mpr c60
             have c60b1 : (((rd_T43 l0_3 x3_2).f1) != 0) = false := bne_eq_false_iff_eq.mpr c60
             clear c60
             obtain rfl := Option.some.inj H
             have hnb61 := NB311_307.out; have hnc61 := NB307_311.out
             have hcz62_0 : wc.cell? ⟨gb311, 0, none⟩ = some (.int .i64 ((rd_T43 l0_3 x3_2).f0)) := (blk_cell BK311.out 0).trans rfl
             have hcz62_1 : wc.cell? ⟨gb311, 1, none⟩ = some (.int .i64 ((rd_T43 l0_3 x3_2).f1)) := (blk_cell BK311.out 1).trans rfl
             have hfz62_0 := blk_frozen BK311.out 0; have hfz62_1 := blk_frozen BK311.out 1
             go_wp2
             go_ret
             exact ⟨by first | rfl | (simp [errW_none, errW_some] <;> rfl) | (simp [*, errW_none, errW_some] <;> rfl), sABelo_12⟩
            ·rw [if_neg c60] at H
             have c60b0 : (((rd_T43 l0_3 x3_2).f1) == 0) = false := beq_eq_false_iff_ne.mpr c60
             have c60b1 : (((rd_T43 l0_3 x3_2).f1) != 0) = true := bne_iff_ne.mpr c60
             replace H := Option.bind_eq_some_iff.mp H
             obtain ⟨t316, A630, H⟩ := H
             replace H : (if t316 = true then (spec_l24Ok.l0 kj19 (wrap64 (x3_2 + 1)) l0_0 l0_1 a0_2 l0_3) else (some false)) = some r := H
             have A63 := Aside0.mk A630; clear A630
             by_cases c64 : t316 = true
             ·subst c64
              have H1 : (spec_l24Ok.l0 kj19 (wrap64 (x3_2 + 1)) l0_0 l0_1 a0_2 l0_3) = some r := by rw [if_pos rfl] at H; exact H
              clear H; have H := H1; clear H1; have H' := Aside0.mk H; clear H; have hnb65 := NB311_307.out; have hnc65 := NB307_311.out
              have hcz66_0 : wc.cell? ⟨gb311, 0, none⟩ = some (.int .i64 ((rd_T43 l0_3 x3_2).f0)) := (blk_cell BK311.out 0).trans rfl
              have hcz66_1 : wc.cell? ⟨gb311, 1, none⟩ = some (.int .i64 ((rd_T43 l0_3 x3_2).f1)) := (blk_cell BK311.out 1).trans rfl
              have hfz66_0 := blk_frozen BK311.out 0; have hfz66_1 := blk_frozen BK311.out 1
              have hcz67_0 : wc.cell? ⟨gb307, 0, none⟩ = some (.slice (some ad312) l0_0.length c0_0) := (blk_cell BK307.out 0).trans rfl
              have hcz67_1 : wc.cell? ⟨gb307, 1, none⟩ = some (.slice A0_1 l0_1.length c0_1) := (blk_cell BK307.out 1).trans rfl
              have hcz67_2 : wc.cell? ⟨gb307, 2, none⟩ = some (.int .i64 a0_2) := (blk_cell BK307.out 2).trans rfl
              have hcz67_3 : wc.cell? ⟨gb307, 3, none⟩ = some (.slice (some ad310) l0_3.length c0_3) := (blk_cell BK307.out 3).trans rfl
              have hfz67_0 := blk_frozen BK307.out 0; have hfz67_1 := blk_frozen BK307.out 1; have hfz67_2 := blk_frozen BK307.out 2; have hfz67_3 := blk_frozen BK307.out 3
              go_wp2_with (first | (go_at_call 74; (with_reducible refine (spec_l24Free.calls kj19 _ _ l0_0 _ _ l0_1 a0_2 _ _ l0_3 x3_2 true _ ?side1 ?side2 ?side3 ?side4 ?side5 ?side6 A63.out).mono ?_); (case side1 => exact cB_ HR0_0 HB); (case side2 => exact HC0_0.out); (case side3 => exact cB_ HR0_1 HB); (case side4 => exact HC0_1.out); (case side5 => exact cB_ HR0_3 HB); (case side6 => exact HC0_3.out); rintro e w68 ⟨rfl, hb⟩; replace BK307 := bB_ BK307 hb; replace BK311 := bB_ BK311 hb; replace HB := bS_ HB hb; (try clear hb); (try clear hb2); (try clear hk); (try clear hi)))
              go_roundg kj19
              case measure => have := HJ1.out; have := HK2.out; have := HJ19.out; omega
              case rel => exact ⟨(wrap64 (x3_2 + 1)), (by first | rfl | (simp; done) | (simp [*]; done)), H', ⟨by have := HJ1.out; have := HK2.out; have := HJ19.out; omega⟩, ⟨by exact bT_ BK307⟩, ⟨sABelo_12⟩⟩
             ·replace c64 := Bool.eq_false_iff.mpr c64
              subst c64
              have H1 : (some false) = some r := by rw [if_neg (show ¬ (false = true) by decide)] at H; exact H
              clear H; have H := H1; clear H1
              obtain rfl := Option.some.inj H
              have hnb69 := NB311_307.out; have hnc69 := NB307_311.out
              have hcz70_0 : wc.cell? ⟨gb311, 0, none⟩ = some (.int .i64 ((rd_T43 l0_3 x3_2).f0)) := (blk_cell BK311.out 0).trans rfl
              have hcz70_1 : wc.cell? ⟨gb311, 1, none⟩ = some (.int .i64 ((rd_T43 l0_3 x3_2).f1)) := (blk_cell BK311.out 1).trans rfl
              have hfz70_0 := blk_frozen BK311.out 0; have hfz70_1 := blk_frozen BK311.out 1
              have hcz71_0 : wc.cell? ⟨gb307, 0, none⟩ = some (.slice (some ad312) l0_0.length c0_0) := (blk_cell BK307.out 0).trans rfl
              have hcz71_1 : wc.cell? ⟨gb307, 1, none⟩ = some (.slice A0_1 l0_1.length c0_1) := (blk_cell BK307.out 1).trans rfl
              have hcz71_2 : wc.cell? ⟨gb307, 2, none⟩ = some (.int .i64 a0_2) := (blk_cell BK307.out 2).trans rfl
              have hcz71_3 : wc.cell? ⟨gb307, 3, none⟩ = some (.slice (some ad310) l0_3.length c0_3) := (blk_cell BK307.out 3).trans rfl
              have hfz71_0 := blk_frozen BK307.out 0; have hfz71_1 := blk_frozen BK307.out 1; have hfz71_2 := blk_frozen BK307.out 2; have hfz71_3 := blk_frozen BK307.out 3
              go_wp2_with (first | (go_at_call 74; (with_reducible refine (spec_l24Free.calls kj19 _ _ l0_0 _ _ l0_1 a0_2 _ _ l0_3 x3_2 false _ ?side1 ?side2 ?side3 ?side4 ?side5 ?side6 A63.out).mono ?_); (case side1 => exact cB_ HR0_0 HB); (case side2 => exact HC0_0.out); (case side3 => exact cB_ HR0_1 HB); (case side4 => exact HC0_1.out); (case side5 => exact cB_ HR0_3 HB); (case side6 => exact HC0_3.out); rintro e w72 ⟨rfl, hb⟩; replace BK307 := bB_ BK307 hb; replace BK311 := bB_ BK311 hb; replace HB := bS_ HB hb; (try clear hb); (try clear hb2); (try clear hk); (try clear hi)))
              go_ret
              exact ⟨by first | rfl | (simp [errW_none, errW_some] <;> rfl) | (simp [*, errW_none, errW_some] <;> rfl), sABelo_12⟩
      ·rw [if_neg c17] at H
       have c17b0 : decide (x3_2 < (l0_3.length : Int)) = false := decide_eq_false c17
       clear c17; have H' := Aside0.mk H; clear H
       have hcz73_0 : wr.cell? ⟨gb307, 0, none⟩ = some (.slice A0_0 l0_0.length c0_0) := (blk_cell BK307.out 0).trans rfl
       have hcz73_1 : wr.cell? ⟨gb307, 1, none⟩ = some (.slice A0_1 l0_1.length c0_1) := (blk_cell BK307.out 1).trans rfl
       have hcz73_2 : wr.cell? ⟨gb307, 2, none⟩ = some (.int .i64 a0_2) := (blk_cell BK307.out 2).trans rfl
       have hcz73_3 : wr.cell? ⟨gb307, 3, none⟩ = some (.slice A0_3 l0_3.length c0_3) := (blk_cell BK307.out 3).trans rfl
       have hfz73_0 := blk_frozen BK307.out 0; have hfz73_1 := blk_frozen BK307.out 1; have hfz73_2 := blk_frozen BK307.out 2; have hfz73_3 := blk_frozen BK307.out 3
       go_wp2
       go_loopg [6] k2 (fun kq v6 w' => ∃ (x6_3 : Int), v6 = .int .i64 x6_3 ∧ Aside0 (spec_l24Ok.l1 kq x6_3 l0_0 l0_1 a0_2 l0_3 = some r) ∧ Aside0 (kq ≤ k2) ∧ Aside0 (w'.heap[gb307]? = some (.cells #[(.slice A0_0 l0_0.length c0_0), (.slice A0_1 l0_1.length c0_1), .int .i64 a0_2, (.slice A0_3 l0_3.length c0_3)] 31 (0, 0))) ∧ Aside0 (Below w.heap.size w w'))
       case atStart => exact ⟨(0), (by first | rfl | (simp; done) | (simp [*]; done)), H', ⟨Nat.le_refl _⟩, ⟨by exact bT_ BK307⟩, ⟨sABelo_12⟩⟩
       case round =>
        clear H'; (try clear c1); (try clear c2); (try clear p2); (try clear c3); (try clear p3); (try clear q3); (try clear hx3); (try clear c4); (try clear c5); (try clear c6); (try clear p6); (try clear c7); (try clear c16); (try clear c17); (try clear c17b0); (try clear c18); (try clear c18b0); (try clear c19); (try clear c19b0); (try clear c23); (try clear c27); (try clear c29); (try clear c31); (try clear p31); (try clear q31); (try clear hx31); (try clear c33); (try clear c34); (try clear c34b0); (try clear c34b1); (try clear c35); (try clear c35b0); (try clear c35b1); (try clear c36); (try clear c38); (try clear c38b0); (try clear c38b1); (try clear c39); (try clear c41); (try clear c43); (try clear c43b0); (try clear c43b1); (try clear c44); (try clear c44b0); (try clear c44b1); (try clear c45); (try clear c45b0); (try clear c45b1); (try clear c46); (try clear c49); (try clear c50); (try clear c54); (try clear c58); (try clear c60); (try clear c60b0); (try clear c60b1); (try clear c61); (try clear c64); (try clear p64); (try clear c65); (try clear c69); (try clear hcz10_0); (try clear hcz10_1); (try clear hcz10_2); (try clear hcz10_3); (try clear hcz11_0); (try clear hcz11_1); (try clear hcz11_2); (try clear hcz11_3); (try clear hcz13_0); (try clear hcz13_1); (try clear hcz13_2); (try clear hcz13_3); (try clear hcz14_0); (try clear hcz14_1); (try clear hcz14_2); (try clear hcz14_3); (try clear hcz21_0); (try clear hcz21_1); (try clear hcz21_2); (try clear hcz21_3); (try clear hcz24_0); (try clear hcz24_1); (try clear hcz25_0); (try clear hcz25_1); (try clear hcz25_2); (try clear hcz25_3); (try clear hcz30_0); (try clear hcz30_1); (try clear hcz32_0); (try clear hcz32_1); (try clear hcz37_0); (try clear hcz37_1); (try clear hcz40_0); (try clear hcz40_1); (try clear hcz42_0); (try clear hcz42_1); (try clear hcz47_0); (try clear hcz47_1); (try clear hcz51_0); (try clear hcz51_1); (try clear hcz52_0); (try clear hcz52_1); (try clear hcz52_2); (try clear hcz52_3); (try clear hcz55_0); (try clear hcz55_1); (try clear hcz56_0); (try clear hcz56_1); (try clear hcz56_2); (try clear hcz56_3); (try clear hcz59_0); (try clear hcz59_1); (try clear hcz62_0); (try clear hcz62_1); (try clear hcz66_0); (try clear hcz66_1); (try clear hcz67_0); (try clear hcz67_1); (try clear hcz67_2); (try clear hcz67_3); (try clear hcz70_0); (try clear hcz70_1); (try clear hcz71_0); (try clear hcz71_1); (try clear hcz71_2); (try clear hcz71_3); (try clear hcz73_0); (try clear hcz73_1); (try clear hcz73_2); (try clear hcz73_3); (try clear hcz8_0); (try clear hcz8_1); (try clear hcz8_2); (try clear hcz8_3); (try clear hfz10_0); (try clear hfz10_1); (try clear hfz10_2); (try clear hfz10_3); (try clear hfz11_0); (try clear hfz11_1); (try clear hfz11_2); (try clear hfz11_3); (try clear hfz13_0); (try clear hfz13_1); (try clear hfz13_2); (try clear hfz13_3); (try clear hfz14_0); (try clear hfz14_1); (try clear hfz14_2); (try clear hfz14_3); (try clear hfz21_0); (try clear hfz21_1); (try clear hfz21_2); (try clear hfz21_3); (try clear hfz24_0); (try clear hfz24_1); (try clear hfz25_0); (try clear hfz25_1); (try clear hfz25_2); (try clear hfz25_3); (try clear hfz30_0); (try clear hfz30_1); (try clear hfz32_0); (try clear hfz32_1); (try clear hfz37_0); (try clear hfz37_1); (try clear hfz40_0); (try clear hfz40_1); (try clear hfz42_0); (try clear hfz42_1); (try clear hfz47_0); (try clear hfz47_1); (try clear hfz51_0); (try clear hfz51_1); (try clear hfz52_0); (try clear hfz52_1); (try clear hfz52_2); (try clear hfz52_3); (try clear hfz55_0); (try clear hfz55_1); (try clear hfz56_0); (try clear hfz56_1); (try clear hfz56_2); (try clear hfz56_3); (try clear hfz59_0); (try clear hfz59_1); (try clear hfz62_0); (try clear hfz62_1); (try clear hfz66_0); (try clear hfz66_1); (try clear hfz67_0); (try clear hfz67_1); (try clear hfz67_2); (try clear hfz67_3); (try clear hfz70_0); (try clear hfz70_1); (try clear hfz71_0); (try clear hfz71_1); (try clear hfz71_2)
        (try clear hfz71_3); (try clear hfz73_0); (try clear hfz73_1); (try clear hfz73_2); (try clear hfz73_3); (try clear hfz8_0); (try clear hfz8_1); (try clear hfz8_2); (try clear hfz8_3); (try clear hx310_0); (try clear hx310_1); (try clear hx312_0); (try clear hx312_1); (try clear hx312_2); (try clear hx312_3); (try clear p2); (try clear p3); (try clear p31); (try clear p310); (try clear p312); (try clear q3); (try clear q31); (try clear q310); (try clear q312)
        obtain ⟨x6_3, rfl, HA, HK3, BK307, HB⟩ := hrel
        cases gk with
        | zero => exact absurd HA.out (by simp [spec_l24Ok.l1])
        | succ k3 =>
         have H := HA.out; clear HA
         simp only [spec_l24Ok.l1] at H
         by_cases c74 : x6_3 < (l0_1.length : Int)
         ·rw [if_pos c74] at H
          have c74b0 : decide (x6_3 < (l0_1.length : Int)) = true := decide_eq_true c74
          clear c74; replace H := Option.bind_eq_some_iff.mp H
          obtain ⟨t317, A750, H⟩ := H
          replace H : (if 0 ≤ x6_3 then (if t317 > (rd l0_1 x6_3) then (some false) else (spec_l24Ok.l1 k3 (wrap64 (x6_3 + 1)) l0_0 l0_1 a0_2 l0_3)) else (none)) = some r := H
          have A75 := Aside0.mk A750; clear A750
          obtain ⟨c76, H⟩ := ifS_ H
          have c76b0 : decide (0 ≤ x6_3) = true := decide_eq_true c76
          clear c76
          by_cases c77 : t317 > (rd l0_1 x6_3)
          ·rw [if_pos c77] at H
           have c77b0 : decide ((rd l0_1 x6_3) < t317) = true := decide_eq_true c77
           clear c77
           obtain rfl := Option.some.inj H
           have hcz78_0 : wr.cell? ⟨gb307, 0, none⟩ = some (.slice A0_0 l0_0.length c0_0) := (blk_cell BK307.out 0).trans rfl
           have hcz78_1 : wr.cell? ⟨gb307, 1, none⟩ = some (.slice A0_1 l0_1.length c0_1) := (blk_cell BK307.out 1).trans rfl
           have hcz78_2 : wr.cell? ⟨gb307, 2, none⟩ = some (.int .i64 a0_2) := (blk_cell BK307.out 2).trans rfl
           have hcz78_3 : wr.cell? ⟨gb307, 3, none⟩ = some (.slice A0_3 l0_3.length c0_3) := (blk_cell BK307.out 3).trans rfl
           have hfz78_0 := blk_frozen BK307.out 0; have hfz78_1 := blk_frozen BK307.out 1; have hfz78_2 := blk_frozen BK307.out 2; have hfz78_3 := blk_frozen BK307.out 3
           try go_wp2
           replace BK307 := Aside0.mk (blk_drew BK307.out)
           replace HB := Aside0.mk (below_drew1 HB.out)
           have p318 : 0 ≤ (x6_3 : Int) := of_decide_eq_true (by first | (with_reducible assumption) | assumption)
           have q318 : x6_3 < (l0_1.length : Int) := of_decide_eq_true (by first | (with_reducible assumption) | assumption)
           obtain ⟨ad318, e318, hx318_0⟩ := Kd.at_int HR0_1.out x6_3 p318 q318
           have hw318_0 := hx318_0
           cases e318
           replace hx318_0 := (HB.out.cell (World.block_lt_of_cell? w _ hx318_0)).trans hx318_0
           replace p318 := eq_true p318; replace q318 := eq_true q318
           refine start_ (n := 11) (S := fun w' => w'.cell? ⟨gb307, 0, none⟩ = some (.slice A0_0 l0_0.length c0_0) ∧ w'.cell? ⟨gb307, 1, none⟩ = some (.slice (some ad318) l0_1.length c0_1) ∧ w'.cell? ⟨gb307, 2, none⟩ = some (.int .i64 a0_2) ∧ w'.cell? ⟨gb307, 3, none⟩ = some (.slice A0_3 l0_3.length c0_3) ∧ w'.cell? (ad318.add (x6_3).toNat) = some (.int .i64 (rd l0_1 x6_3))) (ds := []) #[false, false, false, false, false, false, false, false, false, false, false] (by kernel_rfl) rfl rfl ⟨(blk_cell BK307.out 0).trans rfl, (blk_cell BK307.out 1).trans rfl, (blk_cell BK307.out 2).trans rfl, (blk_cell BK307.out 3).trans rfl, ((HB.out.cell (World.block_lt_of_cell? w _ hw318_0)).trans hw318_0)⟩ (fun hHeld => ?_); refine with_tabW spec_l24Ok.tab15 spec_l24Ok.bits15 (fun HT_ HW_ => ?_)
           generalize wr.drew = w79 at BK307 HB hx318_0 hHeld ⊢
           refine pT_ 1 (some 102) #[false, true, false, false, false, false, false, false, false, false, false] HT_ ?_
           refine pT_ 2 (some 103) #[false, true, true, false, false, false, false, false, false, false, false] HT_ ?_
           refine pT_ 4 (some 105) #[false, true, true, false, true, false, false, false, false, false, false] HT_ ?_
           refine pT_ 5 (some 106) #[false, true, true, false, true, true, false, false, false, false, false] HT_ ?_
           refine pT_ 7 (some 108) #[false, true, true, false, true, true, false, true, false, false, false] HT_ ?_
           refine tT_ 0 (some 101) #[true, true, true, false, true, true, false, true, false, false, false] HT_ HW_ hHeld ?_ (hy := by rintro w' ⟨s0, s1, s2, s3, s4⟩; go_simp; with_reducible rfl)
           refine tT_ 6 (some 107) #[true, true, true, false, true, true, true, true, false, false, false] HT_ HW_ hHeld ?_ (hy := by rintro w' ⟨s0, s1, s2, s3, s4⟩; go_simp; with_reducible rfl)
           refine pT_ 8 (some 109) #[true, true, true, false, true, true, true, true, true, false, false] HT_ ?_
           refine tT_ 9 (some 110) #[true, true, true, false, true, true, true, true, true, true, false] HT_ HW_ hHeld ?_ (hy := by rintro w' ⟨s0, s1, s2, s3, s4⟩; go_simp; with_reducible rfl)
           refine one_ (i := 3) (N := some 104) #[true, true, true, true, true, true, true, true, true, true, false] rfl rfl (one_of HT_.out (by kernel_rfl)) (by decide) (fun K hK => ?_)
           refine goes_ Try.func75 (by kernel_rfl) rfl #[.agg #[.slice A0_0 l0_0.length c0_0, .slice (some ad318) l0_1.length c0_1, .int .i64 a0_2, .slice A0_3 l0_3.length c0_3], .int .i64 (wrap64 (x6_3 + 1))] (by rfl) rfl rfl (by (try simp only [List.map_toArray, List.map_cons, List.map_nil]); first | done | rfl | (simp only [List.length_drop, List.length_take]; rfl)) ?_
           with_reducible refine (spec_l24Running.calls k3 _ _ l0_0 _ _ l0_1 a0_2 _ _ l0_3 (wrap64 (x6_3 + 1)) t317 _ ?side1 ?side2 ?side3 ?side4 ?side5 ?side6 A75.out).mono ?_
           (case side1 => exact cB_ HR0_0 HB)
           (case side2 => exact HC0_0.out)
           (case side3 => exact cB_ HR0_1 HB)
           (case side4 => exact HC0_1.out)
           (case side5 => exact cB_ HR0_3 HB)
           (case side6 => exact HC0_3.out)
           rintro e w80 ⟨rfl, hb⟩
           refine ⟨_, rfl, ?_⟩
           replace BK307 := bB_ BK307 hb; replace HB := bS_ HB hb; (try clear hb); (try clear hb2); (try clear hk); (try clear hi)
           refine hK.out _ _ ⟨(blk_cell BK307.out 0).trans rfl, (blk_cell BK307.out 1).trans rfl, (blk_cell BK307.out 2).trans rfl, (blk_cell BK307.out 3).trans rfl, ((HB.out.cell (World.block_lt_of_cell? w _ hw318_0)).trans hw318_0)⟩ (fun hHeld => ?_)
           clear hK K
           refine nS_ (some 104) ?_
           refine pT_ 10 (some 111) #[true, true, true, true, true, true, true, true, true, true, true] HT_ ?_
           refine done_ (done_of HT_.out (by kernel_rfl)) ?_
           try go_wp2
           go_ret
           exact ⟨by first | rfl | (simp [errW_none, errW_some] <;> rfl) | (simp [*, errW_none, errW_some] <;> rfl), sABelo_12⟩
          ·rw [if_neg c77] at H
           have c77b0 : decide ((rd l0_1 x6_3) < t317) = false := decide_eq_false c77
           clear c77; have H' := Aside0.mk H; clear H
           have hcz81_0 : wr.cell? ⟨gb307, 0, none⟩ = some (.slice A0_0 l0_0.length c0_0) := (blk_cell BK307.out 0).trans rfl
           have hcz81_1 : wr.cell? ⟨gb307, 1, none⟩ = some (.slice A0_1 l0_1.length c0_1) := (blk_cell BK307.out 1).trans rfl
           have hcz81_2 : wr.cell? ⟨gb307, 2, none⟩ = some (.int .i64 a0_2) := (blk_cell BK307.out 2).trans rfl
           have hcz81_3 : wr.cell? ⟨gb307, 3, none⟩ = some (.slice A0_3 l0_3.length c0_3) := (blk_cell BK307.out 3).trans rfl
           have hfz81_0 := blk_frozen BK307.out 0; have hfz81_1 := blk_frozen BK307.out 1; have hfz81_2 := blk_frozen BK307.out 2; have hfz81_3 := blk_frozen BK307.out 3
           try go_wp2
           replace BK307 := Aside0.mk (blk_drew BK307.out)
           replace HB := Aside0.mk (below_drew1 HB.out)
           have p318 : 0 ≤ (x6_3 : Int) := of_decide_eq_true (by first | (with_reducible assumption) | assumption)
           have q318 : x6_3 < (l0_1.length : Int) := of_decide_eq_true (by first | (with_reducible assumption) | assumption)
           obtain ⟨ad318, e318, hx318_0⟩ := Kd.at_int HR0_1.out x6_3 p318 q318
           have hw318_0 := hx318_0
           cases e318
           replace hx318_0 := (HB.out.cell (World.block_lt_of_cell? w _ hx318_0)).trans hx318_0
           replace p318 := eq_true p318; replace q318 := eq_true q318
           refine start_ (n := 11) (S := fun w' => w'.cell? ⟨gb307, 0, none⟩ = some (.slice A0_0 l0_0.length c0_0) ∧ w'.cell? ⟨gb307, 1, none⟩ = some (.slice (some ad318) l0_1.length c0_1) ∧ w'.cell? ⟨gb307, 2, none⟩ = some (.int .i64 a0_2) ∧ w'.cell? ⟨gb307, 3, none⟩ = some (.slice A0_3 l0_3.length c0_3) ∧ w'.cell? (ad318.add (x6_3).toNat) = some (.int .i64 (rd l0_1 x6_3))) (ds := []) #[false, false, false, false, false, false, false, false, false, false, false] (by kernel_rfl) rfl rfl ⟨(blk_cell BK307.out 0).trans rfl, (blk_cell BK307.out 1).trans rfl, (blk_cell BK307.out 2).trans rfl, (blk_cell BK307.out 3).trans rfl, ((HB.out.cell (World.block_lt_of_cell? w _ hw318_0)).trans hw318_0)⟩ (fun hHeld => ?_); refine with_tabW spec_l24Ok.tab15 spec_l24Ok.bits15 (fun HT_ HW_ => ?_)
           generalize wr.drew = w82 at BK307 HB hx318_0 hHeld ⊢
           refine pT_ 1 (some 102) #[false, true, false, false, false, false, false, false, false, false, false] HT_ ?_
           refine pT_ 2 (some 103) #[false, true, true, false, false, false, false, false, false, false, false] HT_ ?_
           refine pT_ 4 (some 105) #[false, true, true, false, true, false, false, false, false, false, false] HT_ ?_
           refine pT_ 5 (some 106) #[false, true, true, false, true, true, false, false, false, false, false] HT_ ?_
           refine pT_ 7 (some 108) #[false, true, true, false, true, true, false, true, false, false, false] HT_ ?_
           refine tT_ 0 (some 101) #[true, true, true, false, true, true, false, true, false, false, false] HT_ HW_ hHeld ?_ (hy := by rintro w' ⟨s0, s1, s2, s3, s4⟩; go_simp; with_reducible rfl)
           refine tT_ 6 (some 107) #[true, true, true, false, true, true, true, true, false, false, false] HT_ HW_ hHeld ?_ (hy := by rintro w' ⟨s0, s1, s2, s3, s4⟩; go_simp; with_reducible rfl)
           refine pT_ 8 (some 109) #[true, true, true, false, true, true, true, true, true, false, false] HT_ ?_
           refine tT_ 9 (some 110) #[true, true, true, false, true, true, true, true, true, true, false] HT_ HW_ hHeld ?_ (hy := by rintro w' ⟨s0, s1, s2, s3, s4⟩; go_simp; with_reducible rfl)
           refine one_ (i := 3) (N := some 104) #[true, true, true, true, true, true, true, true, true, true, false] rfl rfl (one_of HT_.out (by kernel_rfl)) (by decide) (fun K hK => ?_)
           refine goes_ Try.func75 (by kernel_rfl) rfl #[.agg #[.slice A0_0 l0_0.length c0_0, .slice (some ad318) l0_1.length c0_1, .int .i64 a0_2, .slice A0_3 l0_3.length c0_3], .int .i64 (wrap64 (x6_3 + 1))] (by rfl) rfl rfl (by (try simp only [List.map_toArray, List.map_cons, List.map_nil]); first | done | rfl | (simp only [List.length_drop, List.length_take]; rfl)) ?_
           with_reducible refine (spec_l24Running.calls k3 _ _ l0_0 _ _ l0_1 a0_2 _ _ l0_3 (wrap64 (x6_3 + 1)) t317 _ ?side1 ?side2 ?side3 ?side4 ?side5 ?side6 A75.out).mono ?_
           (case side1 => exact cB_ HR0_0 HB)
           (case side2 => exact HC0_0.out)
           (case side3 => exact cB_ HR0_1 HB)
           (case side4 => exact HC0_1.out)
           (case side5 => exact cB_ HR0_3 HB)
           (case side6 => exact HC0_3.out)
           rintro e w83 ⟨rfl, hb⟩
           refine ⟨_, rfl, ?_⟩
           replace BK307 := bB_ BK307 hb; replace HB := bS_ HB hb; (try clear hb); (try clear hb2); (try clear hk); (try clear hi)
           refine hK.out _ _ ⟨(blk_cell BK307.out 0).trans rfl, (blk_cell BK307.out 1).trans rfl, (blk_cell BK307.out 2).trans rfl, (blk_cell BK307.out 3).trans rfl, ((HB.out.cell (World.block_lt_of_cell? w _ hw318_0)).trans hw318_0)⟩ (fun hHeld => ?_)
           clear hK K
           refine nS_ (some 104) ?_
           refine pT_ 10 (some 111) #[true, true, true, true, true, true, true, true, true, true, true] HT_ ?_
           refine done_ (done_of HT_.out (by kernel_rfl)) ?_
           try go_wp2
           go_roundg k3
           case measure => have := HJ1.out; have := HK2.out; have := HK3.out; omega
           case rel => exact ⟨(wrap64 (x6_3 + 1)), (by first | rfl | (simp; done) | (simp [*]; done)), H', ⟨by have := HJ1.out; have := HK2.out; have := HK3.out; omega⟩, ⟨by exact bT_ BK307⟩, ⟨sABelo_12⟩⟩
         ·rw [if_neg c74] at H
          have c74b0 : decide (x6_3 < (l0_1.length : Int)) = false := decide_eq_false c74
          clear c74
          obtain rfl := Option.some.inj H
          have hcz84_0 : wr.cell? ⟨gb307, 0, none⟩ = some (.slice A0_0 l0_0.length c0_0) := (blk_cell BK307.out 0).trans rfl
          have hcz84_1 : wr.cell? ⟨gb307, 1, none⟩ = some (.slice A0_1 l0_1.length c0_1) := (blk_cell BK307.out 1).trans rfl
          have hcz84_2 : wr.cell? ⟨gb307, 2, none⟩ = some (.int .i64 a0_2) := (blk_cell BK307.out 2).trans rfl
          have hcz84_3 : wr.cell? ⟨gb307, 3, none⟩ = some (.slice A0_3 l0_3.length c0_3) := (blk_cell BK307.out 3).trans rfl
          have hfz84_0 := blk_frozen BK307.out 0; have hfz84_1 := blk_frozen BK307.out 1; have hfz84_2 := blk_frozen BK307.out 2; have hfz84_3 := blk_frozen BK307.out 3
          go_wp2
          go_ret
          exact ⟨by first | rfl | (simp [errW_none, errW_some] <;> rfl) | (simp [*, errW_none, errW_some] <;> rfl), sABelo_12⟩

end Go.Proofs.Ytjoghfehmhapbaa.QFnExactCrashRun
