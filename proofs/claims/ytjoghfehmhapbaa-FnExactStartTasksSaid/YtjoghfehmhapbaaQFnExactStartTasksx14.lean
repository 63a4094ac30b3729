-- Written by a program of this session out of the printer's texts and contracts of its own.
import Derived.Test.YtjoghfehmhapbaaSq
import Derived.Test.YtjoghfehmhapbaaQFnExactStartTasksx0
namespace Go.Proofs.Ytjoghfehmhapbaa.QFnExactStartTasks
open Go.RowKit Go.Proofs.YtjoghfehmhapbaaW.PrintWords Go.Proofs.YtjoghfehmhapbaaW.PrintLast Go.Proofs.YtjoghfehmhapbaaW.PrintMore Go.Proofs.Ytjoghfehmhapbaa.Sq
attribute [local go_sem] max2_int min2_int max_two min_two max_three min_three max_four min_four   -- for this text's walks alone
set_option linter.unusedVariables false
set_option linter.unusedSimpArgs false
theorem sABelo_14 {b : Nat} {w W : World} (h : Below b w W := by repeat (first | (with_reducible first | exact Aside0.out (by assumption) | apply below_alloc | apply pw_below_drewN | apply below_drew1 | refine below_set ?_ (Aside0.out (by assumption))) | exact Aside0.out (by assumption))) : Below b w W := h

/-! ### spec_l24CopySuite: function 45 -/
def spec_l24CopySuite.l0 : Nat → Int → List (S39) → List Int → List (S39) → List Int → Option ((List (S39)) × List Int)
 | 0, _, _, _, _, _ => none
 | k + 1, x4, x331000, x331001, x339000, x339001 => if x4 < (x331000.length : Int) then (if 0 ≤ x4 then ((some (([] : List Int) : List Int)).bind fun y341 => (if y341.length + ((rd_T39 x331000 x4).f0).length < 17592186044416 then (if x339000.length < 2932031007402 then (spec_l24CopySuite.l0 k (wrap64 (x4 + 1)) x331000 x331001 (x339000 ++ [(⟨(y341 ++ ((rd_T39 x331000 x4).f0)), (rd_T39 x331000 x4).f1, (rd_T39 x331000 x4).f2, (rd_T39 x331000 x4).f3⟩ : S39)]) x339001) else (none)) else (none))) else (none)) else (some (x339000, x339001))
def spec_l24CopySuite.f (k : Nat) (l0_0 : List (S39)) (l0_1 : List Int) : Option ((List (S39)) × List Int) := (some (([] : List Int) : List Int)).bind fun y332 => (if y332.length + l0_1.length < 17592186044416 then (spec_l24CopySuite.l0 k 0 l0_0 l0_1 ([] : List (S39)) (y332 ++ l0_1)) else (none))
theorem spec_l24CopySuite.mono_l : ∀ k, (∀ y0 y1 y2 y3 y4, LeO (spec_l24CopySuite.l0 k y0 y1 y2 y3 y4) (spec_l24CopySuite.l0 (k + 1) y0 y1 y2 y3 y4))
 | 0 => fun _ _ _ _ _ r h => by simp [spec_l24CopySuite.l0] at h
 | k + 1 => by
  have ih0 := spec_l24CopySuite.mono_l k
  ·intro y0 y1 y2 y3 y4
   unfold spec_l24CopySuite.l0
   repeat' first
   | (with_reducible exact ih0 _ _ _ _ _)
   | (with_reducible exact LeO.refl _)
   | (with_reducible exact LeO.none _)
   | (with_reducible refine LeO.ite ?_ ?_)
   | (with_reducible refine LeO.bind ?_ (fun _ => ?_))
   | exact ih0 _ _ _ _ _
   | exact LeO.none _
   | refine LeO.ite ?_ ?_
   | refine LeO.bind ?_ (fun _ => ?_)
theorem spec_l24CopySuite.mono : ∀ a0 a1 k, LeO (spec_l24CopySuite.f k a0 a1) (spec_l24CopySuite.f (k + 1) a0 a1) := by
 intro a0 a1 k
 have ih0 := spec_l24CopySuite.mono_l k
 unfold spec_l24CopySuite.f
 repeat' first
   | (with_reducible exact ih0 _ _ _ _ _)
   | (with_reducible exact LeO.refl _)
   | (with_reducible exact LeO.none _)
   | (with_reducible refine LeO.ite ?_ ?_)
   | (with_reducible refine LeO.bind ?_ (fun _ => ?_))
   | exact ih0 _ _ _ _ _
   | exact LeO.none _
   | refine LeO.ite ?_ ?_
   | refine LeO.bind ?_ (fun _ => ?_)
set_option maxHeartbeats 8000000 in
set_option maxRecDepth 100000 in
theorem spec_l24CopySuite.calls (k : Nat) (A0_0 : Option Addr) (c0_0 : Nat) (l0_0 : List (S39)) (A0_1 : Option Addr) (c0_1 : Nat) (l0_1 : List Int) (r1 : List (S39)) (r2 : List Int) (w : World) (hr0_0 : Kd.C k39 w A0_0 l0_0.length l0_0) (hc0_0 : l0_0.length ≤ c0_0) (hr0_1 : Kd.C (Kd.int .i64) w A0_1 l0_1.length l0_1) (hc0_1 : l0_1.length ≤ c0_1) (h : spec_l24CopySuite.f k l0_0 l0_1 = some (r1, r2)) :
  Calls Try.prog 45 #[.agg #[.slice A0_0 l0_0.length c0_0, .slice A0_1 l0_1.length c0_1]] w fun e w' => ∃ v0_ v1_ : Value, e = .returned (.agg #[v0_, v1_]) ∧ Kd.S k39 39 w' w.heap.size (fun k_ => some k_ ≠ (v1_ : Value).ownBlock) v0_ r1 ∧ Kd.R (Kd.int .i64) 2 w' w.heap.size (fun _ => True) v1_ r2 ∧ Below w.heap.size w w' := by
 have hu27 := Try.underlying27; have hu39 := Try.underlying39; have HR0_0 := Aside0.mk hr0_0; have HC0_0 := Aside0.mk hc0_0; clear hr0_0 hc0_0; have HR0_1 := Aside0.mk hr0_1; have HC0_1 := Aside0.mk hc0_1; clear hr0_1 hc0_1
 have HB := Aside0.mk (Below.refl w.heap.size w)
 have H : ((some (([] : List Int) : List Int)).bind fun y332 => (if y332.length + l0_1.length < 17592186044416 then (spec_l24CopySuite.l0 k 0 l0_0 l0_1 ([] : List (S39)) (y332 ++ l0_1)) else (none))) = some (r1, r2) := h
 clear h
 obtain ⟨y332, hy332⟩ : ∃ y_ : List Int, y_ = (([] : List Int)) := ⟨_, rfl⟩
 replace H : (if y332.length + l0_1.length < 17592186044416 then (spec_l24CopySuite.l0 k 0 l0_0 l0_1 ([] : List (S39)) (y332 ++ l0_1)) else (none)) = some (r1, r2) := by first | (rw [hy332]; with_reducible exact H) | (have H2_ := (Option.bind_some _ _).symm.trans H; rw [hy332]; with_reducible exact H2_) | (have H2_ := (Option.bind_some _ _).symm.trans H; with_reducible exact H2_) | with_reducible exact H | (rw [hy332]; exact H) | exact H
 have Ny332 := Aside0.mk hy332; clear hy332
 obtain ⟨c2, H⟩ := ifS_ H
 have LMc2 := Aside0.mk c2; clear c2
 obtain ⟨y335, hy335⟩ : ∃ y_ : List Int, y_ = (y332 ++ l0_1) := ⟨_, rfl⟩
 replace H : (spec_l24CopySuite.l0 k 0 l0_0 l0_1 ([] : List (S39)) y335) = some (r1, r2) := by first | (rw [hy335]; with_reducible exact H) | (have H2_ := (Option.bind_some _ _).symm.trans H; rw [hy335]; with_reducible exact H2_) | (have H2_ := (Option.bind_some _ _).symm.trans H; with_reducible exact H2_) | with_reducible exact H | (rw [hy335]; exact H) | exact H
 have Ny335 := Aside0.mk hy335; clear hy335; have H' := Aside0.mk H; clear H
 go_enter Try.func45, Try.ntmps45
 go_wp2_with (first | ((with_reducible refine gate_dst (N := 1) rfl ?_); refine box_event ?hg (N := 1) ?hd (cs := #[.slice A0_0 l0_0.length c0_0, .slice A0_1 l0_1.length c0_1]) (t := 27) ?hr ?_; (case hd => rfl); (case hg => rfl); (case hr => first | (go_simp; done) | (go_simp; rfl)); intro gb330 hg w3 hbox hb; have BK330 := Aside0.mk (hbox); have GW330 := gE_ HB hg; have GE330 := gE_ HB hg; replace HB := bS_ HB hb; clear hb hbox hg) | ((with_reducible refine gate_dst (N := 2) rfl ?_); refine box_event ?hg (N := 2) ?hd (cs := #[.slice none 0 0, .slice none 0 0]) (t := 27) ?hr ?_; (case hd => rfl); (case hg => rfl); (case hr => first | (go_simp; done) | (go_simp; rfl)); intro gb331 hg w4 hbox hb; have BK331 := Aside0.mk (hbox); have GW331 := gE_ HB hg; have GE331 := gE_ HB hg; replace HB := bS_ HB hb; have NB330_331 := nL_ BK330 hg; have NB331_330 := nG_ BK330 hg; replace BK330 := bB_ BK330 hb; clear hb hbox hg) | ((with_reducible refine gate_dst (N := 6) rfl ?_); refine Kd.R_lit (Kd.int .i64) _ 2 ?hg (N := 6) ?hd (xs := ([] : List Int)) (inner := []) (ok := fun _ => True) (okp := fun _ => True) ?hr ?hp (fun _ hk => hk) trivial (Below.refl _ _) (Nat.le_refl _) (by simp) ?_; (case hd => rfl); (case hg => rfl); (case hr => first | (go_simp; done) | (go_simp; rfl)); (case hp => exact (Reps.none _ _)); intro v333 w5 ho6 hb hg_ hnew_; clear hg_ hnew_; (first | rw [← Ny332.out] at ho6 | (simp only [Int.reduceToNat] at ho6; rw [← Ny332.out] at ho6)); have HO334 := rL_ ho6 HB; replace BK330 := bB_ BK330 hb; replace BK331 := bB_ BK331 hb; replace HB := bS_ HB hb; clear hb ho6; have hnb7 := NB330_331.out; have hnc7 := NB331_330.out; obtain ⟨hcz8_0, hcz8_1, hfz8_0, hfz8_1⟩ := cf2_ BK330) | ((with_reducible refine gate_builtin (b := .append) (xs := #[.tmp 6, .tmp 8]) rfl ?_); at_builtin; refine Kd.R_append_rows (Kd.int .i64) (w0 := w) w.heap.size rfl (.tmp 6) (.tmp 8) 25 2 (.int .i64 0) 8 rfl Try.underlying25 info2 rfl (by decide) (by omega) v333 y332 l0_1 _ _ _ (fun _ => True) (fun _ => False) rfl rfl ?aO ?aR (fun _ _ h => h) (fun _ h => h.elim) ?aF ?aB ?aS ?aL ?_; (case aR => repeat (first | exact (Kd.C_below HR0_1.out HB.out) | (with_reducible refine Kd.C_alloc ?_ _) | (with_reducible refine Kd.C_drewN ?_ _) | (with_reducible refine Kd.C_drew ?_))); (case aB => exact sABelo_14); (case aF => exact (fun _ _ => trivial)); (case aO => exact (rT_ HO334)); (case aS => exact (below_size sABelo_14)); (case aL => have := LMc2.out; omega); intro v336 w9 ho hb hg hat; rw [← Ny335.out] at ho; replace BK330 := Aside0.mk (blk_grown (g := gb330) (o := .cells #[.slice A0_0 l0_0.length c0_0, .slice A0_1 l0_1.length c0_1] 27 (0, 0)) (bT_ BK330) hg (Kd.R_ne HO334.out BK330.out (by decide))); replace BK331 := Aside0.mk (blk_grown (g := gb331) (o := .cells #[.slice none 0 0, .slice none 0 0] 27 (0, 0)) (bT_ BK331) hg (Kd.R_ne HO334.out BK331.out (by decide))); replace HB := Aside0.mk (hb); have HO337 := Aside0.mk (ho); clear HO334; clear ho hb hg hat; obtain ⟨Ao10, co10, eo10⟩ := Kd.R_slice HO337.out; subst eo10) | ((with_reducible refine gate_dst (N := 3) rfl ?_); refine box_event ?hg (N := 3) ?hd (cs := #[.slice none 0 0, .slice none 0 0]) (t := 27) ?hr ?_; (case hd => rfl); (case hg => rfl); (case hr => first | (go_simp; done) | (go_simp; rfl)); intro gb338 hg w11 hbox hb; replace HO337 := rB_ HO337 hb; have BK338 := Aside0.mk (hbox); have GW338 := gE_ HB hg; have GE338 := gE_ HB hg; replace HB := bS_ HB hb; have NB330_338 := nL_ BK330 hg; have NB338_330 := nG_ BK330 hg; replace BK330 := bB_ BK330 hb; have NB331_338 := nL_ BK331 hg; have NB338_331 := nG_ BK331 hg; replace BK331 := bB_ BK331 hb; clear hb hbox hg; have hnb12 := NB338_330.out; have hnc12 := NB330_338.out; have hnb13 := NB338_331.out; have hnc13 := NB331_338.out; obtain ⟨hcz14_0, hcz14_1, hfz14_0, hfz14_1⟩ := cf2_ BK338))
 go_loopg [4] k (fun kq v4 w' => ∃ (x4_1 : Int) (x339000_1 : List (S39)) (u339000 : Value), v4 = .int .i64 x4_1 ∧ Aside0 (spec_l24CopySuite.l0 kq x4_1 l0_0 l0_1 x339000_1 y335 = some (r1, r2)) ∧ Aside0 (kq ≤ k) ∧ Aside0 (Kd.S k39 39 w' w.heap.size (fun k_ => some k_ ≠ ((.slice Ao10 y335.length co10) : Value).ownBlock) u339000 x339000_1) ∧ Aside0 (Kd.R (Kd.int .i64) 2 w' w.heap.size (fun _ => True) (.slice Ao10 y335.length co10) y335) ∧ Aside0 (w'.heap[gb330]? = some (.cells #[(.slice A0_0 l0_0.length c0_0), (.slice A0_1 l0_1.length c0_1)] 27 (0, 0))) ∧ Aside0 (w'.heap[gb331]? = some (.cells #[(.slice none 0 0), (.slice none 0 0)] 27 (0, 0))) ∧ Aside0 (w'.heap[gb338]? = some (.cells #[u339000, (.slice Ao10 y335.length co10)] 27 (0, 0))) ∧ Aside0 (Below w.heap.size w w'))
 case atStart => exact ⟨(0), (([] : List (S39))), (.slice none 0 0), (by first | rfl | (simp; done) | (simp [*]; done)), H', ⟨Nat.le_refl _⟩, ⟨by first | exact Kd.S_nil _ _ _ _ _ | exact Kd.N_nil _ _ _ _ _ | exact Kd.V_nil _ _ _ _ _ | exact Kd.Q_nil _ _ _ _ _ | exact Kd.R_nil _ _ _ _ _⟩, ⟨rFM_ HO337 BK338⟩, ⟨bF_ BK330 NB330_338⟩, ⟨bF_ BK331 NB331_338⟩, ⟨bP_ BK338⟩, ⟨sABelo_14⟩⟩
 case round =>
  clear H'; (try clear c2); (try clear hcz14_0); (try clear hcz14_1); (try clear hcz8_0); (try clear hcz8_1); (try clear hfz14_0); (try clear hfz14_1); (try clear hfz8_0); (try clear hfz8_1)
  obtain ⟨x4_1, x339000_1, u339000, rfl, HA, HK1, HO_339000, HO_339001, BK330, BK331, BK338, HB⟩ := hrel
  cases gk with
  | zero => exact absurd HA.out (by simp [spec_l24CopySuite.l0])
  | succ k1 =>
   have H := HA.out; clear HA
   simp only [spec_l24CopySuite.l0] at H
   by_cases c15 : x4_1 < (l0_0.length : Int)
   ·rw [if_pos c15] at H
    have c15b0 := decide_eq_true c15
    clear c15
    obtain ⟨c16, H⟩ := ifS_ H
    have c16b0 : decide (0 ≤ x4_1) = true := decide_eq_true c16
    clear c16
    obtain ⟨y341, hy341⟩ : ∃ y_ : List Int, y_ = (([] : List Int)) := ⟨_, rfl⟩
    replace H : (if y341.length + ((rd_T39 l0_0 x4_1).f0).length < 17592186044416 then (if x339000_1.length < 2932031007402 then (spec_l24CopySuite.l0 k1 (wrap64 (x4_1 + 1)) l0_0 l0_1 (x339000_1 ++ [(⟨(y341 ++ ((rd_T39 l0_0 x4_1).f0)), (rd_T39 l0_0 x4_1).f1, (rd_T39 l0_0 x4_1).f2, (rd_T39 l0_0 x4_1).f3⟩ : S39)]) y335) else (none)) else (none)) = some (r1, r2) := by first | (rw [hy341]; with_reducible exact H) | (have H2_ := (Option.bind_some _ _).symm.trans H; rw [hy341]; with_reducible exact H2_) | (have H2_ := (Option.bind_some _ _).symm.trans H; with_reducible exact H2_) | with_reducible exact H | (rw [hy341]; exact H) | exact H
    have Ny341 := Aside0.mk hy341; clear hy341
    obtain ⟨c17, H⟩ := ifS_ H
    have LMc17 := Aside0.mk c17; clear c17
    obtain ⟨y344, hy344⟩ : ∃ y_ : List Int, y_ = (y341 ++ ((rd_T39 l0_0 x4_1).f0)) := ⟨_, rfl⟩
    replace H : (if x339000_1.length < 2932031007402 then (spec_l24CopySuite.l0 k1 (wrap64 (x4_1 + 1)) l0_0 l0_1 (x339000_1 ++ [(⟨y344, (rd_T39 l0_0 x4_1).f1, (rd_T39 l0_0 x4_1).f2, (rd_T39 l0_0 x4_1).f3⟩ : S39)]) y335) else (none)) = some (r1, r2) := by first | (rw [hy344]; with_reducible exact H) | (have H2_ := (Option.bind_some _ _).symm.trans H; rw [hy344]; with_reducible exact H2_) | (have H2_ := (Option.bind_some _ _).symm.trans H; with_reducible exact H2_) | with_reducible exact H | (rw [hy344]; exact H) | exact H
    have Ny344 := Aside0.mk hy344; clear hy344
    obtain ⟨c18, H⟩ := ifS_ H
    have LMc18 := Aside0.mk c18; clear c18
    obtain ⟨y347, hy347⟩ : ∃ y_ : List (S39), y_ = (x339000_1 ++ [(⟨y344, (rd_T39 l0_0 x4_1).f1, (rd_T39 l0_0 x4_1).f2, (rd_T39 l0_0 x4_1).f3⟩ : S39)]) := ⟨_, rfl⟩
    replace H : (spec_l24CopySuite.l0 k1 (wrap64 (x4_1 + 1)) l0_0 l0_1 y347 y335) = some (r1, r2) := by first | (rw [hy347]; with_reducible exact H) | (have H2_ := (Option.bind_some _ _).symm.trans H; rw [hy347]; with_reducible exact H2_) | (have H2_ := (Option.bind_some _ _).symm.trans H; with_reducible exact H2_) | with_reducible exact H | (rw [hy347]; exact H) | exact H
    have Ny347 := Aside0.mk hy347; clear hy347; have H' := Aside0.mk H; clear H; have hnb19 := NB330_331.out; have hnc19 := NB331_330.out; have hnb20 := NB330_338.out; have hnc20 := NB338_330.out
    obtain ⟨hcz21_0, hcz21_1, hfz21_0, hfz21_1⟩ := cf2_ BK330
    have p339 : 0 ≤ (x4_1 : Int) := dA_
    have q339 : x4_1 < (l0_0.length : Int) := dA_
    obtain ⟨ad339, A339_0, c339_0, e339, hx339_0, hx339_1, hx339_2, hx339_3, hl339_0, hi339_0⟩ := at_T39 HR0_0.out x4_1 p339 q339
    cases e339
    replace hx339_0 := hX_ HB hx339_0
    replace hx339_1 := hX_ HB hx339_1
    replace hx339_2 := hX_ HB hx339_2
    replace hx339_3 := hX_ HB hx339_3
    have HR339_0 := Aside0.mk hi339_0; have HC339_0 := Aside0.mk hl339_0; clear hi339_0 hl339_0; replace p339 := eq_true p339; replace q339 := eq_true q339
    go_wp2_with (first | ((with_reducible refine gate_dst (N := 5) rfl ?_); refine box_event ?hg (N := 5) ?hd (cs := #[.slice none 0 0, .int .i64 0, .int .i64 0, .int .i64 0]) (t := 39) ?hr ?_; (case hd => rfl); (case hg => rfl); (case hr => first | (go_simp; done) | (go_simp; rfl)); intro gb340 hg w22 hbox hb; replace HO_339000 := Aside0.mk (Kd.S_below (Kd.S_elderB (sT_ HO_339000) gb340 (Nat.le_of_eq hg.symm)) hb); replace HO_339001 := rB_ HO_339001 hb; have BK340 := Aside0.mk (hbox); have GW340 := gE_ HB hg; have GE340 := gE_ HB hg; replace HB := bS_ HB hb; have NB330_340 := nL_ BK330 hg; have NB340_330 := nG_ BK330 hg; replace BK330 := bB_ BK330 hb; have NB331_340 := nL_ BK331 hg; have NB340_331 := nG_ BK331 hg; replace BK331 := bB_ BK331 hb; have NB338_340 := nL_ BK338 hg; have NB340_338 := nG_ BK338 hg; replace BK338 := bB_ BK338 hb; clear hb hbox hg; have hnb23 := NB340_330.out; have hnc23 := NB330_340.out; have hnb24 := NB340_331.out; have hnc24 := NB331_340.out; have hnb25 := NB340_338.out; have hnc25 := NB338_340.out; obtain ⟨hcz26_0, hcz26_1, hcz26_2, hcz26_3, hfz26_0, hfz26_1, hfz26_2, hfz26_3⟩ := cf4_ BK340) | ((with_reducible refine gate_dst (N := 23) rfl ?_); refine Kd.R_lit (Kd.int .i64) _ 2 ?hg (N := 23) ?hd (xs := ([] : List Int)) (inner := []) (ok := fun _ => True) (okp := fun _ => True) ?hr ?hp (fun _ hk => hk) trivial (Below.refl _ _) (Nat.le_refl _) (by simp) ?_; (case hd => rfl); (case hg => rfl); (case hr => first | (go_simp; done) | (go_simp; rfl)); (case hp => exact (Reps.none _ _)); intro v342 w27 ho28 hb hg_ hnew_; clear hg_ hnew_; (first | rw [← Ny341.out] at ho28 | (simp only [Int.reduceToNat] at ho28; rw [← Ny341.out] at ho28)); replace HO_339000 := Aside0.mk (Kd.S_elder' (sFN0_ HO_339000) (Kd.R_base ho28) hb); have HO343 := Aside0.mk (Kd.R_lower (rN_ ho28 HO_339001) (below_size sABelo_14)); replace HO_339001 := rEF_ HO_339001 BK340 ho28 hb; replace BK330 := bBF_ BK330 NB330_340 hb; replace BK331 := bBF_ BK331 NB331_340 hb; replace BK338 := bBF_ BK338 NB338_340 hb; replace BK340 := Aside0.mk (blk_below (g := gb340) (o := .cells #[.slice A339_0 ((rd_T39 l0_0 x4_1).f0).length c339_0, .int .i64 ((rd_T39 l0_0 x4_1).f1), .int .i64 ((rd_T39 l0_0 x4_1).f2), .int .i64 ((rd_T39 l0_0 x4_1).f3)] 39 (0, 0)) (bP_ BK340) hb); replace HB := Aside0.mk (below_step sABelo_14 hb); clear hb ho28; obtain ⟨hcz29_0, hcz29_1, hcz29_2, hcz29_3, hfz29_0, hfz29_1, hfz29_2, hfz29_3⟩ := cf4_ BK340) | ((with_reducible refine gate_builtin (b := .append) (xs := #[.tmp 23, .tmp 25]) rfl ?_); at_builtin; refine Kd.R_append_rows (Kd.int .i64) (w0 := w) w.heap.size rfl (.tmp 23) (.tmp 25) 25 2 (.int .i64 0) 8 rfl Try.underlying25 info2 rfl (by decide) (by omega) v342 y341 ((rd_T39 l0_0 x4_1).f0) _ _ _ (fun k_ => some k_ ≠ (.slice Ao10 y335.length co10 : Value).ownBlock) (fun _ => False) rfl rfl ?aO ?aR (fun _ _ h => h) (fun _ h => h.elim) ?aF ?aB ?aS ?aL ?_; (case aR => repeat (first | exact (Kd.C_below HR339_0.out HB.out) | (with_reducible refine Kd.C_alloc ?_ _) | (with_reducible refine Kd.C_drewN ?_ _) | (with_reducible refine Kd.C_drew ?_))); (case aB => exact sABelo_14); (case aF => exact (fun k_ hk => Kd.fresh' (rLt_ HO_339001) k_ hk)); (case aO => exact (rM_ HO343)); (case aS => exact (below_size sABelo_14)); (case aL => have := LMc17.out; omega); intro v345 w30 ho hb hg hat; rw [← Ny344.out] at ho; replace HO_339000 := Aside0.mk (Kd.S_after (ok := (fun k_ => some k_ ≠ (.slice Ao10 y335.length co10 : Value).ownBlock ∧ k_ ≠ gb340)) (sT_ HO_339000) hg hat); replace HO_339001 := Aside0.mk (Kd.R_after (ok := (fun _ => True)) (rT_ HO_339001) hg hat); replace BK330 := Aside0.mk (blk_grown (g := gb330) (o := .cells #[.slice (some ad339) l0_0.length c0_0, .slice A0_1 l0_1.length c0_1] 27 (0, 0)) (bT_ BK330) hg (Kd.R_ne HO343.out BK330.out (by decide))); replace BK331 := Aside0.mk (blk_grown (g := gb331) (o := .cells #[.slice none 0 0, .slice none 0 0] 27 (0, 0)) (bT_ BK331) hg (Kd.R_ne HO343.out BK331.out (by decide))); replace BK338 := Aside0.mk (blk_grown (g := gb338) (o := .cells #[u339000, .slice Ao10 y335.length co10] 27 (0, 0)) (bT_ BK338) hg (Kd.R_ne HO343.out BK338.out (by decide))); replace BK340 := Aside0.mk (blk_grown (g := gb340) (o := .cells #[.slice A339_0 ((rd_T39 l0_0 x4_1).f0).length c339_0, .int .i64 ((rd_T39 l0_0 x4_1).f1), .int .i64 ((rd_T39 l0_0 x4_1).f2), .int .i64 ((rd_T39 l0_0 x4_1).f3)] 39 (0, 0)) (bT_ BK340) hg (Kd.R_ne HO343.out BK340.out (by decide))); replace HB := Aside0.mk (hb); have HO346 := Aside0.mk (ho); clear HO343; clear ho hb hg hat; obtain ⟨Ao31, co31, eo31⟩ := Kd.R_slice HO346.out; subst eo31; obtain ⟨hcz32_0, hcz32_1, hcz32_2, hcz32_3, hfz32_0, hfz32_1, hfz32_2, hfz32_3⟩ := cf4_ BK340) | ((with_reducible refine gate_store (t := 25) (p := 27) rfl ?_); refine store_event (t := 25) (p := 27) (v := ?vo_w33) (w1 := (w30.setCell ⟨gb340, 0, none⟩ (.slice Ao31 y344.length co31))) ?hg ?ho ?hn ?hr ?_; (case ho => rfl); (case hg => rfl); (case hn => rfl); (case hr => first | (go_simp; done) | (go_simp; rfl)); intro w33 hw; have n0_ : Aside0 (Kd.S k39 39 w33 w.heap.size (fun k_ => some k_ ≠ (.slice Ao10 y335.length co10 : Value).ownBlock ∧ some k_ ≠ (.slice Ao31 y344.length co31 : Value).ownBlock ∧ k_ ≠ gb340) u339000 x339000_1) := ⟨(by rw [hw]; exact (by (with_reducible repeat (first | apply Kd.S_alloc | apply Kd.S_drewN | apply Kd.S_drew)); exact Kd.S_mono (Kd.S_far (p := ⟨gb340, 0, none⟩) (Kd.S_mono HO_339000.out (fun k_ hk => (⟨hk, hk.1.2⟩ : _ ∧ k_ ≠ gb340))) (fun _ hk => hk.2) (.slice Ao31 y344.length co31)) (fun _ hk => ⟨hk.1.1.1, ⟨hk.1.2, hk.1.1.2⟩⟩)))⟩; have n1_ : Aside0 (Kd.R (Kd.int .i64) 2 w33 w.heap.size (fun k_ => some k_ ≠ (.slice Ao31 y344.length co31 : Value).ownBlock) (.slice Ao10 y335.length co10) y335) := ⟨(by rw [hw]; exact (by (with_reducible repeat (first | apply Kd.R_alloc | apply Kd.R_drewN | apply Kd.R_drew)); exact Kd.R_mono (Kd.R_far (p := ⟨gb340, 0, none⟩) (Kd.R_types HO_339001.out BK340.out (by decide)) (fun _ hk => hk.2) (.slice Ao31 y344.length co31)) (fun _ hk => hk.1.2)))⟩; have n2_ : Aside0 (Kd.R (Kd.int .i64) 2 w33 w.heap.size (fun k_ => some k_ ≠ (.slice Ao10 y335.length co10 : Value).ownBlock) (.slice Ao31 y344.length co31) y344) := ⟨(by rw [hw]; exact (rF_ HO346 BK340))⟩; have n3_ : Aside0 (w33.heap[gb330]? = some (.cells #[.slice (some ad339) l0_0.length c0_0, .slice A0_1 l0_1.length c0_1] 27 (0, 0))) := ⟨(by rw [hw]; exact (bF_ BK330 NB330_340))⟩; have n4_ : Aside0 (w33.heap[gb331]? = some (.cells #[.slice none 0 0, .slice none 0 0] 27 (0, 0))) := ⟨(by rw [hw]; exact (bF_ BK331 NB331_340))⟩; have n5_ : Aside0 (w33.heap[gb338]? = some (.cells #[u339000, .slice Ao10 y335.length co10] 27 (0, 0))) := ⟨(by rw [hw]; exact (bF_ BK338 NB338_340))⟩; have n6_ : Aside0 (w33.heap[gb340]? = some (.cells #[.slice Ao31 y344.length co31, .int .i64 ((rd_T39 l0_0 x4_1).f1), .int .i64 ((rd_T39 l0_0 x4_1).f2), .int .i64 ((rd_T39 l0_0 x4_1).f3)] 39 (0, 0))) := ⟨(by rw [hw]; exact (bP_ BK340))⟩; have n7_ : Aside0 (Below w.heap.size w w33) := ⟨(by rw [hw]; exact sABelo_14)⟩; clear hw; clear HO_339000; clear HO_339001; clear HO346; clear BK330; clear BK331; clear BK338; clear BK340; clear HB; have HO_339000 := n0_; have HO_339001 := n1_; have HO346 := n2_; have BK330 := n3_; have BK331 := n4_; have BK338 := n5_; have BK340 := n6_; have HB := n7_; clear n0_ n1_ n2_ n3_ n4_ n5_ n6_ n7_; have hnb34 := NB338_331.out; have hnc34 := NB331_338.out; obtain ⟨hcz35_0, hcz35_1, hfz35_0, hfz35_1⟩ := cf2_ BK338; obtain ⟨hcz36_0, hcz36_1, hcz36_2, hcz36_3, hfz36_0, hfz36_1, hfz36_2, hfz36_3⟩ := cf4_ BK340) | ((with_reducible refine gate_builtin (b := .append) (xs := #[.tmp 29, .tmp 31]) rfl ?_); at_builtin; refine Kd.S_append k39 (w0 := w) w.heap.size rfl (.tmp 29) (.tmp 31) 24 39 (.agg #[(.slice none 0 0), (.int .i64 0), (.int .i64 0), (.int .i64 0)]) 48 rfl Try.underlying24 info39 rfl (by decide) (by omega) u339000 x339000_1 (⟨y344, (rd_T39 l0_0 x4_1).f1, (rd_T39 l0_0 x4_1).f2, (rd_T39 l0_0 x4_1).f3⟩ : S39) [.slice Ao31 y344.length co31, .int .i64 ((rd_T39 l0_0 x4_1).f1), .int .i64 ((rd_T39 l0_0 x4_1).f2), .int .i64 ((rd_T39 l0_0 x4_1).f3)] (fun k_ => some k_ ≠ (.slice Ao10 y335.length co10 : Value).ownBlock ∧ k_ ≠ gb340) (fun k_ => some k_ = (.slice Ao31 y344.length co31 : Value).ownBlock) rfl rfl ?aP (fun k_ hk_ => ((Kd.R_mono (ok' := fun k_ => ((fun k_ => some k_ ≠ (.slice Ao10 y335.length co10 : Value).ownBlock ∧ k_ ≠ gb340)) k_ ∧ some k_ ≠ (u339000 : Value).ownBlock) (Kd.R_types (Kd.R_apart' (HO346.out) (Kd.S_typed HO_339000.out) (by decide)) BK340.out (by decide)) (fun k_ hk => ⟨⟨hk.1.1, hk.2⟩, hk.1.2⟩))).1 k_ hk_.symm) ?aF ?aO ?aB ?aS ?aL ?_; (case aP => exact k39_mkM _ _ _ (⟨y344, (rd_T39 l0_0 x4_1).f1, (rd_T39 l0_0 x4_1).f2, (rd_T39 l0_0 x4_1).f3⟩ : S39) (Kd.R_mono (Kd.R_tight rfl (Kd.R_mono (ok' := fun k_ => ((fun k_ => some k_ ≠ (.slice Ao10 y335.length co10 : Value).ownBlock ∧ k_ ≠ gb340)) k_ ∧ some k_ ≠ (u339000 : Value).ownBlock) (Kd.R_types (Kd.R_apart' (HO346.out) (Kd.S_typed HO_339000.out) (by decide)) BK340.out (by decide)) (fun k_ hk => ⟨⟨hk.1.1, hk.2⟩, hk.1.2⟩))) (fun _ h_ => h_))); (case aB => exact sABelo_14); (case aF => exact (fun k_ hk => ⟨Kd.fresh' (rLt_ HO_339001) k_ hk, Kd.freshB (g := gb340) (o := .cells #[.slice Ao31 y344.length co31, .int .i64 ((rd_T39 l0_0 x4_1).f1), .int .i64 ((rd_T39 l0_0 x4_1).f2), .int .i64 ((rd_T39 l0_0 x4_1).f3)] 39 (0, 0)) (bT_ BK340) k_ hk⟩)); (case aO => exact (by (with_reducible repeat (first | apply Kd.S_alloc | apply Kd.S_drewN | apply Kd.S_drew)); exact Kd.S_mono HO_339000.out (fun k_ hk => ⟨⟨hk.1, hk.2.2⟩, fun e_ => hk.2.1 e_⟩))); (case aS => exact (below_size sABelo_14)); (case aL => have := LMc18.out; omega); intro v348 w37 ho hb hg hat; rw [← Ny347.out] at ho; replace HO_339001 := Aside0.mk (Kd.R_over' (rT_ HO_339001) (Kd.S_typed (sT_ HO_339000)) (by decide) hg); replace BK330 := Aside0.mk (blk_grown (g := gb330) (o := .cells #[.slice (some ad339) l0_0.length c0_0, .slice A0_1 l0_1.length c0_1] 27 (0, 0)) (bT_ BK330) hg (Kd.S_ne HO_339000.out BK330.out (by decide))); replace BK331 := Aside0.mk (blk_grown (g := gb331) (o := .cells #[.slice none 0 0, .slice none 0 0] 27 (0, 0)) (bT_ BK331) hg (Kd.S_ne HO_339000.out BK331.out (by decide))); replace BK338 := Aside0.mk (blk_grown (g := gb338) (o := .cells #[u339000, .slice Ao10 y335.length co10] 27 (0, 0)) (bT_ BK338) hg (Kd.S_ne HO_339000.out BK338.out (by decide))); replace BK340 := Aside0.mk (blk_grown (g := gb340) (o := .cells #[.slice Ao31 y344.length co31, .int .i64 ((rd_T39 l0_0 x4_1).f1), .int .i64 ((rd_T39 l0_0 x4_1).f2), .int .i64 ((rd_T39 l0_0 x4_1).f3)] 39 (0, 0)) (bT_ BK340) hg (Kd.S_away HO_339000.out (fun _ hk => hk.2.2))); replace HB := Aside0.mk (hb); have HO349 := Aside0.mk (ho); clear HO_339000 HO346; clear ho hb hg hat; obtain ⟨Ao38, co38, eo38⟩ := Kd.S_slice HO349.out; subst eo38; obtain ⟨hcz39_0, hcz39_1, hfz39_0, hfz39_1⟩ := cf2_ BK338))
    go_roundg k1
    case measure => have := HK1.out; omega
    case rel => exact ⟨(wrap64 (x4_1 + 1)), (y347), (.slice Ao38 y347.length co38), (by first | rfl | (simp; done) | (simp [*]; done)), H', ⟨by have := HK1.out; omega⟩, ⟨sFM_ HO349 BK338⟩, ⟨rFM_ HO_339001 BK338⟩, ⟨bF_ BK330 NB330_338⟩, ⟨bF_ BK331 NB331_338⟩, ⟨bP_ BK338⟩, ⟨sABelo_14⟩⟩
   ·rw [if_neg c15] at H
    have c15b0 := decide_eq_false c15
    clear c15
    simp only [Option.some.injEq, Prod.mk.injEq] at H
    obtain ⟨rfl, rfl⟩ := H
    have hnb40 := NB330_331.out; have hnc40 := NB331_330.out; have hnb41 := NB330_338.out; have hnc41 := NB338_330.out
    obtain ⟨hcz42_0, hcz42_1, hfz42_0, hfz42_1⟩ := cf2_ BK330; have hnb43 := NB338_331.out; have hnc43 := NB331_338.out
    obtain ⟨hcz44_0, hcz44_1, hfz44_0, hfz44_1⟩ := cf2_ BK338
    obtain ⟨Ao45, co45, eo45⟩ := Kd.S_slice HO_339000.out
    subst eo45
    obtain ⟨hcz46_0, hcz46_1, hfz46_0, hfz46_1⟩ := cf2_ BK331
    go_wp2
    refine bodyPost_ret (results_cell_row rfl _ _ gb331 27 #[.slice Ao45 x339000_1.length co45, .slice Ao10 y335.length co10] (0, 0) _ rfl (bP_ BK331) Try.underlying27 rfl (by kernel_rfl)) rfl ?_
    exact ⟨_, _, by first | rfl | (simp [errW_none, errW_some] <;> rfl) | (simp [*, errW_none, errW_some] <;> rfl), by (with_reducible repeat (first | apply Kd.S_alloc | apply Kd.S_drewN | apply Kd.S_drew)); exact Kd.S_mono (Kd.S_far (p := ⟨gb331, 1, none⟩) (Kd.S_far (p := ⟨gb331, 0, none⟩) (Kd.S_types HO_339000.out BK331.out (by decide)) (fun _ hk => hk.2) (.slice Ao45 x339000_1.length co45)) (fun _ hk => hk.2) (.slice Ao10 y335.length co10)) (fun _ hk => hk.1), by (with_reducible repeat (first | apply Kd.R_alloc | apply Kd.R_drewN | apply Kd.R_drew)); exact Kd.R_mono (Kd.R_far (p := ⟨gb331, 1, none⟩) (Kd.R_far (p := ⟨gb331, 0, none⟩) (Kd.R_types HO_339001.out BK331.out (by decide)) (fun _ hk => hk.2) (.slice Ao45 x339000_1.length co45)) (fun _ hk => hk.2) (.slice Ao10 y335.length co10)) (fun _ hk => trivial), sABelo_14⟩

/-! ### spec_l24Copy: function 59 -/
def spec_l24Copy.f (k : Nat) (l0_0 : List (S39)) (l0_1 : List Int) (a0_2 : Int) (l0_3 : List (S43)) : Option ((List (S39)) × List Int × Int × (List (S43))) := (spec_l24CopySuite.f k l0_0 l0_1).bind fun bt352 => ((some (([] : List (S43)) : List (S43))).bind fun y358 => (if y358.length + l0_3.length < 8796093022208 then (some (bt352.1, bt352.2, a0_2, (y358 ++ l0_3))) else (none)))
theorem spec_l24Copy.mono : ∀ a0 a1 a2 a3 k, LeO (spec_l24Copy.f k a0 a1 a2 a3) (spec_l24Copy.f (k + 1) a0 a1 a2 a3) := by
 intro a0 a1 a2 a3 k
 unfold spec_l24Copy.f
 repeat' first
   | (with_reducible exact spec_l24CopySuite.mono _ _ _)
   | (with_reducible exact LeO.refl _)
   | (with_reducible exact LeO.none _)
   | (with_reducible refine LeO.ite ?_ ?_)
   | (with_reducible refine LeO.bind ?_ (fun _ => ?_))
   | exact spec_l24CopySuite.mono _ _ _
   | exact LeO.none _
   | refine LeO.ite ?_ ?_
   | refine LeO.bind ?_ (fun _ => ?_)
def spec_l24Copy.T1 : Bool × List (List Nat × List Nat) := (true, [([], []), ([0], [0]), ([1], [1]), ([], []), ([3], [3]), ([], []), ([], []), ([6], [6]), ([5, 7, 2], [5, 7]), ([2, 4, 8], [2, 4, 8]), ([9, 8, 0, 1, 2, 3, 4, 5, 6, 7, 8, 9], [9])])
def spec_l24Copy.B1 : List Nat := [0, 1, 3, 0, 8, 0, 0, 64, 231, 511, 1023]
theorem spec_l24Copy.tab1 : rtab .any (opsOf Try.f59 1) = spec_l24Copy.T1 := by kernel_rfl
theorem spec_l24Copy.bits1 : waitsOk spec_l24Copy.T1.2 spec_l24Copy.B1 = true := by kernel_rfl
set_option maxHeartbeats 8000000 in
set_option maxRecDepth 100000 in
theorem spec_l24Copy.calls (k : Nat) (A0_0 : Option Addr) (c0_0 : Nat) (l0_0 : List (S39)) (A0_1 : Option Addr) (c0_1 : Nat) (l0_1 : List Int) (a0_2 : Int) (A0_3 : Option Addr) (c0_3 : Nat) (l0_3 : List (S43)) (r1 : List (S39)) (r2 : List Int) (r3 : Int) (r4 : List (S43)) (w : World) (hr0_0 : Kd.C k39 w A0_0 l0_0.length l0_0) (hc0_0 : l0_0.length ≤ c0_0) (hr0_1 : Kd.C (Kd.int .i64) w A0_1 l0_1.length l0_1) (hc0_1 : l0_1.length ≤ c0_1) (hr0_3 : Kd.C k43 w A0_3 l0_3.length l0_3) (hc0_3 : l0_3.length ≤ c0_3) (h : spec_l24Copy.f k l0_0 l0_1 a0_2 l0_3 = some (r1, r2, r3, r4)) :
  Calls Try.prog 59 #[.agg #[.slice A0_0 l0_0.length c0_0, .slice A0_1 l0_1.length c0_1, .int .i64 a0_2, .slice A0_3 l0_3.length c0_3]] w fun e w' => ∃ v0_ v1_ v3_ : Value, e = .returned (.agg #[v0_, v1_, .int .i64 r3, v3_]) ∧ Kd.S k39 39 w' w.heap.size (fun k_ => some k_ ≠ (v1_ : Value).ownBlock) v0_ r1 ∧ Kd.R (Kd.int .i64) 2 w' w.heap.size (fun _ => True) v1_ r2 ∧ Kd.R k43 43 w' w.heap.size (fun _ => True) v3_ r4 ∧ Below w.heap.size w w' := by
 have hu31 := Try.underlying31; have hu27 := Try.underlying27; have HR0_0 := Aside0.mk hr0_0; have HC0_0 := Aside0.mk hc0_0; clear hr0_0 hc0_0; have HR0_1 := Aside0.mk hr0_1; have HC0_1 := Aside0.mk hc0_1; clear hr0_1 hc0_1; have HR0_3 := Aside0.mk hr0_3; have HC0_3 := Aside0.mk hc0_3; clear hr0_3 hc0_3
 have HB := Aside0.mk (Below.refl w.heap.size w)
 have H : ((spec_l24CopySuite.f k l0_0 l0_1).bind fun bt352 => ((some (([] : List (S43)) : List (S43))).bind fun y358 => (if y358.length + l0_3.length < 8796093022208 then (some (bt352.1, bt352.2, a0_2, (y358 ++ l0_3))) else (none)))) = some (r1, r2, r3, r4) := h
 clear h; replace H := Option.bind_eq_some_iff.mp H
 obtain ⟨⟨t352, t355⟩, A20, H⟩ := H
 replace H : ((some (([] : List (S43)) : List (S43))).bind fun y358 => (if y358.length + l0_3.length < 8796093022208 then (some (t352, t355, a0_2, (y358 ++ l0_3))) else (none))) = some (r1, r2, r3, r4) := H
 have A2 := Aside0.mk A20; clear A20
 obtain ⟨y358, hy358⟩ : ∃ y_ : List (S43), y_ = (([] : List (S43))) := ⟨_, rfl⟩
 replace H : (if y358.length + l0_3.length < 8796093022208 then (some (t352, t355, a0_2, (y358 ++ l0_3))) else (none)) = some (r1, r2, r3, r4) := by first | (rw [hy358]; with_reducible exact H) | (have H2_ := (Option.bind_some _ _).symm.trans H; rw [hy358]; with_reducible exact H2_) | (have H2_ := (Option.bind_some _ _).symm.trans H; with_reducible exact H2_) | with_reducible exact H | (rw [hy358]; exact H) | exact H
 have Ny358 := Aside0.mk hy358; clear hy358
 obtain ⟨c3, H⟩ := ifS_ H
 have LMc3 := Aside0.mk c3; clear c3
 obtain ⟨y361, hy361⟩ : ∃ y_ : List (S43), y_ = (y358 ++ l0_3) := ⟨_, rfl⟩
 replace H : (some (t352, t355, a0_2, y361)) = some (r1, r2, r3, r4) := by first | (rw [hy361]; with_reducible exact H) | (have H2_ := (Option.bind_some _ _).symm.trans H; rw [hy361]; with_reducible exact H2_) | (have H2_ := (Option.bind_some _ _).symm.trans H; with_reducible exact H2_) | with_reducible exact H | (rw [hy361]; exact H) | exact H
 have Ny361 := Aside0.mk hy361; clear hy361
 simp only [Option.some.injEq, Prod.mk.injEq] at H
 obtain ⟨rfl, rfl, rfl, rfl⟩ := H
 go_enter Try.func59, Try.ntmps59
 try go_wp2_with (first | ((with_reducible refine gate_dst (N := 1) rfl ?_); refine box_event ?hg (N := 1) ?hd (cs := #[.slice A0_0 l0_0.length c0_0, .slice A0_1 l0_1.length c0_1, .int .i64 a0_2, .slice A0_3 l0_3.length c0_3]) (t := 31) ?hr ?_; (case hd => rfl); (case hg => rfl); (case hr => first | (go_simp; done) | (go_simp; rfl)); intro gb350 hg w4 hbox hb; have BK350 := Aside0.mk (hbox); have GW350 := gE_ HB hg; have GE350 := gE_ HB hg; replace HB := bS_ HB hb; clear hb hbox hg) | ((with_reducible refine gate_dst (N := 2) rfl ?_); refine box_event ?hg (N := 2) ?hd (cs := #[.slice none 0 0, .slice none 0 0, .int .i64 0, .slice none 0 0]) (t := 31) ?hr ?_; (case hd => rfl); (case hg => rfl); (case hr => first | (go_simp; done) | (go_simp; rfl)); intro gb351 hg w5 hbox hb; have BK351 := Aside0.mk (hbox); have GW351 := gE_ HB hg; have GE351 := gE_ HB hg; replace HB := bS_ HB hb; have NB350_351 := nL_ BK350 hg; have NB351_350 := nG_ BK350 hg; replace BK350 := bB_ BK350 hb; clear hb hbox hg))
 replace BK350 := Aside0.mk (blk_drew BK350.out)
 replace BK351 := Aside0.mk (blk_drew BK351.out)
 replace HB := Aside0.mk (below_drew1 HB.out)
 refine start_ (n := 11) (S := fun w' => w'.cell? ⟨gb350, 0, none⟩ = some (.slice A0_0 l0_0.length c0_0) ∧ w'.cell? ⟨gb350, 1, none⟩ = some (.slice A0_1 l0_1.length c0_1) ∧ w'.cell? ⟨gb350, 2, none⟩ = some (.int .i64 a0_2) ∧ w'.cell? ⟨gb350, 3, none⟩ = some (.slice A0_3 l0_3.length c0_3)) (ds := []) #[false, false, false, false, false, false, false, false, false, false, false] (by kernel_rfl) rfl rfl ⟨(blk_cell BK350.out 0).trans rfl, (blk_cell BK350.out 1).trans rfl, (blk_cell BK350.out 2).trans rfl, (blk_cell BK350.out 3).trans rfl⟩ (fun hHeld => ?_); refine with_tabW spec_l24Copy.tab1 spec_l24Copy.bits1 (fun HT_ HW_ => ?_)
 generalize w5.drew = w6 at BK350 BK351 HB hHeld ⊢
 refine pT_ 0 (some 3) #[true, false, false, false, false, false, false, false, false, false, false] HT_ ?_
 refine pT_ 3 (some 6) #[true, false, false, true, false, false, false, false, false, false, false] HT_ ?_
 refine pT_ 6 (some 9) #[true, false, false, true, false, false, true, false, false, false, false] HT_ ?_
 refine tT_ 1 (some 4) #[true, true, false, true, false, false, true, false, false, false, false] HT_ HW_ hHeld ?_ (hy := by rintro w' ⟨s0, s1, s2, s3⟩; go_simp; with_reducible rfl)
 refine tT_ 4 (some 7) #[true, true, false, true, true, false, true, false, false, false, false] HT_ HW_ hHeld ?_ (hy := by rintro w' ⟨s0, s1, s2, s3⟩; go_simp; with_reducible rfl)
 refine tT_ 7 (some 10) #[true, true, false, true, true, false, true, true, false, false, false] HT_ HW_ hHeld ?_ (hy := by rintro w' ⟨s0, s1, s2, s3⟩; go_simp; with_reducible rfl)
 refine join_ (σ := Value × Value × Value) 3 #[true, true, true, true, true, true, true, true, false, false, false] (fun s_ => [(5, .agg #[s_.1, s_.2.1]), (8, s_.2.2)]) (fun s_ w' => (w'.cell? ⟨gb350, 0, none⟩ = some (.slice A0_0 l0_0.length c0_0) ∧ w'.cell? ⟨gb350, 1, none⟩ = some (.slice A0_1 l0_1.length c0_1) ∧ w'.cell? ⟨gb350, 2, none⟩ = some (.int .i64 a0_2) ∧ w'.cell? ⟨gb350, 3, none⟩ = some (.slice A0_3 l0_3.length c0_3)) ∧ (Kd.S k39 39 w' w.heap.size (fun k_ => some k_ ≠ (s_.2.1 : Value).ownBlock) s_.1 t352) ∧ (Kd.R (Kd.int .i64) 2 w' w.heap.size (fun _ => True) s_.2.1 t355) ∧ (Kd.R k43 43 w' w.heap.size (fun _ => True) s_.2.2 y358) ∧ (w'.heap[gb350]? = some (.cells #[.slice A0_0 l0_0.length c0_0, .slice A0_1 l0_1.length c0_1, .int .i64 a0_2, .slice A0_3 l0_3.length c0_3] 31 (0, 0))) ∧ (w'.heap[gb351]? = some (.cells #[.slice none 0 0, .slice none 0 0, .int .i64 0, .slice none 0 0] 31 (0, 0))) ∧ (Below w.heap.size w w')) ?_ ?_
 rotate_left
 ·intro hCont
  refine two_ (i := 2) (j := 5) (Ni := some 5) (Nj := some 8) #[true, true, true, true, true, false, true, true, false, false, false] #[true, true, false, true, true, true, true, true, false, false, false] rfl rfl rfl rfl (two_of HT_.out (by kernel_rfl)) (by decide) (by decide) (fun K hK => ?_) (fun K hK => ?_)
  ·skip
   refine goes_ Try.func45 (by kernel_rfl) rfl #[.agg #[.slice A0_0 l0_0.length c0_0, .slice A0_1 l0_1.length c0_1]] (by rfl) rfl rfl (by (try simp only [List.map_toArray, List.map_cons, List.map_nil]); first | done | rfl | (simp only [List.length_drop, List.length_take]; rfl)) ?_
   with_reducible refine (spec_l24CopySuite.calls k _ _ l0_0 _ _ l0_1 t352 t355 _ ?side1 ?side2 ?side3 ?side4 A2.out).mono ?_
   (case side1 => exact cB_ HR0_0 HB)
   (case side2 => exact HC0_0.out)
   (case side3 => exact cB_ HR0_1 HB)
   (case side4 => exact HC0_1.out)
   rintro e w7 ⟨v353, v356, rfl, ho0, ho1, hb⟩
   refine ⟨_, rfl, ?_⟩
   have HO354 := sL_ ho0 HB; have HO357 := rL_ ho1 HB; replace BK350 := bB_ BK350 hb; replace BK351 := bB_ BK351 hb; replace HB := bS_ HB hb; (try clear hb); (try clear ho0); (try clear ho1)
   refine hK.out _ _ ⟨(blk_cell BK350.out 0).trans rfl, (blk_cell BK350.out 1).trans rfl, (blk_cell BK350.out 2).trans rfl, (blk_cell BK350.out 3).trans rfl⟩ (fun hHeld => ?_)
   clear hK K
   refine nS_ (some 5) ?_
   refine one_ (i := 5) (N := some 8) #[true, true, true, true, true, true, true, true, false, false, false] rfl rfl (one_of HT_.out (by kernel_rfl)) (by decide) (fun K hK => ?_)
   refine Kd.R_lit_step k43 _ 43 ?hg (N := 8) ?hd (xs := ([] : List (S43))) (inner := []) (ok := fun _ => True) (okp := fun _ => True) ?hr ?hp (fun _ hk => hk) trivial (Below.refl _ _) (Nat.le_refl _) (by simp) ?_; (case hd => rfl); (case hg => rfl); (case hr => first | (go_simp; done) | (go_simp; rfl)); (case hp => exact (Reps.none _ _))
   intro v359 w8 ho9 hb hg_ hnew_
   clear hg_ hnew_
   (first | rw [← Ny358.out] at ho9 | (simp only [Int.reduceToNat] at ho9; rw [← Ny358.out] at ho9))
   replace HO354 := sB_ HO354 hb; replace HO357 := rB_ HO357 hb; have HO360 := rL_ ho9 HB; replace BK350 := bB_ BK350 hb; replace BK351 := bB_ BK351 hb; replace HB := bS_ HB hb; clear hb ho9
   refine hK.out _ _ ⟨(blk_cell BK350.out 0).trans rfl, (blk_cell BK350.out 1).trans rfl, (blk_cell BK350.out 2).trans rfl, (blk_cell BK350.out 3).trans rfl⟩ (fun hHeld => ?_)
   clear hK K
   refine nS_ (some 8) ?_
   exact norm_ (by simp only [putAll, Act.put, List.setIfInBounds_toArray, List.set_cons_zero, List.set_cons_succ]) (hCont (v353, v356, v359) _ ⟨hHeld, (sT_ HO354), (rT_ HO357), (rT_ HO360), (bT_ BK350), (bT_ BK351), sABelo_14⟩)
  ·skip
   refine Kd.R_lit_step k43 _ 43 ?hg (N := 8) ?hd (xs := ([] : List (S43))) (inner := []) (ok := fun _ => True) (okp := fun _ => True) ?hr ?hp (fun _ hk => hk) trivial (Below.refl _ _) (Nat.le_refl _) (by simp) ?_; (case hd => rfl); (case hg => rfl); (case hr => first | (go_simp; done) | (go_simp; rfl)); (case hp => exact (Reps.none _ _))
   intro v359 w7 ho8 hb hg_ hnew_
   clear hg_ hnew_
   (first | rw [← Ny358.out] at ho8 | (simp only [Int.reduceToNat] at ho8; rw [← Ny358.out] at ho8))
   have HO360 := rL_ ho8 HB; replace BK350 := bB_ BK350 hb; replace BK351 := bB_ BK351 hb; replace HB := bS_ HB hb; clear hb ho8
   refine hK.out _ _ ⟨(blk_cell BK350.out 0).trans rfl, (blk_cell BK350.out 1).trans rfl, (blk_cell BK350.out 2).trans rfl, (blk_cell BK350.out 3).trans rfl⟩ (fun hHeld => ?_)
   clear hK K
   refine nS_ (some 8) ?_
   refine one_ (i := 2) (N := some 5) #[true, true, true, true, true, true, true, true, false, false, false] rfl rfl (one_of HT_.out (by kernel_rfl)) (by decide) (fun K hK => ?_)
   refine goes_ Try.func45 (by kernel_rfl) rfl #[.agg #[.slice A0_0 l0_0.length c0_0, .slice A0_1 l0_1.length c0_1]] (by rfl) rfl rfl (by (try simp only [List.map_toArray, List.map_cons, List.map_nil]); first | done | rfl | (simp only [List.length_drop, List.length_take]; rfl)) ?_
   with_reducible refine (spec_l24CopySuite.calls k _ _ l0_0 _ _ l0_1 t352 t355 _ ?side1 ?side2 ?side3 ?side4 A2.out).mono ?_
   (case side1 => exact cB_ HR0_0 HB)
   (case side2 => exact HC0_0.out)
   (case side3 => exact cB_ HR0_1 HB)
   (case side4 => exact HC0_1.out)
   rintro e w9 ⟨v353, v356, rfl, ho0, ho1, hb⟩
   refine ⟨_, rfl, ?_⟩
   replace HO360 := rB_ HO360 hb; have HO354 := sL_ ho0 HB; have HO357 := rL_ ho1 HB; replace BK350 := bB_ BK350 hb; replace BK351 := bB_ BK351 hb; replace HB := bS_ HB hb; (try clear hb); (try clear hk); (try clear ho0); (try clear ho1)
   refine hK.out _ _ ⟨(blk_cell BK350.out 0).trans rfl, (blk_cell BK350.out 1).trans rfl, (blk_cell BK350.out 2).trans rfl, (blk_cell BK350.out 3).trans rfl⟩ (fun hHeld => ?_)
   clear hK K
   refine nS_ (some 5) ?_
   exact norm_ (by simp only [putAll, Act.put, List.setIfInBounds_toArray, List.set_cons_zero, List.set_cons_succ]) (hCont (v353, v356, v359) _ ⟨hHeld, (sT_ HO354), (rT_ HO357), (rT_ HO360), (bT_ BK350), (bT_ BK351), sABelo_14⟩)
 rintro ⟨v353, v356, v359⟩ w10 ⟨hS_, h0_, h1_, h2_, h3_, h4_, h5_⟩
 try dsimp only at h0_ h1_ h2_ h3_ h4_ h5_
 have HO354 := Aside0.mk h0_; have HO357 := Aside0.mk h1_; have HO360 := Aside0.mk h2_; replace BK350 := Aside0.mk h3_; replace BK351 := Aside0.mk h4_; replace HB := Aside0.mk h5_; clear h0_ h1_ h2_ h3_ h4_ h5_
 have hHeld : w10.cell? ⟨gb350, 0, none⟩ = some (.slice A0_0 l0_0.length c0_0) ∧ w10.cell? ⟨gb350, 1, none⟩ = some (.slice A0_1 l0_1.length c0_1) ∧ w10.cell? ⟨gb350, 2, none⟩ = some (.int .i64 a0_2) ∧ w10.cell? ⟨gb350, 3, none⟩ = some (.slice A0_3 l0_3.length c0_3) := hS_
 refine norm_ (a' := ?_) ?_ ?_
 rotate_left
 ·simp only [putAll, Act.put, List.setIfInBounds_toArray, List.set_cons_zero, List.set_cons_succ]
  rfl
 refine one_ (i := 8) (N := some 11) #[true, true, true, true, true, true, true, true, true, false, false] rfl rfl (one_of HT_.out (by kernel_rfl)) (by decide) (fun K hK => ?_)
 refine Kd.R_append_rows_step k43 (w0 := w) w.heap.size (by rfl) (.tmp 8) (.tmp 10) 29 43 (.agg #[(.int .i64 0), (.int .i64 0)]) 16 rfl Try.underlying29 info43 rfl (by decide) (by omega) v359 y358 l0_3 _ _ _ (fun _ => True) (fun _ => False) rfl rfl ?aO ?aR (fun _ _ h => h) (fun _ h => h.elim) ?aF ?aB ?aS ?aL ?_
 (case aR => repeat (first | exact (Kd.C_below HR0_3.out HB.out) | (with_reducible refine Kd.C_alloc ?_ _) | (with_reducible refine Kd.C_drewN ?_ _) | (with_reducible refine Kd.C_drew ?_)))
 (case aB => exact sABelo_14)
 (case aF => exact (fun _ _ => trivial))
 (case aO => exact (rT_ HO360))
 (case aS => exact (below_size sABelo_14))
 (case aL => have := LMc3.out; omega)
 intro v362 w11 ho hb hg hat
 rw [← Ny361.out] at ho
 replace BK350 := Aside0.mk (blk_grown (g := gb350) (o := .cells #[.slice A0_0 l0_0.length c0_0, .slice A0_1 l0_1.length c0_1, .int .i64 a0_2, .slice A0_3 l0_3.length c0_3] 31 (0, 0)) (bT_ BK350) hg (Kd.R_ne HO360.out BK350.out (by decide)))
 replace BK351 := Aside0.mk (blk_grown (g := gb351) (o := .cells #[.slice none 0 0, .slice none 0 0, .int .i64 0, .slice none 0 0] 31 (0, 0)) (bT_ BK351) hg (Kd.R_ne HO360.out BK351.out (by decide)))
 replace HO354 := Aside0.mk (Kd.S_over' (sT_ HO354) (Kd.R_typed (rT_ HO360)) (by decide) hg)
 replace HO357 := Aside0.mk (Kd.R_over' (rT_ HO357) (Kd.R_typed (rT_ HO360)) (by decide) hg)
 replace HB := Aside0.mk (hb)
 have HO363 := Aside0.mk (ho)
 clear HO360 ho hb hg hat
 obtain ⟨Ao12, co12, eo12⟩ := Kd.R_slice HO363.out
 (first | subst eo12 | (injection eo12 with f1_ f2_ f3_; have f4_ := f1_.symm; have f5_ := f3_.symm; clear f1_ f2_ f3_; subst f4_; subst f5_))
 obtain ⟨Ao13, co13, eo13⟩ := Kd.R_slice HO357.out
 (first | subst eo13 | (injection eo13 with f1_ f2_ f3_; have f4_ := f1_.symm; have f5_ := f3_.symm; clear f1_ f2_ f3_; subst f4_; subst f5_))
 obtain ⟨Ao14, co14, eo14⟩ := Kd.S_slice HO354.out
 (first | subst eo14 | (injection eo14 with f1_ f2_ f3_; have f4_ := f1_.symm; have f5_ := f3_.symm; clear f1_ f2_ f3_; subst f4_; subst f5_))
 refine hK.out _ _ ⟨(blk_cell BK350.out 0).trans rfl, (blk_cell BK350.out 1).trans rfl, (blk_cell BK350.out 2).trans rfl, (blk_cell BK350.out 3).trans rfl⟩ (fun hHeld => ?_)
 clear hK K
 refine nS_ (some 11) ?_
 refine pT_ 9 (some 12) #[true, true, true, true, true, true, true, true, true, true, false] HT_ ?_
 refine one_ (i := 10) (N := none) #[true, true, true, true, true, true, true, true, true, true, true] rfl rfl (one_of HT_.out (by kernel_rfl)) (by decide) (fun K hK => ?_)
 have hs15 : w11.cell? ⟨gb351, 0, none⟩ = some (.slice none 0 0) := (blk_cell BK351.out 0).trans rfl
 have hfs15 := blk_frozen BK351.out 0; have hns15_0 := NB350_351.out; have hms15_0 := NB351_350.out
 have hs16 : w11.cell? ⟨gb351, 1, none⟩ = some (.slice none 0 0) := (blk_cell BK351.out 1).trans rfl
 have hfs16 := blk_frozen BK351.out 1; have hns16_0 := NB350_351.out; have hms16_0 := NB351_350.out
 have hs17 : w11.cell? ⟨gb351, 2, none⟩ = some (.int .i64 0) := (blk_cell BK351.out 2).trans rfl
 have hfs17 := blk_frozen BK351.out 2; have hns17_0 := NB350_351.out; have hms17_0 := NB351_350.out
 have hs18 : w11.cell? ⟨gb351, 3, none⟩ = some (.slice none 0 0) := (blk_cell BK351.out 3).trans rfl
 have hfs18 := blk_frozen BK351.out 3; have hns18_0 := NB350_351.out; have hms18_0 := NB351_350.out
 refine skip_ (w1 := ?_) (by rfl) rfl ?_ ?_
 rotate_left
 ·go_simp
  rfl
 refine hK.out _ _ ⟨((cell_far (p := ⟨gb351, _, none⟩) NB350_351.out _).trans (((cell_far (p := ⟨gb351, _, none⟩) NB350_351.out _).trans (((cell_far (p := ⟨gb351, _, none⟩) NB350_351.out _).trans (((cell_far (p := ⟨gb351, _, none⟩) NB350_351.out _).trans (hHeld.1)))))))), ((cell_far (p := ⟨gb351, _, none⟩) NB350_351.out _).trans (((cell_far (p := ⟨gb351, _, none⟩) NB350_351.out _).trans (((cell_far (p := ⟨gb351, _, none⟩) NB350_351.out _).trans (((cell_far (p := ⟨gb351, _, none⟩) NB350_351.out _).trans (hHeld.2.1)))))))), ((cell_far (p := ⟨gb351, _, none⟩) NB350_351.out _).trans (((cell_far (p := ⟨gb351, _, none⟩) NB350_351.out _).trans (((cell_far (p := ⟨gb351, _, none⟩) NB350_351.out _).trans (((cell_far (p := ⟨gb351, _, none⟩) NB350_351.out _).trans (hHeld.2.2.1)))))))), ((cell_far (p := ⟨gb351, _, none⟩) NB350_351.out _).trans (((cell_far (p := ⟨gb351, _, none⟩) NB350_351.out _).trans (((cell_far (p := ⟨gb351, _, none⟩) NB350_351.out _).trans (((cell_far (p := ⟨gb351, _, none⟩) NB350_351.out _).trans (hHeld.2.2.2))))))))⟩ (fun hHeld => ?_)
 clear hK K
 refine done_ (done_of HT_.out (by kernel_rfl)) ?_
 try go_wp2
 refine bodyPost_ret (results_cell_row rfl _ _ gb351 31 #[.slice Ao14 t352.length co14, .slice Ao13 t355.length co13, .int .i64 a0_2, .slice Ao12 y361.length co12] (0, 0) _ rfl (bP_ BK351) Try.underlying31 rfl (by kernel_rfl)) rfl ?_
 exact ⟨_, _, _, by first | rfl | (simp [errW_none, errW_some] <;> rfl) | (simp [*, errW_none, errW_some] <;> rfl), by (with_reducible repeat (first | apply Kd.S_alloc | apply Kd.S_drewN | apply Kd.S_drew)); exact Kd.S_mono (Kd.S_far (p := ⟨gb351, 3, none⟩) (Kd.S_far (p := ⟨gb351, 2, none⟩) (Kd.S_far (p := ⟨gb351, 1, none⟩) (Kd.S_far (p := ⟨gb351, 0, none⟩) (Kd.S_types HO354.out BK351.out (by decide)) (fun _ hk => hk.2) (.slice Ao14 t352.length co14)) (fun _ hk => hk.2) (.slice Ao13 t355.length co13)) (fun _ hk => hk.2) (.int .i64 a0_2)) (fun _ hk => hk.2) (.slice Ao12 y361.length co12)) (fun _ hk => hk.1), by (with_reducible repeat (first | apply Kd.R_alloc | apply Kd.R_drewN | apply Kd.R_drew)); exact Kd.R_mono (Kd.R_far (p := ⟨gb351, 3, none⟩) (Kd.R_far (p := ⟨gb351, 2, none⟩) (Kd.R_far (p := ⟨gb351, 1, none⟩) (Kd.R_far (p := ⟨gb351, 0, none⟩) (Kd.R_types HO357.out BK351.out (by decide)) (fun _ hk => hk.2) (.slice Ao14 t352.length co14)) (fun _ hk => hk.2) (.slice Ao13 t355.length co13)) (fun _ hk => hk.2) (.int .i64 a0_2)) (fun _ hk => hk.2) (.slice Ao12 y361.length co12)) (fun _ hk => trivial), by (with_reducible repeat (first | apply Kd.R_alloc | apply Kd.R_drewN | apply Kd.R_drew)); exact Kd.R_mono (Kd.R_far (p := ⟨gb351, 3, none⟩) (Kd.R_far (p := ⟨gb351, 2, none⟩) (Kd.R_far (p := ⟨gb351, 1, none⟩) (Kd.R_far (p := ⟨gb351, 0, none⟩) (Kd.R_types HO363.out BK351.out (by decide)) (fun _ hk => hk.2) (.slice Ao14 t352.length co14)) (fun _ hk => hk.2) (.slice Ao13 t355.length co13)) (fun _ hk => hk.2) (.int .i64 a0_2)) (fun _ hk => hk.2) (.slice Ao12 y361.length co12)) (fun _ hk => trivial), sABelo_14⟩

end Go.Proofs.Ytjoghfehmhapbaa.QFnExactStartTasks
