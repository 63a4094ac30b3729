-- Written by a program of this session out of the printer's texts and contracts of its own.
import Derived.Test.YtjoghfehmhapbaaSq
import Derived.Test.YtjoghfehmhapbaaQFnReportsAnywayx0
import Derived.Test.YtjoghfehmhapbaaQFnReportsAnywayx4
namespace Go.Proofs.Ytjoghfehmhapbaa.QFnReportsAnyway
open Go.RowKit Go.Proofs.YtjoghfehmhapbaaW.PrintWords Go.Proofs.YtjoghfehmhapbaaW.PrintLast Go.Proofs.YtjoghfehmhapbaaW.PrintMore Go.Proofs.Ytjoghfehmhapbaa.Sq
attribute [local go_sem] max2_int min2_int max_two min_two max_three min_three max_four min_four   -- for this text's walks alone
set_option linter.unusedVariables false
set_option linter.unusedSimpArgs false
theorem sABelo_10 {b : Nat} {w W : World} (h : Below b w W := by repeat (first | (with_reducible first | exact Aside0.out (by assumption) | apply below_alloc | apply pw_below_drewN | apply below_drew1 | refine below_set ?_ (Aside0.out (by assumption))) | exact Aside0.out (by assumption))) : Below b w W := h

/-! ### spec_l24CopySuite: function 45 -/
def spec_l24CopySuite.l0 : Nat → Int → List (S39) → List Int → List (S39) → List Int → Option ((List (S39)) × List Int)
 | 0, _, _, _, _, _ => none
 | k + 1, x4, x218000, x218001, x226000, x226001 => if x4 < (x218000.length : Int) then (if 0 ≤ x4 then ((some (([] : List Int) : List Int)).bind fun y228 => (if y228.length + ((rd_T39 x218000 x4).f0).length < 17592186044416 then (if x226000.length < 2932031007402 then (spec_l24CopySuite.l0 k (wrap64 (x4 + 1)) x218000 x218001 (x226000 ++ [(⟨(y228 ++ ((rd_T39 x218000 x4).f0)), (rd_T39 x218000 x4).f1, (rd_T39 x218000 x4).f2, (rd_T39 x218000 x4).f3⟩ : S39)]) x226001) else (none)) else (none))) else (none)) else (some (x226000, x226001))
def spec_l24CopySuite.f (k : Nat) (l0_0 : List (S39)) (l0_1 : List Int) : Option ((List (S39)) × List Int) := (some (([] : List Int) : List Int)).bind fun y219 => (if y219.length + l0_1.length < 17592186044416 then (spec_l24CopySuite.l0 k 0 l0_0 l0_1 ([] : List (S39)) (y219 ++ l0_1)) else (none))
theorem spec_l24CopySuite.mono_l : ∀ k, (∀ y0 y1 y2 y3 y4, LeO (spec_l24CopySuite.l0 k y0 y1 y2 y3 y4) (spec_l24CopySuite.l0 (k + 1) y0 y1 y2 y3 y4))
 | 0 => fun _ _ _ _ _ r h => by simp [spec_l24CopySuite.l0] at h
 | k + 1 => by
  have ih0 := spec_l24CopySuite.mono_l k
  ·intro y0 y1 y2 y3 y4
   unfold spec_l24CopySuite.l0
   repeat' first
   | (with_reducible exact ih0 _ _ _ _ _)
   | (with_reducible exact LeO.refl _)
   | (with_reducible exact LeO.none _)
   | (with_reducible refine LeO.ite ?_ ?_)
   | (with_reducible refine LeO.bind ?_ (fun _ => ?_))
   | exact ih0 _ _ _ _ _
   | exact LeO.none _
   | refine LeO.ite ?_ ?_
   | refine LeO.bind ?_ (fun _ => ?_)
theorem spec_l24CopySuite.mono : ∀ a0 a1 k, LeO (spec_l24CopySuite.f k a0 a1) (spec_l24CopySuite.f (k + 1) a0 a1) := by
 intro a0 a1 k
 have ih0 := spec_l24CopySuite.mono_l k
 unfold spec_l24CopySuite.f
 repeat' first
   | (with_reducible exact ih0 _ _ _ _ _)
   | (with_reducible exact LeO.refl _)
   | (with_reducible exact LeO.none _)
   | (with_reducible refine LeO.ite ?_ ?_)
   | (with_reducible refine LeO.bind ?_ (fun _ => ?_))
   | exact ih0 _ _ _ _ _
   | exact LeO.none _
   | refine LeO.ite ?_ ?_
   | refine LeO.bind ?_ (fun _ => ?_)
set_option maxHeartbeats 8000000 in
set_option maxRecDepth 100000 in
theorem spec_l24CopySuite.calls (k : Nat) (A0_0 : Option Addr) (c0_0 : Nat) (l0_0 : List (S39)) (A0_1 : Option Addr) (c0_1 : Nat) (l0_1 : List Int) (r1 : List (S39)) (r2 : List Int) (w : World) (hr0_0 : Kd.C k39 w A0_0 l0_0.length l0_0) (hc0_0 : l0_0.length ≤ c0_0) (hr0_1 : Kd.C (Kd.int .i64) w A0_1 l0_1.length l0_1) (hc0_1 : l0_1.length ≤ c0_1) (h : spec_l24CopySuite.f k l0_0 l0_1 = some (r1, r2)) :
  Calls Try.prog 45 #[.agg #[.slice A0_0 l0_0.length c0_0, .slice A0_1 l0_1.length c0_1]] w fun e w' => ∃ v0_ v1_ : Value, e = .returned (.agg #[v0_, v1_]) ∧ Kd.S k39 39 w' w.heap.size (fun k_ => some k_ ≠ (v1_ : Value).ownBlock) v0_ r1 ∧ Kd.R (Kd.int .i64) 2 w' w.heap.size (fun _ => True) v1_ r2 ∧ Below w.heap.size w w' := by
 have hu27 := Try.underlying27; have hu39 := Try.underlying39; have HR0_0 := mk_ hr0_0; have HC0_0 := mk_ hc0_0; clear hr0_0 hc0_0; have HR0_1 := mk_ hr0_1; have HC0_1 := mk_ hc0_1; clear hr0_1 hc0_1
 have HB := mk_ (Below.refl w.heap.size w)
 have H : ((some (([] : List Int) : List Int)).bind fun y219 => (if y219.length + l0_1.length < 17592186044416 then (spec_l24CopySuite.l0 k 0 l0_0 l0_1 ([] : List (S39)) (y219 ++ l0_1)) else (none))) = some (r1, r2) := h
 clear h
 obtain ⟨y219, hy219⟩ : ∃ y_ : List Int, y_ = (([] : List Int)) := ⟨_, rfl⟩
 replace H : (if y219.length + l0_1.length < 17592186044416 then (spec_l24CopySuite.l0 k 0 l0_0 l0_1 ([] : List (S39)) (y219 ++ l0_1)) else (none)) = some (r1, r2) := by first | (rw [hy219]; with_reducible exact H) | (have H2_ := (Option.bind_some _ _).symm.trans H; rw [hy219]; with_reducible exact H2_) | (have H2_ := (Option.bind_some _ _).symm.trans H; with_reducible exact H2_) | with_reducible exact H | (rw [hy219]; exact H) | exact H
 have Ny219 := mk_ hy219; clear hy219
 obtain ⟨c2, H⟩ := ifS_ H
 have LMc2 := mk_ c2; clear c2
 obtain ⟨y222, hy222⟩ : ∃ y_ : List Int, y_ = (y219 ++ l0_1) := ⟨_, rfl⟩
 replace H : (spec_l24CopySuite.l0 k 0 l0_0 l0_1 ([] : List (S39)) y222) = some (r1, r2) := by first | (rw [hy222]; with_reducible exact H) | (have H2_ := (Option.bind_some _ _).symm.trans H; rw [hy222]; with_reducible exact H2_) | (have H2_ := (Option.bind_some _ _).symm.trans H; with_reducible exact H2_) | with_reducible exact H | (rw [hy222]; exact H) | exact H
 have Ny222 := mk_ hy222; clear hy222; have H' := mk_ H; clear H
 go_enter Try.func45, Try.ntmps45
 go_wp2_with (first | ((with_reducible refine gate_dst (N := 1) rfl ?_); refine box_event ?hg (N := 1) ?hd (cs := #[.slice A0_0 l0_0.length c0_0, .slice A0_1 l0_1.length c0_1]) (t := 27) ?hr ?_; (case hd => rfl); (case hg => rfl); (case hr => first | (go_simp; done) | (go_simp; rfl)); intro gb217 hg w3 hbox hb; have BK217 := mk_ (hbox); have GW217 := gE_ HB hg; have GE217 := gE_ HB hg; replace HB := bS_ HB hb; clear hb hbox hg) | ((with_reducible refine gate_dst (N := 2) rfl ?_); refine box_event ?hg (N := 2) ?hd (cs := #[.slice none 0 0, .slice none 0 0]) (t := 27) ?hr ?_; (case hd => rfl); (case hg => rfl); (case hr => first | (go_simp; done) | (go_simp; rfl)); intro gb218 hg w4 hbox hb; have BK218 := mk_ (hbox); have GW218 := gE_ HB hg; have GE218 := gE_ HB hg; replace HB := bS_ HB hb; have NB217_218 := nL_ BK217 hg; have NB218_217 := nG_ BK217 hg; replace BK217 := bB_ BK217 hb; clear hb hbox hg) | ((with_reducible refine gate_dst (N := 6) rfl ?_); refine Kd.R_lit (Kd.int .i64) _ 2 ?hg (N := 6) ?hd (xs := ([] : List Int)) (inner := []) (ok := fun _ => True) (okp := fun _ => True) ?hr ?hp (fun _ hk => hk) trivial (Below.refl _ _) (Nat.le_refl _) (by simp) ?_; (case hd => rfl); (case hg => rfl); (case hr => first | (go_simp; done) | (go_simp; rfl)); (case hp => exact (Reps.none _ _)); intro v220 w5 ho6 hb hg_ hnew_; clear hg_ hnew_; (first | rw [← Ny219.out] at ho6 | (simp only [Int.reduceToNat] at ho6; rw [← Ny219.out] at ho6)); have HO221 := rL_ ho6 HB; replace BK217 := bB_ BK217 hb; replace BK218 := bB_ BK218 hb; replace HB := bS_ HB hb; clear hb ho6; have hnb7 := NB217_218.out; have hnc7 := NB218_217.out; obtain ⟨hcz8_0, hcz8_1, hfz8_0, hfz8_1⟩ := cf2_ BK217) | ((with_reducible refine gate_builtin (b := .append) (xs := #[.tmp 6, .tmp 8]) rfl ?_); at_builtin; refine Kd.R_append_rows (Kd.int .i64) (w0 := w) w.heap.size rfl (.tmp 6) (.tmp 8) 25 2 (.int .i64 0) 8 rfl Try.underlying25 info2 rfl (by decide) (by omega) v220 y219 l0_1 _ _ _ (fun _ => True) (fun _ => False) rfl rfl ?aO ?aR (fun _ _ h => h) (fun _ h => h.elim) ?aF ?aB ?aS ?aL ?_; (case aR => repeat (first | exact (Kd.C_below HR0_1.out HB.out) | (with_reducible refine Kd.C_alloc ?_ _) | (with_reducible refine Kd.C_drewN ?_ _) | (with_reducible refine Kd.C_drew ?_))); (case aB => exact sABelo_10); (case aF => exact (fun _ _ => trivial)); (case aO => exact (rT_ HO221)); (case aS => exact (below_size sABelo_10)); (case aL => have := LMc2.out; omega); intro v223 w9 ho hb hg hat; rw [← Ny222.out] at ho; replace BK217 := mk_ (blk_grown (bT_ BK217) hg (Kd.R_ne HO221.out BK217.out (by decide))); replace BK218 := mk_ (blk_grown (bT_ BK218) hg (Kd.R_ne HO221.out BK218.out (by decide))); replace HB := mk_ (hb); have HO224 := mk_ (ho); clear HO221; clear ho hb hg hat; obtain ⟨Ao10, co10, eo10⟩ := Kd.R_slice HO224.out; subst eo10) | ((with_reducible refine gate_dst (N := 3) rfl ?_); refine box_event ?hg (N := 3) ?hd (cs := #[.slice none 0 0, .slice none 0 0]) (t := 27) ?hr ?_; (case hd => rfl); (case hg => rfl); (case hr => first | (go_simp; done) | (go_simp; rfl)); intro gb225 hg w11 hbox hb; replace HO224 := rB_ HO224 hb; have BK225 := mk_ (hbox); have GW225 := gE_ HB hg; have GE225 := gE_ HB hg; replace HB := bS_ HB hb; have NB217_225 := nL_ BK217 hg; have NB225_217 := nG_ BK217 hg; replace BK217 := bB_ BK217 hb; have NB218_225 := nL_ BK218 hg; have NB225_218 := nG_ BK218 hg; replace BK218 := bB_ BK218 hb; clear hb hbox hg; have hnb12 := NB225_217.out; have hnc12 := NB217_225.out; have hnb13 := NB225_218.out; have hnc13 := NB218_225.out; obtain ⟨hcz14_0, hcz14_1, hfz14_0, hfz14_1⟩ := cf2_ BK225))
 go_loopg [4] k (fun kq v4 w' => ∃ (x4_1 : Int) (x226000_1 : List (S39)) (u226000 : Value), v4 = .int .i64 x4_1 ∧ Aside0 (spec_l24CopySuite.l0 kq x4_1 l0_0 l0_1 x226000_1 y222 = some (r1, r2)) ∧ Aside0 (kq ≤ k) ∧ Aside0 (Kd.S k39 39 w' w.heap.size (fun k_ => some k_ ≠ ((.slice Ao10 y222.length co10) : Value).ownBlock) u226000 x226000_1) ∧ Aside0 (Kd.R (Kd.int .i64) 2 w' w.heap.size (fun _ => True) (.slice Ao10 y222.length co10) y222) ∧ Aside0 (w'.heap[gb217]? = some (.cells #[(.slice A0_0 l0_0.length c0_0), (.slice A0_1 l0_1.length c0_1)] 27 (0, 0))) ∧ Aside0 (w'.heap[gb218]? = some (.cells #[(.slice none 0 0), (.slice none 0 0)] 27 (0, 0))) ∧ Aside0 (w'.heap[gb225]? = some (.cells #[u226000, (.slice Ao10 y222.length co10)] 27 (0, 0))) ∧ Aside0 (Below w.heap.size w w'))
 case atStart => exact ⟨(0), (([] : List (S39))), (.slice none 0 0), eS_, H', ⟨Nat.le_refl _⟩, ⟨by first | exact Kd.S_nil _ _ _ _ _ | exact Kd.N_nil _ _ _ _ _ | exact Kd.V_nil _ _ _ _ _ | exact Kd.Q_nil _ _ _ _ _ | exact Kd.R_nil _ _ _ _ _⟩, ⟨rFM_ HO224 BK225⟩, ⟨bF_ BK217 NB217_225⟩, ⟨bF_ BK218 NB218_225⟩, ⟨bP_ BK225⟩, ⟨sABelo_10⟩⟩
 case round =>
  clear H'; (try clear c2); (try clear hcz14_0); (try clear hcz14_1); (try clear hcz8_0); (try clear hcz8_1); (try clear hfz14_0); (try clear hfz14_1); (try clear hfz8_0); (try clear hfz8_1)
  obtain ⟨x4_1, x226000_1, u226000, rfl, HA, HK1, HO_226000, HO_226001, BK217, BK218, BK225, HB⟩ := hrel
  cases gk with
  | zero => exact absurd HA.out (by simp [spec_l24CopySuite.l0])
  | succ k1 =>
   have H := HA.out; clear HA
   simp only [spec_l24CopySuite.l0] at H
   by_cases c15 : x4_1 < (l0_0.length : Int)
   ·rw [if_pos c15] at H
    have c15b0 := decide_eq_true c15
    clear c15
    obtain ⟨c16, H⟩ := ifS_ H
    have c16b0 : decide (0 ≤ x4_1) = true := decide_eq_true c16
    clear c16
    obtain ⟨y228, hy228⟩ : ∃ y_ : List Int, y_ = (([] : List Int)) := ⟨_, rfl⟩
    replace H : (if y228.length + ((rd_T39 l0_0 x4_1).f0).length < 17592186044416 then (if x226000_1.length < 2932031007402 then (spec_l24CopySuite.l0 k1 (wrap64 (x4_1 + 1)) l0_0 l0_1 (x226000_1 ++ [(⟨(y228 ++ ((rd_T39 l0_0 x4_1).f0)), (rd_T39 l0_0 x4_1).f1, (rd_T39 l0_0 x4_1).f2, (rd_T39 l0_0 x4_1).f3⟩ : S39)]) y222) else (none)) else (none)) = some (r1, r2) := by first | (rw [hy228]; with_reducible exact H) | (have H2_ := (Option.bind_some _ _).symm.trans H; rw [hy228]; with_reducible exact H2_) | (have H2_ := (Option.bind_some _ _).symm.trans H; with_reducible exact H2_) | with_reducible exact H | (rw [hy228]; exact H) | exact H
    have Ny228 := mk_ hy228; clear hy228
    obtain ⟨c17, H⟩ := ifS_ H
    have LMc17 := mk_ c17; clear c17
    obtain ⟨y231, hy231⟩ : ∃ y_ : List Int, y_ = (y228 ++ ((rd_T39 l0_0 x4_1).f0)) := ⟨_, rfl⟩
    replace H : (if x226000_1.length < 2932031007402 then (spec_l24CopySuite.l0 k1 (wrap64 (x4_1 + 1)) l0_0 l0_1 (x226000_1 ++ [(⟨y231, (rd_T39 l0_0 x4_1).f1, (rd_T39 l0_0 x4_1).f2, (rd_T39 l0_0 x4_1).f3⟩ : S39)]) y222) else (none)) = some (r1, r2) := by first | (rw [hy231]; with_reducible exact H) | (have H2_ := (Option.bind_some _ _).symm.trans H; rw [hy231]; with_reducible exact H2_) | (have H2_ := (Option.bind_some _ _).symm.trans H; with_reducible exact H2_) | with_reducible exact H | (rw [hy231]; exact H) | exact H
    have Ny231 := mk_ hy231; clear hy231
    obtain ⟨c18, H⟩ := ifS_ H
    have LMc18 := mk_ c18; clear c18
    obtain ⟨y234, hy234⟩ : ∃ y_ : List (S39), y_ = (x226000_1 ++ [(⟨y231, (rd_T39 l0_0 x4_1).f1, (rd_T39 l0_0 x4_1).f2, (rd_T39 l0_0 x4_1).f3⟩ : S39)]) := ⟨_, rfl⟩
    replace H : (spec_l24CopySuite.l0 k1 (wrap64 (x4_1 + 1)) l0_0 l0_1 y234 y222) = some (r1, r2) := by first | (rw [hy234]; with_reducible exact H) | (have H2_ := (Option.bind_some _ _).symm.trans H; rw [hy234]; with_reducible exact H2_) | (have H2_ := (Option.bind_some _ _).symm.trans H; with_reducible exact H2_) | with_reducible exact H | (rw [hy234]; exact H) | exact H
    have Ny234 := mk_ hy234; clear hy234; have H' := mk_ H; clear H; have hnb19 := NB217_218.out; have hnc19 := NB218_217.out; have hnb20 := NB217_225.out; have hnc20 := NB225_217.out
    obtain ⟨hcz21_0, hcz21_1, hfz21_0, hfz21_1⟩ := cf2_ BK217
    have p226 : 0 ≤ (x4_1 : Int) := dA_
    have q226 : x4_1 < (l0_0.length : Int) := dA_
    obtain ⟨ad226, A226_0, c226_0, e226, hx226_0, hx226_1, hx226_2, hx226_3, hl226_0, hi226_0⟩ := at_T39 HR0_0.out x4_1 p226 q226
    cases e226
    replace hx226_0 := hX_ HB hx226_0
    replace hx226_1 := hX_ HB hx226_1
    replace hx226_2 := hX_ HB hx226_2
    replace hx226_3 := hX_ HB hx226_3
    have HR226_0 := mk_ hi226_0; have HC226_0 := mk_ hl226_0; clear hi226_0 hl226_0; replace p226 := eq_true p226; replace q226 := eq_true q226
    go_wp2_with (first | ((with_reducible refine gate_dst (N := 5) rfl ?_); refine box_event ?hg (N := 5) ?hd (cs := #[.slice none 0 0, .int .i64 0, .int .i64 0, .int .i64 0]) (t := 39) ?hr ?_; (case hd => rfl); (case hg => rfl); (case hr => first | (go_simp; done) | (go_simp; rfl)); intro gb227 hg w22 hbox hb; replace HO_226000 := mk_ (Kd.S_below (Kd.S_elderB (sT_ HO_226000) gb227 (Nat.le_of_eq hg.symm)) hb); replace HO_226001 := rB_ HO_226001 hb; have BK227 := mk_ (hbox); have GW227 := gE_ HB hg; have GE227 := gE_ HB hg; replace HB := bS_ HB hb; have NB217_227 := nL_ BK217 hg; have NB227_217 := nG_ BK217 hg; replace BK217 := bB_ BK217 hb; have NB218_227 := nL_ BK218 hg; have NB227_218 := nG_ BK218 hg; replace BK218 := bB_ BK218 hb; have NB225_227 := nL_ BK225 hg; have NB227_225 := nG_ BK225 hg; replace BK225 := bB_ BK225 hb; clear hb hbox hg; have hnb23 := NB227_217.out; have hnc23 := NB217_227.out; have hnb24 := NB227_218.out; have hnc24 := NB218_227.out; have hnb25 := NB227_225.out; have hnc25 := NB225_227.out; obtain ⟨hcz26_0, hcz26_1, hcz26_2, hcz26_3, hfz26_0, hfz26_1, hfz26_2, hfz26_3⟩ := cf4_ BK227) | ((with_reducible refine gate_dst (N := 23) rfl ?_); refine Kd.R_lit (Kd.int .i64) _ 2 ?hg (N := 23) ?hd (xs := ([] : List Int)) (inner := []) (ok := fun _ => True) (okp := fun _ => True) ?hr ?hp (fun _ hk => hk) trivial (Below.refl _ _) (Nat.le_refl _) (by simp) ?_; (case hd => rfl); (case hg => rfl); (case hr => first | (go_simp; done) | (go_simp; rfl)); (case hp => exact (Reps.none _ _)); intro v229 w27 ho28 hb hg_ hnew_; clear hg_ hnew_; (first | rw [← Ny228.out] at ho28 | (simp only [Int.reduceToNat] at ho28; rw [← Ny228.out] at ho28)); replace HO_226000 := mk_ (Kd.S_elder' (sFN0_ HO_226000) (Kd.R_base ho28) hb); have HO230 := mk_ (Kd.R_lower (rN_ ho28 HO_226001) (below_size sABelo_10)); replace HO_226001 := rEF_ HO_226001 BK227 ho28 hb; replace BK217 := bBF_ BK217 NB217_227 hb; replace BK218 := bBF_ BK218 NB218_227 hb; replace BK225 := bBF_ BK225 NB225_227 hb; replace BK227 := mk_ (blk_below (g := gb227) (o := .cells #[.slice A226_0 ((rd_T39 l0_0 x4_1).f0).length c226_0, .int .i64 ((rd_T39 l0_0 x4_1).f1), .int .i64 ((rd_T39 l0_0 x4_1).f2), .int .i64 ((rd_T39 l0_0 x4_1).f3)] 39 (0, 0)) (bP_ BK227) hb); replace HB := mk_ (below_step sABelo_10 hb); clear hb ho28; obtain ⟨hcz29_0, hcz29_1, hcz29_2, hcz29_3, hfz29_0, hfz29_1, hfz29_2, hfz29_3⟩ := cf4_ BK227) | ((with_reducible refine gate_builtin (b := .append) (xs := #[.tmp 23, .tmp 25]) rfl ?_); at_builtin; refine Kd.R_append_rows (Kd.int .i64) (w0 := w) w.heap.size rfl (.tmp 23) (.tmp 25) 25 2 (.int .i64 0) 8 rfl Try.underlying25 info2 rfl (by decide) (by omega) v229 y228 ((rd_T39 l0_0 x4_1).f0) _ _ _ (fun k_ => some k_ ≠ (.slice Ao10 y222.length co10 : Value).ownBlock) (fun _ => False) rfl rfl ?aO ?aR (fun _ _ h => h) (fun _ h => h.elim) ?aF ?aB ?aS ?aL ?_; (case aR => repeat (first | exact (Kd.C_below HR226_0.out HB.out) | (with_reducible refine Kd.C_alloc ?_ _) | (with_reducible refine Kd.C_drewN ?_ _) | (with_reducible refine Kd.C_drew ?_))); (case aB => exact sABelo_10); (case aF => exact (fun k_ hk => Kd.fresh' (rLt_ HO_226001) k_ hk)); (case aO => exact (rM_ HO230)); (case aS => exact (below_size sABelo_10)); (case aL => have := LMc17.out; omega); intro v232 w30 ho hb hg hat; rw [← Ny231.out] at ho; replace HO_226000 := mk_ (Kd.S_after (ok := (fun k_ => some k_ ≠ (.slice Ao10 y222.length co10 : Value).ownBlock ∧ k_ ≠ gb227)) (sT_ HO_226000) hg hat); replace HO_226001 := mk_ (Kd.R_after (ok := (fun _ => True)) (rT_ HO_226001) hg hat); replace BK217 := mk_ (blk_grown (bT_ BK217) hg (Kd.R_ne HO230.out BK217.out (by decide))); replace BK218 := mk_ (blk_grown (bT_ BK218) hg (Kd.R_ne HO230.out BK218.out (by decide))); replace BK225 := mk_ (blk_grown (bT_ BK225) hg (Kd.R_ne HO230.out BK225.out (by decide))); replace BK227 := mk_ (blk_grown (bT_ BK227) hg (Kd.R_ne HO230.out BK227.out (by decide))); replace HB := mk_ (hb); have HO233 := mk_ (ho); clear HO230; clear ho hb hg hat; obtain ⟨Ao31, co31, eo31⟩ := Kd.R_slice HO233.out; subst eo31; obtain ⟨hcz32_0, hcz32_1, hcz32_2, hcz32_3, hfz32_0, hfz32_1, hfz32_2, hfz32_3⟩ := cf4_ BK227) | ((with_reducible refine gate_store (t := 25) (p := 27) rfl ?_); refine store_event (t := 25) (p := 27) (v := ?vo_w33) (w1 := (w30.setCell ⟨gb227, 0, none⟩ (.slice Ao31 y231.length co31))) ?hg ?ho ?hn ?hr ?_; (case ho => rfl); (case hg => rfl); (case hn => rfl); (case hr => first | (go_simp; done) | (go_simp; rfl)); intro w33 hw; have n0_ : Aside0 (Kd.S k39 39 w33 w.heap.size (fun k_ => some k_ ≠ (.slice Ao10 y222.length co10 : Value).ownBlock ∧ some k_ ≠ (.slice Ao31 y231.length co31 : Value).ownBlock ∧ k_ ≠ gb227) u226000 x226000_1) := ⟨(by rw [hw]; exact (by (with_reducible repeat (first | apply Kd.S_alloc | apply Kd.S_drewN | apply Kd.S_drew)); exact Kd.S_mono (Kd.S_far (p := ⟨gb227, 0, none⟩) (Kd.S_mono HO_226000.out (fun k_ hk => (⟨hk, hk.1.2⟩ : _ ∧ k_ ≠ gb227))) (fun _ hk => hk.2) (.slice Ao31 y231.length co31)) (fun _ hk => ⟨hk.1.1.1, ⟨hk.1.2, hk.1.1.2⟩⟩)))⟩; have n1_ : Aside0 (Kd.R (Kd.int .i64) 2 w33 w.heap.size (fun k_ => some k_ ≠ (.slice Ao31 y231.length co31 : Value).ownBlock) (.slice Ao10 y222.length co10) y222) := ⟨(by rw [hw]; exact (by (with_reducible repeat (first | apply Kd.R_alloc | apply Kd.R_drewN | apply Kd.R_drew)); exact Kd.R_mono (Kd.R_far (p := ⟨gb227, 0, none⟩) (Kd.R_types HO_226001.out BK227.out (by decide)) (fun _ hk => hk.2) (.slice Ao31 y231.length co31)) (fun _ hk => hk.1.2)))⟩; have n2_ : Aside0 (Kd.R (Kd.int .i64) 2 w33 w.heap.size (fun k_ => some k_ ≠ (.slice Ao10 y222.length co10 : Value).ownBlock) (.slice Ao31 y231.length co31) y231) := ⟨(by rw [hw]; exact (rF_ HO233 BK227))⟩; have n3_ : Aside0 (w33.heap[gb217]? = some (.cells #[.slice (some ad226) l0_0.length c0_0, .slice A0_1 l0_1.length c0_1] 27 (0, 0))) := ⟨(by rw [hw]; exact (bF_ BK217 NB217_227))⟩; have n4_ : Aside0 (w33.heap[gb218]? = some (.cells #[.slice none 0 0, .slice none 0 0] 27 (0, 0))) := ⟨(by rw [hw]; exact (bF_ BK218 NB218_227))⟩; have n5_ : Aside0 (w33.heap[gb225]? = some (.cells #[u226000, .slice Ao10 y222.length co10] 27 (0, 0))) := ⟨(by rw [hw]; exact (bF_ BK225 NB225_227))⟩; have n6_ : Aside0 (w33.heap[gb227]? = some (.cells #[.slice Ao31 y231.length co31, .int .i64 ((rd_T39 l0_0 x4_1).f1), .int .i64 ((rd_T39 l0_0 x4_1).f2), .int .i64 ((rd_T39 l0_0 x4_1).f3)] 39 (0, 0))) := ⟨(by rw [hw]; exact (bP_ BK227))⟩; have n7_ : Aside0 (Below w.heap.size w w33) := ⟨(by rw [hw]; exact sABelo_10)⟩; clear hw; clear HO_226000; clear HO_226001; clear HO233; clear BK217; clear BK218; clear BK225; clear BK227; clear HB; have HO_226000 := n0_; have HO_226001 := n1_; have HO233 := n2_; have BK217 := n3_; have BK218 := n4_; have BK225 := n5_; have BK227 := n6_; have HB := n7_; clear n0_ n1_ n2_ n3_ n4_ n5_ n6_ n7_; have hnb34 := NB225_218.out; have hnc34 := NB218_225.out; obtain ⟨hcz35_0, hcz35_1, hfz35_0, hfz35_1⟩ := cf2_ BK225; obtain ⟨hcz36_0, hcz36_1, hcz36_2, hcz36_3, hfz36_0, hfz36_1, hfz36_2, hfz36_3⟩ := cf4_ BK227) | ((with_reducible refine gate_builtin (b := .append) (xs := #[.tmp 29, .tmp 31]) rfl ?_); at_builtin; refine Kd.S_append k39 (w0 := w) w.heap.size rfl (.tmp 29) (.tmp 31) 24 39 (.agg #[(.slice none 0 0), (.int .i64 0), (.int .i64 0), (.int .i64 0)]) 48 rfl Try.underlying24 info39 rfl (by decide) (by omega) u226000 x226000_1 (⟨y231, (rd_T39 l0_0 x4_1).f1, (rd_T39 l0_0 x4_1).f2, (rd_T39 l0_0 x4_1).f3⟩ : S39) [.slice Ao31 y231.length co31, .int .i64 ((rd_T39 l0_0 x4_1).f1), .int .i64 ((rd_T39 l0_0 x4_1).f2), .int .i64 ((rd_T39 l0_0 x4_1).f3)] (fun k_ => some k_ ≠ (.slice Ao10 y222.length co10 : Value).ownBlock ∧ k_ ≠ gb227) (fun k_ => some k_ = (.slice Ao31 y231.length co31 : Value).ownBlock) rfl rfl ?aP (fun k_ hk_ => ((Kd.R_mono (ok' := fun k_ => ((fun k_ => some k_ ≠ (.slice Ao10 y222.length co10 : Value).ownBlock ∧ k_ ≠ gb227)) k_ ∧ some k_ ≠ (u226000 : Value).ownBlock) (Kd.R_types (Kd.R_apart' (HO233.out) (Kd.S_typed HO_226000.out) (by decide)) BK227.out (by decide)) (fun k_ hk => ⟨⟨hk.1.1, hk.2⟩, hk.1.2⟩))).1 k_ hk_.symm) ?aF ?aO ?aB ?aS ?aL ?_; (case aP => exact k39_mkM _ _ _ (⟨y231, (rd_T39 l0_0 x4_1).f1, (rd_T39 l0_0 x4_1).f2, (rd_T39 l0_0 x4_1).f3⟩ : S39) (Kd.R_mono (Kd.R_tight rfl (Kd.R_mono (ok' := fun k_ => ((fun k_ => some k_ ≠ (.slice Ao10 y222.length co10 : Value).ownBlock ∧ k_ ≠ gb227)) k_ ∧ some k_ ≠ (u226000 : Value).ownBlock) (Kd.R_types (Kd.R_apart' (HO233.out) (Kd.S_typed HO_226000.out) (by decide)) BK227.out (by decide)) (fun k_ hk => ⟨⟨hk.1.1, hk.2⟩, hk.1.2⟩))) (fun _ h_ => h_))); (case aB => exact sABelo_10); (case aF => exact (fun k_ hk => ⟨Kd.fresh' (rLt_ HO_226001) k_ hk, Kd.freshB (g := gb227) (o := .cells #[.slice Ao31 y231.length co31, .int .i64 ((rd_T39 l0_0 x4_1).f1), .int .i64 ((rd_T39 l0_0 x4_1).f2), .int .i64 ((rd_T39 l0_0 x4_1).f3)] 39 (0, 0)) (bT_ BK227) k_ hk⟩)); (case aO => exact (by (with_reducible repeat (first | apply Kd.S_alloc | apply Kd.S_drewN | apply Kd.S_drew)); exact Kd.S_mono HO_226000.out (fun k_ hk => ⟨⟨hk.1, hk.2.2⟩, fun e_ => hk.2.1 e_⟩))); (case aS => exact (below_size sABelo_10)); (case aL => have := LMc18.out; omega); intro v235 w37 ho hb hg hat; rw [← Ny234.out] at ho; replace HO_226001 := mk_ (Kd.R_over' (rT_ HO_226001) (Kd.S_typed (sT_ HO_226000)) (by decide) hg); replace BK217 := mk_ (blk_grown (bT_ BK217) hg (Kd.S_ne HO_226000.out BK217.out (by decide))); replace BK218 := mk_ (blk_grown (bT_ BK218) hg (Kd.S_ne HO_226000.out BK218.out (by decide))); replace BK225 := mk_ (blk_grown (bT_ BK225) hg (Kd.S_ne HO_226000.out BK225.out (by decide))); replace BK227 := mk_ (blk_grown (bT_ BK227) hg (Kd.S_away HO_226000.out (fun _ hk => hk.2.2))); replace HB := mk_ (hb); have HO236 := mk_ (ho); clear HO_226000 HO233; clear ho hb hg hat; obtain ⟨Ao38, co38, eo38⟩ := Kd.S_slice HO236.out; subst eo38; obtain ⟨hcz39_0, hcz39_1, hfz39_0, hfz39_1⟩ := cf2_ BK225))
    go_roundg k1
    case measure => have := HK1.out; omega
    case rel => exact ⟨(wrap64 (x4_1 + 1)), (y234), (.slice Ao38 y234.length co38), eS_, H', ⟨by have := HK1.out; omega⟩, ⟨sFM_ HO236 BK225⟩, ⟨rFM_ HO_226001 BK225⟩, ⟨bF_ BK217 NB217_225⟩, ⟨bF_ BK218 NB218_225⟩, ⟨bP_ BK225⟩, ⟨sABelo_10⟩⟩
   ·rw [if_neg c15] at H
    have c15b0 := decide_eq_false c15
    clear c15
    simp only [Option.some.injEq, Prod.mk.injEq] at H
    obtain ⟨rfl, rfl⟩ := H
    have hnb40 := NB217_218.out; have hnc40 := NB218_217.out; have hnb41 := NB217_225.out; have hnc41 := NB225_217.out
    obtain ⟨hcz42_0, hcz42_1, hfz42_0, hfz42_1⟩ := cf2_ BK217; have hnb43 := NB225_218.out; have hnc43 := NB218_225.out
    obtain ⟨hcz44_0, hcz44_1, hfz44_0, hfz44_1⟩ := cf2_ BK225
    obtain ⟨Ao45, co45, eo45⟩ := Kd.S_slice HO_226000.out
    subst eo45
    obtain ⟨hcz46_0, hcz46_1, hfz46_0, hfz46_1⟩ := cf2_ BK218
    go_wp2
    refine bodyPost_ret (results_cell_row rfl _ _ gb218 27 #[.slice Ao45 x226000_1.length co45, .slice Ao10 y222.length co10] (0, 0) _ rfl (bP_ BK218) Try.underlying27 rfl (by kernel_rfl)) rfl ?_
    exact ⟨_, _, eW_, by (with_reducible repeat (first | apply Kd.S_alloc | apply Kd.S_drewN | apply Kd.S_drew)); exact Kd.S_mono (Kd.S_far (p := ⟨gb218, 1, none⟩) (Kd.S_far (p := ⟨gb218, 0, none⟩) (Kd.S_types HO_226000.out BK218.out (by decide)) (fun _ hk => hk.2) (.slice Ao45 x226000_1.length co45)) (fun _ hk => hk.2) (.slice Ao10 y222.length co10)) (fun _ hk => hk.1), by (with_reducible repeat (first | apply Kd.R_alloc | apply Kd.R_drewN | apply Kd.R_drew)); exact Kd.R_mono (Kd.R_far (p := ⟨gb218, 1, none⟩) (Kd.R_far (p := ⟨gb218, 0, none⟩) (Kd.R_types HO_226001.out BK218.out (by decide)) (fun _ hk => hk.2) (.slice Ao45 x226000_1.length co45)) (fun _ hk => hk.2) (.slice Ao10 y222.length co10)) (fun _ hk => trivial), sABelo_10⟩

/-! ### spec_NewRun: function 14 -/
def spec_NewRun.f (k : Nat) (l0_0 : List (S39)) (l0_1 : List Int) : Option ((List (S39)) × List Int × Int × (List (S43)) × Bool) := (spec_SuiteOk.f k l0_0 l0_1).bind fun t239 => (if t239 = true then ((spec_l24CopySuite.f k l0_0 l0_1).bind fun bt240 => (if 0 ≤ (l0_0.length : Int) then (if ((l0_0.length : Int) : Int).toNat ≤ 17592186044416 then (some (bt240.1, bt240.2, 0, (List.replicate ((l0_0.length : Int) : Int).toNat z43), true)) else (none)) else (none))) else (some (([] : List (S39)), ([] : List Int), 0, ([] : List (S43)), false)))
theorem spec_NewRun.mono : ∀ a0 a1 k, LeO (spec_NewRun.f k a0 a1) (spec_NewRun.f (k + 1) a0 a1) := by
 intro a0 a1 k
 unfold spec_NewRun.f
 repeat' first
   | (with_reducible exact spec_SuiteOk.mono _ _ _)
   | (with_reducible exact spec_l24CopySuite.mono _ _ _)
   | (with_reducible exact LeO.refl _)
   | (with_reducible exact LeO.none _)
   | (with_reducible refine LeO.ite ?_ ?_)
   | (with_reducible refine LeO.bind ?_ (fun _ => ?_))
   | exact LeO.none _
   | refine LeO.ite ?_ ?_
   | refine LeO.bind ?_ (fun _ => ?_)
def spec_NewRun.T3 : Bool × List (List Nat × List Nat) := (true, [([], []), ([0], [0]), ([], []), ([2], [2]), ([3], [3]), ([4, 4], [4]), ([1, 5], [1, 5]), ([6, 1, 0, 1, 2, 3, 4, 5, 6], [6]), ([7, 0, 1, 2, 3, 4, 5, 6, 7], [])])
def spec_NewRun.B3 : List Nat := [0, 1, 0, 4, 12, 28, 63, 127, 255]
theorem spec_NewRun.tab3 : rtab .any (opsOf Try.f14 3) = spec_NewRun.T3 := by kernel_rfl
theorem spec_NewRun.bits3 : waitsOk spec_NewRun.T3.2 spec_NewRun.B3 = true := by kernel_rfl
set_option maxHeartbeats 8000000 in
set_option maxRecDepth 100000 in
theorem spec_NewRun.calls (k : Nat) (A0_0 : Option Addr) (c0_0 : Nat) (l0_0 : List (S39)) (A0_1 : Option Addr) (c0_1 : Nat) (l0_1 : List Int) (r1 : List (S39)) (r2 : List Int) (r3 : Int) (r4 : List (S43)) (r5 : Bool) (w : World) (hr0_0 : Kd.C k39 w A0_0 l0_0.length l0_0) (hc0_0 : l0_0.length ≤ c0_0) (hr0_1 : Kd.C (Kd.int .i64) w A0_1 l0_1.length l0_1) (hc0_1 : l0_1.length ≤ c0_1) (h : spec_NewRun.f k l0_0 l0_1 = some (r1, r2, r3, r4, r5)) :
  Calls Try.prog 14 #[.agg #[.slice A0_0 l0_0.length c0_0, .slice A0_1 l0_1.length c0_1]] w fun e w' => ∃ v0_ v1_ v3_ : Value, e = .returned (.tuple #[.agg #[v0_, v1_, .int .i64 r3, v3_], .bool r5]) ∧ Kd.S k39 39 w' w.heap.size (fun k_ => some k_ ≠ (v1_ : Value).ownBlock) v0_ r1 ∧ Kd.R (Kd.int .i64) 2 w' w.heap.size (fun _ => True) v1_ r2 ∧ Kd.R k43 43 w' w.heap.size (fun _ => True) v3_ r4 ∧ Below w.heap.size w w' := by
 have hu27 := Try.underlying27; have hu31 := Try.underlying31; have HR0_0 := mk_ hr0_0; have HC0_0 := mk_ hc0_0; clear hr0_0 hc0_0; have HR0_1 := mk_ hr0_1; have HC0_1 := mk_ hc0_1; clear hr0_1 hc0_1
 have HB := mk_ (Below.refl w.heap.size w)
 have H : ((spec_SuiteOk.f k l0_0 l0_1).bind fun t239 => (if t239 = true then ((spec_l24CopySuite.f k l0_0 l0_1).bind fun bt240 => (if 0 ≤ (l0_0.length : Int) then (if ((l0_0.length : Int) : Int).toNat ≤ 17592186044416 then (some (bt240.1, bt240.2, 0, (List.replicate ((l0_0.length : Int) : Int).toNat z43), true)) else (none)) else (none))) else (some (([] : List (S39)), ([] : List Int), 0, ([] : List (S43)), false)))) = some (r1, r2, r3, r4, r5) := h
 clear h; replace H := Option.bind_eq_some_iff.mp H
 obtain ⟨t239, A20, H⟩ := H
 (try dsimp only at H)
 have A2 := mk_ A20; clear A20
 by_cases c3 : t239 = true
 ·subst c3
  replace H := ifT_ H; replace H := Option.bind_eq_some_iff.mp H
  obtain ⟨⟨t240, t243⟩, A40, H⟩ := H
  (try dsimp only at H)
  have A4 := mk_ A40; clear A40
  obtain ⟨c5, H⟩ := ifS_ H
  have c5b0 := eq_true c5
  have c5b1 : decide (0 ≤ (l0_0.length : Int)) = true := decide_eq_true c5
  clear c5
  obtain ⟨c6, H⟩ := ifS_ H
  have c6b0 := eq_true c6
  have c6b1 : decide (((l0_0.length : Int) : Int).toNat ≤ 17592186044416) = true := decide_eq_true c6
  clear c6
  obtain ⟨y246, hy246⟩ : ∃ y_ : List (S43), y_ = (List.replicate ((l0_0.length : Int) : Int).toNat z43) := ⟨_, rfl⟩
  replace H : (some (t240, t243, 0, y246, true)) = some (r1, r2, r3, r4, r5) := by first | (rw [hy246]; with_reducible exact H) | (have H2_ := (Option.bind_some _ _).symm.trans H; rw [hy246]; with_reducible exact H2_) | (have H2_ := (Option.bind_some _ _).symm.trans H; with_reducible exact H2_) | with_reducible exact H | (rw [hy246]; exact H) | exact H
  have Ny246 := mk_ hy246; clear hy246
  simp only [Option.some.injEq, Prod.mk.injEq] at H
  obtain ⟨rfl, rfl, rfl, rfl, rfl⟩ := H
  go_enter Try.func14, Try.ntmps14
  try go_wp2_with (first | ((with_reducible refine gate_dst (N := 1) rfl ?_); refine box_event ?hg (N := 1) ?hd (cs := #[.slice A0_0 l0_0.length c0_0, .slice A0_1 l0_1.length c0_1]) (t := 27) ?hr ?_; (case hd => rfl); (case hg => rfl); (case hr => first | (go_simp; done) | (go_simp; rfl)); intro gb237 hg w7 hbox hb; have BK237 := mk_ (hbox); have GW237 := gE_ HB hg; have GE237 := gE_ HB hg; replace HB := bS_ HB hb; clear hb hbox hg) | ((with_reducible refine gate_dst (N := 2) rfl ?_); refine box_event ?hg (N := 2) ?hd (cs := #[.slice none 0 0, .slice none 0 0, .int .i64 0, .slice none 0 0]) (t := 31) ?hr ?_; (case hd => rfl); (case hg => rfl); (case hr => first | (go_simp; done) | (go_simp; rfl)); intro gb238 hg w8 hbox hb; have BK238 := mk_ (hbox); have GW238 := gE_ HB hg; have GE238 := gE_ HB hg; replace HB := bS_ HB hb; have NB237_238 := nL_ BK237 hg; have NB238_237 := nG_ BK237 hg; replace BK237 := bB_ BK237 hb; clear hb hbox hg; have hnb9 := NB237_238.out; have hnc9 := NB238_237.out; obtain ⟨hcz10_0, hcz10_1, hfz10_0, hfz10_1⟩ := cf2_ BK237) | ((with_reducible refine gate_callee (f := 44) rfl ?_); refine gL_ (some 5) Try.func44 #[.agg #[.slice A0_0 l0_0.length c0_0, .slice A0_1 l0_1.length c0_1]] ?_; (with_reducible refine (spec_SuiteOk.calls k _ _ l0_0 _ _ l0_1 true _ ?side1 ?side2 ?side3 ?side4 A2.out).mono ?_); (case side1 => exact cB_ HR0_0 HB); (case side2 => exact HC0_0.out); (case side3 => exact cB_ HR0_1 HB); (case side4 => exact HC0_1.out); rintro e w11 ⟨rfl, hb⟩; refine ⟨_, rfl, ?_⟩; replace BK237 := bB_ BK237 hb; replace BK238 := bB_ BK238 hb; replace HB := bS_ HB hb; (try clear hb)))
  replace BK237 := mk_ (blk_drew BK237.out)
  replace BK238 := mk_ (blk_drew BK238.out)
  replace HB := mk_ (below_drew1 HB.out)
  refine start_ (n := 9) (S := fun w' => w'.cell? ⟨gb237, 0, none⟩ = some (.slice A0_0 l0_0.length c0_0) ∧ w'.cell? ⟨gb237, 1, none⟩ = some (.slice A0_1 l0_1.length c0_1)) (ds := []) (uu 0 9) (by kernel_rfl) rfl rfl ⟨(blk_cell BK237.out 0).trans rfl, (blk_cell BK237.out 1).trans rfl⟩ (fun hHeld => ?_); refine with_tabW spec_NewRun.tab3 spec_NewRun.bits3 (fun HT_ HW_ => ?_)
  generalize w11.drew = w12 at BK237 BK238 HB hHeld ⊢
  refine pT_ 2 (some 10) #[false, false, true, false, false, false, false, false, false] HT_ ?_
  refine tT_ 0 (some 8) #[true, false, true, false, false, false, false, false, false] HT_ HW_ hHeld ?_ (hy := by rintro w' ⟨s0, s1⟩; go_simp; with_reducible rfl)
  refine tT_ 3 (some 11) #[true, false, true, true, false, false, false, false, false] HT_ HW_ hHeld ?_ (hy := by rintro w' ⟨s0, s1⟩; go_simp; with_reducible rfl)
  refine pT_ 4 (some 12) #[true, false, true, true, true, false, false, false, false] HT_ ?_
  refine join_ (σ := Value × Value × Value) 3 (uu 6 3) (fun s_ => [(9, .agg #[s_.1, s_.2.1]), (13, s_.2.2)]) (fun s_ w' => (w'.cell? ⟨gb237, 0, none⟩ = some (.slice A0_0 l0_0.length c0_0) ∧ w'.cell? ⟨gb237, 1, none⟩ = some (.slice A0_1 l0_1.length c0_1)) ∧ (Kd.S k39 39 w' w.heap.size (fun k_ => some k_ ≠ (s_.2.1 : Value).ownBlock) s_.1 t240) ∧ (Kd.R (Kd.int .i64) 2 w' w.heap.size (fun _ => True) s_.2.1 t243) ∧ (Kd.R k43 43 w' w.heap.size (fun _ => True) s_.2.2 y246) ∧ (w'.heap[gb237]? = some (.cells #[.slice A0_0 l0_0.length c0_0, .slice A0_1 l0_1.length c0_1] 27 (0, 0))) ∧ (w'.heap[gb238]? = some (.cells #[.slice none 0 0, .slice none 0 0, .int .i64 0, .slice none 0 0] 31 (0, 0))) ∧ (Below w.heap.size w w')) ?_ ?_
  rotate_left
  ·intro hCont
   refine two_ (i := 1) (j := 5) (Ni := some 9) (Nj := some 13) (uu 5 4) #[true, false, true, true, true, true, false, false, false] rfl rfl rfl rfl (two_of HT_.out (by kernel_rfl)) (by decide) (by decide) (fun K hK => ?_) (fun K hK => ?_)
   ·skip
    refine goes_ Try.func45 (by kernel_rfl) rfl #[.agg #[.slice A0_0 l0_0.length c0_0, .slice A0_1 l0_1.length c0_1]] (by rfl) rfl rfl (by (try simp only [List.map_toArray, List.map_cons, List.map_nil]); first | done | rfl | (simp only [List.length_drop, List.length_take]; rfl)) ?_
    with_reducible refine (spec_l24CopySuite.calls k _ _ l0_0 _ _ l0_1 t240 t243 _ ?side1 ?side2 ?side3 ?side4 A4.out).mono ?_
    (case side1 => exact cB_ HR0_0 HB)
    (case side2 => exact HC0_0.out)
    (case side3 => exact cB_ HR0_1 HB)
    (case side4 => exact HC0_1.out)
    rintro e w13 ⟨v241, v244, rfl, ho0, ho1, hb⟩
    refine ⟨_, rfl, ?_⟩
    have HO242 := sL_ ho0 HB; have HO245 := rL_ ho1 HB; replace BK237 := bB_ BK237 hb; replace BK238 := bB_ BK238 hb; replace HB := bS_ HB hb; (try clear hb); (try clear ho0); (try clear ho1)
    refine hK.out _ _ ⟨(blk_cell BK237.out 0).trans rfl, (blk_cell BK237.out 1).trans rfl⟩ (fun hHeld => ?_)
    clear hK K
    refine nS_ (some 9) ?_
    refine one_ (i := 5) (N := some 13) (uu 6 3) rfl rfl (one_of HT_.out (by kernel_rfl)) (by decide) (fun K hK => ?_)
    refine Kd.R_make_step k43 _ 43 (by rfl) (N := 13) rfl 29 _ _ rfl (l0_0.length : Int) rfl rfl Try.underlying29 (.agg #[(.int .i64 0), (.int .i64 0)]) 16 info43 rfl (by decide) (by omega) z43 (ok := fun _ => True) (okp := fun _ => True) (k43_mkM _ _ _ z43 ) (fun _ hk => hk) trivial dA_ (Nat.le_trans (Nat.mul_le_mul_right _ (of_decide_eq_true (by first | (with_reducible assumption) | assumption) : (l0_0.length : Int).toNat ≤ 17592186044416)) (by omega)) (Below.refl _ _) (Nat.le_refl _) ?_
    intro v247 w14 ho15 hb hg_ hnew_
    clear hg_ hnew_
    (first | rw [← Ny246.out] at ho15 | (simp only [Int.reduceToNat] at ho15; rw [← Ny246.out] at ho15))
    replace HO242 := sB_ HO242 hb; replace HO245 := rB_ HO245 hb; have HO248 := rL_ ho15 HB; replace BK237 := bB_ BK237 hb; replace BK238 := bB_ BK238 hb; replace HB := bS_ HB hb; clear hb ho15
    obtain ⟨Ao16, co16, eo16⟩ := Kd.R_slice HO248.out
    (first | subst eo16 | (injection eo16 with f1_ f2_ f3_; have f4_ := f1_.symm; have f5_ := f3_.symm; clear f1_ f2_ f3_; subst f4_; subst f5_))
    obtain ⟨Ao17, co17, eo17⟩ := Kd.R_slice HO245.out
    (first | subst eo17 | (injection eo17 with f1_ f2_ f3_; have f4_ := f1_.symm; have f5_ := f3_.symm; clear f1_ f2_ f3_; subst f4_; subst f5_))
    obtain ⟨Ao18, co18, eo18⟩ := Kd.S_slice HO242.out
    (first | subst eo18 | (injection eo18 with f1_ f2_ f3_; have f4_ := f1_.symm; have f5_ := f3_.symm; clear f1_ f2_ f3_; subst f4_; subst f5_))
    refine hK.out _ _ ⟨(blk_cell BK237.out 0).trans rfl, (blk_cell BK237.out 1).trans rfl⟩ (fun hHeld => ?_)
    clear hK K
    refine nS_ (some 13) ?_
    exact norm_ (by simp only [putAll, Act.put, List.setIfInBounds_toArray, List.set_cons_zero, List.set_cons_succ]) (hCont (.slice Ao18 t240.length co18, .slice Ao17 t243.length co17, .slice Ao16 y246.length co16) _ ⟨hHeld, (sT_ HO242), (rT_ HO245), (rT_ HO248), (bT_ BK237), (bT_ BK238), sABelo_10⟩)
   ·skip
    refine Kd.R_make_step k43 _ 43 (by rfl) (N := 13) rfl 29 _ _ rfl (l0_0.length : Int) rfl rfl Try.underlying29 (.agg #[(.int .i64 0), (.int .i64 0)]) 16 info43 rfl (by decide) (by omega) z43 (ok := fun _ => True) (okp := fun _ => True) (k43_mkM _ _ _ z43 ) (fun _ hk => hk) trivial dA_ (Nat.le_trans (Nat.mul_le_mul_right _ (of_decide_eq_true (by first | (with_reducible assumption) | assumption) : (l0_0.length : Int).toNat ≤ 17592186044416)) (by omega)) (Below.refl _ _) (Nat.le_refl _) ?_
    intro v247 w13 ho14 hb hg_ hnew_
    clear hg_ hnew_
    (first | rw [← Ny246.out] at ho14 | (simp only [Int.reduceToNat] at ho14; rw [← Ny246.out] at ho14))
    have HO248 := rL_ ho14 HB; replace BK237 := bB_ BK237 hb; replace BK238 := bB_ BK238 hb; replace HB := bS_ HB hb; clear hb ho14
    refine hK.out _ _ ⟨(blk_cell BK237.out 0).trans rfl, (blk_cell BK237.out 1).trans rfl⟩ (fun hHeld => ?_)
    clear hK K
    refine nS_ (some 13) ?_
    refine one_ (i := 1) (N := some 9) (uu 6 3) rfl rfl (one_of HT_.out (by kernel_rfl)) (by decide) (fun K hK => ?_)
    refine goes_ Try.func45 (by kernel_rfl) rfl #[.agg #[.slice A0_0 l0_0.length c0_0, .slice A0_1 l0_1.length c0_1]] (by rfl) rfl rfl (by (try simp only [List.map_toArray, List.map_cons, List.map_nil]); first | done | rfl | (simp only [List.length_drop, List.length_take]; rfl)) ?_
    with_reducible refine (spec_l24CopySuite.calls k _ _ l0_0 _ _ l0_1 t240 t243 _ ?side1 ?side2 ?side3 ?side4 A4.out).mono ?_
    (case side1 => exact cB_ HR0_0 HB)
    (case side2 => exact HC0_0.out)
    (case side3 => exact cB_ HR0_1 HB)
    (case side4 => exact HC0_1.out)
    rintro e w15 ⟨v241, v244, rfl, ho0, ho1, hb⟩
    refine ⟨_, rfl, ?_⟩
    replace HO248 := rB_ HO248 hb; have HO242 := sL_ ho0 HB; have HO245 := rL_ ho1 HB; replace BK237 := bB_ BK237 hb; replace BK238 := bB_ BK238 hb; replace HB := bS_ HB hb; (try clear hb); (try clear hk); (try clear ho0); (try clear ho1)
    obtain ⟨Ao16, co16, eo16⟩ := Kd.R_slice HO248.out
    (first | subst eo16 | (injection eo16 with f1_ f2_ f3_; have f4_ := f1_.symm; have f5_ := f3_.symm; clear f1_ f2_ f3_; subst f4_; subst f5_))
    obtain ⟨Ao17, co17, eo17⟩ := Kd.R_slice HO245.out
    (first | subst eo17 | (injection eo17 with f1_ f2_ f3_; have f4_ := f1_.symm; have f5_ := f3_.symm; clear f1_ f2_ f3_; subst f4_; subst f5_))
    obtain ⟨Ao18, co18, eo18⟩ := Kd.S_slice HO242.out
    (first | subst eo18 | (injection eo18 with f1_ f2_ f3_; have f4_ := f1_.symm; have f5_ := f3_.symm; clear f1_ f2_ f3_; subst f4_; subst f5_))
    refine hK.out _ _ ⟨(blk_cell BK237.out 0).trans rfl, (blk_cell BK237.out 1).trans rfl⟩ (fun hHeld => ?_)
    clear hK K
    refine nS_ (some 9) ?_
    exact norm_ (by simp only [putAll, Act.put, List.setIfInBounds_toArray, List.set_cons_zero, List.set_cons_succ]) (hCont (.slice Ao18 t240.length co18, .slice Ao17 t243.length co17, .slice Ao16 y246.length co16) _ ⟨hHeld, (sT_ HO242), (rT_ HO245), (rT_ HO248), (bT_ BK237), (bT_ BK238), sABelo_10⟩)
  rintro ⟨v241, v244, v247⟩ w19 ⟨hS_, h0_, h1_, h2_, h3_, h4_, h5_⟩
  try dsimp only at h0_ h1_ h2_ h3_ h4_ h5_
  have HO242 := mk_ h0_; have HO245 := mk_ h1_; have HO248 := mk_ h2_; replace BK237 := mk_ h3_; replace BK238 := mk_ h4_; replace HB := mk_ h5_; clear h0_ h1_ h2_ h3_ h4_ h5_
  have hHeld : w19.cell? ⟨gb237, 0, none⟩ = some (.slice A0_0 l0_0.length c0_0) ∧ w19.cell? ⟨gb237, 1, none⟩ = some (.slice A0_1 l0_1.length c0_1) := hS_
  obtain ⟨Ao20, co20, eo20⟩ := Kd.R_slice HO248.out
  (first | subst eo20 | (injection eo20 with f1_ f2_ f3_; have f4_ := f1_.symm; have f5_ := f3_.symm; clear f1_ f2_ f3_; subst f4_; subst f5_))
  obtain ⟨Ao21, co21, eo21⟩ := Kd.R_slice HO245.out
  (first | subst eo21 | (injection eo21 with f1_ f2_ f3_; have f4_ := f1_.symm; have f5_ := f3_.symm; clear f1_ f2_ f3_; subst f4_; subst f5_))
  obtain ⟨Ao22, co22, eo22⟩ := Kd.S_slice HO242.out
  (first | subst eo22 | (injection eo22 with f1_ f2_ f3_; have f4_ := f1_.symm; have f5_ := f3_.symm; clear f1_ f2_ f3_; subst f4_; subst f5_))
  refine norm_ (a' := ?_) ?_ ?_
  rotate_left
  ·simp only [putAll, Act.put, List.setIfInBounds_toArray, List.set_cons_zero, List.set_cons_succ]
   rfl
  refine pT_ 6 (some 14) (uu 7 2) HT_ ?_
  refine one_ (i := 7) (N := none) (uu 8 1) rfl rfl (one_of HT_.out (by kernel_rfl)) (by decide) (fun K hK => ?_)
  have hs23 : w19.cell? ⟨gb238, 0, none⟩ = some (.slice none 0 0) := (blk_cell BK238.out 0).trans rfl
  have hfs23 := blk_frozen BK238.out 0; have hns23_0 := NB237_238.out; have hms23_0 := NB238_237.out
  have hs24 : w19.cell? ⟨gb238, 1, none⟩ = some (.slice none 0 0) := (blk_cell BK238.out 1).trans rfl
  have hfs24 := blk_frozen BK238.out 1; have hns24_0 := NB237_238.out; have hms24_0 := NB238_237.out
  have hs25 : w19.cell? ⟨gb238, 2, none⟩ = some (.int .i64 0) := (blk_cell BK238.out 2).trans rfl
  have hfs25 := blk_frozen BK238.out 2; have hns25_0 := NB237_238.out; have hms25_0 := NB238_237.out
  have hs26 : w19.cell? ⟨gb238, 3, none⟩ = some (.slice none 0 0) := (blk_cell BK238.out 3).trans rfl
  have hfs26 := blk_frozen BK238.out 3; have hns26_0 := NB237_238.out; have hms26_0 := NB238_237.out
  refine skip_ (w1 := ?_) (by rfl) rfl ?_ ?_
  rotate_left
  ·go_simp
   rfl
  refine hK.out _ _ ⟨((cell_far (p := ⟨gb238, _, none⟩) NB237_238.out _).trans (((cell_far (p := ⟨gb238, _, none⟩) NB237_238.out _).trans (((cell_far (p := ⟨gb238, _, none⟩) NB237_238.out _).trans (((cell_far (p := ⟨gb238, _, none⟩) NB237_238.out _).trans (hHeld.1)))))))), ((cell_far (p := ⟨gb238, _, none⟩) NB237_238.out _).trans (((cell_far (p := ⟨gb238, _, none⟩) NB237_238.out _).trans (((cell_far (p := ⟨gb238, _, none⟩) NB237_238.out _).trans (((cell_far (p := ⟨gb238, _, none⟩) NB237_238.out _).trans (hHeld.2))))))))⟩ (fun hHeld => ?_)
  clear hK K
  refine pT_ 8 (some 3) (uu 9 0) HT_ ?_
  refine done_ (done_of HT_.out (by kernel_rfl)) ?_
  try go_wp2
  refine bodyPost_ret (results_ct rfl _ _ gb238 31 #[.slice Ao22 t240.length co22, .slice Ao21 t243.length co21, .int .i64 0, .slice Ao20 y246.length co20] (0, 0) _ rfl (bP_ BK238) Try.underlying31 rfl (by kernel_rfl)) rfl ?_
  exact ⟨_, _, _, eW_, by (with_reducible repeat (first | apply Kd.S_alloc | apply Kd.S_drewN | apply Kd.S_drew)); exact Kd.S_mono (Kd.S_far (p := ⟨gb238, 3, none⟩) (Kd.S_far (p := ⟨gb238, 2, none⟩) (Kd.S_far (p := ⟨gb238, 1, none⟩) (Kd.S_far (p := ⟨gb238, 0, none⟩) (Kd.S_types HO242.out BK238.out (by decide)) (fun _ hk => hk.2) (.slice Ao22 t240.length co22)) (fun _ hk => hk.2) (.slice Ao21 t243.length co21)) (fun _ hk => hk.2) (.int .i64 0)) (fun _ hk => hk.2) (.slice Ao20 y246.length co20)) (fun _ hk => hk.1), by (with_reducible repeat (first | apply Kd.R_alloc | apply Kd.R_drewN | apply Kd.R_drew)); exact Kd.R_mono (Kd.R_far (p := ⟨gb238, 3, none⟩) (Kd.R_far (p := ⟨gb238, 2, none⟩) (Kd.R_far (p := ⟨gb238, 1, none⟩) (Kd.R_far (p := ⟨gb238, 0, none⟩) (Kd.R_types HO245.out BK238.out (by decide)) (fun _ hk => hk.2) (.slice Ao22 t240.length co22)) (fun _ hk => hk.2) (.slice Ao21 t243.length co21)) (fun _ hk => hk.2) (.int .i64 0)) (fun _ hk => hk.2) (.slice Ao20 y246.length co20)) (fun _ hk => trivial), by (with_reducible repeat (first | apply Kd.R_alloc | apply Kd.R_drewN | apply Kd.R_drew)); exact Kd.R_mono (Kd.R_far (p := ⟨gb238, 3, none⟩) (Kd.R_far (p := ⟨gb238, 2, none⟩) (Kd.R_far (p := ⟨gb238, 1, none⟩) (Kd.R_far (p := ⟨gb238, 0, none⟩) (Kd.R_types HO248.out BK238.out (by decide)) (fun _ hk => hk.2) (.slice Ao22 t240.length co22)) (fun _ hk => hk.2) (.slice Ao21 t243.length co21)) (fun _ hk => hk.2) (.int .i64 0)) (fun _ hk => hk.2) (.slice Ao20 y246.length co20)) (fun _ hk => trivial), sABelo_10⟩
 ·replace c3 := Bool.eq_false_iff.mpr c3
  subst c3
  replace H := ifF_ H
  simp only [Option.some.injEq, Prod.mk.injEq] at H
  obtain ⟨rfl, rfl, rfl, rfl, rfl⟩ := H
  go_enter Try.func14, Try.ntmps14
  go_wp2_with (first | ((with_reducible refine gate_dst (N := 1) rfl ?_); refine box_event ?hg (N := 1) ?hd (cs := #[.slice A0_0 l0_0.length c0_0, .slice A0_1 l0_1.length c0_1]) (t := 27) ?hr ?_; (case hd => rfl); (case hg => rfl); (case hr => first | (go_simp; done) | (go_simp; rfl)); intro gb237 hg w27 hbox hb; have BK237 := mk_ (hbox); have GW237 := gE_ HB hg; have GE237 := gE_ HB hg; replace HB := bS_ HB hb; clear hb hbox hg) | ((with_reducible refine gate_dst (N := 2) rfl ?_); refine box_event ?hg (N := 2) ?hd (cs := #[.slice none 0 0, .slice none 0 0, .int .i64 0, .slice none 0 0]) (t := 31) ?hr ?_; (case hd => rfl); (case hg => rfl); (case hr => first | (go_simp; done) | (go_simp; rfl)); intro gb238 hg w28 hbox hb; have BK238 := mk_ (hbox); have GW238 := gE_ HB hg; have GE238 := gE_ HB hg; replace HB := bS_ HB hb; have NB237_238 := nL_ BK237 hg; have NB238_237 := nG_ BK237 hg; replace BK237 := bB_ BK237 hb; clear hb hbox hg; have hnb29 := NB237_238.out; have hnc29 := NB238_237.out; obtain ⟨hcz30_0, hcz30_1, hfz30_0, hfz30_1⟩ := cf2_ BK237) | ((with_reducible refine gate_callee (f := 44) rfl ?_); refine gL_ (some 5) Try.func44 #[.agg #[.slice A0_0 l0_0.length c0_0, .slice A0_1 l0_1.length c0_1]] ?_; (with_reducible refine (spec_SuiteOk.calls k _ _ l0_0 _ _ l0_1 false _ ?side1 ?side2 ?side3 ?side4 A2.out).mono ?_); (case side1 => exact cB_ HR0_0 HB); (case side2 => exact HC0_0.out); (case side3 => exact cB_ HR0_1 HB); (case side4 => exact HC0_1.out); rintro e w31 ⟨rfl, hb⟩; refine ⟨_, rfl, ?_⟩; replace BK237 := bB_ BK237 hb; replace BK238 := bB_ BK238 hb; replace HB := bS_ HB hb; (try clear hb); obtain ⟨hcz32_0, hcz32_1, hcz32_2, hcz32_3, hfz32_0, hfz32_1, hfz32_2, hfz32_3⟩ := cf4_ BK238))
  refine bodyPost_ret (results_ct rfl _ _ gb238 31 #[.slice none 0 0, .slice none 0 0, .int .i64 0, .slice none 0 0] (0, 0) _ rfl (bP_ BK238) Try.underlying31 rfl (by kernel_rfl)) rfl ?_
  exact ⟨_, _, _, eW_, by first | exact Kd.S_nil _ _ _ _ _ | exact Kd.N_nil _ _ _ _ _ | exact Kd.V_nil _ _ _ _ _ | exact Kd.Q_nil _ _ _ _ _ | exact Kd.R_nil _ _ _ _ _, by first | exact Kd.R_nil _ _ _ _ _ | exact Kd.N_nil _ _ _ _ _ | exact Kd.V_nil _ _ _ _ _ | exact Kd.Q_nil _ _ _ _ _ | exact Kd.S_nil _ _ _ _ _, by first | exact Kd.R_nil _ _ _ _ _ | exact Kd.N_nil _ _ _ _ _ | exact Kd.V_nil _ _ _ _ _ | exact Kd.Q_nil _ _ _ _ _ | exact Kd.S_nil _ _ _ _ _, sABelo_10⟩

end Go.Proofs.Ytjoghfehmhapbaa.QFnReportsAnyway
