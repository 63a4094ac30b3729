-- Written by a program of this session out of the printer's texts and contracts of its own.
import Derived.Test.YtjoghfehmhapbaaSq
import Derived.Test.YtjoghfehmhapbaaQFnExactTickRunx0
namespace Go.Proofs.Ytjoghfehmhapbaa.QFnExactTickRun
open Go.RowKit Go.Proofs.YtjoghfehmhapbaaW.PrintWords Go.Proofs.YtjoghfehmhapbaaW.PrintLast Go.Proofs.YtjoghfehmhapbaaW.PrintMore Go.Proofs.Ytjoghfehmhapbaa.Sq
attribute [local go_sem] max2_int min2_int max_two min_two max_three min_three max_four min_four   -- for this text's walks alone
set_option linter.unusedVariables false
set_option linter.unusedSimpArgs false
theorem sABelo_5 {b : Nat} {w W : World} (h : Below b w W := by repeat (first | (with_reducible first | exact Aside0.out (by assumption) | apply below_alloc | apply pw_below_drewN | apply below_drew1 | refine below_set ?_ (Aside0.out (by assumption))) | exact Aside0.out (by assumption))) : Below b w W := h

/-! ### spec_l24CopySuite: function 45 -/
def spec_l24CopySuite.l0 : Nat → Int → List (S39) → List Int → List (S39) → List Int → Option ((List (S39)) × List Int)
 | 0, _, _, _, _, _ => none
 | k + 1, x4, x134000, x134001, x142000, x142001 => if x4 < (x134000.length : Int) then (if 0 ≤ x4 then ((some (([] : List Int) : List Int)).bind fun y144 => (if y144.length + ((rd_T39 x134000 x4).f0).length < 17592186044416 then (if x142000.length < 2932031007402 then (spec_l24CopySuite.l0 k (wrap64 (x4 + 1)) x134000 x134001 (x142000 ++ [(⟨(y144 ++ ((rd_T39 x134000 x4).f0)), (rd_T39 x134000 x4).f1, (rd_T39 x134000 x4).f2, (rd_T39 x134000 x4).f3⟩ : S39)]) x142001) else (none)) else (none))) else (none)) else (some (x142000, x142001))
def spec_l24CopySuite.f (k : Nat) (l0_0 : List (S39)) (l0_1 : List Int) : Option ((List (S39)) × List Int) := (some (([] : List Int) : List Int)).bind fun y135 => (if y135.length + l0_1.length < 17592186044416 then (spec_l24CopySuite.l0 k 0 l0_0 l0_1 ([] : List (S39)) (y135 ++ l0_1)) else (none))
theorem spec_l24CopySuite.mono_l : ∀ k, (∀ y0 y1 y2 y3 y4, LeO (spec_l24CopySuite.l0 k y0 y1 y2 y3 y4) (spec_l24CopySuite.l0 (k + 1) y0 y1 y2 y3 y4))
 | 0 => fun _ _ _ _ _ r h => by simp [spec_l24CopySuite.l0] at h
 | k + 1 => by
  have ih0 := spec_l24CopySuite.mono_l k
  ·intro y0 y1 y2 y3 y4
   unfold spec_l24CopySuite.l0
   repeat' first
   | (with_reducible exact ih0 _ _ _ _ _)
   | (with_reducible exact LeO.refl _)
   | (with_reducible exact LeO.none _)
   | (with_reducible refine LeO.ite ?_ ?_)
   | (with_reducible refine LeO.bind ?_ (fun _ => ?_))
   | exact ih0 _ _ _ _ _
   | exact LeO.none _
   | refine LeO.ite ?_ ?_
   | refine LeO.bind ?_ (fun _ => ?_)
theorem spec_l24CopySuite.mono : ∀ a0 a1 k, LeO (spec_l24CopySuite.f k a0 a1) (spec_l24CopySuite.f (k + 1) a0 a1) := by
 intro a0 a1 k
 have ih0 := spec_l24CopySuite.mono_l k
 unfold spec_l24CopySuite.f
 repeat' first
   | (with_reducible exact ih0 _ _ _ _ _)
   | (with_reducible exact LeO.refl _)
   | (with_reducible exact LeO.none _)
   | (with_reducible refine LeO.ite ?_ ?_)
   | (with_reducible refine LeO.bind ?_ (fun _ => ?_))
   | exact ih0 _ _ _ _ _
   | exact LeO.none _
   | refine LeO.ite ?_ ?_
   | refine LeO.bind ?_ (fun _ => ?_)
set_option maxHeartbeats 8000000 in
set_option maxRecDepth 100000 in
theorem spec_l24CopySuite.calls (k : Nat) (A0_0 : Option Addr) (c0_0 : Nat) (l0_0 : List (S39)) (A0_1 : Option Addr) (c0_1 : Nat) (l0_1 : List Int) (r1 : List (S39)) (r2 : List Int) (w : World) (hr0_0 : Kd.C k39 w A0_0 l0_0.length l0_0) (hc0_0 : l0_0.length ≤ c0_0) (hr0_1 : Kd.C (Kd.int .i64) w A0_1 l0_1.length l0_1) (hc0_1 : l0_1.length ≤ c0_1) (h : spec_l24CopySuite.f k l0_0 l0_1 = some (r1, r2)) :
  Calls Try.prog 45 #[.agg #[.slice A0_0 l0_0.length c0_0, .slice A0_1 l0_1.length c0_1]] w fun e w' => ∃ v0_ v1_ : Value, e = .returned (.agg #[v0_, v1_]) ∧ Kd.S k39 39 w' w.heap.size (fun k_ => some k_ ≠ (v1_ : Value).ownBlock) v0_ r1 ∧ Kd.R (Kd.int .i64) 2 w' w.heap.size (fun _ => True) v1_ r2 ∧ Below w.heap.size w w' := by
 have hu27 := Try.underlying27; have hu39 := Try.underlying39; have HR0_0 := Aside0.mk hr0_0; have HC0_0 := Aside0.mk hc0_0; clear hr0_0 hc0_0; have HR0_1 := Aside0.mk hr0_1; have HC0_1 := Aside0.mk hc0_1; clear hr0_1 hc0_1
 have HB := Aside0.mk (Below.refl w.heap.size w)
 have H : ((some (([] : List Int) : List Int)).bind fun y135 => (if y135.length + l0_1.length < 17592186044416 then (spec_l24CopySuite.l0 k 0 l0_0 l0_1 ([] : List (S39)) (y135 ++ l0_1)) else (none))) = some (r1, r2) := h
 clear h
 obtain ⟨y135, hy135⟩ : ∃ y_ : List Int, y_ = (([] : List Int)) := ⟨_, rfl⟩
 replace H : (if y135.length + l0_1.length < 17592186044416 then (spec_l24CopySuite.l0 k 0 l0_0 l0_1 ([] : List (S39)) (y135 ++ l0_1)) else (none)) = some (r1, r2) := by first | (rw [hy135]; with_reducible exact H) | (have H2_ := (Option.bind_some _ _).symm.trans H; rw [hy135]; with_reducible exact H2_) | (have H2_ := (Option.bind_some _ _).symm.trans H; with_reducible exact H2_) | with_reducible exact H | (rw [hy135]; exact H) | exact H
 have Ny135 := Aside0.mk hy135; clear hy135
 obtain ⟨c2, H⟩ := ifS_ H
 have LMc2 := Aside0.mk c2; clear c2
 obtain ⟨y138, hy138⟩ : ∃ y_ : List Int, y_ = (y135 ++ l0_1) := ⟨_, rfl⟩
 replace H : (spec_l24CopySuite.l0 k 0 l0_0 l0_1 ([] : List (S39)) y138) = some (r1, r2) := by first | (rw [hy138]; with_reducible exact H) | (have H2_ := (Option.bind_some _ _).symm.trans H; rw [hy138]; with_reducible exact H2_) | (have H2_ := (Option.bind_some _ _).symm.trans H; with_reducible exact H2_) | with_reducible exact H | (rw [hy138]; exact H) | exact H
 have Ny138 := Aside0.mk hy138; clear hy138; have H' := Aside0.mk H; clear H
 go_enter Try.func45, Try.ntmps45
 go_wp2_with (first | ((with_reducible refine gate_dst (N := 1) rfl ?_); refine box_event ?hg (N := 1) ?hd (cs := #[.slice A0_0 l0_0.length c0_0, .slice A0_1 l0_1.length c0_1]) (t := 27) ?hr ?_; (case hd => rfl); (case hg => rfl); (case hr => first | (go_simp; done) | (go_simp; rfl)); intro gb133 hg w3 hbox hb; have BK133 := Aside0.mk (hbox); have GW133 := gE_ HB hg; have GE133 := gE_ HB hg; replace HB := bS_ HB hb; clear hb hbox hg) | ((with_reducible refine gate_dst (N := 2) rfl ?_); refine box_event ?hg (N := 2) ?hd (cs := #[.slice none 0 0, .slice none 0 0]) (t := 27) ?hr ?_; (case hd => rfl); (case hg => rfl); (case hr => first | (go_simp; done) | (go_simp; rfl)); intro gb134 hg w4 hbox hb; have BK134 := Aside0.mk (hbox); have GW134 := gE_ HB hg; have GE134 := gE_ HB hg; replace HB := bS_ HB hb; have NB133_134 := nL_ BK133 hg; have NB134_133 := nG_ BK133 hg; replace BK133 := bB_ BK133 hb; clear hb hbox hg) | ((with_reducible refine gate_dst (N := 6) rfl ?_); refine Kd.R_lit (Kd.int .i64) _ 2 ?hg (N := 6) ?hd (xs := ([] : List Int)) (inner := []) (ok := fun _ => True) (okp := fun _ => True) ?hr ?hp (fun _ hk => hk) trivial (Below.refl _ _) (Nat.le_refl _) (by simp) ?_; (case hd => rfl); (case hg => rfl); (case hr => first | (go_simp; done) | (go_simp; rfl)); (case hp => exact (Reps.none _ _)); intro v136 w5 ho6 hb hg_ hnew_; clear hg_ hnew_; (first | rw [← Ny135.out] at ho6 | (simp only [Int.reduceToNat] at ho6; rw [← Ny135.out] at ho6)); have HO137 := rL_ ho6 HB; replace BK133 := bB_ BK133 hb; replace BK134 := bB_ BK134 hb; replace HB := bS_ HB hb; clear hb ho6; have hnb7 := NB133_134.out; have hnc7 := NB134_133.out; obtain ⟨hcz8_0, hcz8_1, hfz8_0, hfz8_1⟩ := cf2_ BK133) | ((with_reducible refine gate_builtin (b := .append) (xs := #[.tmp 6, .tmp 8]) rfl ?_); at_builtin; refine Kd.R_append_rows (Kd.int .i64) (w0 := w) w.heap.size rfl (.tmp 6) (.tmp 8) 25 2 (.int .i64 0) 8 rfl Try.underlying25 info2 rfl (by decide) (by omega) v136 y135 l0_1 _ _ _ (fun _ => True) (fun _ => False) rfl rfl ?aO ?aR (fun _ _ h => h) (fun _ h => h.elim) ?aF ?aB ?aS ?aL ?_; (case aR => repeat (first | exact (Kd.C_below HR0_1.out HB.out) | (with_reducible refine Kd.C_alloc ?_ _) | (with_reducible refine Kd.C_drewN ?_ _) | (with_reducible refine Kd.C_drew ?_))); (case aB => exact sABelo_5); (case aF => exact (fun _ _ => trivial)); (case aO => exact (rT_ HO137)); (case aS => exact (below_size sABelo_5)); (case aL => have := LMc2.out; omega); intro v139 w9 ho hb hg hat; rw [← Ny138.out] at ho; replace BK133 := Aside0.mk (blk_grown (g := gb133) (o := .cells #[.slice A0_0 l0_0.length c0_0, .slice A0_1 l0_1.length c0_1] 27 (0, 0)) (bT_ BK133) hg (Kd.R_ne HO137.out BK133.out (by decide))); replace BK134 := Aside0.mk (blk_grown (g := gb134) (o := .cells #[.slice none 0 0, .slice none 0 0] 27 (0, 0)) (bT_ BK134) hg (Kd.R_ne HO137.out BK134.out (by decide))); replace HB := Aside0.mk (hb); have HO140 := Aside0.mk (ho); clear HO137; clear ho hb hg hat; obtain ⟨Ao10, co10, eo10⟩ := Kd.R_slice HO140.out; subst eo10) | ((with_reducible refine gate_dst (N := 3) rfl ?_); refine box_event ?hg (N := 3) ?hd (cs := #[.slice none 0 0, .slice none 0 0]) (t := 27) ?hr ?_; (case hd => rfl); (case hg => rfl); (case hr => first | (go_simp; done) | (go_simp; rfl)); intro gb141 hg w11 hbox hb; replace HO140 := rB_ HO140 hb; have BK141 := Aside0.mk (hbox); have GW141 := gE_ HB hg; have GE141 := gE_ HB hg; replace HB := bS_ HB hb; have NB133_141 := nL_ BK133 hg; have NB141_133 := nG_ BK133 hg; replace BK133 := bB_ BK133 hb; have NB134_141 := nL_ BK134 hg; have NB141_134 := nG_ BK134 hg; replace BK134 := bB_ BK134 hb; clear hb hbox hg; have hnb12 := NB141_133.out; have hnc12 := NB133_141.out; have hnb13 := NB141_134.out; have hnc13 := NB134_141.out; obtain ⟨hcz14_0, hcz14_1, hfz14_0, hfz14_1⟩ := cf2_ BK141))
 go_loopg [4] k (fun kq v4 w' => ∃ (x4_1 : Int) (x142000_1 : List (S39)) (u142000 : Value), v4 = .int .i64 x4_1 ∧ Aside0 (spec_l24CopySuite.l0 kq x4_1 l0_0 l0_1 x142000_1 y138 = some (r1, r2)) ∧ Aside0 (kq ≤ k) ∧ Aside0 (Kd.S k39 39 w' w.heap.size (fun k_ => some k_ ≠ ((.slice Ao10 y138.length co10) : Value).ownBlock) u142000 x142000_1) ∧ Aside0 (Kd.R (Kd.int .i64) 2 w' w.heap.size (fun _ => True) (.slice Ao10 y138.length co10) y138) ∧ Aside0 (w'.heap[gb133]? = some (.cells #[(.slice A0_0 l0_0.length c0_0), (.slice A0_1 l0_1.length c0_1)] 27 (0, 0))) ∧ Aside0 (w'.heap[gb134]? = some (.cells #[(.slice none 0 0), (.slice none 0 0)] 27 (0, 0))) ∧ Aside0 (w'.heap[gb141]? = some (.cells #[u142000, (.slice Ao10 y138.length co10)] 27 (0, 0))) ∧ Aside0 (Below w.heap.size w w'))
 case atStart => exact ⟨(0), (([] : List (S39))), (.slice none 0 0), (by first | rfl | (simp; done) | (simp [*]; done)), H', ⟨Nat.le_refl _⟩, ⟨by first | exact Kd.S_nil _ _ _ _ _ | exact Kd.N_nil _ _ _ _ _ | exact Kd.V_nil _ _ _ _ _ | exact Kd.Q_nil _ _ _ _ _ | exact Kd.R_nil _ _ _ _ _⟩, ⟨rFM_ HO140 BK141⟩, ⟨bF_ BK133 NB133_141⟩, ⟨bF_ BK134 NB134_141⟩, ⟨bP_ BK141⟩, ⟨sABelo_5⟩⟩
 case round =>
  clear H'; (try clear c2); (try clear hcz14_0); (try clear hcz14_1); (try clear hcz8_0); (try clear hcz8_1); (try clear hfz14_0); (try clear hfz14_1); (try clear hfz8_0); (try clear hfz8_1)
  obtain ⟨x4_1, x142000_1, u142000, rfl, HA, HK1, HO_142000, HO_142001, BK133, BK134, BK141, HB⟩ := hrel
  cases gk with
  | zero => exact absurd HA.out (by simp [spec_l24CopySuite.l0])
  | succ k1 =>
   have H := HA.out; clear HA
   simp only [spec_l24CopySuite.l0] at H
   by_cases c15 : x4_1 < (l0_0.length : Int)
   ·rw [if_pos c15] at H
    have c15b0 : decide (x4_1 < (l0_0.length : Int)) = true := decide_eq_true c15
    clear c15
    obtain ⟨c16, H⟩ := ifS_ H
    have c16b0 : decide (0 ≤ x4_1) = true := decide_eq_true c16
    clear c16
    obtain ⟨y144, hy144⟩ : ∃ y_ : List Int, y_ = (([] : List Int)) := ⟨_, rfl⟩
    replace H : (if y144.length + ((rd_T39 l0_0 x4_1).f0).length < 17592186044416 then (if x142000_1.length < 2932031007402 then (spec_l24CopySuite.l0 k1 (wrap64 (x4_1 + 1)) l0_0 l0_1 (x142000_1 ++ [(⟨(y144 ++ ((rd_T39 l0_0 x4_1).f0)), (rd_T39 l0_0 x4_1).f1, (rd_T39 l0_0 x4_1).f2, (rd_T39 l0_0 x4_1).f3⟩ : S39)]) y138) else (none)) else (none)) = some (r1, r2) := by first | (rw [hy144]; with_reducible exact H) | (have H2_ := (Option.bind_some _ _).symm.trans H; rw [hy144]; with_reducible exact H2_) | (have H2_ := (Option.bind_some _ _).symm.trans H; with_reducible exact H2_) | with_reducible exact H | (rw [hy144]; exact H) | exact H
    have Ny144 := Aside0.mk hy144; clear hy144
    obtain ⟨c17, H⟩ := ifS_ H
    have LMc17 := Aside0.mk c17; clear c17
    obtain ⟨y147, hy147⟩ : ∃ y_ : List Int, y_ = (y144 ++ ((rd_T39 l0_0 x4_1).f0)) := ⟨_, rfl⟩
    replace H : (if x142000_1.length < 2932031007402 then (spec_l24CopySuite.l0 k1 (wrap64 (x4_1 + 1)) l0_0 l0_1 (x142000_1 ++ [(⟨y147, (rd_T39 l0_0 x4_1).f1, (rd_T39 l0_0 x4_1).f2, (rd_T39 l0_0 x4_1).f3⟩ : S39)]) y138) else (none)) = some (r1, r2) := by first | (rw [hy147]; with_reducible exact H) | (have H2_ := (Option.bind_some _ _).symm.trans H; rw [hy147]; with_reducible exact H2_) | (have H2_ := (Option.bind_some _ _).symm.trans H; with_reducible exact H2_) | with_reducible exact H | (rw [hy147]; exact H) | exact H
    have Ny147 := Aside0.mk hy147; clear hy147
    obtain ⟨c18, H⟩ := ifS_ H
    have LMc18 := Aside0.mk c18; clear c18
    obtain ⟨y150, hy150⟩ : ∃ y_ : List (S39), y_ = (x142000_1 ++ [(⟨y147, (rd_T39 l0_0 x4_1).f1, (rd_T39 l0_0 x4_1).f2, (rd_T39 l0_0 x4_1).f3⟩ : S39)]) := ⟨_, rfl⟩
    replace H : (spec_l24CopySuite.l0 k1 (wrap64 (x4_1 + 1)) l0_0 l0_1 y150 y138) = some (r1, r2) := by first | (rw [hy150]; with_reducible exact H) | (have H2_ := (Option.bind_some _ _).symm.trans H; rw [hy150]; with_reducible exact H2_) | (have H2_ := (Option.bind_some _ _).symm.trans H; with_reducible exact H2_) | with_reducible exact H | (rw [hy150]; exact H) | exact H
    have Ny150 := Aside0.mk hy150; clear hy150; have H' := Aside0.mk H; clear H; have hnb19 := NB133_134.out; have hnc19 := NB134_133.out; have hnb20 := NB133_141.out; have hnc20 := NB141_133.out
    obtain ⟨hcz21_0, hcz21_1, hfz21_0, hfz21_1⟩ := cf2_ BK133
    have p142 : 0 ≤ (x4_1 : Int) := of_decide_eq_true (by first | (with_reducible assumption) | assumption)
    have q142 : x4_1 < (l0_0.length : Int) := of_decide_eq_true (by first | (with_reducible assumption) | assumption)
    obtain ⟨ad142, A142_0, c142_0, e142, hx142_0, hx142_1, hx142_2, hx142_3, hl142_0, hi142_0⟩ := at_T39 HR0_0.out x4_1 p142 q142
    cases e142
    replace hx142_0 := (HB.out.cell (World.block_lt_of_cell? w _ hx142_0)).trans hx142_0
    replace hx142_1 := (HB.out.cell (World.block_lt_of_cell? w _ hx142_1)).trans hx142_1
    replace hx142_2 := (HB.out.cell (World.block_lt_of_cell? w _ hx142_2)).trans hx142_2
    replace hx142_3 := (HB.out.cell (World.block_lt_of_cell? w _ hx142_3)).trans hx142_3
    have HR142_0 := Aside0.mk hi142_0; have HC142_0 := Aside0.mk hl142_0; clear hi142_0 hl142_0; replace p142 := eq_true p142; replace q142 := eq_true q142
    go_wp2_with (first | ((with_reducible refine gate_dst (N := 5) rfl ?_); refine box_event ?hg (N := 5) ?hd (cs := #[.slice none 0 0, .int .i64 0, .int .i64 0, .int .i64 0]) (t := 39) ?hr ?_; (case hd => rfl); (case hg => rfl); (case hr => first | (go_simp; done) | (go_simp; rfl)); intro gb143 hg w22 hbox hb; replace HO_142000 := Aside0.mk (Kd.S_below (Kd.S_elderB (sT_ HO_142000) gb143 (Nat.le_of_eq hg.symm)) hb); replace HO_142001 := rB_ HO_142001 hb; have BK143 := Aside0.mk (hbox); have GW143 := gE_ HB hg; have GE143 := gE_ HB hg; replace HB := bS_ HB hb; have NB133_143 := nL_ BK133 hg; have NB143_133 := nG_ BK133 hg; replace BK133 := bB_ BK133 hb; have NB134_143 := nL_ BK134 hg; have NB143_134 := nG_ BK134 hg; replace BK134 := bB_ BK134 hb; have NB141_143 := nL_ BK141 hg; have NB143_141 := nG_ BK141 hg; replace BK141 := bB_ BK141 hb; clear hb hbox hg; have hnb23 := NB143_133.out; have hnc23 := NB133_143.out; have hnb24 := NB143_134.out; have hnc24 := NB134_143.out; have hnb25 := NB143_141.out; have hnc25 := NB141_143.out; obtain ⟨hcz26_0, hcz26_1, hcz26_2, hcz26_3, hfz26_0, hfz26_1, hfz26_2, hfz26_3⟩ := cf4_ BK143) | ((with_reducible refine gate_dst (N := 23) rfl ?_); refine Kd.R_lit (Kd.int .i64) _ 2 ?hg (N := 23) ?hd (xs := ([] : List Int)) (inner := []) (ok := fun _ => True) (okp := fun _ => True) ?hr ?hp (fun _ hk => hk) trivial (Below.refl _ _) (Nat.le_refl _) (by simp) ?_; (case hd => rfl); (case hg => rfl); (case hr => first | (go_simp; done) | (go_simp; rfl)); (case hp => exact (Reps.none _ _)); intro v145 w27 ho28 hb hg_ hnew_; clear hg_ hnew_; (first | rw [← Ny144.out] at ho28 | (simp only [Int.reduceToNat] at ho28; rw [← Ny144.out] at ho28)); replace HO_142000 := Aside0.mk (Kd.S_elder' (sFN0_ HO_142000) (Kd.R_base ho28) hb); have HO146 := Aside0.mk (Kd.R_lower (rN_ ho28 HO_142001) (below_size sABelo_5)); replace HO_142001 := rEF_ HO_142001 BK143 ho28 hb; replace BK133 := bBF_ BK133 NB133_143 hb; replace BK134 := bBF_ BK134 NB134_143 hb; replace BK141 := bBF_ BK141 NB141_143 hb; replace BK143 := Aside0.mk (blk_below (g := gb143) (o := .cells #[.slice A142_0 ((rd_T39 l0_0 x4_1).f0).length c142_0, .int .i64 ((rd_T39 l0_0 x4_1).f1), .int .i64 ((rd_T39 l0_0 x4_1).f2), .int .i64 ((rd_T39 l0_0 x4_1).f3)] 39 (0, 0)) (bP_ BK143) hb); replace HB := Aside0.mk (below_step sABelo_5 hb); clear hb ho28; obtain ⟨hcz29_0, hcz29_1, hcz29_2, hcz29_3, hfz29_0, hfz29_1, hfz29_2, hfz29_3⟩ := cf4_ BK143) | ((with_reducible refine gate_builtin (b := .append) (xs := #[.tmp 23, .tmp 25]) rfl ?_); at_builtin; refine Kd.R_append_rows (Kd.int .i64) (w0 := w) w.heap.size rfl (.tmp 23) (.tmp 25) 25 2 (.int .i64 0) 8 rfl Try.underlying25 info2 rfl (by decide) (by omega) v145 y144 ((rd_T39 l0_0 x4_1).f0) _ _ _ (fun k_ => some k_ ≠ (.slice Ao10 y138.length co10 : Value).ownBlock) (fun _ => False) rfl rfl ?aO ?aR (fun _ _ h => h) (fun _ h => h.elim) ?aF ?aB ?aS ?aL ?_; (case aR => repeat (first | exact (Kd.C_below HR142_0.out HB.out) | (with_reducible refine Kd.C_alloc ?_ _) | (with_reducible refine Kd.C_drewN ?_ _) | (with_reducible refine Kd.C_drew ?_))); (case aB => exact sABelo_5); (case aF => exact (fun k_ hk => Kd.fresh' (rLt_ HO_142001) k_ hk)); (case aO => exact (rM_ HO146)); (case aS => exact (below_size sABelo_5)); (case aL => have := LMc17.out; omega); intro v148 w30 ho hb hg hat; rw [← Ny147.out] at ho; replace HO_142000 := Aside0.mk (Kd.S_after (ok := (fun k_ => some k_ ≠ (.slice Ao10 y138.length co10 : Value).ownBlock ∧ k_ ≠ gb143)) (sT_ HO_142000) hg hat); replace HO_142001 := Aside0.mk (Kd.R_after (ok := (fun _ => True)) (rT_ HO_142001) hg hat); replace BK133 := Aside0.mk (blk_grown (g := gb133) (o := .cells #[.slice (some ad142) l0_0.length c0_0, .slice A0_1 l0_1.length c0_1] 27 (0, 0)) (bT_ BK133) hg (Kd.R_ne HO146.out BK133.out (by decide))); replace BK134 := Aside0.mk (blk_grown (g := gb134) (o := .cells #[.slice none 0 0, .slice none 0 0] 27 (0, 0)) (bT_ BK134) hg (Kd.R_ne HO146.out BK134.out (by decide))); replace BK141 := Aside0.mk (blk_grown (g := gb141) (o := .cells #[u142000, .slice Ao10 y138.length co10] 27 (0, 0)) (bT_ BK141) hg (Kd.R_ne HO146.out BK141.out (by decide))); replace BK143 := Aside0.mk (blk_grown (g := gb143) (o := .cells #[.slice A142_0 ((rd_T39 l0_0 x4_1).f0).length c142_0, .int .i64 ((rd_T39 l0_0 x4_1).f1), .int .i64 ((rd_T39 l0_0 x4_1).f2), .int .i64 ((rd_T39 l0_0 x4_1).f3)] 39 (0, 0)) (bT_ BK143) hg (Kd.R_ne HO146.out BK143.out (by decide))); replace HB := Aside0.mk (hb); have HO149 := Aside0.mk (ho); clear HO146; clear ho hb hg hat; obtain ⟨Ao31, co31, eo31⟩ := Kd.R_slice HO149.out; subst eo31; obtain ⟨hcz32_0, hcz32_1, hcz32_2, hcz32_3, hfz32_0, hfz32_1, hfz32_2, hfz32_3⟩ := cf4_ BK143) | ((with_reducible refine gate_store (t := 25) (p := 27) rfl ?_); refine store_event (t := 25) (p := 27) (v := ?vo_w33) (w1 := (w30.setCell ⟨gb143, 0, none⟩ (.slice Ao31 y147.length co31))) ?hg ?ho ?hn ?hr ?_; (case ho => rfl); (case hg => rfl); (case hn => rfl); (case hr => first | (go_simp; done) | (go_simp; rfl)); intro w33 hw; have n0_ : Aside0 (Kd.S k39 39 w33 w.heap.size (fun k_ => some k_ ≠ (.slice Ao10 y138.length co10 : Value).ownBlock ∧ some k_ ≠ (.slice Ao31 y147.length co31 : Value).ownBlock ∧ k_ ≠ gb143) u142000 x142000_1) := ⟨(by rw [hw]; exact (by (with_reducible repeat (first | apply Kd.S_alloc | apply Kd.S_drewN | apply Kd.S_drew)); exact Kd.S_mono (Kd.S_far (p := ⟨gb143, 0, none⟩) (Kd.S_mono HO_142000.out (fun k_ hk => (⟨hk, hk.1.2⟩ : _ ∧ k_ ≠ gb143))) (fun _ hk => hk.2) (.slice Ao31 y147.length co31)) (fun _ hk => ⟨hk.1.1.1, ⟨hk.1.2, hk.1.1.2⟩⟩)))⟩; have n1_ : Aside0 (Kd.R (Kd.int .i64) 2 w33 w.heap.size (fun k_ => some k_ ≠ (.slice Ao31 y147.length co31 : Value).ownBlock) (.slice Ao10 y138.length co10) y138) := ⟨(by rw [hw]; exact (by (with_reducible repeat (first | apply Kd.R_alloc | apply Kd.R_drewN | apply Kd.R_drew)); exact Kd.R_mono (Kd.R_far (p := ⟨gb143, 0, none⟩) (Kd.R_types HO_142001.out BK143.out (by decide)) (fun _ hk => hk.2) (.slice Ao31 y147.length co31)) (fun _ hk => hk.1.2)))⟩; have n2_ : Aside0 (Kd.R (Kd.int .i64) 2 w33 w.heap.size (fun k_ => some k_ ≠ (.slice Ao10 y138.length co10 : Value).ownBlock) (.slice Ao31 y147.length co31) y147) := ⟨(by rw [hw]; exact (rF_ HO149 BK143))⟩; have n3_ : Aside0 (w33.heap[gb133]? = some (.cells #[.slice (some ad142) l0_0.length c0_0, .slice A0_1 l0_1.length c0_1] 27 (0, 0))) := ⟨(by rw [hw]; exact (bF_ BK133 NB133_143))⟩; have n4_ : Aside0 (w33.heap[gb134]? = some (.cells #[.slice none 0 0, .slice none 0 0] 27 (0, 0))) := ⟨(by rw [hw]; exact (bF_ BK134 NB134_143))⟩; have n5_ : Aside0 (w33.heap[gb141]? = some (.cells #[u142000, .slice Ao10 y138.length co10] 27 (0, 0))) := ⟨(by rw [hw]; exact (bF_ BK141 NB141_143))⟩; have n6_ : Aside0 (w33.heap[gb143]? = some (.cells #[.slice Ao31 y147.length co31, .int .i64 ((rd_T39 l0_0 x4_1).f1), .int .i64 ((rd_T39 l0_0 x4_1).f2), .int .i64 ((rd_T39 l0_0 x4_1).f3)] 39 (0, 0))) := ⟨(by rw [hw]; exact (bP_ BK143))⟩; have n7_ : Aside0 (Below w.heap.size w w33) := ⟨(by rw [hw]; exact sABelo_5)⟩; clear hw; clear HO_142000; clear HO_142001; clear HO149; clear BK133; clear BK134; clear BK141; clear BK143; clear HB; have HO_142000 := n0_; have HO_142001 := n1_; have HO149 := n2_; have BK133 := n3_; have BK134 := n4_; have BK141 := n5_; have BK143 := n6_; have HB := n7_; clear n0_ n1_ n2_ n3_ n4_ n5_ n6_ n7_; have hnb34 := NB141_134.out; have hnc34 := NB134_141.out; obtain ⟨hcz35_0, hcz35_1, hfz35_0, hfz35_1⟩ := cf2_ BK141; obtain ⟨hcz36_0, hcz36_1, hcz36_2, hcz36_3, hfz36_0, hfz36_1, hfz36_2, hfz36_3⟩ := cf4_ BK143) | ((with_reducible refine gate_builtin (b := .append) (xs := #[.tmp 29, .tmp 31]) rfl ?_); at_builtin; refine Kd.S_append k39 (w0 := w) w.heap.size rfl (.tmp 29) (.tmp 31) 24 39 (.agg #[(.slice none 0 0), (.int .i64 0), (.int .i64 0), (.int .i64 0)]) 48 rfl Try.underlying24 info39 rfl (by decide) (by omega) u142000 x142000_1 (⟨y147, (rd_T39 l0_0 x4_1).f1, (rd_T39 l0_0 x4_1).f2, (rd_T39 l0_0 x4_1).f3⟩ : S39) [.slice Ao31 y147.length co31, .int .i64 ((rd_T39 l0_0 x4_1).f1), .int .i64 ((rd_T39 l0_0 x4_1).f2), .int .i64 ((rd_T39 l0_0 x4_1).f3)] (fun k_ => some k_ ≠ (.slice Ao10 y138.length co10 : Value).ownBlock ∧ k_ ≠ gb143) (fun k_ => some k_ = (.slice Ao31 y147.length co31 : Value).ownBlock) rfl rfl ?aP (fun k_ hk_ => ((Kd.R_mono (ok' := fun k_ => ((fun k_ => some k_ ≠ (.slice Ao10 y138.length co10 : Value).ownBlock ∧ k_ ≠ gb143)) k_ ∧ some k_ ≠ (u142000 : Value).ownBlock) (Kd.R_types (Kd.R_apart' (HO149.out) (Kd.S_typed HO_142000.out) (by decide)) BK143.out (by decide)) (fun k_ hk => ⟨⟨hk.1.1, hk.2⟩, hk.1.2⟩))).1 k_ hk_.symm) ?aF ?aO ?aB ?aS ?aL ?_; (case aP => exact k39_mkM _ _ _ (⟨y147, (rd_T39 l0_0 x4_1).f1, (rd_T39 l0_0 x4_1).f2, (rd_T39 l0_0 x4_1).f3⟩ : S39) (Kd.R_mono (Kd.R_tight rfl (Kd.R_mono (ok' := fun k_ => ((fun k_ => some k_ ≠ (.slice Ao10 y138.length co10 : Value).ownBlock ∧ k_ ≠ gb143)) k_ ∧ some k_ ≠ (u142000 : Value).ownBlock) (Kd.R_types (Kd.R_apart' (HO149.out) (Kd.S_typed HO_142000.out) (by decide)) BK143.out (by decide)) (fun k_ hk => ⟨⟨hk.1.1, hk.2⟩, hk.1.2⟩))) (fun _ h_ => h_))); (case aB => exact sABelo_5); (case aF => exact (fun k_ hk => ⟨Kd.fresh' (rLt_ HO_142001) k_ hk, Kd.freshB (g := gb143) (o := .cells #[.slice Ao31 y147.length co31, .int .i64 ((rd_T39 l0_0 x4_1).f1), .int .i64 ((rd_T39 l0_0 x4_1).f2), .int .i64 ((rd_T39 l0_0 x4_1).f3)] 39 (0, 0)) (bT_ BK143) k_ hk⟩)); (case aO => exact (by (with_reducible repeat (first | apply Kd.S_alloc | apply Kd.S_drewN | apply Kd.S_drew)); exact Kd.S_mono HO_142000.out (fun k_ hk => ⟨⟨hk.1, hk.2.2⟩, fun e_ => hk.2.1 e_⟩))); (case aS => exact (below_size sABelo_5)); (case aL => have := LMc18.out; omega); intro v151 w37 ho hb hg hat; rw [← Ny150.out] at ho; replace HO_142001 := Aside0.mk (Kd.R_over' (rT_ HO_142001) (Kd.S_typed (sT_ HO_142000)) (by decide) hg); replace BK133 := Aside0.mk (blk_grown (g := gb133) (o := .cells #[.slice (some ad142) l0_0.length c0_0, .slice A0_1 l0_1.length c0_1] 27 (0, 0)) (bT_ BK133) hg (Kd.S_ne HO_142000.out BK133.out (by decide))); replace BK134 := Aside0.mk (blk_grown (g := gb134) (o := .cells #[.slice none 0 0, .slice none 0 0] 27 (0, 0)) (bT_ BK134) hg (Kd.S_ne HO_142000.out BK134.out (by decide))); replace BK141 := Aside0.mk (blk_grown (g := gb141) (o := .cells #[u142000, .slice Ao10 y138.length co10] 27 (0, 0)) (bT_ BK141) hg (Kd.S_ne HO_142000.out BK141.out (by decide))); replace BK143 := Aside0.mk (blk_grown (g := gb143) (o := .cells #[.slice Ao31 y147.length co31, .int .i64 ((rd_T39 l0_0 x4_1).f1), .int .i64 ((rd_T39 l0_0 x4_1).f2), .int .i64 ((rd_T39 l0_0 x4_1).f3)] 39 (0, 0)) (bT_ BK143) hg (Kd.S_away HO_142000.out (fun _ hk => hk.2.2))); replace HB := Aside0.mk (hb); have HO152 := Aside0.mk (ho); clear HO_142000 HO149; clear ho hb hg hat; obtain ⟨Ao38, co38, eo38⟩ := Kd.S_slice HO152.out; subst eo38; obtain ⟨hcz39_0, hcz39_1, hfz39_0, hfz39_1⟩ := cf2_ BK141))
    go_roundg k1
    case measure => have := HK1.out; omega
    case rel => exact ⟨(wrap64 (x4_1 + 1)), (y150), (.slice Ao38 y150.length co38), (by first | rfl | (simp; done) | (simp [*]; done)), H', ⟨by have := HK1.out; omega⟩, ⟨sFM_ HO152 BK141⟩, ⟨rFM_ HO_142001 BK141⟩, ⟨bF_ BK133 NB133_141⟩, ⟨bF_ BK134 NB134_141⟩, ⟨bP_ BK141⟩, ⟨sABelo_5⟩⟩
   ·rw [if_neg c15] at H
    have c15b0 : decide (x4_1 < (l0_0.length : Int)) = false := decide_eq_false c15
    clear c15
    simp only [Option.some.injEq, Prod.mk.injEq] at H
    obtain ⟨rfl, rfl⟩ := H
    have hnb40 := NB133_134.out; have hnc40 := NB134_133.out; have hnb41 := NB133_141.out; have hnc41 := NB141_133.out
    obtain ⟨hcz42_0, hcz42_1, hfz42_0, hfz42_1⟩ := cf2_ BK133; have hnb43 := NB141_134.out; have hnc43 := NB134_141.out
    obtain ⟨hcz44_0, hcz44_1, hfz44_0, hfz44_1⟩ := cf2_ BK141
    obtain ⟨Ao45, co45, eo45⟩ := Kd.S_slice HO_142000.out
    subst eo45
    obtain ⟨hcz46_0, hcz46_1, hfz46_0, hfz46_1⟩ := cf2_ BK134
    go_wp2
    refine bodyPost_ret (results_cell_row rfl _ _ gb134 27 #[.slice Ao45 x142000_1.length co45, .slice Ao10 y138.length co10] (0, 0) _ rfl (bP_ BK134) Try.underlying27 rfl (by kernel_rfl)) rfl ?_
    exact ⟨_, _, by first | rfl | (simp [errW_none, errW_some] <;> rfl) | (simp [*, errW_none, errW_some] <;> rfl), by (with_reducible repeat (first | apply Kd.S_alloc | apply Kd.S_drewN | apply Kd.S_drew)); exact Kd.S_mono (Kd.S_far (p := ⟨gb134, 1, none⟩) (Kd.S_far (p := ⟨gb134, 0, none⟩) (Kd.S_types HO_142000.out BK134.out (by decide)) (fun _ hk => hk.2) (.slice Ao45 x142000_1.length co45)) (fun _ hk => hk.2) (.slice Ao10 y138.length co10)) (fun _ hk => hk.1), by (with_reducible repeat (first | apply Kd.R_alloc | apply Kd.R_drewN | apply Kd.R_drew)); exact Kd.R_mono (Kd.R_far (p := ⟨gb134, 1, none⟩) (Kd.R_far (p := ⟨gb134, 0, none⟩) (Kd.R_types HO_142001.out BK134.out (by decide)) (fun _ hk => hk.2) (.slice Ao45 x142000_1.length co45)) (fun _ hk => hk.2) (.slice Ao10 y138.length co10)) (fun _ hk => trivial), sABelo_5⟩

/-! ### spec_l24Copy: function 59 -/
def spec_l24Copy.f (k : Nat) (l0_0 : List (S39)) (l0_1 : List Int) (a0_2 : Int) (l0_3 : List (S43)) : Option ((List (S39)) × List Int × Int × (List (S43))) := (spec_l24CopySuite.f k l0_0 l0_1).bind fun bt155 => ((some (([] : List (S43)) : List (S43))).bind fun y161 => (if y161.length + l0_3.length < 8796093022208 then (some (bt155.1, bt155.2, a0_2, (y161 ++ l0_3))) else (none)))
theorem spec_l24Copy.mono : ∀ a0 a1 a2 a3 k, LeO (spec_l24Copy.f k a0 a1 a2 a3) (spec_l24Copy.f (k + 1) a0 a1 a2 a3) := by
 intro a0 a1 a2 a3 k
 unfold spec_l24Copy.f
 repeat' first
   | (with_reducible exact spec_l24CopySuite.mono _ _ _)
   | (with_reducible exact LeO.refl _)
   | (with_reducible exact LeO.none _)
   | (with_reducible refine LeO.ite ?_ ?_)
   | (with_reducible refine LeO.bind ?_ (fun _ => ?_))
   | exact spec_l24CopySuite.mono _ _ _
   | exact LeO.none _
   | refine LeO.ite ?_ ?_
   | refine LeO.bind ?_ (fun _ => ?_)
def spec_l24Copy.T1 : Bool × List (List Nat × List Nat) := (true, [([], []), ([0], [0]), ([1], [1]), ([], []), ([3], [3]), ([], []), ([], []), ([6], [6]), ([5, 7, 2], [5, 7]), ([2, 4, 8], [2, 4, 8]), ([9, 8, 0, 1, 2, 3, 4, 5, 6, 7, 8, 9], [9])])
def spec_l24Copy.B1 : List Nat := [0, 1, 3, 0, 8, 0, 0, 64, 231, 511, 1023]
theorem spec_l24Copy.tab1 : rtab .any (opsOf Try.f59 1) = spec_l24Copy.T1 := by kernel_rfl
theorem spec_l24Copy.bits1 : waitsOk spec_l24Copy.T1.2 spec_l24Copy.B1 = true := by kernel_rfl
set_option maxHeartbeats 8000000 in
set_option maxRecDepth 100000 in
theorem spec_l24Copy.calls (k : Nat) (A0_0 : Option Addr) (c0_0 : Nat) (l0_0 : List (S39)) (A0_1 : Option Addr) (c0_1 : Nat) (l0_1 : List Int) (a0_2 : Int) (A0_3 : Option Addr) (c0_3 : Nat) (l0_3 : List (S43)) (r1 : List (S39)) (r2 : List Int) (r3 : Int) (r4 : List (S43)) (w : World) (hr0_0 : Kd.C k39 w A0_0 l0_0.length l0_0) (hc0_0 : l0_0.length ≤ c0_0) (hr0_1 : Kd.C (Kd.int .i64) w A0_1 l0_1.length l0_1) (hc0_1 : l0_1.length ≤ c0_1) (hr0_3 : Kd.C k43 w A0_3 l0_3.length l0_3) (hc0_3 : l0_3.length ≤ c0_3) (h : spec_l24Copy.f k l0_0 l0_1 a0_2 l0_3 = some (r1, r2, r3, r4)) :
  Calls Try.prog 59 #[.agg #[.slice A0_0 l0_0.length c0_0, .slice A0_1 l0_1.length c0_1, .int .i64 a0_2, .slice A0_3 l0_3.length c0_3]] w fun e w' => ∃ v0_ v1_ v3_ : Value, e = .returned (.agg #[v0_, v1_, .int .i64 r3, v3_]) ∧ Kd.S k39 39 w' w.heap.size (fun k_ => some k_ ≠ (v1_ : Value).ownBlock) v0_ r1 ∧ Kd.R (Kd.int .i64) 2 w' w.heap.size (fun _ => True) v1_ r2 ∧ Kd.R k43 43 w' w.heap.size (fun _ => True) v3_ r4 ∧ Below w.heap.size w w' := by
 have hu31 := Try.underlying31; have hu27 := Try.underlying27; have HR0_0 := Aside0.mk hr0_0; have HC0_0 := Aside0.mk hc0_0; clear hr0_0 hc0_0; have HR0_1 := Aside0.mk hr0_1; have HC0_1 := Aside0.mk hc0_1; clear hr0_1 hc0_1; have HR0_3 := Aside0.mk hr0_3; have HC0_3 := Aside0.mk hc0_3; clear hr0_3 hc0_3
 have HB := Aside0.mk (Below.refl w.heap.size w)
 have H : ((spec_l24CopySuite.f k l0_0 l0_1).bind fun bt155 => ((some (([] : List (S43)) : List (S43))).bind fun y161 => (if y161.length + l0_3.length < 8796093022208 then (some (bt155.1, bt155.2, a0_2, (y161 ++ l0_3))) else (none)))) = some (r1, r2, r3, r4) := h
 clear h; replace H := Option.bind_eq_some_iff.mp H
 obtain ⟨⟨t155, t158⟩, A20, H⟩ := H
 replace H : ((some (([] : List (S43)) : List (S43))).bind fun y161 => (if y161.length + l0_3.length < 8796093022208 then (some (t155, t158, a0_2, (y161 ++ l0_3))) else (none))) = some (r1, r2, r3, r4) := H
 have A2 := Aside0.mk A20; clear A20
 obtain ⟨y161, hy161⟩ : ∃ y_ : List (S43), y_ = (([] : List (S43))) := ⟨_, rfl⟩
 replace H : (if y161.length + l0_3.length < 8796093022208 then (some (t155, t158, a0_2, (y161 ++ l0_3))) else (none)) = some (r1, r2, r3, r4) := by first | (rw [hy161]; with_reducible exact H) | (have H2_ := (Option.bind_some _ _).symm.trans H; rw [hy161]; with_reducible exact H2_) | (have H2_ := (Option.bind_some _ _).symm.trans H; with_reducible exact H2_) | with_reducible exact H | (rw [hy161]; exact H) | exact H
 have Ny161 := Aside0.mk hy161; clear hy161
 obtain ⟨c3, H⟩ := ifS_ H
 have LMc3 := Aside0.mk c3; clear c3
 obtain ⟨y164, hy164⟩ : ∃ y_ : List (S43), y_ = (y161 ++ l0_3) := ⟨_, rfl⟩
 replace H : (some (t155, t158, a0_2, y164)) = some (r1, r2, r3, r4) := by first | (rw [hy164]; with_reducible exact H) | (have H2_ := (Option.bind_some _ _).symm.trans H; rw [hy164]; with_reducible exact H2_) | (have H2_ := (Option.bind_some _ _).symm.trans H; with_reducible exact H2_) | with_reducible exact H | (rw [hy164]; exact H) | exact H
 have Ny164 := Aside0.mk hy164; clear hy164
 simp only [Option.some.injEq, Prod.mk.injEq] at H
 obtain ⟨rfl, rfl, rfl, rfl⟩ := H
 go_enter Try.func59, Try.ntmps59
 try go_wp2_with (first | ((with_reducible refine gate_dst (N := 1) rfl ?_); refine box_event ?hg (N := 1) ?hd (cs := #[.slice A0_0 l0_0.length c0_0, .slice A0_1 l0_1.length c0_1, .int .i64 a0_2, .slice A0_3 l0_3.length c0_3]) (t := 31) ?hr ?_; (case hd => rfl); (case hg => rfl); (case hr => first | (go_simp; done) | (go_simp; rfl)); intro gb153 hg w4 hbox hb; have BK153 := Aside0.mk (hbox); have GW153 := gE_ HB hg; have GE153 := gE_ HB hg; replace HB := bS_ HB hb; clear hb hbox hg) | ((with_reducible refine gate_dst (N := 2) rfl ?_); refine box_event ?hg (N := 2) ?hd (cs := #[.slice none 0 0, .slice none 0 0, .int .i64 0, .slice none 0 0]) (t := 31) ?hr ?_; (case hd => rfl); (case hg => rfl); (case hr => first | (go_simp; done) | (go_simp; rfl)); intro gb154 hg w5 hbox hb; have BK154 := Aside0.mk (hbox); have GW154 := gE_ HB hg; have GE154 := gE_ HB hg; replace HB := bS_ HB hb; have NB153_154 := nL_ BK153 hg; have NB154_153 := nG_ BK153 hg; replace BK153 := bB_ BK153 hb; clear hb hbox hg))
 replace BK153 := Aside0.mk (blk_drew BK153.out)
 replace BK154 := Aside0.mk (blk_drew BK154.out)
 replace HB := Aside0.mk (below_drew1 HB.out)
 refine start_ (n := 11) (S := fun w' => w'.cell? ⟨gb153, 0, none⟩ = some (.slice A0_0 l0_0.length c0_0) ∧ w'.cell? ⟨gb153, 1, none⟩ = some (.slice A0_1 l0_1.length c0_1) ∧ w'.cell? ⟨gb153, 2, none⟩ = some (.int .i64 a0_2) ∧ w'.cell? ⟨gb153, 3, none⟩ = some (.slice A0_3 l0_3.length c0_3)) (ds := []) #[false, false, false, false, false, false, false, false, false, false, false] (by kernel_rfl) rfl rfl ⟨(blk_cell BK153.out 0).trans rfl, (blk_cell BK153.out 1).trans rfl, (blk_cell BK153.out 2).trans rfl, (blk_cell BK153.out 3).trans rfl⟩ (fun hHeld => ?_); refine with_tabW spec_l24Copy.tab1 spec_l24Copy.bits1 (fun HT_ HW_ => ?_)
 generalize w5.drew = w6 at BK153 BK154 HB hHeld ⊢
 refine pT_ 0 (some 3) #[true, false, false, false, false, false, false, false, false, false, false] HT_ ?_
 refine pT_ 3 (some 6) #[true, false, false, true, false, false, false, false, false, false, false] HT_ ?_
 refine pT_ 6 (some 9) #[true, false, false, true, false, false, true, false, false, false, false] HT_ ?_
 refine tT_ 1 (some 4) #[true, true, false, true, false, false, true, false, false, false, false] HT_ HW_ hHeld ?_ (hy := by rintro w' ⟨s0, s1, s2, s3⟩; go_simp; with_reducible rfl)
 refine tT_ 4 (some 7) #[true, true, false, true, true, false, true, false, false, false, false] HT_ HW_ hHeld ?_ (hy := by rintro w' ⟨s0, s1, s2, s3⟩; go_simp; with_reducible rfl)
 refine tT_ 7 (some 10) #[true, true, false, true, true, false, true, true, false, false, false] HT_ HW_ hHeld ?_ (hy := by rintro w' ⟨s0, s1, s2, s3⟩; go_simp; with_reducible rfl)
 refine join_ (σ := Value × Value × Value) 3 #[true, true, true, true, true, true, true, true, false, false, false] (fun s_ => [(5, .agg #[s_.1, s_.2.1]), (8, s_.2.2)]) (fun s_ w' => (w'.cell? ⟨gb153, 0, none⟩ = some (.slice A0_0 l0_0.length c0_0) ∧ w'.cell? ⟨gb153, 1, none⟩ = some (.slice A0_1 l0_1.length c0_1) ∧ w'.cell? ⟨gb153, 2, none⟩ = some (.int .i64 a0_2) ∧ w'.cell? ⟨gb153, 3, none⟩ = some (.slice A0_3 l0_3.length c0_3)) ∧ (Kd.S k39 39 w' w.heap.size (fun k_ => some k_ ≠ (s_.2.1 : Value).ownBlock) s_.1 t155) ∧ (Kd.R (Kd.int .i64) 2 w' w.heap.size (fun _ => True) s_.2.1 t158) ∧ (Kd.R k43 43 w' w.heap.size (fun _ => True) s_.2.2 y161) ∧ (w'.heap[gb153]? = some (.cells #[.slice A0_0 l0_0.length c0_0, .slice A0_1 l0_1.length c0_1, .int .i64 a0_2, .slice A0_3 l0_3.length c0_3] 31 (0, 0))) ∧ (w'.heap[gb154]? = some (.cells #[.slice none 0 0, .slice none 0 0, .int .i64 0, .slice none 0 0] 31 (0, 0))) ∧ (Below w.heap.size w w')) ?_ ?_
 rotate_left
 ·intro hCont
  refine two_ (i := 2) (j := 5) (Ni := some 5) (Nj := some 8) #[true, true, true, true, true, false, true, true, false, false, false] #[true, true, false, true, true, true, true, true, false, false, false] rfl rfl rfl rfl (two_of HT_.out (by kernel_rfl)) (by decide) (by decide) (fun K hK => ?_) (fun K hK => ?_)
  ·skip
   refine goes_ Try.func45 (by kernel_rfl) rfl #[.agg #[.slice A0_0 l0_0.length c0_0, .slice A0_1 l0_1.length c0_1]] (by rfl) rfl rfl (by (try simp only [List.map_toArray, List.map_cons, List.map_nil]); first | done | rfl | (simp only [List.length_drop, List.length_take]; rfl)) ?_
   with_reducible refine (spec_l24CopySuite.calls k _ _ l0_0 _ _ l0_1 t155 t158 _ ?side1 ?side2 ?side3 ?side4 A2.out).mono ?_
   (case side1 => exact cB_ HR0_0 HB)
   (case side2 => exact HC0_0.out)
   (case side3 => exact cB_ HR0_1 HB)
   (case side4 => exact HC0_1.out)
   rintro e w7 ⟨v156, v159, rfl, ho0, ho1, hb⟩
   refine ⟨_, rfl, ?_⟩
   have HO157 := sL_ ho0 HB; have HO160 := rL_ ho1 HB; replace BK153 := bB_ BK153 hb; replace BK154 := bB_ BK154 hb; replace HB := bS_ HB hb; (try clear hb); (try clear ho0); (try clear ho1)
   refine hK.out _ _ ⟨(blk_cell BK153.out 0).trans rfl, (blk_cell BK153.out 1).trans rfl, (blk_cell BK153.out 2).trans rfl, (blk_cell BK153.out 3).trans rfl⟩ (fun hHeld => ?_)
   clear hK K
   refine nS_ (some 5) ?_
   refine one_ (i := 5) (N := some 8) #[true, true, true, true, true, true, true, true, false, false, false] rfl rfl (one_of HT_.out (by kernel_rfl)) (by decide) (fun K hK => ?_)
   refine Kd.R_lit_step k43 _ 43 ?hg (N := 8) ?hd (xs := ([] : List (S43))) (inner := []) (ok := fun _ => True) (okp := fun _ => True) ?hr ?hp (fun _ hk => hk) trivial (Below.refl _ _) (Nat.le_refl _) (by simp) ?_; (case hd => rfl); (case hg => rfl); (case hr => first | (go_simp; done) | (go_simp; rfl)); (case hp => exact (Reps.none _ _))
   intro v162 w8 ho9 hb hg_ hnew_
   clear hg_ hnew_
   (first | rw [← Ny161.out] at ho9 | (simp only [Int.reduceToNat] at ho9; rw [← Ny161.out] at ho9))
   replace HO157 := sB_ HO157 hb; replace HO160 := rB_ HO160 hb; have HO163 := rL_ ho9 HB; replace BK153 := bB_ BK153 hb; replace BK154 := bB_ BK154 hb; replace HB := bS_ HB hb; clear hb ho9
   refine hK.out _ _ ⟨(blk_cell BK153.out 0).trans rfl, (blk_cell BK153.out 1).trans rfl, (blk_cell BK153.out 2).trans rfl, (blk_cell BK153.out 3).trans rfl⟩ (fun hHeld => ?_)
   clear hK K
   refine nS_ (some 8) ?_
   exact norm_ (by simp only [putAll, Act.put, List.setIfInBounds_toArray, List.set_cons_zero, List.set_cons_succ]) (hCont (v156, v159, v162) _ ⟨hHeld, (sT_ HO157), (rT_ HO160), (rT_ HO163), (bT_ BK153), (bT_ BK154), sABelo_5⟩)
  ·skip
   refine Kd.R_lit_step k43 _ 43 ?hg (N := 8) ?hd (xs := ([] : List (S43))) (inner := []) (ok := fun _ => True) (okp := fun _ => True) ?hr ?hp (fun _ hk => hk) trivial (Below.refl _ _) (Nat.le_refl _) (by simp) ?_; (case hd => rfl); (case hg => rfl); (case hr => first | (go_simp; done) | (go_simp; rfl)); (case hp => exact (Reps.none _ _))
   intro v162 w7 ho8 hb hg_ hnew_
   clear hg_ hnew_
   (first | rw [← Ny161.out] at ho8 | (simp only [Int.reduceToNat] at ho8; rw [← Ny161.out] at ho8))
   have HO163 := rL_ ho8 HB; replace BK153 := bB_ BK153 hb; replace BK154 := bB_ BK154 hb; replace HB := bS_ HB hb; clear hb ho8
   refine hK.out _ _ ⟨(blk_cell BK153.out 0).trans rfl, (blk_cell BK153.out 1).trans rfl, (blk_cell BK153.out 2).trans rfl, (blk_cell BK153.out 3).trans rfl⟩ (fun hHeld => ?_)
   clear hK K
   refine nS_ (some 8) ?_
   refine one_ (i := 2) (N := some 5) #[true, true, true, true, true, true, true, true, false, false, false] rfl rfl (one_of HT_.out (by kernel_rfl)) (by decide) (fun K hK => ?_)
   refine goes_ Try.func45 (by kernel_rfl) rfl #[.agg #[.slice A0_0 l0_0.length c0_0, .slice A0_1 l0_1.length c0_1]] (by rfl) rfl rfl (by (try simp only [List.map_toArray, List.map_cons, List.map_nil]); first | done | rfl | (simp only [List.length_drop, List.length_take]; rfl)) ?_
   with_reducible refine (spec_l24CopySuite.calls k _ _ l0_0 _ _ l0_1 t155 t158 _ ?side1 ?side2 ?side3 ?side4 A2.out).mono ?_
   (case side1 => exact cB_ HR0_0 HB)
   (case side2 => exact HC0_0.out)
   (case side3 => exact cB_ HR0_1 HB)
   (case side4 => exact HC0_1.out)
   rintro e w9 ⟨v156, v159, rfl, ho0, ho1, hb⟩
   refine ⟨_, rfl, ?_⟩
   replace HO163 := rB_ HO163 hb; have HO157 := sL_ ho0 HB; have HO160 := rL_ ho1 HB; replace BK153 := bB_ BK153 hb; replace BK154 := bB_ BK154 hb; replace HB := bS_ HB hb; (try clear hb); (try clear hk); (try clear ho0); (try clear ho1)
   refine hK.out _ _ ⟨(blk_cell BK153.out 0).trans rfl, (blk_cell BK153.out 1).trans rfl, (blk_cell BK153.out 2).trans rfl, (blk_cell BK153.out 3).trans rfl⟩ (fun hHeld => ?_)
   clear hK K
   refine nS_ (some 5) ?_
   exact norm_ (by simp only [putAll, Act.put, List.setIfInBounds_toArray, List.set_cons_zero, List.set_cons_succ]) (hCont (v156, v159, v162) _ ⟨hHeld, (sT_ HO157), (rT_ HO160), (rT_ HO163), (bT_ BK153), (bT_ BK154), sABelo_5⟩)
 rintro ⟨v156, v159, v162⟩ w10 ⟨hS_, h0_, h1_, h2_, h3_, h4_, h5_⟩
 try dsimp only at h0_ h1_ h2_ h3_ h4_ h5_
 have HO157 := Aside0.mk h0_; have HO160 := Aside0.mk h1_; have HO163 := Aside0.mk h2_; replace BK153 := Aside0.mk h3_; replace BK154 := Aside0.mk h4_; replace HB := Aside0.mk h5_; clear h0_ h1_ h2_ h3_ h4_ h5_
 have hHeld : w10.cell? ⟨gb153, 0, none⟩ = some (.slice A0_0 l0_0.length c0_0) ∧ w10.cell? ⟨gb153, 1, none⟩ = some (.slice A0_1 l0_1.length c0_1) ∧ w10.cell? ⟨gb153, 2, none⟩ = some (.int .i64 a0_2) ∧ w10.cell? ⟨gb153, 3, none⟩ = some (.slice A0_3 l0_3.length c0_3) := hS_
 refine norm_ (a' := ?_) ?_ ?_
 rotate_left
 ·simp only [putAll, Act.put, List.setIfInBounds_toArray, List.set_cons_zero, List.set_cons_succ]
  rfl
 refine one_ (i := 8) (N := some 11) #[true, true, true, true, true, true, true, true, true, false, false] rfl rfl (one_of HT_.out (by kernel_rfl)) (by decide) (fun K hK => ?_)
 refine Kd.R_append_rows_step k43 (w0 := w) w.heap.size (by rfl) (.tmp 8) (.tmp 10) 29 43 (.agg #[(.int .i64 0), (.int .i64 0)]) 16 rfl Try.underlying29 info43 rfl (by decide) (by omega) v162 y161 l0_3 _ _ _ (fun _ => True) (fun _ => False) rfl rfl ?aO ?aR (fun _ _ h => h) (fun _ h => h.elim) ?aF ?aB ?aS ?aL ?_
 (case aR => repeat (first | exact (Kd.C_below HR0_3.out HB.out) | (with_reducible refine Kd.C_alloc ?_ _) | (with_reducible refine Kd.C_drewN ?_ _) | (with_reducible refine Kd.C_drew ?_)))
 (case aB => exact sABelo_5)
 (case aF => exact (fun _ _ => trivial))
 (case aO => exact (rT_ HO163))
 (case aS => exact (below_size sABelo_5))
 (case aL => have := LMc3.out; omega)
 intro v165 w11 ho hb hg hat
 rw [← Ny164.out] at ho
 replace BK153 := Aside0.mk (blk_grown (g := gb153) (o := .cells #[.slice A0_0 l0_0.length c0_0, .slice A0_1 l0_1.length c0_1, .int .i64 a0_2, .slice A0_3 l0_3.length c0_3] 31 (0, 0)) (bT_ BK153) hg (Kd.R_ne HO163.out BK153.out (by decide)))
 replace BK154 := Aside0.mk (blk_grown (g := gb154) (o := .cells #[.slice none 0 0, .slice none 0 0, .int .i64 0, .slice none 0 0] 31 (0, 0)) (bT_ BK154) hg (Kd.R_ne HO163.out BK154.out (by decide)))
 replace HO157 := Aside0.mk (Kd.S_over' (sT_ HO157) (Kd.R_typed (rT_ HO163)) (by decide) hg)
 replace HO160 := Aside0.mk (Kd.R_over' (rT_ HO160) (Kd.R_typed (rT_ HO163)) (by decide) hg)
 replace HB := Aside0.mk (hb)
 have HO166 := Aside0.mk (ho)
 clear HO163 ho hb hg hat
 obtain ⟨Ao12, co12, eo12⟩ := Kd.R_slice HO166.out
 (first | subst eo12 | (injection eo12 with f1_ f2_ f3_; have f4_ := f1_.symm; have f5_ := f3_.symm; clear f1_ f2_ f3_; subst f4_; subst f5_))
 obtain ⟨Ao13, co13, eo13⟩ := Kd.R_slice HO160.out
 (first | subst eo13 | (injection eo13 with f1_ f2_ f3_; have f4_ := f1_.symm; have f5_ := f3_.symm; clear f1_ f2_ f3_; subst f4_; subst f5_))
 obtain ⟨Ao14, co14, eo14⟩ := Kd.S_slice HO157.out
 (first | subst eo14 | (injection eo14 with f1_ f2_ f3_; have f4_ := f1_.symm; have f5_ := f3_.symm; clear f1_ f2_ f3_; subst f4_; subst f5_))
 refine hK.out _ _ ⟨(blk_cell BK153.out 0).trans rfl, (blk_cell BK153.out 1).trans rfl, (blk_cell BK153.out 2).trans rfl, (blk_cell BK153.out 3).trans rfl⟩ (fun hHeld => ?_)
 clear hK K
 refine nS_ (some 11) ?_
 refine pT_ 9 (some 12) #[true, true, true, true, true, true, true, true, true, true, false] HT_ ?_
 refine one_ (i := 10) (N := none) #[true, true, true, true, true, true, true, true, true, true, true] rfl rfl (one_of HT_.out (by kernel_rfl)) (by decide) (fun K hK => ?_)
 have hs15 : w11.cell? ⟨gb154, 0, none⟩ = some (.slice none 0 0) := (blk_cell BK154.out 0).trans rfl
 have hfs15 := blk_frozen BK154.out 0; have hns15_0 := NB153_154.out; have hms15_0 := NB154_153.out
 have hs16 : w11.cell? ⟨gb154, 1, none⟩ = some (.slice none 0 0) := (blk_cell BK154.out 1).trans rfl
 have hfs16 := blk_frozen BK154.out 1; have hns16_0 := NB153_154.out; have hms16_0 := NB154_153.out
 have hs17 : w11.cell? ⟨gb154, 2, none⟩ = some (.int .i64 0) := (blk_cell BK154.out 2).trans rfl
 have hfs17 := blk_frozen BK154.out 2; have hns17_0 := NB153_154.out; have hms17_0 := NB154_153.out
 have hs18 : w11.cell? ⟨gb154, 3, none⟩ = some (.slice none 0 0) := (blk_cell BK154.out 3).trans rfl
 have hfs18 := blk_frozen BK154.out 3; have hns18_0 := NB153_154.out; have hms18_0 := NB154_153.out
 refine skip_ (w1 := ?_) (by rfl) rfl ?_ ?_
 rotate_left
 ·go_simp
  rfl
 refine hK.out _ _ ⟨((cell_far (p := ⟨gb154, _, none⟩) NB153_154.out _).trans (((cell_far (p := ⟨gb154, _, none⟩) NB153_154.out _).trans (((cell_far (p := ⟨gb154, _, none⟩) NB153_154.out _).trans (((cell_far (p := ⟨gb154, _, none⟩) NB153_154.out _).trans (hHeld.1)))))))), ((cell_far (p := ⟨gb154, _, none⟩) NB153_154.out _).trans (((cell_far (p := ⟨gb154, _, none⟩) NB153_154.out _).trans (((cell_far (p := ⟨gb154, _, none⟩) NB153_154.out _).trans (((cell_far (p := ⟨gb154, _, none⟩) NB153_154.out _).trans (hHeld.2.1)))))))), ((cell_far (p := ⟨gb154, _, none⟩) NB153_154.out _).trans (((cell_far (p := ⟨gb154, _, none⟩) NB153_154.out _).trans (((cell_far (p := ⟨gb154, _, none⟩) NB153_154.out _).trans (((cell_far (p := ⟨gb154, _, none⟩) NB153_154.out _).trans (hHeld.2.2.1)))))))), ((cell_far (p := ⟨gb154, _, none⟩) NB153_154.out _).trans (((cell_far (p := ⟨gb154, _, none⟩) NB153_154.out _).trans (((cell_far (p := ⟨gb154, _, none⟩) NB153_154.out _).trans (((cell_far (p := ⟨gb154, _, none⟩) NB153_154.out _).trans (hHeld.2.2.2))))))))⟩ (fun hHeld => ?_)
 clear hK K
 refine done_ (done_of HT_.out (by kernel_rfl)) ?_
 try go_wp2
 refine bodyPost_ret (results_cell_row rfl _ _ gb154 31 #[.slice Ao14 t155.length co14, .slice Ao13 t158.length co13, .int .i64 a0_2, .slice Ao12 y164.length co12] (0, 0) _ rfl (bP_ BK154) Try.underlying31 rfl (by kernel_rfl)) rfl ?_
 exact ⟨_, _, _, by first | rfl | (simp [errW_none, errW_some] <;> rfl) | (simp [*, errW_none, errW_some] <;> rfl), by (with_reducible repeat (first | apply Kd.S_alloc | apply Kd.S_drewN | apply Kd.S_drew)); exact Kd.S_mono (Kd.S_far (p := ⟨gb154, 3, none⟩) (Kd.S_far (p := ⟨gb154, 2, none⟩) (Kd.S_far (p := ⟨gb154, 1, none⟩) (Kd.S_far (p := ⟨gb154, 0, none⟩) (Kd.S_types HO157.out BK154.out (by decide)) (fun _ hk => hk.2) (.slice Ao14 t155.length co14)) (fun _ hk => hk.2) (.slice Ao13 t158.length co13)) (fun _ hk => hk.2) (.int .i64 a0_2)) (fun _ hk => hk.2) (.slice Ao12 y164.length co12)) (fun _ hk => hk.1), by (with_reducible repeat (first | apply Kd.R_alloc | apply Kd.R_drewN | apply Kd.R_drew)); exact Kd.R_mono (Kd.R_far (p := ⟨gb154, 3, none⟩) (Kd.R_far (p := ⟨gb154, 2, none⟩) (Kd.R_far (p := ⟨gb154, 1, none⟩) (Kd.R_far (p := ⟨gb154, 0, none⟩) (Kd.R_types HO160.out BK154.out (by decide)) (fun _ hk => hk.2) (.slice Ao14 t155.length co14)) (fun _ hk => hk.2) (.slice Ao13 t158.length co13)) (fun _ hk => hk.2) (.int .i64 a0_2)) (fun _ hk => hk.2) (.slice Ao12 y164.length co12)) (fun _ hk => trivial), by (with_reducible repeat (first | apply Kd.R_alloc | apply Kd.R_drewN | apply Kd.R_drew)); exact Kd.R_mono (Kd.R_far (p := ⟨gb154, 3, none⟩) (Kd.R_far (p := ⟨gb154, 2, none⟩) (Kd.R_far (p := ⟨gb154, 1, none⟩) (Kd.R_far (p := ⟨gb154, 0, none⟩) (Kd.R_types HO166.out BK154.out (by decide)) (fun _ hk => hk.2) (.slice Ao14 t155.length co14)) (fun _ hk => hk.2) (.slice Ao13 t158.length co13)) (fun _ hk => hk.2) (.int .i64 a0_2)) (fun _ hk => hk.2) (.slice Ao12 y164.length co12)) (fun _ hk => trivial), sABelo_5⟩

end Go.Proofs.Ytjoghfehmhapbaa.QFnExactTickRun
