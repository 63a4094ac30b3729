-- Written by a program of this session out of the printer's texts and contracts of its own.
import Derived.Test.YtjoghfehmhapbaaSq
import Derived.Test.YtjoghfehmhapbaaQFnLateOncex0
import Derived.Test.YtjoghfehmhapbaaQFnLateOncex3
namespace Go.Proofs.Ytjoghfehmhapbaa.QFnLateOnce
open Go.RowKit Go.Proofs.YtjoghfehmhapbaaW.PrintWords Go.Proofs.YtjoghfehmhapbaaW.PrintLast Go.Proofs.YtjoghfehmhapbaaW.PrintMore Go.Proofs.Ytjoghfehmhapbaa.Sq
attribute [local go_sem] max2_int min2_int max_two min_two max_three min_three max_four min_four   -- for this text's walks alone
set_option linter.unusedVariables false
set_option linter.unusedSimpArgs false
theorem sABelo_4 {b : Nat} {w W : World} (h : Below b w W := by repeat (first | (with_reducible first | exact Aside0.out (by assumption) | apply below_alloc | apply pw_below_drewN | apply below_drew1 | refine below_set ?_ (Aside0.out (by assumption))) | exact Aside0.out (by assumption))) : Below b w W := h

/-! ### spec_l24CopySuite: function 45 -/
def spec_l24CopySuite.l0 : Nat → Int → List (S39) → List Int → List (S39) → List Int → Option ((List (S39)) × List Int)
 | 0, _, _, _, _, _ => none
 | k + 1, x4, x127000, x127001, x135000, x135001 => if x4 < (x127000.length : Int) then (if 0 ≤ x4 then ((some (([] : List Int) : List Int)).bind fun y137 => (if y137.length + ((rd_T39 x127000 x4).f0).length < 17592186044416 then (if x135000.length < 2932031007402 then (spec_l24CopySuite.l0 k (wrap64 (x4 + 1)) x127000 x127001 (x135000 ++ [(⟨(y137 ++ ((rd_T39 x127000 x4).f0)), (rd_T39 x127000 x4).f1, (rd_T39 x127000 x4).f2, (rd_T39 x127000 x4).f3⟩ : S39)]) x135001) else (none)) else (none))) else (none)) else (some (x135000, x135001))
def spec_l24CopySuite.f (k : Nat) (l0_0 : List (S39)) (l0_1 : List Int) : Option ((List (S39)) × List Int) := (some (([] : List Int) : List Int)).bind fun y128 => (if y128.length + l0_1.length < 17592186044416 then (spec_l24CopySuite.l0 k 0 l0_0 l0_1 ([] : List (S39)) (y128 ++ l0_1)) else (none))
theorem spec_l24CopySuite.mono_l : ∀ k, (∀ y0 y1 y2 y3 y4, LeO (spec_l24CopySuite.l0 k y0 y1 y2 y3 y4) (spec_l24CopySuite.l0 (k + 1) y0 y1 y2 y3 y4))
 | 0 => fun _ _ _ _ _ r h => by simp [spec_l24CopySuite.l0] at h
 | k + 1 => by
  have ih0 := spec_l24CopySuite.mono_l k
  ·intro y0 y1 y2 y3 y4
   unfold spec_l24CopySuite.l0
   repeat' first
   | (with_reducible exact ih0 _ _ _ _ _)
   | (with_reducible exact LeO.refl _)
   | (with_reducible exact LeO.none _)
   | (with_reducible refine LeO.ite ?_ ?_)
   | (with_reducible refine LeO.bind ?_ (fun _ => ?_))
   | exact ih0 _ _ _ _ _
   | exact LeO.none _
   | refine LeO.ite ?_ ?_
   | refine LeO.bind ?_ (fun _ => ?_)
theorem spec_l24CopySuite.mono : ∀ a0 a1 k, LeO (spec_l24CopySuite.f k a0 a1) (spec_l24CopySuite.f (k + 1) a0 a1) := by
 intro a0 a1 k
 have ih0 := spec_l24CopySuite.mono_l k
 unfold spec_l24CopySuite.f
 repeat' first
   | (with_reducible exact ih0 _ _ _ _ _)
   | (with_reducible exact LeO.refl _)
   | (with_reducible exact LeO.none _)
   | (with_reducible refine LeO.ite ?_ ?_)
   | (with_reducible refine LeO.bind ?_ (fun _ => ?_))
   | exact ih0 _ _ _ _ _
   | exact LeO.none _
   | refine LeO.ite ?_ ?_
   | refine LeO.bind ?_ (fun _ => ?_)
set_option maxHeartbeats 8000000 in
set_option maxRecDepth 100000 in
theorem spec_l24CopySuite.calls (k : Nat) (A0_0 : Option Addr) (c0_0 : Nat) (l0_0 : List (S39)) (A0_1 : Option Addr) (c0_1 : Nat) (l0_1 : List Int) (r1 : List (S39)) (r2 : List Int) (w : World) (hr0_0 : Kd.C k39 w A0_0 l0_0.length l0_0) (hc0_0 : l0_0.length ≤ c0_0) (hr0_1 : Kd.C (Kd.int .i64) w A0_1 l0_1.length l0_1) (hc0_1 : l0_1.length ≤ c0_1) (h : spec_l24CopySuite.f k l0_0 l0_1 = some (r1, r2)) :
  Calls Try.prog 45 #[.agg #[.slice A0_0 l0_0.length c0_0, .slice A0_1 l0_1.length c0_1]] w fun e w' => ∃ v0_ v1_ : Value, e = .returned (.agg #[v0_, v1_]) ∧ Kd.S k39 39 w' w.heap.size (fun k_ => some k_ ≠ (v1_ : Value).ownBlock) v0_ r1 ∧ Kd.R (Kd.int .i64) 2 w' w.heap.size (fun _ => True) v1_ r2 ∧ Below w.heap.size w w' := by
 have hu27 := Try.underlying27; have hu39 := Try.underlying39; have HR0_0 := mk_ hr0_0; have HC0_0 := mk_ hc0_0; clear hr0_0 hc0_0; have HR0_1 := mk_ hr0_1; have HC0_1 := mk_ hc0_1; clear hr0_1 hc0_1
 have HB := mk_ (Below.refl w.heap.size w)
 have H : ((some (([] : List Int) : List Int)).bind fun y128 => (if y128.length + l0_1.length < 17592186044416 then (spec_l24CopySuite.l0 k 0 l0_0 l0_1 ([] : List (S39)) (y128 ++ l0_1)) else (none))) = some (r1, r2) := h
 clear h
 obtain ⟨y128, hy128⟩ : ∃ y_ : List Int, y_ = (([] : List Int)) := ⟨_, rfl⟩
 replace H : (if y128.length + l0_1.length < 17592186044416 then (spec_l24CopySuite.l0 k 0 l0_0 l0_1 ([] : List (S39)) (y128 ++ l0_1)) else (none)) = some (r1, r2) := by first | (rw [hy128]; with_reducible exact H) | (have H2_ := (Option.bind_some _ _).symm.trans H; rw [hy128]; with_reducible exact H2_) | (have H2_ := (Option.bind_some _ _).symm.trans H; with_reducible exact H2_) | with_reducible exact H | (rw [hy128]; exact H) | exact H
 have Ny128 := mk_ hy128; clear hy128
 obtain ⟨c2, H⟩ := ifS_ H
 have LMc2 := mk_ c2; clear c2
 obtain ⟨y131, hy131⟩ : ∃ y_ : List Int, y_ = (y128 ++ l0_1) := ⟨_, rfl⟩
 replace H : (spec_l24CopySuite.l0 k 0 l0_0 l0_1 ([] : List (S39)) y131) = some (r1, r2) := by first | (rw [hy131]; with_reducible exact H) | (have H2_ := (Option.bind_some _ _).symm.trans H; rw [hy131]; with_reducible exact H2_) | (have H2_ := (Option.bind_some _ _).symm.trans H; with_reducible exact H2_) | with_reducible exact H | (rw [hy131]; exact H) | exact H
 have Ny131 := mk_ hy131; clear hy131; have H' := mk_ H; clear H
 go_enter Try.func45, Try.ntmps45
 go_wp2_with (first | ((with_reducible refine gate_dst (N := 1) rfl ?_); refine box_event ?hg (N := 1) ?hd (cs := #[.slice A0_0 l0_0.length c0_0, .slice A0_1 l0_1.length c0_1]) (t := 27) ?hr ?_; (case hd => rfl); (case hg => rfl); (case hr => first | (go_simp; done) | (go_simp; rfl)); intro gb126 hg w3 hbox hb; have BK126 := mk_ (hbox); have GW126 := gE_ HB hg; have GE126 := gE_ HB hg; replace HB := bS_ HB hb; clear hb hbox hg) | ((with_reducible refine gate_dst (N := 2) rfl ?_); refine box_event ?hg (N := 2) ?hd (cs := #[.slice none 0 0, .slice none 0 0]) (t := 27) ?hr ?_; (case hd => rfl); (case hg => rfl); (case hr => first | (go_simp; done) | (go_simp; rfl)); intro gb127 hg w4 hbox hb; have BK127 := mk_ (hbox); have GW127 := gE_ HB hg; have GE127 := gE_ HB hg; replace HB := bS_ HB hb; have NB126_127 := nL_ BK126 hg; have NB127_126 := nG_ BK126 hg; replace BK126 := bB_ BK126 hb; clear hb hbox hg) | ((with_reducible refine gate_dst (N := 6) rfl ?_); refine Kd.R_lit (Kd.int .i64) _ 2 ?hg (N := 6) ?hd (xs := ([] : List Int)) (inner := []) (ok := fun _ => True) (okp := fun _ => True) ?hr ?hp (fun _ hk => hk) trivial (Below.refl _ _) (Nat.le_refl _) (by simp) ?_; (case hd => rfl); (case hg => rfl); (case hr => first | (go_simp; done) | (go_simp; rfl)); (case hp => exact (Reps.none _ _)); intro v129 w5 ho6 hb hg_ hnew_; clear hg_ hnew_; (first | rw [← Ny128.out] at ho6 | (simp only [Int.reduceToNat] at ho6; rw [← Ny128.out] at ho6)); have HO130 := rL_ ho6 HB; replace BK126 := bB_ BK126 hb; replace BK127 := bB_ BK127 hb; replace HB := bS_ HB hb; clear hb ho6; have hnb7 := NB126_127.out; have hnc7 := NB127_126.out; obtain ⟨hcz8_0, hcz8_1, hfz8_0, hfz8_1⟩ := cf2_ BK126) | ((with_reducible refine gate_builtin (b := .append) (xs := #[.tmp 6, .tmp 8]) rfl ?_); at_builtin; refine Kd.R_append_rows (Kd.int .i64) (w0 := w) w.heap.size rfl (.tmp 6) (.tmp 8) 25 2 (.int .i64 0) 8 rfl Try.underlying25 info2 rfl (by decide) (by omega) v129 y128 l0_1 _ _ _ (fun _ => True) (fun _ => False) rfl rfl ?aO ?aR (fun _ _ h => h) (fun _ h => h.elim) ?aF ?aB ?aS ?aL ?_; (case aR => repeat (first | exact (Kd.C_below HR0_1.out HB.out) | (with_reducible refine Kd.C_alloc ?_ _) | (with_reducible refine Kd.C_drewN ?_ _) | (with_reducible refine Kd.C_drew ?_))); (case aB => exact sABelo_4); (case aF => exact (fun _ _ => trivial)); (case aO => exact (rT_ HO130)); (case aS => exact (below_size sABelo_4)); (case aL => have := LMc2.out; omega); intro v132 w9 ho hb hg hat; rw [← Ny131.out] at ho; replace BK126 := mk_ (blk_grown (bT_ BK126) hg (Kd.R_ne HO130.out BK126.out (by decide))); replace BK127 := mk_ (blk_grown (bT_ BK127) hg (Kd.R_ne HO130.out BK127.out (by decide))); replace HB := mk_ (hb); have HO133 := mk_ (ho); clear HO130; clear ho hb hg hat; obtain ⟨Ao10, co10, eo10⟩ := Kd.R_slice HO133.out; subst eo10) | ((with_reducible refine gate_dst (N := 3) rfl ?_); refine box_event ?hg (N := 3) ?hd (cs := #[.slice none 0 0, .slice none 0 0]) (t := 27) ?hr ?_; (case hd => rfl); (case hg => rfl); (case hr => first | (go_simp; done) | (go_simp; rfl)); intro gb134 hg w11 hbox hb; replace HO133 := rB_ HO133 hb; have BK134 := mk_ (hbox); have GW134 := gE_ HB hg; have GE134 := gE_ HB hg; replace HB := bS_ HB hb; have NB126_134 := nL_ BK126 hg; have NB134_126 := nG_ BK126 hg; replace BK126 := bB_ BK126 hb; have NB127_134 := nL_ BK127 hg; have NB134_127 := nG_ BK127 hg; replace BK127 := bB_ BK127 hb; clear hb hbox hg; have hnb12 := NB134_126.out; have hnc12 := NB126_134.out; have hnb13 := NB134_127.out; have hnc13 := NB127_134.out; obtain ⟨hcz14_0, hcz14_1, hfz14_0, hfz14_1⟩ := cf2_ BK134))
 go_loopg [4] k (fun kq v4 w' => ∃ (x4_1 : Int) (x135000_1 : List (S39)) (u135000 : Value), v4 = .int .i64 x4_1 ∧ Aside0 (spec_l24CopySuite.l0 kq x4_1 l0_0 l0_1 x135000_1 y131 = some (r1, r2)) ∧ Aside0 (kq ≤ k) ∧ Aside0 (Kd.S k39 39 w' w.heap.size (fun k_ => some k_ ≠ ((.slice Ao10 y131.length co10) : Value).ownBlock) u135000 x135000_1) ∧ Aside0 (Kd.R (Kd.int .i64) 2 w' w.heap.size (fun _ => True) (.slice Ao10 y131.length co10) y131) ∧ Aside0 (w'.heap[gb126]? = some (.cells #[(.slice A0_0 l0_0.length c0_0), (.slice A0_1 l0_1.length c0_1)] 27 (0, 0))) ∧ Aside0 (w'.heap[gb127]? = some (.cells #[(.slice none 0 0), (.slice none 0 0)] 27 (0, 0))) ∧ Aside0 (w'.heap[gb134]? = some (.cells #[u135000, (.slice Ao10 y131.length co10)] 27 (0, 0))) ∧ Aside0 (Below w.heap.size w w'))
 case atStart => exact ⟨(0), (([] : List (S39))), (.slice none 0 0), eS_, H', ⟨Nat.le_refl _⟩, ⟨by first | exact Kd.S_nil _ _ _ _ _ | exact Kd.N_nil _ _ _ _ _ | exact Kd.V_nil _ _ _ _ _ | exact Kd.Q_nil _ _ _ _ _ | exact Kd.R_nil _ _ _ _ _⟩, ⟨rFM_ HO133 BK134⟩, ⟨bF_ BK126 NB126_134⟩, ⟨bF_ BK127 NB127_134⟩, ⟨bP_ BK134⟩, ⟨sABelo_4⟩⟩
 case round =>
  clear H'; (try clear c2); (try clear hcz14_0); (try clear hcz14_1); (try clear hcz8_0); (try clear hcz8_1); (try clear hfz14_0); (try clear hfz14_1); (try clear hfz8_0); (try clear hfz8_1)
  obtain ⟨x4_1, x135000_1, u135000, rfl, HA, HK1, HO_135000, HO_135001, BK126, BK127, BK134, HB⟩ := hrel
  cases gk with
  | zero => exact absurd HA.out (by simp [spec_l24CopySuite.l0])
  | succ k1 =>
   have H := HA.out; clear HA
   simp only [spec_l24CopySuite.l0] at H
   by_cases c15 : x4_1 < (l0_0.length : Int)
   ·rw [if_pos c15] at H
    have c15b0 := decide_eq_true c15
    clear c15
    obtain ⟨c16, H⟩ := ifS_ H
    have c16b0 : decide (0 ≤ x4_1) = true := decide_eq_true c16
    clear c16
    obtain ⟨y137, hy137⟩ : ∃ y_ : List Int, y_ = (([] : List Int)) := ⟨_, rfl⟩
    replace H : (if y137.length + ((rd_T39 l0_0 x4_1).f0).length < 17592186044416 then (if x135000_1.length < 2932031007402 then (spec_l24CopySuite.l0 k1 (wrap64 (x4_1 + 1)) l0_0 l0_1 (x135000_1 ++ [(⟨(y137 ++ ((rd_T39 l0_0 x4_1).f0)), (rd_T39 l0_0 x4_1).f1, (rd_T39 l0_0 x4_1).f2, (rd_T39 l0_0 x4_1).f3⟩ : S39)]) y131) else (none)) else (none)) = some (r1, r2) := by first | (rw [hy137]; with_reducible exact H) | (have H2_ := (Option.bind_some _ _).symm.trans H; rw [hy137]; with_reducible exact H2_) | (have H2_ := (Option.bind_some _ _).symm.trans H; with_reducible exact H2_) | with_reducible exact H | (rw [hy137]; exact H) | exact H
    have Ny137 := mk_ hy137; clear hy137
    obtain ⟨c17, H⟩ := ifS_ H
    have LMc17 := mk_ c17; clear c17
    obtain ⟨y140, hy140⟩ : ∃ y_ : List Int, y_ = (y137 ++ ((rd_T39 l0_0 x4_1).f0)) := ⟨_, rfl⟩
    replace H : (if x135000_1.length < 2932031007402 then (spec_l24CopySuite.l0 k1 (wrap64 (x4_1 + 1)) l0_0 l0_1 (x135000_1 ++ [(⟨y140, (rd_T39 l0_0 x4_1).f1, (rd_T39 l0_0 x4_1).f2, (rd_T39 l0_0 x4_1).f3⟩ : S39)]) y131) else (none)) = some (r1, r2) := by first | (rw [hy140]; with_reducible exact H) | (have H2_ := (Option.bind_some _ _).symm.trans H; rw [hy140]; with_reducible exact H2_) | (have H2_ := (Option.bind_some _ _).symm.trans H; with_reducible exact H2_) | with_reducible exact H | (rw [hy140]; exact H) | exact H
    have Ny140 := mk_ hy140; clear hy140
    obtain ⟨c18, H⟩ := ifS_ H
    have LMc18 := mk_ c18; clear c18
    obtain ⟨y143, hy143⟩ : ∃ y_ : List (S39), y_ = (x135000_1 ++ [(⟨y140, (rd_T39 l0_0 x4_1).f1, (rd_T39 l0_0 x4_1).f2, (rd_T39 l0_0 x4_1).f3⟩ : S39)]) := ⟨_, rfl⟩
    replace H : (spec_l24CopySuite.l0 k1 (wrap64 (x4_1 + 1)) l0_0 l0_1 y143 y131) = some (r1, r2) := by first | (rw [hy143]; with_reducible exact H) | (have H2_ := (Option.bind_some _ _).symm.trans H; rw [hy143]; with_reducible exact H2_) | (have H2_ := (Option.bind_some _ _).symm.trans H; with_reducible exact H2_) | with_reducible exact H | (rw [hy143]; exact H) | exact H
    have Ny143 := mk_ hy143; clear hy143; have H' := mk_ H; clear H; have hnb19 := NB126_127.out; have hnc19 := NB127_126.out; have hnb20 := NB126_134.out; have hnc20 := NB134_126.out
    obtain ⟨hcz21_0, hcz21_1, hfz21_0, hfz21_1⟩ := cf2_ BK126
    have p135 : 0 ≤ (x4_1 : Int) := dA_
    have q135 : x4_1 < (l0_0.length : Int) := dA_
    obtain ⟨ad135, A135_0, c135_0, e135, hx135_0, hx135_1, hx135_2, hx135_3, hl135_0, hi135_0⟩ := at_T39 HR0_0.out x4_1 p135 q135
    cases e135
    replace hx135_0 := hX_ HB hx135_0
    replace hx135_1 := hX_ HB hx135_1
    replace hx135_2 := hX_ HB hx135_2
    replace hx135_3 := hX_ HB hx135_3
    have HR135_0 := mk_ hi135_0; have HC135_0 := mk_ hl135_0; clear hi135_0 hl135_0; replace p135 := eq_true p135; replace q135 := eq_true q135
    go_wp2_with (first | ((with_reducible refine gate_dst (N := 5) rfl ?_); refine box_event ?hg (N := 5) ?hd (cs := #[.slice none 0 0, .int .i64 0, .int .i64 0, .int .i64 0]) (t := 39) ?hr ?_; (case hd => rfl); (case hg => rfl); (case hr => first | (go_simp; done) | (go_simp; rfl)); intro gb136 hg w22 hbox hb; replace HO_135000 := mk_ (Kd.S_below (Kd.S_elderB (sT_ HO_135000) gb136 (Nat.le_of_eq hg.symm)) hb); replace HO_135001 := rB_ HO_135001 hb; have BK136 := mk_ (hbox); have GW136 := gE_ HB hg; have GE136 := gE_ HB hg; replace HB := bS_ HB hb; have NB126_136 := nL_ BK126 hg; have NB136_126 := nG_ BK126 hg; replace BK126 := bB_ BK126 hb; have NB127_136 := nL_ BK127 hg; have NB136_127 := nG_ BK127 hg; replace BK127 := bB_ BK127 hb; have NB134_136 := nL_ BK134 hg; have NB136_134 := nG_ BK134 hg; replace BK134 := bB_ BK134 hb; clear hb hbox hg; have hnb23 := NB136_126.out; have hnc23 := NB126_136.out; have hnb24 := NB136_127.out; have hnc24 := NB127_136.out; have hnb25 := NB136_134.out; have hnc25 := NB134_136.out; obtain ⟨hcz26_0, hcz26_1, hcz26_2, hcz26_3, hfz26_0, hfz26_1, hfz26_2, hfz26_3⟩ := cf4_ BK136) | ((with_reducible refine gate_dst (N := 23) rfl ?_); refine Kd.R_lit (Kd.int .i64) _ 2 ?hg (N := 23) ?hd (xs := ([] : List Int)) (inner := []) (ok := fun _ => True) (okp := fun _ => True) ?hr ?hp (fun _ hk => hk) trivial (Below.refl _ _) (Nat.le_refl _) (by simp) ?_; (case hd => rfl); (case hg => rfl); (case hr => first | (go_simp; done) | (go_simp; rfl)); (case hp => exact (Reps.none _ _)); intro v138 w27 ho28 hb hg_ hnew_; clear hg_ hnew_; (first | rw [← Ny137.out] at ho28 | (simp only [Int.reduceToNat] at ho28; rw [← Ny137.out] at ho28)); replace HO_135000 := mk_ (Kd.S_elder' (sFN0_ HO_135000) (Kd.R_base ho28) hb); have HO139 := mk_ (Kd.R_lower (rN_ ho28 HO_135001) (below_size sABelo_4)); replace HO_135001 := rEF_ HO_135001 BK136 ho28 hb; replace BK126 := bBF_ BK126 NB126_136 hb; replace BK127 := bBF_ BK127 NB127_136 hb; replace BK134 := bBF_ BK134 NB134_136 hb; replace BK136 := mk_ (blk_below (g := gb136) (o := .cells #[.slice A135_0 ((rd_T39 l0_0 x4_1).f0).length c135_0, .int .i64 ((rd_T39 l0_0 x4_1).f1), .int .i64 ((rd_T39 l0_0 x4_1).f2), .int .i64 ((rd_T39 l0_0 x4_1).f3)] 39 (0, 0)) (bP_ BK136) hb); replace HB := mk_ (below_step sABelo_4 hb); clear hb ho28; obtain ⟨hcz29_0, hcz29_1, hcz29_2, hcz29_3, hfz29_0, hfz29_1, hfz29_2, hfz29_3⟩ := cf4_ BK136) | ((with_reducible refine gate_builtin (b := .append) (xs := #[.tmp 23, .tmp 25]) rfl ?_); at_builtin; refine Kd.R_append_rows (Kd.int .i64) (w0 := w) w.heap.size rfl (.tmp 23) (.tmp 25) 25 2 (.int .i64 0) 8 rfl Try.underlying25 info2 rfl (by decide) (by omega) v138 y137 ((rd_T39 l0_0 x4_1).f0) _ _ _ (fun k_ => some k_ ≠ (.slice Ao10 y131.length co10 : Value).ownBlock) (fun _ => False) rfl rfl ?aO ?aR (fun _ _ h => h) (fun _ h => h.elim) ?aF ?aB ?aS ?aL ?_; (case aR => repeat (first | exact (Kd.C_below HR135_0.out HB.out) | (with_reducible refine Kd.C_alloc ?_ _) | (with_reducible refine Kd.C_drewN ?_ _) | (with_reducible refine Kd.C_drew ?_))); (case aB => exact sABelo_4); (case aF => exact (fun k_ hk => Kd.fresh' (rLt_ HO_135001) k_ hk)); (case aO => exact (rM_ HO139)); (case aS => exact (below_size sABelo_4)); (case aL => have := LMc17.out; omega); intro v141 w30 ho hb hg hat; rw [← Ny140.out] at ho; replace HO_135000 := mk_ (Kd.S_after (ok := (fun k_ => some k_ ≠ (.slice Ao10 y131.length co10 : Value).ownBlock ∧ k_ ≠ gb136)) (sT_ HO_135000) hg hat); replace HO_135001 := mk_ (Kd.R_after (ok := (fun _ => True)) (rT_ HO_135001) hg hat); replace BK126 := mk_ (blk_grown (bT_ BK126) hg (Kd.R_ne HO139.out BK126.out (by decide))); replace BK127 := mk_ (blk_grown (bT_ BK127) hg (Kd.R_ne HO139.out BK127.out (by decide))); replace BK134 := mk_ (blk_grown (bT_ BK134) hg (Kd.R_ne HO139.out BK134.out (by decide))); replace BK136 := mk_ (blk_grown (bT_ BK136) hg (Kd.R_ne HO139.out BK136.out (by decide))); replace HB := mk_ (hb); have HO142 := mk_ (ho); clear HO139; clear ho hb hg hat; obtain ⟨Ao31, co31, eo31⟩ := Kd.R_slice HO142.out; subst eo31; obtain ⟨hcz32_0, hcz32_1, hcz32_2, hcz32_3, hfz32_0, hfz32_1, hfz32_2, hfz32_3⟩ := cf4_ BK136) | ((with_reducible refine gate_store (t := 25) (p := 27) rfl ?_); refine store_event (t := 25) (p := 27) (v := ?vo_w33) (w1 := (w30.setCell ⟨gb136, 0, none⟩ (.slice Ao31 y140.length co31))) ?hg ?ho ?hn ?hr ?_; (case ho => rfl); (case hg => rfl); (case hn => rfl); (case hr => first | (go_simp; done) | (go_simp; rfl)); intro w33 hw; have n0_ : Aside0 (Kd.S k39 39 w33 w.heap.size (fun k_ => some k_ ≠ (.slice Ao10 y131.length co10 : Value).ownBlock ∧ some k_ ≠ (.slice Ao31 y140.length co31 : Value).ownBlock ∧ k_ ≠ gb136) u135000 x135000_1) := ⟨(by rw [hw]; exact (by (with_reducible repeat (first | apply Kd.S_alloc | apply Kd.S_drewN | apply Kd.S_drew)); exact Kd.S_mono (Kd.S_far (p := ⟨gb136, 0, none⟩) (Kd.S_mono HO_135000.out (fun k_ hk => (⟨hk, hk.1.2⟩ : _ ∧ k_ ≠ gb136))) (fun _ hk => hk.2) (.slice Ao31 y140.length co31)) (fun _ hk => ⟨hk.1.1.1, ⟨hk.1.2, hk.1.1.2⟩⟩)))⟩; have n1_ : Aside0 (Kd.R (Kd.int .i64) 2 w33 w.heap.size (fun k_ => some k_ ≠ (.slice Ao31 y140.length co31 : Value).ownBlock) (.slice Ao10 y131.length co10) y131) := ⟨(by rw [hw]; exact (by (with_reducible repeat (first | apply Kd.R_alloc | apply Kd.R_drewN | apply Kd.R_drew)); exact Kd.R_mono (Kd.R_far (p := ⟨gb136, 0, none⟩) (Kd.R_types HO_135001.out BK136.out (by decide)) (fun _ hk => hk.2) (.slice Ao31 y140.length co31)) (fun _ hk => hk.1.2)))⟩; have n2_ : Aside0 (Kd.R (Kd.int .i64) 2 w33 w.heap.size (fun k_ => some k_ ≠ (.slice Ao10 y131.length co10 : Value).ownBlock) (.slice Ao31 y140.length co31) y140) := ⟨(by rw [hw]; exact (rF_ HO142 BK136))⟩; have n3_ : Aside0 (w33.heap[gb126]? = some (.cells #[.slice (some ad135) l0_0.length c0_0, .slice A0_1 l0_1.length c0_1] 27 (0, 0))) := ⟨(by rw [hw]; exact (bF_ BK126 NB126_136))⟩; have n4_ : Aside0 (w33.heap[gb127]? = some (.cells #[.slice none 0 0, .slice none 0 0] 27 (0, 0))) := ⟨(by rw [hw]; exact (bF_ BK127 NB127_136))⟩; have n5_ : Aside0 (w33.heap[gb134]? = some (.cells #[u135000, .slice Ao10 y131.length co10] 27 (0, 0))) := ⟨(by rw [hw]; exact (bF_ BK134 NB134_136))⟩; have n6_ : Aside0 (w33.heap[gb136]? = some (.cells #[.slice Ao31 y140.length co31, .int .i64 ((rd_T39 l0_0 x4_1).f1), .int .i64 ((rd_T39 l0_0 x4_1).f2), .int .i64 ((rd_T39 l0_0 x4_1).f3)] 39 (0, 0))) := ⟨(by rw [hw]; exact (bP_ BK136))⟩; have n7_ : Aside0 (Below w.heap.size w w33) := ⟨(by rw [hw]; exact sABelo_4)⟩; clear hw; clear HO_135000; clear HO_135001; clear HO142; clear BK126; clear BK127; clear BK134; clear BK136; clear HB; have HO_135000 := n0_; have HO_135001 := n1_; have HO142 := n2_; have BK126 := n3_; have BK127 := n4_; have BK134 := n5_; have BK136 := n6_; have HB := n7_; clear n0_ n1_ n2_ n3_ n4_ n5_ n6_ n7_; have hnb34 := NB134_127.out; have hnc34 := NB127_134.out; obtain ⟨hcz35_0, hcz35_1, hfz35_0, hfz35_1⟩ := cf2_ BK134; obtain ⟨hcz36_0, hcz36_1, hcz36_2, hcz36_3, hfz36_0, hfz36_1, hfz36_2, hfz36_3⟩ := cf4_ BK136) | ((with_reducible refine gate_builtin (b := .append) (xs := #[.tmp 29, .tmp 31]) rfl ?_); at_builtin; refine Kd.S_append k39 (w0 := w) w.heap.size rfl (.tmp 29) (.tmp 31) 24 39 (.agg #[(.slice none 0 0), (.int .i64 0), (.int .i64 0), (.int .i64 0)]) 48 rfl Try.underlying24 info39 rfl (by decide) (by omega) u135000 x135000_1 (⟨y140, (rd_T39 l0_0 x4_1).f1, (rd_T39 l0_0 x4_1).f2, (rd_T39 l0_0 x4_1).f3⟩ : S39) [.slice Ao31 y140.length co31, .int .i64 ((rd_T39 l0_0 x4_1).f1), .int .i64 ((rd_T39 l0_0 x4_1).f2), .int .i64 ((rd_T39 l0_0 x4_1).f3)] (fun k_ => some k_ ≠ (.slice Ao10 y131.length co10 : Value).ownBlock ∧ k_ ≠ gb136) (fun k_ => some k_ = (.slice Ao31 y140.length co31 : Value).ownBlock) rfl rfl ?aP (fun k_ hk_ => ((Kd.R_mono (ok' := fun k_ => ((fun k_ => some k_ ≠ (.slice Ao10 y131.length co10 : Value).ownBlock ∧ k_ ≠ gb136)) k_ ∧ some k_ ≠ (u135000 : Value).ownBlock) (Kd.R_types (Kd.R_apart' (HO142.out) (Kd.S_typed HO_135000.out) (by decide)) BK136.out (by decide)) (fun k_ hk => ⟨⟨hk.1.1, hk.2⟩, hk.1.2⟩))).1 k_ hk_.symm) ?aF ?aO ?aB ?aS ?aL ?_; (case aP => exact k39_mkM _ _ _ (⟨y140, (rd_T39 l0_0 x4_1).f1, (rd_T39 l0_0 x4_1).f2, (rd_T39 l0_0 x4_1).f3⟩ : S39) (Kd.R_mono (Kd.R_tight rfl (Kd.R_mono (ok' := fun k_ => ((fun k_ => some k_ ≠ (.slice Ao10 y131.length co10 : Value).ownBlock ∧ k_ ≠ gb136)) k_ ∧ some k_ ≠ (u135000 : Value).ownBlock) (Kd.R_types (Kd.R_apart' (HO142.out) (Kd.S_typed HO_135000.out) (by decide)) BK136.out (by decide)) (fun k_ hk => ⟨⟨hk.1.1, hk.2⟩, hk.1.2⟩))) (fun _ h_ => h_))); (case aB => exact sABelo_4); (case aF => exact (fun k_ hk => ⟨Kd.fresh' (rLt_ HO_135001) k_ hk, Kd.freshB (g := gb136) (o := .cells #[.slice Ao31 y140.length co31, .int .i64 ((rd_T39 l0_0 x4_1).f1), .int .i64 ((rd_T39 l0_0 x4_1).f2), .int .i64 ((rd_T39 l0_0 x4_1).f3)] 39 (0, 0)) (bT_ BK136) k_ hk⟩)); (case aO => exact (by (with_reducible repeat (first | apply Kd.S_alloc | apply Kd.S_drewN | apply Kd.S_drew)); exact Kd.S_mono HO_135000.out (fun k_ hk => ⟨⟨hk.1, hk.2.2⟩, fun e_ => hk.2.1 e_⟩))); (case aS => exact (below_size sABelo_4)); (case aL => have := LMc18.out; omega); intro v144 w37 ho hb hg hat; rw [← Ny143.out] at ho; replace HO_135001 := mk_ (Kd.R_over' (rT_ HO_135001) (Kd.S_typed (sT_ HO_135000)) (by decide) hg); replace BK126 := mk_ (blk_grown (bT_ BK126) hg (Kd.S_ne HO_135000.out BK126.out (by decide))); replace BK127 := mk_ (blk_grown (bT_ BK127) hg (Kd.S_ne HO_135000.out BK127.out (by decide))); replace BK134 := mk_ (blk_grown (bT_ BK134) hg (Kd.S_ne HO_135000.out BK134.out (by decide))); replace BK136 := mk_ (blk_grown (bT_ BK136) hg (Kd.S_away HO_135000.out (fun _ hk => hk.2.2))); replace HB := mk_ (hb); have HO145 := mk_ (ho); clear HO_135000 HO142; clear ho hb hg hat; obtain ⟨Ao38, co38, eo38⟩ := Kd.S_slice HO145.out; subst eo38; obtain ⟨hcz39_0, hcz39_1, hfz39_0, hfz39_1⟩ := cf2_ BK134))
    go_roundg k1
    case measure => have := HK1.out; omega
    case rel => exact ⟨(wrap64 (x4_1 + 1)), (y143), (.slice Ao38 y143.length co38), eS_, H', ⟨by have := HK1.out; omega⟩, ⟨sFM_ HO145 BK134⟩, ⟨rFM_ HO_135001 BK134⟩, ⟨bF_ BK126 NB126_134⟩, ⟨bF_ BK127 NB127_134⟩, ⟨bP_ BK134⟩, ⟨sABelo_4⟩⟩
   ·rw [if_neg c15] at H
    have c15b0 := decide_eq_false c15
    clear c15
    simp only [Option.some.injEq, Prod.mk.injEq] at H
    obtain ⟨rfl, rfl⟩ := H
    have hnb40 := NB126_127.out; have hnc40 := NB127_126.out; have hnb41 := NB126_134.out; have hnc41 := NB134_126.out
    obtain ⟨hcz42_0, hcz42_1, hfz42_0, hfz42_1⟩ := cf2_ BK126; have hnb43 := NB134_127.out; have hnc43 := NB127_134.out
    obtain ⟨hcz44_0, hcz44_1, hfz44_0, hfz44_1⟩ := cf2_ BK134
    obtain ⟨Ao45, co45, eo45⟩ := Kd.S_slice HO_135000.out
    subst eo45
    obtain ⟨hcz46_0, hcz46_1, hfz46_0, hfz46_1⟩ := cf2_ BK127
    go_wp2
    refine bodyPost_ret (results_cell_row rfl _ _ gb127 27 #[.slice Ao45 x135000_1.length co45, .slice Ao10 y131.length co10] (0, 0) _ rfl (bP_ BK127) Try.underlying27 rfl (by kernel_rfl)) rfl ?_
    exact ⟨_, _, eW_, by (with_reducible repeat (first | apply Kd.S_alloc | apply Kd.S_drewN | apply Kd.S_drew)); exact Kd.S_mono (Kd.S_far (p := ⟨gb127, 1, none⟩) (Kd.S_far (p := ⟨gb127, 0, none⟩) (Kd.S_types HO_135000.out BK127.out (by decide)) (fun _ hk => hk.2) (.slice Ao45 x135000_1.length co45)) (fun _ hk => hk.2) (.slice Ao10 y131.length co10)) (fun _ hk => hk.1), by (with_reducible repeat (first | apply Kd.R_alloc | apply Kd.R_drewN | apply Kd.R_drew)); exact Kd.R_mono (Kd.R_far (p := ⟨gb127, 1, none⟩) (Kd.R_far (p := ⟨gb127, 0, none⟩) (Kd.R_types HO_135001.out BK127.out (by decide)) (fun _ hk => hk.2) (.slice Ao45 x135000_1.length co45)) (fun _ hk => hk.2) (.slice Ao10 y131.length co10)) (fun _ hk => trivial), sABelo_4⟩

/-! ### spec_NewRun: function 14 -/
def spec_NewRun.f (k : Nat) (l0_0 : List (S39)) (l0_1 : List Int) : Option ((List (S39)) × List Int × Int × (List (S43)) × Bool) := (spec_SuiteOk.f k l0_0 l0_1).bind fun t148 => (if t148 = true then ((spec_l24CopySuite.f k l0_0 l0_1).bind fun bt149 => (if 0 ≤ (l0_0.length : Int) then (if ((l0_0.length : Int) : Int).toNat ≤ 17592186044416 then (some (bt149.1, bt149.2, 0, (List.replicate ((l0_0.length : Int) : Int).toNat z43), true)) else (none)) else (none))) else (some (([] : List (S39)), ([] : List Int), 0, ([] : List (S43)), false)))
theorem spec_NewRun.mono : ∀ a0 a1 k, LeO (spec_NewRun.f k a0 a1) (spec_NewRun.f (k + 1) a0 a1) := by
 intro a0 a1 k
 unfold spec_NewRun.f
 repeat' first
   | (with_reducible exact spec_SuiteOk.mono _ _ _)
   | (with_reducible exact spec_l24CopySuite.mono _ _ _)
   | (with_reducible exact LeO.refl _)
   | (with_reducible exact LeO.none _)
   | (with_reducible refine LeO.ite ?_ ?_)
   | (with_reducible refine LeO.bind ?_ (fun _ => ?_))
   | exact LeO.none _
   | refine LeO.ite ?_ ?_
   | refine LeO.bind ?_ (fun _ => ?_)
def spec_NewRun.T3 : Bool × List (List Nat × List Nat) := (true, [([], []), ([0], [0]), ([], []), ([2], [2]), ([3], [3]), ([4, 4], [4]), ([1, 5], [1, 5]), ([6, 1, 0, 1, 2, 3, 4, 5, 6], [6]), ([7, 0, 1, 2, 3, 4, 5, 6, 7], [])])
def spec_NewRun.B3 : List Nat := [0, 1, 0, 4, 12, 28, 63, 127, 255]
theorem spec_NewRun.tab3 : rtab .any (opsOf Try.f14 3) = spec_NewRun.T3 := by kernel_rfl
theorem spec_NewRun.bits3 : waitsOk spec_NewRun.T3.2 spec_NewRun.B3 = true := by kernel_rfl
set_option maxHeartbeats 8000000 in
set_option maxRecDepth 100000 in
theorem spec_NewRun.calls (k : Nat) (A0_0 : Option Addr) (c0_0 : Nat) (l0_0 : List (S39)) (A0_1 : Option Addr) (c0_1 : Nat) (l0_1 : List Int) (r1 : List (S39)) (r2 : List Int) (r3 : Int) (r4 : List (S43)) (r5 : Bool) (w : World) (hr0_0 : Kd.C k39 w A0_0 l0_0.length l0_0) (hc0_0 : l0_0.length ≤ c0_0) (hr0_1 : Kd.C (Kd.int .i64) w A0_1 l0_1.length l0_1) (hc0_1 : l0_1.length ≤ c0_1) (h : spec_NewRun.f k l0_0 l0_1 = some (r1, r2, r3, r4, r5)) :
  Calls Try.prog 14 #[.agg #[.slice A0_0 l0_0.length c0_0, .slice A0_1 l0_1.length c0_1]] w fun e w' => ∃ v0_ v1_ v3_ : Value, e = .returned (.tuple #[.agg #[v0_, v1_, .int .i64 r3, v3_], .bool r5]) ∧ Kd.S k39 39 w' w.heap.size (fun k_ => some k_ ≠ (v1_ : Value).ownBlock) v0_ r1 ∧ Kd.R (Kd.int .i64) 2 w' w.heap.size (fun _ => True) v1_ r2 ∧ Kd.R k43 43 w' w.heap.size (fun _ => True) v3_ r4 ∧ Below w.heap.size w w' := by
 have hu27 := Try.underlying27; have hu31 := Try.underlying31; have HR0_0 := mk_ hr0_0; have HC0_0 := mk_ hc0_0; clear hr0_0 hc0_0; have HR0_1 := mk_ hr0_1; have HC0_1 := mk_ hc0_1; clear hr0_1 hc0_1
 have HB := mk_ (Below.refl w.heap.size w)
 have H : ((spec_SuiteOk.f k l0_0 l0_1).bind fun t148 => (if t148 = true then ((spec_l24CopySuite.f k l0_0 l0_1).bind fun bt149 => (if 0 ≤ (l0_0.length : Int) then (if ((l0_0.length : Int) : Int).toNat ≤ 17592186044416 then (some (bt149.1, bt149.2, 0, (List.replicate ((l0_0.length : Int) : Int).toNat z43), true)) else (none)) else (none))) else (some (([] : List (S39)), ([] : List Int), 0, ([] : List (S43)), false)))) = some (r1, r2, r3, r4, r5) := h
 clear h; replace H := Option.bind_eq_some_iff.mp H
 obtain ⟨t148, A20, H⟩ := H
 (try dsimp only at H)
 have A2 := mk_ A20; clear A20
 by_cases c3 : t148 = true
 ·subst c3
  replace H := ifT_ H; replace H := Option.bind_eq_some_iff.mp H
  obtain ⟨⟨t149, t152⟩, A40, H⟩ := H
  (try dsimp only at H)
  have A4 := mk_ A40; clear A40
  obtain ⟨c5, H⟩ := ifS_ H
  have c5b0 := eq_true c5
  have c5b1 : decide (0 ≤ (l0_0.length : Int)) = true := decide_eq_true c5
  clear c5
  obtain ⟨c6, H⟩ := ifS_ H
  have c6b0 := eq_true c6
  have c6b1 : decide (((l0_0.length : Int) : Int).toNat ≤ 17592186044416) = true := decide_eq_true c6
  clear c6
  obtain ⟨y155, hy155⟩ : ∃ y_ : List (S43), y_ = (List.replicate ((l0_0.length : Int) : Int).toNat z43) := ⟨_, rfl⟩
  replace H : (some (t149, t152, 0, y155, true)) = some (r1, r2, r3, r4, r5) := by first | (rw [hy155]; with_reducible exact H) | (have H2_ := (Option.bind_some _ _).symm.trans H; rw [hy155]; with_reducible exact H2_) | (have H2_ := (Option.bind_some _ _).symm.trans H; with_reducible exact H2_) | with_reducible exact H | (rw [hy155]; exact H) | exact H
  have Ny155 := mk_ hy155; clear hy155
  simp only [Option.some.injEq, Prod.mk.injEq] at H
  obtain ⟨rfl, rfl, rfl, rfl, rfl⟩ := H
  go_enter Try.func14, Try.ntmps14
  try go_wp2_with (first | ((with_reducible refine gate_dst (N := 1) rfl ?_); refine box_event ?hg (N := 1) ?hd (cs := #[.slice A0_0 l0_0.length c0_0, .slice A0_1 l0_1.length c0_1]) (t := 27) ?hr ?_; (case hd => rfl); (case hg => rfl); (case hr => first | (go_simp; done) | (go_simp; rfl)); intro gb146 hg w7 hbox hb; have BK146 := mk_ (hbox); have GW146 := gE_ HB hg; have GE146 := gE_ HB hg; replace HB := bS_ HB hb; clear hb hbox hg) | ((with_reducible refine gate_dst (N := 2) rfl ?_); refine box_event ?hg (N := 2) ?hd (cs := #[.slice none 0 0, .slice none 0 0, .int .i64 0, .slice none 0 0]) (t := 31) ?hr ?_; (case hd => rfl); (case hg => rfl); (case hr => first | (go_simp; done) | (go_simp; rfl)); intro gb147 hg w8 hbox hb; have BK147 := mk_ (hbox); have GW147 := gE_ HB hg; have GE147 := gE_ HB hg; replace HB := bS_ HB hb; have NB146_147 := nL_ BK146 hg; have NB147_146 := nG_ BK146 hg; replace BK146 := bB_ BK146 hb; clear hb hbox hg; have hnb9 := NB146_147.out; have hnc9 := NB147_146.out; obtain ⟨hcz10_0, hcz10_1, hfz10_0, hfz10_1⟩ := cf2_ BK146) | ((with_reducible refine gate_callee (f := 44) rfl ?_); refine gL_ (some 5) Try.func44 #[.agg #[.slice A0_0 l0_0.length c0_0, .slice A0_1 l0_1.length c0_1]] ?_; (with_reducible refine (spec_SuiteOk.calls k _ _ l0_0 _ _ l0_1 true _ ?side1 ?side2 ?side3 ?side4 A2.out).mono ?_); (case side1 => exact cB_ HR0_0 HB); (case side2 => exact HC0_0.out); (case side3 => exact cB_ HR0_1 HB); (case side4 => exact HC0_1.out); rintro e w11 ⟨rfl, hb⟩; refine ⟨_, rfl, ?_⟩; replace BK146 := bB_ BK146 hb; replace BK147 := bB_ BK147 hb; replace HB := bS_ HB hb; (try clear hb)))
  replace BK146 := mk_ (blk_drew BK146.out)
  replace BK147 := mk_ (blk_drew BK147.out)
  replace HB := mk_ (below_drew1 HB.out)
  refine start_ (n := 9) (S := fun w' => w'.cell? ⟨gb146, 0, none⟩ = some (.slice A0_0 l0_0.length c0_0) ∧ w'.cell? ⟨gb146, 1, none⟩ = some (.slice A0_1 l0_1.length c0_1)) (ds := []) (uu 0 9) (by kernel_rfl) rfl rfl ⟨(blk_cell BK146.out 0).trans rfl, (blk_cell BK146.out 1).trans rfl⟩ (fun hHeld => ?_); refine with_tabW spec_NewRun.tab3 spec_NewRun.bits3 (fun HT_ HW_ => ?_)
  generalize w11.drew = w12 at BK146 BK147 HB hHeld ⊢
  refine pT_ 2 (some 10) #[false, false, true, false, false, false, false, false, false] HT_ ?_
  refine tT_ 0 (some 8) #[true, false, true, false, false, false, false, false, false] HT_ HW_ hHeld ?_ (hy := by rintro w' ⟨s0, s1⟩; go_simp; with_reducible rfl)
  refine tT_ 3 (some 11) #[true, false, true, true, false, false, false, false, false] HT_ HW_ hHeld ?_ (hy := by rintro w' ⟨s0, s1⟩; go_simp; with_reducible rfl)
  refine pT_ 4 (some 12) #[true, false, true, true, true, false, false, false, false] HT_ ?_
  refine join_ (σ := Value × Value × Value) 3 (uu 6 3) (fun s_ => [(9, .agg #[s_.1, s_.2.1]), (13, s_.2.2)]) (fun s_ w' => (w'.cell? ⟨gb146, 0, none⟩ = some (.slice A0_0 l0_0.length c0_0) ∧ w'.cell? ⟨gb146, 1, none⟩ = some (.slice A0_1 l0_1.length c0_1)) ∧ (Kd.S k39 39 w' w.heap.size (fun k_ => some k_ ≠ (s_.2.1 : Value).ownBlock) s_.1 t149) ∧ (Kd.R (Kd.int .i64) 2 w' w.heap.size (fun _ => True) s_.2.1 t152) ∧ (Kd.R k43 43 w' w.heap.size (fun _ => True) s_.2.2 y155) ∧ (w'.heap[gb146]? = some (.cells #[.slice A0_0 l0_0.length c0_0, .slice A0_1 l0_1.length c0_1] 27 (0, 0))) ∧ (w'.heap[gb147]? = some (.cells #[.slice none 0 0, .slice none 0 0, .int .i64 0, .slice none 0 0] 31 (0, 0))) ∧ (Below w.heap.size w w')) ?_ ?_
  rotate_left
  ·intro hCont
   refine two_ (i := 1) (j := 5) (Ni := some 9) (Nj := some 13) (uu 5 4) #[true, false, true, true, true, true, false, false, false] rfl rfl rfl rfl (two_of HT_.out (by kernel_rfl)) (by decide) (by decide) (fun K hK => ?_) (fun K hK => ?_)
   ·skip
    refine goes_ Try.func45 (by kernel_rfl) rfl #[.agg #[.slice A0_0 l0_0.length c0_0, .slice A0_1 l0_1.length c0_1]] (by rfl) rfl rfl (by (try simp only [List.map_toArray, List.map_cons, List.map_nil]); first | done | rfl | (simp only [List.length_drop, List.length_take]; rfl)) ?_
    with_reducible refine (spec_l24CopySuite.calls k _ _ l0_0 _ _ l0_1 t149 t152 _ ?side1 ?side2 ?side3 ?side4 A4.out).mono ?_
    (case side1 => exact cB_ HR0_0 HB)
    (case side2 => exact HC0_0.out)
    (case side3 => exact cB_ HR0_1 HB)
    (case side4 => exact HC0_1.out)
    rintro e w13 ⟨v150, v153, rfl, ho0, ho1, hb⟩
    refine ⟨_, rfl, ?_⟩
    have HO151 := sL_ ho0 HB; have HO154 := rL_ ho1 HB; replace BK146 := bB_ BK146 hb; replace BK147 := bB_ BK147 hb; replace HB := bS_ HB hb; (try clear hb); (try clear ho0); (try clear ho1)
    refine hK.out _ _ ⟨(blk_cell BK146.out 0).trans rfl, (blk_cell BK146.out 1).trans rfl⟩ (fun hHeld => ?_)
    clear hK K
    refine nS_ (some 9) ?_
    refine one_ (i := 5) (N := some 13) (uu 6 3) rfl rfl (one_of HT_.out (by kernel_rfl)) (by decide) (fun K hK => ?_)
    refine Kd.R_make_step k43 _ 43 (by rfl) (N := 13) rfl 29 _ _ rfl (l0_0.length : Int) rfl rfl Try.underlying29 (.agg #[(.int .i64 0), (.int .i64 0)]) 16 info43 rfl (by decide) (by omega) z43 (ok := fun _ => True) (okp := fun _ => True) (k43_mkM _ _ _ z43 ) (fun _ hk => hk) trivial dA_ (Nat.le_trans (Nat.mul_le_mul_right _ (of_decide_eq_true (by first | (with_reducible assumption) | assumption) : (l0_0.length : Int).toNat ≤ 17592186044416)) (by omega)) (Below.refl _ _) (Nat.le_refl _) ?_
    intro v156 w14 ho15 hb hg_ hnew_
    clear hg_ hnew_
    (first | rw [← Ny155.out] at ho15 | (simp only [Int.reduceToNat] at ho15; rw [← Ny155.out] at ho15))
    replace HO151 := sB_ HO151 hb; replace HO154 := rB_ HO154 hb; have HO157 := rL_ ho15 HB; replace BK146 := bB_ BK146 hb; replace BK147 := bB_ BK147 hb; replace HB := bS_ HB hb; clear hb ho15
    obtain ⟨Ao16, co16, eo16⟩ := Kd.R_slice HO157.out
    (first | subst eo16 | (injection eo16 with f1_ f2_ f3_; have f4_ := f1_.symm; have f5_ := f3_.symm; clear f1_ f2_ f3_; subst f4_; subst f5_))
    obtain ⟨Ao17, co17, eo17⟩ := Kd.R_slice HO154.out
    (first | subst eo17 | (injection eo17 with f1_ f2_ f3_; have f4_ := f1_.symm; have f5_ := f3_.symm; clear f1_ f2_ f3_; subst f4_; subst f5_))
    obtain ⟨Ao18, co18, eo18⟩ := Kd.S_slice HO151.out
    (first | subst eo18 | (injection eo18 with f1_ f2_ f3_; have f4_ := f1_.symm; have f5_ := f3_.symm; clear f1_ f2_ f3_; subst f4_; subst f5_))
    refine hK.out _ _ ⟨(blk_cell BK146.out 0).trans rfl, (blk_cell BK146.out 1).trans rfl⟩ (fun hHeld => ?_)
    clear hK K
    refine nS_ (some 13) ?_
    exact norm_ (by simp only [putAll, Act.put, List.setIfInBounds_toArray, List.set_cons_zero, List.set_cons_succ]) (hCont (.slice Ao18 t149.length co18, .slice Ao17 t152.length co17, .slice Ao16 y155.length co16) _ ⟨hHeld, (sT_ HO151), (rT_ HO154), (rT_ HO157), (bT_ BK146), (bT_ BK147), sABelo_4⟩)
   ·skip
    refine Kd.R_make_step k43 _ 43 (by rfl) (N := 13) rfl 29 _ _ rfl (l0_0.length : Int) rfl rfl Try.underlying29 (.agg #[(.int .i64 0), (.int .i64 0)]) 16 info43 rfl (by decide) (by omega) z43 (ok := fun _ => True) (okp := fun _ => True) (k43_mkM _ _ _ z43 ) (fun _ hk => hk) trivial dA_ (Nat.le_trans (Nat.mul_le_mul_right _ (of_decide_eq_true (by first | (with_reducible assumption) | assumption) : (l0_0.length : Int).toNat ≤ 17592186044416)) (by omega)) (Below.refl _ _) (Nat.le_refl _) ?_
    intro v156 w13 ho14 hb hg_ hnew_
    clear hg_ hnew_
    (first | rw [← Ny155.out] at ho14 | (simp only [Int.reduceToNat] at ho14; rw [← Ny155.out] at ho14))
    have HO157 := rL_ ho14 HB; replace BK146 := bB_ BK146 hb; replace BK147 := bB_ BK147 hb; replace HB := bS_ HB hb; clear hb ho14
    refine hK.out _ _ ⟨(blk_cell BK146.out 0).trans rfl, (blk_cell BK146.out 1).trans rfl⟩ (fun hHeld => ?_)
    clear hK K
    refine nS_ (some 13) ?_
    refine one_ (i := 1) (N := some 9) (uu 6 3) rfl rfl (one_of HT_.out (by kernel_rfl)) (by decide) (fun K hK => ?_)
    refine goes_ Try.func45 (by kernel_rfl) rfl #[.agg #[.slice A0_0 l0_0.length c0_0, .slice A0_1 l0_1.length c0_1]] (by rfl) rfl rfl (by (try simp only [List.map_toArray, List.map_cons, List.map_nil]); first | done | rfl | (simp only [List.length_drop, List.length_take]; rfl)) ?_
    with_reducible refine (spec_l24CopySuite.calls k _ _ l0_0 _ _ l0_1 t149 t152 _ ?side1 ?side2 ?side3 ?side4 A4.out).mono ?_
    (case side1 => exact cB_ HR0_0 HB)
    (case side2 => exact HC0_0.out)
    (case side3 => exact cB_ HR0_1 HB)
    (case side4 => exact HC0_1.out)
    rintro e w15 ⟨v150, v153, rfl, ho0, ho1, hb⟩
    refine ⟨_, rfl, ?_⟩
    replace HO157 := rB_ HO157 hb; have HO151 := sL_ ho0 HB; have HO154 := rL_ ho1 HB; replace BK146 := bB_ BK146 hb; replace BK147 := bB_ BK147 hb; replace HB := bS_ HB hb; (try clear hb); (try clear hk); (try clear ho0); (try clear ho1)
    obtain ⟨Ao16, co16, eo16⟩ := Kd.R_slice HO157.out
    (first | subst eo16 | (injection eo16 with f1_ f2_ f3_; have f4_ := f1_.symm; have f5_ := f3_.symm; clear f1_ f2_ f3_; subst f4_; subst f5_))
    obtain ⟨Ao17, co17, eo17⟩ := Kd.R_slice HO154.out
    (first | subst eo17 | (injection eo17 with f1_ f2_ f3_; have f4_ := f1_.symm; have f5_ := f3_.symm; clear f1_ f2_ f3_; subst f4_; subst f5_))
    obtain ⟨Ao18, co18, eo18⟩ := Kd.S_slice HO151.out
    (first | subst eo18 | (injection eo18 with f1_ f2_ f3_; have f4_ := f1_.symm; have f5_ := f3_.symm; clear f1_ f2_ f3_; subst f4_; subst f5_))
    refine hK.out _ _ ⟨(blk_cell BK146.out 0).trans rfl, (blk_cell BK146.out 1).trans rfl⟩ (fun hHeld => ?_)
    clear hK K
    refine nS_ (some 9) ?_
    exact norm_ (by simp only [putAll, Act.put, List.setIfInBounds_toArray, List.set_cons_zero, List.set_cons_succ]) (hCont (.slice Ao18 t149.length co18, .slice Ao17 t152.length co17, .slice Ao16 y155.length co16) _ ⟨hHeld, (sT_ HO151), (rT_ HO154), (rT_ HO157), (bT_ BK146), (bT_ BK147), sABelo_4⟩)
  rintro ⟨v150, v153, v156⟩ w19 ⟨hS_, h0_, h1_, h2_, h3_, h4_, h5_⟩
  try dsimp only at h0_ h1_ h2_ h3_ h4_ h5_
  have HO151 := mk_ h0_; have HO154 := mk_ h1_; have HO157 := mk_ h2_; replace BK146 := mk_ h3_; replace BK147 := mk_ h4_; replace HB := mk_ h5_; clear h0_ h1_ h2_ h3_ h4_ h5_
  have hHeld : w19.cell? ⟨gb146, 0, none⟩ = some (.slice A0_0 l0_0.length c0_0) ∧ w19.cell? ⟨gb146, 1, none⟩ = some (.slice A0_1 l0_1.length c0_1) := hS_
  obtain ⟨Ao20, co20, eo20⟩ := Kd.R_slice HO157.out
  (first | subst eo20 | (injection eo20 with f1_ f2_ f3_; have f4_ := f1_.symm; have f5_ := f3_.symm; clear f1_ f2_ f3_; subst f4_; subst f5_))
  obtain ⟨Ao21, co21, eo21⟩ := Kd.R_slice HO154.out
  (first | subst eo21 | (injection eo21 with f1_ f2_ f3_; have f4_ := f1_.symm; have f5_ := f3_.symm; clear f1_ f2_ f3_; subst f4_; subst f5_))
  obtain ⟨Ao22, co22, eo22⟩ := Kd.S_slice HO151.out
  (first | subst eo22 | (injection eo22 with f1_ f2_ f3_; have f4_ := f1_.symm; have f5_ := f3_.symm; clear f1_ f2_ f3_; subst f4_; subst f5_))
  refine norm_ (a' := ?_) ?_ ?_
  rotate_left
  ·simp only [putAll, Act.put, List.setIfInBounds_toArray, List.set_cons_zero, List.set_cons_succ]
   rfl
  refine pT_ 6 (some 14) (uu 7 2) HT_ ?_
  refine one_ (i := 7) (N := none) (uu 8 1) rfl rfl (one_of HT_.out (by kernel_rfl)) (by decide) (fun K hK => ?_)
  have hs23 : w19.cell? ⟨gb147, 0, none⟩ = some (.slice none 0 0) := (blk_cell BK147.out 0).trans rfl
  have hfs23 := blk_frozen BK147.out 0; have hns23_0 := NB146_147.out; have hms23_0 := NB147_146.out
  have hs24 : w19.cell? ⟨gb147, 1, none⟩ = some (.slice none 0 0) := (blk_cell BK147.out 1).trans rfl
  have hfs24 := blk_frozen BK147.out 1; have hns24_0 := NB146_147.out; have hms24_0 := NB147_146.out
  have hs25 : w19.cell? ⟨gb147, 2, none⟩ = some (.int .i64 0) := (blk_cell BK147.out 2).trans rfl
  have hfs25 := blk_frozen BK147.out 2; have hns25_0 := NB146_147.out; have hms25_0 := NB147_146.out
  have hs26 : w19.cell? ⟨gb147, 3, none⟩ = some (.slice none 0 0) := (blk_cell BK147.out 3).trans rfl
  have hfs26 := blk_frozen BK147.out 3; have hns26_0 := NB146_147.out; have hms26_0 := NB147_146.out
  refine skip_ (w1 := ?_) (by rfl) rfl ?_ ?_
  rotate_left
  ·go_simp
   rfl
  refine hK.out _ _ ⟨((cell_far (p := ⟨gb147, _, none⟩) NB146_147.out _).trans (((cell_far (p := ⟨gb147, _, none⟩) NB146_147.out _).trans (((cell_far (p := ⟨gb147, _, none⟩) NB146_147.out _).trans (((cell_far (p := ⟨gb147, _, none⟩) NB146_147.out _).trans (hHeld.1)))))))), ((cell_far (p := ⟨gb147, _, none⟩) NB146_147.out _).trans (((cell_far (p := ⟨gb147, _, none⟩) NB146_147.out _).trans (((cell_far (p := ⟨gb147, _, none⟩) NB146_147.out _).trans (((cell_far (p := ⟨gb147, _, none⟩) NB146_147.out _).trans (hHeld.2))))))))⟩ (fun hHeld => ?_)
  clear hK K
  refine pT_ 8 (some 3) (uu 9 0) HT_ ?_
  refine done_ (done_of HT_.out (by kernel_rfl)) ?_
  try go_wp2
  refine bodyPost_ret (results_ct rfl _ _ gb147 31 #[.slice Ao22 t149.length co22, .slice Ao21 t152.length co21, .int .i64 0, .slice Ao20 y155.length co20] (0, 0) _ rfl (bP_ BK147) Try.underlying31 rfl (by kernel_rfl)) rfl ?_
  exact ⟨_, _, _, eW_, by (with_reducible repeat (first | apply Kd.S_alloc | apply Kd.S_drewN | apply Kd.S_drew)); exact Kd.S_mono (Kd.S_far (p := ⟨gb147, 3, none⟩) (Kd.S_far (p := ⟨gb147, 2, none⟩) (Kd.S_far (p := ⟨gb147, 1, none⟩) (Kd.S_far (p := ⟨gb147, 0, none⟩) (Kd.S_types HO151.out BK147.out (by decide)) (fun _ hk => hk.2) (.slice Ao22 t149.length co22)) (fun _ hk => hk.2) (.slice Ao21 t152.length co21)) (fun _ hk => hk.2) (.int .i64 0)) (fun _ hk => hk.2) (.slice Ao20 y155.length co20)) (fun _ hk => hk.1), by (with_reducible repeat (first | apply Kd.R_alloc | apply Kd.R_drewN | apply Kd.R_drew)); exact Kd.R_mono (Kd.R_far (p := ⟨gb147, 3, none⟩) (Kd.R_far (p := ⟨gb147, 2, none⟩) (Kd.R_far (p := ⟨gb147, 1, none⟩) (Kd.R_far (p := ⟨gb147, 0, none⟩) (Kd.R_types HO154.out BK147.out (by decide)) (fun _ hk => hk.2) (.slice Ao22 t149.length co22)) (fun _ hk => hk.2) (.slice Ao21 t152.length co21)) (fun _ hk => hk.2) (.int .i64 0)) (fun _ hk => hk.2) (.slice Ao20 y155.length co20)) (fun _ hk => trivial), by (with_reducible repeat (first | apply Kd.R_alloc | apply Kd.R_drewN | apply Kd.R_drew)); exact Kd.R_mono (Kd.R_far (p := ⟨gb147, 3, none⟩) (Kd.R_far (p := ⟨gb147, 2, none⟩) (Kd.R_far (p := ⟨gb147, 1, none⟩) (Kd.R_far (p := ⟨gb147, 0, none⟩) (Kd.R_types HO157.out BK147.out (by decide)) (fun _ hk => hk.2) (.slice Ao22 t149.length co22)) (fun _ hk => hk.2) (.slice Ao21 t152.length co21)) (fun _ hk => hk.2) (.int .i64 0)) (fun _ hk => hk.2) (.slice Ao20 y155.length co20)) (fun _ hk => trivial), sABelo_4⟩
 ·replace c3 := Bool.eq_false_iff.mpr c3
  subst c3
  replace H := ifF_ H
  simp only [Option.some.injEq, Prod.mk.injEq] at H
  obtain ⟨rfl, rfl, rfl, rfl, rfl⟩ := H
  go_enter Try.func14, Try.ntmps14
  go_wp2_with (first | ((with_reducible refine gate_dst (N := 1) rfl ?_); refine box_event ?hg (N := 1) ?hd (cs := #[.slice A0_0 l0_0.length c0_0, .slice A0_1 l0_1.length c0_1]) (t := 27) ?hr ?_; (case hd => rfl); (case hg => rfl); (case hr => first | (go_simp; done) | (go_simp; rfl)); intro gb146 hg w27 hbox hb; have BK146 := mk_ (hbox); have GW146 := gE_ HB hg; have GE146 := gE_ HB hg; replace HB := bS_ HB hb; clear hb hbox hg) | ((with_reducible refine gate_dst (N := 2) rfl ?_); refine box_event ?hg (N := 2) ?hd (cs := #[.slice none 0 0, .slice none 0 0, .int .i64 0, .slice none 0 0]) (t := 31) ?hr ?_; (case hd => rfl); (case hg => rfl); (case hr => first | (go_simp; done) | (go_simp; rfl)); intro gb147 hg w28 hbox hb; have BK147 := mk_ (hbox); have GW147 := gE_ HB hg; have GE147 := gE_ HB hg; replace HB := bS_ HB hb; have NB146_147 := nL_ BK146 hg; have NB147_146 := nG_ BK146 hg; replace BK146 := bB_ BK146 hb; clear hb hbox hg; have hnb29 := NB146_147.out; have hnc29 := NB147_146.out; obtain ⟨hcz30_0, hcz30_1, hfz30_0, hfz30_1⟩ := cf2_ BK146) | ((with_reducible refine gate_callee (f := 44) rfl ?_); refine gL_ (some 5) Try.func44 #[.agg #[.slice A0_0 l0_0.length c0_0, .slice A0_1 l0_1.length c0_1]] ?_; (with_reducible refine (spec_SuiteOk.calls k _ _ l0_0 _ _ l0_1 false _ ?side1 ?side2 ?side3 ?side4 A2.out).mono ?_); (case side1 => exact cB_ HR0_0 HB); (case side2 => exact HC0_0.out); (case side3 => exact cB_ HR0_1 HB); (case side4 => exact HC0_1.out); rintro e w31 ⟨rfl, hb⟩; refine ⟨_, rfl, ?_⟩; replace BK146 := bB_ BK146 hb; replace BK147 := bB_ BK147 hb; replace HB := bS_ HB hb; (try clear hb); obtain ⟨hcz32_0, hcz32_1, hcz32_2, hcz32_3, hfz32_0, hfz32_1, hfz32_2, hfz32_3⟩ := cf4_ BK147))
  refine bodyPost_ret (results_ct rfl _ _ gb147 31 #[.slice none 0 0, .slice none 0 0, .int .i64 0, .slice none 0 0] (0, 0) _ rfl (bP_ BK147) Try.underlying31 rfl (by kernel_rfl)) rfl ?_
  exact ⟨_, _, _, eW_, by first | exact Kd.S_nil _ _ _ _ _ | exact Kd.N_nil _ _ _ _ _ | exact Kd.V_nil _ _ _ _ _ | exact Kd.Q_nil _ _ _ _ _ | exact Kd.R_nil _ _ _ _ _, by first | exact Kd.R_nil _ _ _ _ _ | exact Kd.N_nil _ _ _ _ _ | exact Kd.V_nil _ _ _ _ _ | exact Kd.Q_nil _ _ _ _ _ | exact Kd.S_nil _ _ _ _ _, by first | exact Kd.R_nil _ _ _ _ _ | exact Kd.N_nil _ _ _ _ _ | exact Kd.V_nil _ _ _ _ _ | exact Kd.Q_nil _ _ _ _ _ | exact Kd.S_nil _ _ _ _ _, sABelo_4⟩

/-! ### spec_l24Free: function 74 -/
def spec_l24Free.l0 : Nat → List Int → Int → List (S39) → List Int → Int → List (S43) → Option (Bool)
 | 0, _, _, _, _, _, _ => none
 | k + 1, x5, x6, x159000, x159001, x159002, x159003 => if x6 < (x5.length : Int) then (if 0 ≤ x6 then (if 0 ≤ (wrap64 ((rd x5 x6) - 1)) then (if (wrap64 ((rd x5 x6) - 1)) < (x159003.length : Int) then (if ((rd_T43 x159003 (wrap64 ((rd x5 x6) - 1))).f0) = 2 then (spec_l24Free.l0 k x5 (wrap64 (x6 + 1)) x159000 x159001 x159002 x159003) else (some false)) else (none)) else (none)) else (none)) else (some true)
def spec_l24Free.f (k : Nat) (l0_0 : List (S39)) (l0_1 : List Int) (a0_2 : Int) (l0_3 : List (S43)) (a1 : Int) : Option (Bool) := if 0 ≤ a1 then (if a1 < (l0_0.length : Int) then (spec_l24Free.l0 k ((rd_T39 l0_0 a1).f0) 0 l0_0 l0_1 a0_2 l0_3) else (none)) else (none)
theorem spec_l24Free.mono_l : ∀ k, (∀ y0 y1 y2 y3 y4 y5, LeO (spec_l24Free.l0 k y0 y1 y2 y3 y4 y5) (spec_l24Free.l0 (k + 1) y0 y1 y2 y3 y4 y5))
 | 0 => fun _ _ _ _ _ _ r h => by simp [spec_l24Free.l0] at h
 | k + 1 => by
  have ih0 := spec_l24Free.mono_l k
  ·intro y0 y1 y2 y3 y4 y5
   unfold spec_l24Free.l0
   repeat' first
   | (with_reducible exact ih0 _ _ _ _ _ _)
   | (with_reducible exact LeO.refl _)
   | (with_reducible exact LeO.none _)
   | (with_reducible refine LeO.ite ?_ ?_)
   | (with_reducible refine LeO.bind ?_ (fun _ => ?_))
   | exact ih0 _ _ _ _ _ _
   | exact LeO.none _
   | refine LeO.ite ?_ ?_
   | refine LeO.bind ?_ (fun _ => ?_)
theorem spec_l24Free.mono : ∀ a0 a1 a2 a3 a4 k, LeO (spec_l24Free.f k a0 a1 a2 a3 a4) (spec_l24Free.f (k + 1) a0 a1 a2 a3 a4) := by
 intro a0 a1 a2 a3 a4 k
 have ih0 := spec_l24Free.mono_l k
 unfold spec_l24Free.f
 repeat' first
   | (with_reducible exact ih0 _ _ _ _ _ _)
   | (with_reducible exact LeO.refl _)
   | (with_reducible exact LeO.none _)
   | (with_reducible refine LeO.ite ?_ ?_)
   | (with_reducible refine LeO.bind ?_ (fun _ => ?_))
   | exact ih0 _ _ _ _ _ _
   | exact LeO.none _
   | refine LeO.ite ?_ ?_
   | refine LeO.bind ?_ (fun _ => ?_)
set_option maxHeartbeats 8000000 in
set_option maxRecDepth 100000 in
theorem spec_l24Free.calls (k : Nat) (A0_0 : Option Addr) (c0_0 : Nat) (l0_0 : List (S39)) (A0_1 : Option Addr) (c0_1 : Nat) (l0_1 : List Int) (a0_2 : Int) (A0_3 : Option Addr) (c0_3 : Nat) (l0_3 : List (S43)) (a1 : Int) (r : Bool) (w : World) (hr0_0 : Kd.C k39 w A0_0 l0_0.length l0_0) (hc0_0 : l0_0.length ≤ c0_0) (hr0_1 : Kd.C (Kd.int .i64) w A0_1 l0_1.length l0_1) (hc0_1 : l0_1.length ≤ c0_1) (hr0_3 : Kd.C k43 w A0_3 l0_3.length l0_3) (hc0_3 : l0_3.length ≤ c0_3) (h : spec_l24Free.f k l0_0 l0_1 a0_2 l0_3 a1 = some r) :
  Calls Try.prog 74 #[.agg #[.slice A0_0 l0_0.length c0_0, .slice A0_1 l0_1.length c0_1, .int .i64 a0_2, .slice A0_3 l0_3.length c0_3], .int .i64 a1] w fun e w' => e = .returned (.bool r) ∧ Below w.heap.size w w' := by
 have hu31 := Try.underlying31; have HR0_0 := mk_ hr0_0; have HC0_0 := mk_ hc0_0; clear hr0_0 hc0_0; have HR0_1 := mk_ hr0_1; have HC0_1 := mk_ hc0_1; clear hr0_1 hc0_1; have HR0_3 := mk_ hr0_3; have HC0_3 := mk_ hc0_3; clear hr0_3 hc0_3
 have HB := mk_ (Below.refl w.heap.size w)
 have H : (if 0 ≤ a1 then (if a1 < (l0_0.length : Int) then (spec_l24Free.l0 k ((rd_T39 l0_0 a1).f0) 0 l0_0 l0_1 a0_2 l0_3) else (none)) else (none)) = some r := h
 clear h
 obtain ⟨c3, H⟩ := ifS_ H
 have c3b0 : decide (0 ≤ a1) = true := decide_eq_true c3
 clear c3
 obtain ⟨c4, H⟩ := ifS_ H
 have c4b0 : decide (a1 < (l0_0.length : Int)) = true := decide_eq_true c4
 clear c4; have H' := mk_ H; clear H
 go_enter Try.func74, Try.ntmps74
 have START_ := True.intro
 repeat ((first | go_quiet (fail) | clear START_); try go_wp2_with (first | ((with_reducible refine gate_dst (N := 2) rfl ?_); refine box_event ?hg (N := 2) ?hd (cs := #[.slice A0_0 l0_0.length c0_0, .slice A0_1 l0_1.length c0_1, .int .i64 a0_2, .slice A0_3 l0_3.length c0_3]) (t := 31) ?hr ?_; (case hd => rfl); (case hg => rfl); (case hr => first | (go_simp; done) | (go_simp; rfl)); intro gb158 hg w5 hbox hb; have BK158 := mk_ (hbox); have GW158 := gE_ HB hg; have GE158 := gE_ HB hg; replace HB := bS_ HB hb; clear hb hbox hg; obtain ⟨hcz6_0, hcz6_1, hcz6_2, hcz6_3, hfz6_0, hfz6_1, hfz6_2, hfz6_3⟩ := cf4_ BK158; have p159 : 0 ≤ (a1 : Int) := dA_; have q159 : a1 < (l0_0.length : Int) := dA_; obtain ⟨ad159, A159_0, c159_0, e159, hx159_0, hx159_1, hx159_2, hx159_3, hl159_0, hi159_0⟩ := at_T39 HR0_0.out a1 p159 q159; cases e159; replace hx159_0 := hX_ HB hx159_0; replace hx159_1 := hX_ HB hx159_1; replace hx159_2 := hX_ HB hx159_2; replace hx159_3 := hX_ HB hx159_3; have HR159_0 := mk_ hi159_0; have HC159_0 := mk_ hl159_0; clear hi159_0 hl159_0; replace p159 := eq_true p159; replace q159 := eq_true q159)))
 go_loopg [6] k (fun kq v6 w' => ∃ (x6_1 : Int), v6 = .int .i64 x6_1 ∧ Aside0 (spec_l24Free.l0 kq ((rd_T39 l0_0 a1).f0) x6_1 l0_0 l0_1 a0_2 l0_3 = some r) ∧ Aside0 (kq ≤ k) ∧ Aside0 (w'.heap[gb158]? = some (.cells #[(.slice (some ad159) l0_0.length c0_0), (.slice A0_1 l0_1.length c0_1), .int .i64 a0_2, (.slice A0_3 l0_3.length c0_3)] 31 (0, 0))) ∧ Aside0 (Below w.heap.size w w'))
 case atStart => exact ⟨(0), eS_, H', ⟨Nat.le_refl _⟩, ⟨bT_ BK158⟩, ⟨sABelo_4⟩⟩
 case round =>
  clear H'; (try clear c3); (try clear c3b0); (try clear c4); (try clear c4b0); (try clear hcz6_0); (try clear hcz6_1); (try clear hcz6_2); (try clear hcz6_3); (try clear hfz6_0); (try clear hfz6_1); (try clear hfz6_2); (try clear hfz6_3); (try clear hx159_0); (try clear hx159_1); (try clear hx159_2); (try clear hx159_3); (try clear p159); (try clear q159)
  obtain ⟨x6_1, rfl, HA, HK1, BK158, HB⟩ := hrel
  cases gk with
  | zero => exact absurd HA.out (by simp [spec_l24Free.l0])
  | succ k1 =>
   have H := HA.out; clear HA
   simp only [spec_l24Free.l0] at H
   by_cases c7 : x6_1 < (((rd_T39 l0_0 a1).f0).length : Int)
   ·rw [if_pos c7] at H
    have c7b0 := decide_eq_true c7
    clear c7
    obtain ⟨c8, H⟩ := ifS_ H
    have c8b0 : decide (0 ≤ x6_1) = true := decide_eq_true c8
    clear c8
    obtain ⟨ji9, hji9⟩ : ∃ j_ : Int, (wrap64 ((rd ((rd_T39 l0_0 a1).f0) x6_1) - 1)) = j_ := ⟨_, rfl⟩
    replace H : (if 0 ≤ (ji9) then (if (ji9) < (l0_3.length : Int) then (if ((rd_T43 l0_3 (ji9)).f0) = 2 then (spec_l24Free.l0 k1 ((rd_T39 l0_0 a1).f0) (wrap64 (x6_1 + 1)) l0_0 l0_1 a0_2 l0_3) else (some false)) else (none)) else (none)) = some r := by first | (rw [hji9] at H; exact H) | (simp only [hji9] at H ⊢; exact H)
    have hji9w : (IntKind.i64.wrap ((rd ((rd_T39 l0_0 a1).f0) x6_1) - 1)) = ji9 := (i64_w _).trans hji9
    obtain ⟨c10, H⟩ := ifS_ H
    have c10b0 : decide (0 ≤ (ji9)) = true := decide_eq_true c10
    clear c10
    obtain ⟨c11, H⟩ := ifS_ H
    have c11b0 : decide ((ji9) < (l0_3.length : Int)) = true := decide_eq_true c11
    clear c11
    by_cases c12 : ((rd_T43 l0_3 (ji9)).f0) = 2
    ·rw [if_pos c12] at H
     have c12b0 := beq_iff_eq.mpr c12
     have c12b1 := bne_eq_false_iff_eq.mpr c12
     clear c12; have H' := mk_ H; clear H
     obtain ⟨hcz13_0, hcz13_1, hcz13_2, hcz13_3, hfz13_0, hfz13_1, hfz13_2, hfz13_3⟩ := cf4_ BK158
     have p160 : 0 ≤ (x6_1 : Int) := dA_
     have q160 : x6_1 < (((rd_T39 l0_0 a1).f0).length : Int) := dA_
     obtain ⟨ad160, e160, hx160_0⟩ := Kd.at_int HR159_0.out x6_1 p160 q160
     cases e160
     replace hx160_0 := hX_ HB hx160_0
     replace p160 := eq_true p160; replace q160 := eq_true q160
     have p161 : 0 ≤ ((ji9) : Int) := dA_
     have q161 : (ji9) < (l0_3.length : Int) := dA_
     obtain ⟨ad161, e161, hx161_0, hx161_1⟩ := at_T43 HR0_3.out (ji9) p161 q161
     cases e161
     replace hx161_0 := hX_ HB hx161_0
     replace hx161_1 := hX_ HB hx161_1
     replace p161 := eq_true p161; replace q161 := eq_true q161
     go_wp2
     repeat (go_quiet (fail); try go_wp2)
     go_roundg k1
     case measure => have := HK1.out; omega
     case rel => exact ⟨(wrap64 (x6_1 + 1)), eS_, H', ⟨by have := HK1.out; omega⟩, ⟨bT_ BK158⟩, ⟨sABelo_4⟩⟩
    ·rw [if_neg c12] at H
     have c12b0 := beq_eq_false_iff_ne.mpr c12
     have c12b1 := bne_iff_ne.mpr c12
     obtain rfl := Option.some.inj H
     obtain ⟨hcz14_0, hcz14_1, hcz14_2, hcz14_3, hfz14_0, hfz14_1, hfz14_2, hfz14_3⟩ := cf4_ BK158
     have p160 : 0 ≤ (x6_1 : Int) := dA_
     have q160 : x6_1 < (((rd_T39 l0_0 a1).f0).length : Int) := dA_
     obtain ⟨ad160, e160, hx160_0⟩ := Kd.at_int HR159_0.out x6_1 p160 q160
     cases e160
     replace hx160_0 := hX_ HB hx160_0
     replace p160 := eq_true p160; replace q160 := eq_true q160
     have p161 : 0 ≤ ((ji9) : Int) := dA_
     have q161 : (ji9) < (l0_3.length : Int) := dA_
     obtain ⟨ad161, e161, hx161_0, hx161_1⟩ := at_T43 HR0_3.out (ji9) p161 q161
     cases e161
     replace hx161_0 := hX_ HB hx161_0
     replace hx161_1 := hX_ HB hx161_1
     replace p161 := eq_true p161; replace q161 := eq_true q161
     go_wp2
     repeat (go_quiet (fail); try go_wp2)
     go_ret
     exact ⟨by first | rfl | (simp [errW_none, errW_some] <;> rfl) | (simp only [← hji9]; first | rfl | (simp [errW_none, errW_some] <;> rfl)) | (simp [*, errW_none, errW_some] <;> rfl), sABelo_4⟩
   ·rw [if_neg c7] at H
    have c7b0 := decide_eq_false c7
    clear c7
    obtain rfl := Option.some.inj H
    go_wp2
    repeat (go_quiet (fail); try go_wp2)
    go_ret
    exact ⟨eW_, sABelo_4⟩

end Go.Proofs.Ytjoghfehmhapbaa.QFnLateOnce
