-- Written by a program of this session out of the printer's texts and contracts of its own.
import Derived.Test.YtjoghfehmhapbaaSq
import Derived.Test.YtjoghfehmhapbaaQFnSuiteOncex0
import Derived.Test.YtjoghfehmhapbaaQFnSuiteOncex6
namespace Go.Proofs.Ytjoghfehmhapbaa.QFnSuiteOnce
open Go.RowKit Go.Proofs.YtjoghfehmhapbaaW.PrintWords Go.Proofs.YtjoghfehmhapbaaW.PrintLast Go.Proofs.YtjoghfehmhapbaaW.PrintMore Go.Proofs.Ytjoghfehmhapbaa.Sq
attribute [local go_sem] max2_int min2_int max_two min_two max_three min_three max_four min_four   -- for this text's walks alone
set_option linter.unusedVariables false
set_option linter.unusedSimpArgs false
theorem sABelo_7 {b : Nat} {w W : World} (h : Below b w W := by repeat (first | (with_reducible first | exact Aside0.out (by assumption) | apply below_alloc | apply pw_below_drewN | apply below_drew1 | refine below_set ?_ (Aside0.out (by assumption))) | exact Aside0.out (by assumption))) : Below b w W := h

/-! ### impl_NewRun: function 15 -/
def impl_NewRun.f (k : Nat) (l0_0 : List (S39)) (l0_1 : List Int) : Option ((List (S39)) × List Int × Int × (List (S43)) × Bool) := (impl_SuiteOk.f k l0_0 l0_1).bind fun t283 => (if t283 = true then ((impl_copySuite.f k l0_0 l0_1).bind fun bt284 => (if 0 ≤ (l0_0.length : Int) then (if ((l0_0.length : Int) : Int).toNat ≤ 17592186044416 then (some (bt284.1, bt284.2, 0, (List.replicate ((l0_0.length : Int) : Int).toNat z43), true)) else (none)) else (none))) else (some (([] : List (S39)), ([] : List Int), 0, ([] : List (S43)), false)))
theorem impl_NewRun.mono : ∀ a0 a1 k, LeO (impl_NewRun.f k a0 a1) (impl_NewRun.f (k + 1) a0 a1) := by
 intro a0 a1 k; unfold impl_NewRun.f
 repeat' first
   | (with_reducible exact impl_SuiteOk.mono _ _ _)
   | (with_reducible exact impl_copySuite.mono _ _ _)
   | (with_reducible exact LeO.refl _)
   | (with_reducible exact LeO.none _)
   | (with_reducible refine LeO.ite ?_ ?_)
   | (with_reducible refine LeO.bind ?_ (fun _ => ?_))
   | exact LeO.none _
   | refine LeO.ite ?_ ?_
   | refine LeO.bind ?_ (fun _ => ?_)
def impl_NewRun.T3 : Bool × List (List Nat × List Nat) := (true, [([], []), ([0], [0]), ([], []), ([2], [2]), ([3], [3]), ([4, 4], [4]), ([1, 5], [1, 5]), ([6, 1, 0, 1, 2, 3, 4, 5, 6], [6]), ([7, 0, 1, 2, 3, 4, 5, 6, 7], [])])
def impl_NewRun.B3 : List Nat := [0, 1, 0, 4, 12, 28, 63, 127, 255]
theorem impl_NewRun.tab3 : rtab .any (opsOf Try.f15 3) = impl_NewRun.T3 := by kernel_rfl
theorem impl_NewRun.bits3 : waitsOk impl_NewRun.T3.2 impl_NewRun.B3 = true := by kernel_rfl
set_option maxHeartbeats 8000000 in
set_option maxRecDepth 100000 in
theorem impl_NewRun.calls (k : Nat) (A0_0 : Option Addr) (c0_0 : Nat) (l0_0 : List (S39)) (A0_1 : Option Addr) (c0_1 : Nat) (l0_1 : List Int) (r1 : List (S39)) (r2 : List Int) (r3 : Int) (r4 : List (S43)) (r5 : Bool) (w : World) (hr0_0 : Kd.C k39 w A0_0 l0_0.length l0_0) (hc0_0 : l0_0.length ≤ c0_0) (hr0_1 : Kd.C (Kd.int .i64) w A0_1 l0_1.length l0_1) (hc0_1 : l0_1.length ≤ c0_1) (h : impl_NewRun.f k l0_0 l0_1 = some (r1, r2, r3, r4, r5)) :
  Calls Try.prog 15 #[.agg #[.slice A0_0 l0_0.length c0_0, .slice A0_1 l0_1.length c0_1]] w fun e w' => ∃ v0_ v1_ v3_ : Value, e = .returned (.tuple #[.agg #[v0_, v1_, .int .i64 r3, v3_], .bool r5]) ∧ Kd.S k39 39 w' w.heap.size (fun k_ => some k_ ≠ (v1_ : Value).ownBlock) v0_ r1 ∧ Kd.R (Kd.int .i64) 2 w' w.heap.size (fun _ => True) v1_ r2 ∧ Kd.R k43 43 w' w.heap.size (fun _ => True) v3_ r4 ∧ Below w.heap.size w w' := by
 have hu27 := Try.underlying27; have hu31 := Try.underlying31; have HR0_0 := mk_ hr0_0; have HC0_0 := mk_ hc0_0; clear hr0_0 hc0_0; have HR0_1 := mk_ hr0_1; have HC0_1 := mk_ hc0_1; clear hr0_1 hc0_1; have HB := mk_ (Below.refl w.heap.size w); have H : ((impl_SuiteOk.f k l0_0 l0_1).bind fun t283 => (if t283 = true then ((impl_copySuite.f k l0_0 l0_1).bind fun bt284 => (if 0 ≤ (l0_0.length : Int) then (if ((l0_0.length : Int) : Int).toNat ≤ 17592186044416 then (some (bt284.1, bt284.2, 0, (List.replicate ((l0_0.length : Int) : Int).toNat z43), true)) else (none)) else (none))) else (some (([] : List (S39)), ([] : List Int), 0, ([] : List (S43)), false)))) = some (r1, r2, r3, r4, r5) := h; clear h; replace H := Option.bind_eq_some_iff.mp H; obtain ⟨t283, A20, H⟩ := H; (try dsimp only at H); have A2 := mk_ A20; clear A20
 by_cases c3 : t283 = true
 ·subst c3; replace H := ifT_ H; replace H := Option.bind_eq_some_iff.mp H; obtain ⟨⟨t284, t287⟩, A40, H⟩ := H; (try dsimp only at H); have A4 := mk_ A40; clear A40; obtain ⟨c5, H⟩ := ifS_ H; have c5b0 := eq_true c5; have c5b1 : decide (0 ≤ (l0_0.length : Int)) = true := decide_eq_true c5; clear c5; obtain ⟨c6, H⟩ := ifS_ H; have c6b0 := eq_true c6; have c6b1 : decide (((l0_0.length : Int) : Int).toNat ≤ 17592186044416) = true := decide_eq_true c6; clear c6; obtain ⟨y290, hy290⟩ : ∃ y_ : List (S43), y_ = (List.replicate ((l0_0.length : Int) : Int).toNat z43) := ⟨_, rfl⟩
  replace H : (some (t284, t287, 0, y290, true)) = some (r1, r2, r3, r4, r5) := by first | (rw [hy290]; with_reducible exact H) | (have H2_ := (Option.bind_some _ _).symm.trans H; rw [hy290]; with_reducible exact H2_) | (have H2_ := (Option.bind_some _ _).symm.trans H; with_reducible exact H2_) | with_reducible exact H | (rw [hy290]; exact H) | exact H
  have Ny290 := mk_ hy290; clear hy290; simp only [Option.some.injEq, Prod.mk.injEq] at H; obtain ⟨rfl, rfl, rfl, rfl, rfl⟩ := H; go_enter Try.func15, Try.ntmps15
  try go_wp2_with (first | ((with_reducible refine gate_dst (N := 1) rfl ?_); refine box_event ?hg (N := 1) ?hd (cs := #[.slice A0_0 l0_0.length c0_0, .slice A0_1 l0_1.length c0_1]) (t := 27) ?hr ?_; (case hd => rfl); (case hg => rfl); (case hr => first | (go_simp; done) | (go_simp; rfl)); intro gb281 hg w7 hbox hb; have BK281 := mk_ (hbox); have GW281 := gE_ HB hg; have GE281 := gE_ HB hg; replace HB := bS_ HB hb; clear hb hbox hg) | ((with_reducible refine gate_dst (N := 2) rfl ?_); refine box_event ?hg (N := 2) ?hd (cs := #[.slice none 0 0, .slice none 0 0, .int .i64 0, .slice none 0 0]) (t := 31) ?hr ?_; (case hd => rfl); (case hg => rfl); (case hr => first | (go_simp; done) | (go_simp; rfl)); intro gb282 hg w8 hbox hb; have BK282 := mk_ (hbox); have GW282 := gE_ HB hg; have GE282 := gE_ HB hg; replace HB := bS_ HB hb; have NB281_282 := nL_ BK281 hg; have NB282_281 := nG_ BK281 hg; replace BK281 := bB_ BK281 hb; clear hb hbox hg; have hnb9 := NB281_282.out; have hnc9 := NB282_281.out; obtain ⟨hcz10_0, hcz10_1, hfz10_0, hfz10_1⟩ := cf2_ BK281) | ((with_reducible refine gate_callee (f := 46) rfl ?_); refine gL_ (some 5) Try.func46 #[.agg #[.slice A0_0 l0_0.length c0_0, .slice A0_1 l0_1.length c0_1]] ?_; (with_reducible refine (impl_SuiteOk.calls k _ _ l0_0 _ _ l0_1 true _ ?side1 ?side2 ?side3 ?side4 A2.out).mono ?_); (case side1 => exact cB_ HR0_0 HB); (case side2 => exact HC0_0.out); (case side3 => exact cB_ HR0_1 HB); (case side4 => exact HC0_1.out); rintro e w11 ⟨rfl, hb⟩; refine ⟨_, rfl, ?_⟩; replace BK281 := bB_ BK281 hb; replace BK282 := bB_ BK282 hb; replace HB := bS_ HB hb; (try clear hb)))
  replace BK281 := mk_ (blk_drew BK281.out); replace BK282 := mk_ (blk_drew BK282.out); replace HB := mk_ (below_drew1 HB.out); refine start_ (n := 9) (S := fun w' => w'.cell? ⟨gb281, 0, none⟩ = some (.slice A0_0 l0_0.length c0_0) ∧ w'.cell? ⟨gb281, 1, none⟩ = some (.slice A0_1 l0_1.length c0_1)) (ds := []) (uu 0 9) (by kernel_rfl) rfl rfl ⟨(blk_cell BK281.out 0).trans rfl, (blk_cell BK281.out 1).trans rfl⟩ (fun hHeld => ?_); refine with_tabW impl_NewRun.tab3 impl_NewRun.bits3 (fun HT_ HW_ => ?_)
  generalize w11.drew = w12 at BK281 BK282 HB hHeld ⊢
  refine pT_ 2 (some 10) #[false, false, true, false, false, false, false, false, false] HT_ ?_; refine tT_ 0 (some 8) #[true, false, true, false, false, false, false, false, false] HT_ HW_ hHeld ?_ (hy := by rintro w' ⟨s0, s1⟩; go_simp; with_reducible rfl); refine tT_ 3 (some 11) #[true, false, true, true, false, false, false, false, false] HT_ HW_ hHeld ?_ (hy := by rintro w' ⟨s0, s1⟩; go_simp; with_reducible rfl); refine pT_ 4 (some 12) #[true, false, true, true, true, false, false, false, false] HT_ ?_; refine join_ (σ := Value × Value × Value) 3 (uu 6 3) (fun s_ => [(9, .agg #[s_.1, s_.2.1]), (13, s_.2.2)]) (fun s_ w' => (w'.cell? ⟨gb281, 0, none⟩ = some (.slice A0_0 l0_0.length c0_0) ∧ w'.cell? ⟨gb281, 1, none⟩ = some (.slice A0_1 l0_1.length c0_1)) ∧ (Kd.S k39 39 w' w.heap.size (fun k_ => some k_ ≠ (s_.2.1 : Value).ownBlock) s_.1 t284) ∧ (Kd.R (Kd.int .i64) 2 w' w.heap.size (fun _ => True) s_.2.1 t287) ∧ (Kd.R k43 43 w' w.heap.size (fun _ => True) s_.2.2 y290) ∧ (w'.heap[gb281]? = some (.cells #[.slice A0_0 l0_0.length c0_0, .slice A0_1 l0_1.length c0_1] 27 (0, 0))) ∧ (w'.heap[gb282]? = some (.cells #[.slice none 0 0, .slice none 0 0, .int .i64 0, .slice none 0 0] 31 (0, 0))) ∧ (Below w.heap.size w w')) ?_ ?_
  rotate_left
  ·intro hCont; refine two_ (i := 1) (j := 5) (Ni := some 9) (Nj := some 13) (uu 5 4) #[true, false, true, true, true, true, false, false, false] rfl rfl rfl rfl (two_of HT_.out (by kernel_rfl)) (by decide) (by decide) (fun K hK => ?_) (fun K hK => ?_)
   ·skip
    refine goes_ Try.func47 (by kernel_rfl) rfl #[.agg #[.slice A0_0 l0_0.length c0_0, .slice A0_1 l0_1.length c0_1]] (by rfl) rfl rfl (by (try simp only [List.map_toArray, List.map_cons, List.map_nil]); first | done | rfl | (simp only [List.length_drop, List.length_take]; rfl)) ?_
    with_reducible refine (impl_copySuite.calls k _ _ l0_0 _ _ l0_1 t284 t287 _ ?side1 ?side2 ?side3 ?side4 A4.out).mono ?_
    (case side1 => exact cB_ HR0_0 HB); (case side2 => exact HC0_0.out); (case side3 => exact cB_ HR0_1 HB); (case side4 => exact HC0_1.out); rintro e w13 ⟨v285, v288, rfl, ho0, ho1, hb⟩; refine ⟨_, rfl, ?_⟩; have HO286 := sL_ ho0 HB; have HO289 := rL_ ho1 HB; replace BK281 := bB_ BK281 hb; replace BK282 := bB_ BK282 hb; replace HB := bS_ HB hb; (try clear hb); (try clear ho0); (try clear ho1); refine hK.out _ _ ⟨(blk_cell BK281.out 0).trans rfl, (blk_cell BK281.out 1).trans rfl⟩ (fun hHeld => ?_); clear hK K; refine nS_ (some 9) ?_; refine one_ (i := 5) (N := some 13) (uu 6 3) rfl rfl (one_of HT_.out (by kernel_rfl)) (by decide) (fun K hK => ?_); refine Kd.R_make_step k43 _ 43 (by rfl) (N := 13) rfl 29 _ _ rfl (l0_0.length : Int) rfl rfl Try.underlying29 (.agg #[(.int .i64 0), (.int .i64 0)]) 16 info43 rfl (by decide) (by omega) z43 (ok := fun _ => True) (okp := fun _ => True) (k43_mkM _ _ _ z43 ) (fun _ hk => hk) trivial dA_ (Nat.le_trans (Nat.mul_le_mul_right _ (of_decide_eq_true (by first | (with_reducible assumption) | assumption) : (l0_0.length : Int).toNat ≤ 17592186044416)) (by omega)) (Below.refl _ _) (Nat.le_refl _) ?_; intro v291 w14 ho15 hb hg_ hnew_; clear hg_ hnew_; (first | rw [← Ny290.out] at ho15 | (simp only [Int.reduceToNat] at ho15; rw [← Ny290.out] at ho15)); replace HO286 := sB_ HO286 hb; replace HO289 := rB_ HO289 hb; have HO292 := rL_ ho15 HB; replace BK281 := bB_ BK281 hb; replace BK282 := bB_ BK282 hb; replace HB := bS_ HB hb; clear hb ho15; obtain ⟨Ao16, co16, eo16⟩ := Kd.R_slice HO292.out; (first | subst eo16 | (injection eo16 with f1_ f2_ f3_; have f4_ := f1_.symm; have f5_ := f3_.symm; clear f1_ f2_ f3_; subst f4_; subst f5_)); obtain ⟨Ao17, co17, eo17⟩ := Kd.R_slice HO289.out; (first | subst eo17 | (injection eo17 with f1_ f2_ f3_; have f4_ := f1_.symm; have f5_ := f3_.symm; clear f1_ f2_ f3_; subst f4_; subst f5_)); obtain ⟨Ao18, co18, eo18⟩ := Kd.S_slice HO286.out; (first | subst eo18 | (injection eo18 with f1_ f2_ f3_; have f4_ := f1_.symm; have f5_ := f3_.symm; clear f1_ f2_ f3_; subst f4_; subst f5_)); refine hK.out _ _ ⟨(blk_cell BK281.out 0).trans rfl, (blk_cell BK281.out 1).trans rfl⟩ (fun hHeld => ?_); clear hK K; refine nS_ (some 13) ?_; exact norm_ (by simp only [putAll, Act.put, List.setIfInBounds_toArray, List.set_cons_zero, List.set_cons_succ]) (hCont (.slice Ao18 t284.length co18, .slice Ao17 t287.length co17, .slice Ao16 y290.length co16) _ ⟨hHeld, (sT_ HO286), (rT_ HO289), (rT_ HO292), (bT_ BK281), (bT_ BK282), sABelo_7⟩)
   ·skip
    refine Kd.R_make_step k43 _ 43 (by rfl) (N := 13) rfl 29 _ _ rfl (l0_0.length : Int) rfl rfl Try.underlying29 (.agg #[(.int .i64 0), (.int .i64 0)]) 16 info43 rfl (by decide) (by omega) z43 (ok := fun _ => True) (okp := fun _ => True) (k43_mkM _ _ _ z43 ) (fun _ hk => hk) trivial dA_ (Nat.le_trans (Nat.mul_le_mul_right _ (of_decide_eq_true (by first | (with_reducible assumption) | assumption) : (l0_0.length : Int).toNat ≤ 17592186044416)) (by omega)) (Below.refl _ _) (Nat.le_refl _) ?_; intro v291 w13 ho14 hb hg_ hnew_; clear hg_ hnew_; (first | rw [← Ny290.out] at ho14 | (simp only [Int.reduceToNat] at ho14; rw [← Ny290.out] at ho14)); have HO292 := rL_ ho14 HB; replace BK281 := bB_ BK281 hb; replace BK282 := bB_ BK282 hb; replace HB := bS_ HB hb; clear hb ho14; refine hK.out _ _ ⟨(blk_cell BK281.out 0).trans rfl, (blk_cell BK281.out 1).trans rfl⟩ (fun hHeld => ?_); clear hK K; refine nS_ (some 13) ?_; refine one_ (i := 1) (N := some 9) (uu 6 3) rfl rfl (one_of HT_.out (by kernel_rfl)) (by decide) (fun K hK => ?_); refine goes_ Try.func47 (by kernel_rfl) rfl #[.agg #[.slice A0_0 l0_0.length c0_0, .slice A0_1 l0_1.length c0_1]] (by rfl) rfl rfl (by (try simp only [List.map_toArray, List.map_cons, List.map_nil]); first | done | rfl | (simp only [List.length_drop, List.length_take]; rfl)) ?_
    with_reducible refine (impl_copySuite.calls k _ _ l0_0 _ _ l0_1 t284 t287 _ ?side1 ?side2 ?side3 ?side4 A4.out).mono ?_
    (case side1 => exact cB_ HR0_0 HB); (case side2 => exact HC0_0.out); (case side3 => exact cB_ HR0_1 HB); (case side4 => exact HC0_1.out); rintro e w15 ⟨v285, v288, rfl, ho0, ho1, hb⟩; refine ⟨_, rfl, ?_⟩; replace HO292 := rB_ HO292 hb; have HO286 := sL_ ho0 HB; have HO289 := rL_ ho1 HB; replace BK281 := bB_ BK281 hb; replace BK282 := bB_ BK282 hb; replace HB := bS_ HB hb; (try clear hb); (try clear hk); (try clear ho0); (try clear ho1); obtain ⟨Ao16, co16, eo16⟩ := Kd.R_slice HO292.out; (first | subst eo16 | (injection eo16 with f1_ f2_ f3_; have f4_ := f1_.symm; have f5_ := f3_.symm; clear f1_ f2_ f3_; subst f4_; subst f5_)); obtain ⟨Ao17, co17, eo17⟩ := Kd.R_slice HO289.out; (first | subst eo17 | (injection eo17 with f1_ f2_ f3_; have f4_ := f1_.symm; have f5_ := f3_.symm; clear f1_ f2_ f3_; subst f4_; subst f5_)); obtain ⟨Ao18, co18, eo18⟩ := Kd.S_slice HO286.out; (first | subst eo18 | (injection eo18 with f1_ f2_ f3_; have f4_ := f1_.symm; have f5_ := f3_.symm; clear f1_ f2_ f3_; subst f4_; subst f5_)); refine hK.out _ _ ⟨(blk_cell BK281.out 0).trans rfl, (blk_cell BK281.out 1).trans rfl⟩ (fun hHeld => ?_); clear hK K; refine nS_ (some 9) ?_; exact norm_ (by simp only [putAll, Act.put, List.setIfInBounds_toArray, List.set_cons_zero, List.set_cons_succ]) (hCont (.slice Ao18 t284.length co18, .slice Ao17 t287.length co17, .slice Ao16 y290.length co16) _ ⟨hHeld, (sT_ HO286), (rT_ HO289), (rT_ HO292), (bT_ BK281), (bT_ BK282), sABelo_7⟩)
  rintro ⟨v285, v288, v291⟩ w19 ⟨hS_, h0_, h1_, h2_, h3_, h4_, h5_⟩
  try dsimp only at h0_ h1_ h2_ h3_ h4_ h5_
  have HO286 := mk_ h0_; have HO289 := mk_ h1_; have HO292 := mk_ h2_; replace BK281 := mk_ h3_; replace BK282 := mk_ h4_; replace HB := mk_ h5_; clear h0_ h1_ h2_ h3_ h4_ h5_; have hHeld : w19.cell? ⟨gb281, 0, none⟩ = some (.slice A0_0 l0_0.length c0_0) ∧ w19.cell? ⟨gb281, 1, none⟩ = some (.slice A0_1 l0_1.length c0_1) := hS_; obtain ⟨Ao20, co20, eo20⟩ := Kd.R_slice HO292.out; (first | subst eo20 | (injection eo20 with f1_ f2_ f3_; have f4_ := f1_.symm; have f5_ := f3_.symm; clear f1_ f2_ f3_; subst f4_; subst f5_)); obtain ⟨Ao21, co21, eo21⟩ := Kd.R_slice HO289.out; (first | subst eo21 | (injection eo21 with f1_ f2_ f3_; have f4_ := f1_.symm; have f5_ := f3_.symm; clear f1_ f2_ f3_; subst f4_; subst f5_)); obtain ⟨Ao22, co22, eo22⟩ := Kd.S_slice HO286.out; (first | subst eo22 | (injection eo22 with f1_ f2_ f3_; have f4_ := f1_.symm; have f5_ := f3_.symm; clear f1_ f2_ f3_; subst f4_; subst f5_)); refine norm_ (a' := ?_) ?_ ?_
  rotate_left
  ·simp only [putAll, Act.put, List.setIfInBounds_toArray, List.set_cons_zero, List.set_cons_succ]
   rfl
  refine pT_ 6 (some 14) (uu 7 2) HT_ ?_; refine one_ (i := 7) (N := none) (uu 8 1) rfl rfl (one_of HT_.out (by kernel_rfl)) (by decide) (fun K hK => ?_); have hs23 : w19.cell? ⟨gb282, 0, none⟩ = some (.slice none 0 0) := (blk_cell BK282.out 0).trans rfl; have hfs23 := blk_frozen BK282.out 0; have hns23_0 := NB281_282.out; have hms23_0 := NB282_281.out; have hs24 : w19.cell? ⟨gb282, 1, none⟩ = some (.slice none 0 0) := (blk_cell BK282.out 1).trans rfl; have hfs24 := blk_frozen BK282.out 1; have hns24_0 := NB281_282.out; have hms24_0 := NB282_281.out; have hs25 : w19.cell? ⟨gb282, 2, none⟩ = some (.int .i64 0) := (blk_cell BK282.out 2).trans rfl; have hfs25 := blk_frozen BK282.out 2; have hns25_0 := NB281_282.out; have hms25_0 := NB282_281.out; have hs26 : w19.cell? ⟨gb282, 3, none⟩ = some (.slice none 0 0) := (blk_cell BK282.out 3).trans rfl; have hfs26 := blk_frozen BK282.out 3; have hns26_0 := NB281_282.out; have hms26_0 := NB282_281.out; refine skip_ (w1 := ?_) (by rfl) rfl ?_ ?_
  rotate_left
  ·go_simp
   rfl
  refine hK.out _ _ ⟨((cell_far (p := ⟨gb282, _, none⟩) NB281_282.out _).trans (((cell_far (p := ⟨gb282, _, none⟩) NB281_282.out _).trans (((cell_far (p := ⟨gb282, _, none⟩) NB281_282.out _).trans (((cell_far (p := ⟨gb282, _, none⟩) NB281_282.out _).trans (hHeld.1)))))))), ((cell_far (p := ⟨gb282, _, none⟩) NB281_282.out _).trans (((cell_far (p := ⟨gb282, _, none⟩) NB281_282.out _).trans (((cell_far (p := ⟨gb282, _, none⟩) NB281_282.out _).trans (((cell_far (p := ⟨gb282, _, none⟩) NB281_282.out _).trans (hHeld.2))))))))⟩ (fun hHeld => ?_); clear hK K; refine pT_ 8 (some 3) (uu 9 0) HT_ ?_; refine done_ (done_of HT_.out (by kernel_rfl)) ?_
  try go_wp2
  refine bodyPost_ret (results_ct rfl _ _ gb282 31 #[.slice Ao22 t284.length co22, .slice Ao21 t287.length co21, .int .i64 0, .slice Ao20 y290.length co20] (0, 0) _ rfl (bP_ BK282) Try.underlying31 rfl (by kernel_rfl)) rfl ?_; exact ⟨_, _, _, eW_, by (with_reducible repeat (first | apply Kd.S_alloc | apply Kd.S_drewN | apply Kd.S_drew)); exact Kd.S_mono (Kd.S_far (p := ⟨gb282, 3, none⟩) (Kd.S_far (p := ⟨gb282, 2, none⟩) (Kd.S_far (p := ⟨gb282, 1, none⟩) (Kd.S_far (p := ⟨gb282, 0, none⟩) (Kd.S_types HO286.out BK282.out (by decide)) (fun _ hk => hk.2) (.slice Ao22 t284.length co22)) (fun _ hk => hk.2) (.slice Ao21 t287.length co21)) (fun _ hk => hk.2) (.int .i64 0)) (fun _ hk => hk.2) (.slice Ao20 y290.length co20)) (fun _ hk => hk.1), by (with_reducible repeat (first | apply Kd.R_alloc | apply Kd.R_drewN | apply Kd.R_drew)); exact Kd.R_mono (Kd.R_far (p := ⟨gb282, 3, none⟩) (Kd.R_far (p := ⟨gb282, 2, none⟩) (Kd.R_far (p := ⟨gb282, 1, none⟩) (Kd.R_far (p := ⟨gb282, 0, none⟩) (Kd.R_types HO289.out BK282.out (by decide)) (fun _ hk => hk.2) (.slice Ao22 t284.length co22)) (fun _ hk => hk.2) (.slice Ao21 t287.length co21)) (fun _ hk => hk.2) (.int .i64 0)) (fun _ hk => hk.2) (.slice Ao20 y290.length co20)) (fun _ hk => trivial), by (with_reducible repeat (first | apply Kd.R_alloc | apply Kd.R_drewN | apply Kd.R_drew)); exact Kd.R_mono (Kd.R_far (p := ⟨gb282, 3, none⟩) (Kd.R_far (p := ⟨gb282, 2, none⟩) (Kd.R_far (p := ⟨gb282, 1, none⟩) (Kd.R_far (p := ⟨gb282, 0, none⟩) (Kd.R_types HO292.out BK282.out (by decide)) (fun _ hk => hk.2) (.slice Ao22 t284.length co22)) (fun _ hk => hk.2) (.slice Ao21 t287.length co21)) (fun _ hk => hk.2) (.int .i64 0)) (fun _ hk => hk.2) (.slice Ao20 y290.length co20)) (fun _ hk => trivial), sABelo_7⟩
 ·replace c3 := Bool.eq_false_iff.mpr c3; subst c3; replace H := ifF_ H; simp only [Option.some.injEq, Prod.mk.injEq] at H; obtain ⟨rfl, rfl, rfl, rfl, rfl⟩ := H; go_enter Try.func15, Try.ntmps15
  go_wp2_with (first | ((with_reducible refine gate_dst (N := 1) rfl ?_); refine box_event ?hg (N := 1) ?hd (cs := #[.slice A0_0 l0_0.length c0_0, .slice A0_1 l0_1.length c0_1]) (t := 27) ?hr ?_; (case hd => rfl); (case hg => rfl); (case hr => first | (go_simp; done) | (go_simp; rfl)); intro gb281 hg w27 hbox hb; have BK281 := mk_ (hbox); have GW281 := gE_ HB hg; have GE281 := gE_ HB hg; replace HB := bS_ HB hb; clear hb hbox hg) | ((with_reducible refine gate_dst (N := 2) rfl ?_); refine box_event ?hg (N := 2) ?hd (cs := #[.slice none 0 0, .slice none 0 0, .int .i64 0, .slice none 0 0]) (t := 31) ?hr ?_; (case hd => rfl); (case hg => rfl); (case hr => first | (go_simp; done) | (go_simp; rfl)); intro gb282 hg w28 hbox hb; have BK282 := mk_ (hbox); have GW282 := gE_ HB hg; have GE282 := gE_ HB hg; replace HB := bS_ HB hb; have NB281_282 := nL_ BK281 hg; have NB282_281 := nG_ BK281 hg; replace BK281 := bB_ BK281 hb; clear hb hbox hg; have hnb29 := NB281_282.out; have hnc29 := NB282_281.out; obtain ⟨hcz30_0, hcz30_1, hfz30_0, hfz30_1⟩ := cf2_ BK281) | ((with_reducible refine gate_callee (f := 46) rfl ?_); refine gL_ (some 5) Try.func46 #[.agg #[.slice A0_0 l0_0.length c0_0, .slice A0_1 l0_1.length c0_1]] ?_; (with_reducible refine (impl_SuiteOk.calls k _ _ l0_0 _ _ l0_1 false _ ?side1 ?side2 ?side3 ?side4 A2.out).mono ?_); (case side1 => exact cB_ HR0_0 HB); (case side2 => exact HC0_0.out); (case side3 => exact cB_ HR0_1 HB); (case side4 => exact HC0_1.out); rintro e w31 ⟨rfl, hb⟩; refine ⟨_, rfl, ?_⟩; replace BK281 := bB_ BK281 hb; replace BK282 := bB_ BK282 hb; replace HB := bS_ HB hb; (try clear hb); obtain ⟨hcz32_0, hcz32_1, hcz32_2, hcz32_3, hfz32_0, hfz32_1, hfz32_2, hfz32_3⟩ := cf4_ BK282))
  refine bodyPost_ret (results_ct rfl _ _ gb282 31 #[.slice none 0 0, .slice none 0 0, .int .i64 0, .slice none 0 0] (0, 0) _ rfl (bP_ BK282) Try.underlying31 rfl (by kernel_rfl)) rfl ?_; exact ⟨_, _, _, eW_, by first | exact Kd.S_nil _ _ _ _ _ | exact Kd.N_nil _ _ _ _ _ | exact Kd.V_nil _ _ _ _ _ | exact Kd.Q_nil _ _ _ _ _ | exact Kd.R_nil _ _ _ _ _, by first | exact Kd.R_nil _ _ _ _ _ | exact Kd.N_nil _ _ _ _ _ | exact Kd.V_nil _ _ _ _ _ | exact Kd.Q_nil _ _ _ _ _ | exact Kd.S_nil _ _ _ _ _, by first | exact Kd.R_nil _ _ _ _ _ | exact Kd.N_nil _ _ _ _ _ | exact Kd.V_nil _ _ _ _ _ | exact Kd.Q_nil _ _ _ _ _ | exact Kd.S_nil _ _ _ _ _, sABelo_7⟩

/-! ### spec_l24Free: function 74 -/
def spec_l24Free.l0 : Nat → List Int → Int → List (S39) → List Int → Int → List (S43) → Option (Bool)
 | 0, _, _, _, _, _, _ => none
 | k + 1, x5, x6, x294000, x294001, x294002, x294003 => if x6 < (x5.length : Int) then (if 0 ≤ x6 then (if 0 ≤ (wrap64 ((rd x5 x6) - 1)) then (if (wrap64 ((rd x5 x6) - 1)) < (x294003.length : Int) then (if ((rd_T43 x294003 (wrap64 ((rd x5 x6) - 1))).f0) = 2 then (spec_l24Free.l0 k x5 (wrap64 (x6 + 1)) x294000 x294001 x294002 x294003) else (some false)) else (none)) else (none)) else (none)) else (some true)
def spec_l24Free.f (k : Nat) (l0_0 : List (S39)) (l0_1 : List Int) (a0_2 : Int) (l0_3 : List (S43)) (a1 : Int) : Option (Bool) := if 0 ≤ a1 then (if a1 < (l0_0.length : Int) then (spec_l24Free.l0 k ((rd_T39 l0_0 a1).f0) 0 l0_0 l0_1 a0_2 l0_3) else (none)) else (none)
theorem spec_l24Free.mono_l : ∀ k, (∀ y0 y1 y2 y3 y4 y5, LeO (spec_l24Free.l0 k y0 y1 y2 y3 y4 y5) (spec_l24Free.l0 (k + 1) y0 y1 y2 y3 y4 y5))
 | 0 => fun _ _ _ _ _ _ r h => by simp [spec_l24Free.l0] at h
 | k + 1 => by
  have ih0 := spec_l24Free.mono_l k
  ·intro y0 y1 y2 y3 y4 y5; unfold spec_l24Free.l0
   repeat' first
   | (with_reducible exact ih0 _ _ _ _ _ _)
   | (with_reducible exact LeO.refl _)
   | (with_reducible exact LeO.none _)
   | (with_reducible refine LeO.ite ?_ ?_)
   | (with_reducible refine LeO.bind ?_ (fun _ => ?_))
   | exact ih0 _ _ _ _ _ _
   | exact LeO.none _
   | refine LeO.ite ?_ ?_
   | refine LeO.bind ?_ (fun _ => ?_)
theorem spec_l24Free.mono : ∀ a0 a1 a2 a3 a4 k, LeO (spec_l24Free.f k a0 a1 a2 a3 a4) (spec_l24Free.f (k + 1) a0 a1 a2 a3 a4) := by
 intro a0 a1 a2 a3 a4 k; have ih0 := spec_l24Free.mono_l k; unfold spec_l24Free.f
 repeat' first
   | (with_reducible exact ih0 _ _ _ _ _ _)
   | (with_reducible exact LeO.refl _)
   | (with_reducible exact LeO.none _)
   | (with_reducible refine LeO.ite ?_ ?_)
   | (with_reducible refine LeO.bind ?_ (fun _ => ?_))
   | exact ih0 _ _ _ _ _ _
   | exact LeO.none _
   | refine LeO.ite ?_ ?_
   | refine LeO.bind ?_ (fun _ => ?_)
set_option maxHeartbeats 8000000 in
set_option maxRecDepth 100000 in
theorem spec_l24Free.calls (k : Nat) (A0_0 : Option Addr) (c0_0 : Nat) (l0_0 : List (S39)) (A0_1 : Option Addr) (c0_1 : Nat) (l0_1 : List Int) (a0_2 : Int) (A0_3 : Option Addr) (c0_3 : Nat) (l0_3 : List (S43)) (a1 : Int) (r : Bool) (w : World) (hr0_0 : Kd.C k39 w A0_0 l0_0.length l0_0) (hc0_0 : l0_0.length ≤ c0_0) (hr0_1 : Kd.C (Kd.int .i64) w A0_1 l0_1.length l0_1) (hc0_1 : l0_1.length ≤ c0_1) (hr0_3 : Kd.C k43 w A0_3 l0_3.length l0_3) (hc0_3 : l0_3.length ≤ c0_3) (h : spec_l24Free.f k l0_0 l0_1 a0_2 l0_3 a1 = some r) :
  Calls Try.prog 74 #[.agg #[.slice A0_0 l0_0.length c0_0, .slice A0_1 l0_1.length c0_1, .int .i64 a0_2, .slice A0_3 l0_3.length c0_3], .int .i64 a1] w fun e w' => e = .returned (.bool r) ∧ Below w.heap.size w w' := by
 have hu31 := Try.underlying31; have HR0_0 := mk_ hr0_0; have HC0_0 := mk_ hc0_0; clear hr0_0 hc0_0; have HR0_1 := mk_ hr0_1; have HC0_1 := mk_ hc0_1; clear hr0_1 hc0_1; have HR0_3 := mk_ hr0_3; have HC0_3 := mk_ hc0_3; clear hr0_3 hc0_3; have HB := mk_ (Below.refl w.heap.size w); have H : (if 0 ≤ a1 then (if a1 < (l0_0.length : Int) then (spec_l24Free.l0 k ((rd_T39 l0_0 a1).f0) 0 l0_0 l0_1 a0_2 l0_3) else (none)) else (none)) = some r := h; clear h; obtain ⟨c3, H⟩ := ifS_ H; have c3b0 : decide (0 ≤ a1) = true := decide_eq_true c3; clear c3; obtain ⟨c4, H⟩ := ifS_ H; have c4b0 : decide (a1 < (l0_0.length : Int)) = true := decide_eq_true c4; clear c4; have H' := mk_ H; clear H; go_enter Try.func74, Try.ntmps74; have START_ := True.intro
 repeat ((first | go_quiet (fail) | clear START_); try go_wp2_with (first | ((with_reducible refine gate_dst (N := 2) rfl ?_); refine box_event ?hg (N := 2) ?hd (cs := #[.slice A0_0 l0_0.length c0_0, .slice A0_1 l0_1.length c0_1, .int .i64 a0_2, .slice A0_3 l0_3.length c0_3]) (t := 31) ?hr ?_; (case hd => rfl); (case hg => rfl); (case hr => first | (go_simp; done) | (go_simp; rfl)); intro gb293 hg w5 hbox hb; have BK293 := mk_ (hbox); have GW293 := gE_ HB hg; have GE293 := gE_ HB hg; replace HB := bS_ HB hb; clear hb hbox hg; obtain ⟨hcz6_0, hcz6_1, hcz6_2, hcz6_3, hfz6_0, hfz6_1, hfz6_2, hfz6_3⟩ := cf4_ BK293; have p294 : 0 ≤ (a1 : Int) := dA_; have q294 : a1 < (l0_0.length : Int) := dA_; obtain ⟨ad294, A294_0, c294_0, e294, hx294_0, hx294_1, hx294_2, hx294_3, hl294_0, hi294_0⟩ := at_T39 HR0_0.out a1 p294 q294; cases e294; replace hx294_0 := hX_ HB hx294_0; replace hx294_1 := hX_ HB hx294_1; replace hx294_2 := hX_ HB hx294_2; replace hx294_3 := hX_ HB hx294_3; have HR294_0 := mk_ hi294_0; have HC294_0 := mk_ hl294_0; clear hi294_0 hl294_0; replace p294 := eq_true p294; replace q294 := eq_true q294)))
 go_loopg [6] k (fun kq v6 w' => ∃ (x6_1 : Int), v6 = .int .i64 x6_1 ∧ Aside0 (spec_l24Free.l0 kq ((rd_T39 l0_0 a1).f0) x6_1 l0_0 l0_1 a0_2 l0_3 = some r) ∧ Aside0 (kq ≤ k) ∧ Aside0 (w'.heap[gb293]? = some (.cells #[(.slice (some ad294) l0_0.length c0_0), (.slice A0_1 l0_1.length c0_1), .int .i64 a0_2, (.slice A0_3 l0_3.length c0_3)] 31 (0, 0))) ∧ Aside0 (Below w.heap.size w w'))
 case atStart => exact ⟨(0), eS_, H', ⟨Nat.le_refl _⟩, ⟨bT_ BK293⟩, ⟨sABelo_7⟩⟩
 case round =>
  clear H'; (try clear c3); (try clear c3b0); (try clear c4); (try clear c4b0); (try clear hcz6_0); (try clear hcz6_1); (try clear hcz6_2); (try clear hcz6_3); (try clear hfz6_0); (try clear hfz6_1); (try clear hfz6_2); (try clear hfz6_3); (try clear hx294_0); (try clear hx294_1); (try clear hx294_2); (try clear hx294_3); (try clear p294); (try clear q294); obtain ⟨x6_1, rfl, HA, HK1, BK293, HB⟩ := hrel
  cases gk with
  | zero => exact absurd HA.out (by simp [spec_l24Free.l0])
  | succ k1 =>
   have H := HA.out; clear HA; simp only [spec_l24Free.l0] at H
   by_cases c7 : x6_1 < (((rd_T39 l0_0 a1).f0).length : Int)
   ·rw [if_pos c7] at H; have c7b0 := decide_eq_true c7; clear c7; obtain ⟨c8, H⟩ := ifS_ H; have c8b0 : decide (0 ≤ x6_1) = true := decide_eq_true c8; clear c8; obtain ⟨ji9, hji9⟩ : ∃ j_ : Int, (wrap64 ((rd ((rd_T39 l0_0 a1).f0) x6_1) - 1)) = j_ := ⟨_, rfl⟩
    replace H : (if 0 ≤ (ji9) then (if (ji9) < (l0_3.length : Int) then (if ((rd_T43 l0_3 (ji9)).f0) = 2 then (spec_l24Free.l0 k1 ((rd_T39 l0_0 a1).f0) (wrap64 (x6_1 + 1)) l0_0 l0_1 a0_2 l0_3) else (some false)) else (none)) else (none)) = some r := by first | (rw [hji9] at H; exact H) | (simp only [hji9] at H ⊢; exact H)
    have hji9w : (IntKind.i64.wrap ((rd ((rd_T39 l0_0 a1).f0) x6_1) - 1)) = ji9 := (i64_w _).trans hji9; obtain ⟨c10, H⟩ := ifS_ H; have c10b0 : decide (0 ≤ (ji9)) = true := decide_eq_true c10; clear c10; obtain ⟨c11, H⟩ := ifS_ H; have c11b0 : decide ((ji9) < (l0_3.length : Int)) = true := decide_eq_true c11; clear c11
    by_cases c12 : ((rd_T43 l0_3 (ji9)).f0) = 2
    ·rw [if_pos c12] at H; have c12b0 := beq_iff_eq.mpr c12; have c12b1 := bne_eq_false_iff_eq.mpr c12; clear c12; have H' := mk_ H; clear H; obtain ⟨hcz13_0, hcz13_1, hcz13_2, hcz13_3, hfz13_0, hfz13_1, hfz13_2, hfz13_3⟩ := cf4_ BK293; have p295 : 0 ≤ (x6_1 : Int) := dA_; have q295 : x6_1 < (((rd_T39 l0_0 a1).f0).length : Int) := dA_; obtain ⟨ad295, e295, hx295_0⟩ := Kd.at_int HR294_0.out x6_1 p295 q295
     cases e295
     replace hx295_0 := hX_ HB hx295_0; replace p295 := eq_true p295; replace q295 := eq_true q295; have p296 : 0 ≤ ((ji9) : Int) := dA_; have q296 : (ji9) < (l0_3.length : Int) := dA_; obtain ⟨ad296, e296, hx296_0, hx296_1⟩ := at_T43 HR0_3.out (ji9) p296 q296
     cases e296
     replace hx296_0 := hX_ HB hx296_0; replace hx296_1 := hX_ HB hx296_1; replace p296 := eq_true p296; replace q296 := eq_true q296
     go_wp2
     repeat (go_quiet (fail); try go_wp2)
     go_roundg k1
     case measure => have := HK1.out; omega
     case rel => exact ⟨(wrap64 (x6_1 + 1)), eS_, H', ⟨by have := HK1.out; omega⟩, ⟨bT_ BK293⟩, ⟨sABelo_7⟩⟩
    ·rw [if_neg c12] at H; have c12b0 := beq_eq_false_iff_ne.mpr c12; have c12b1 := bne_iff_ne.mpr c12; obtain rfl := Option.some.inj H; obtain ⟨hcz14_0, hcz14_1, hcz14_2, hcz14_3, hfz14_0, hfz14_1, hfz14_2, hfz14_3⟩ := cf4_ BK293; have p295 : 0 ≤ (x6_1 : Int) := dA_; have q295 : x6_1 < (((rd_T39 l0_0 a1).f0).length : Int) := dA_; obtain ⟨ad295, e295, hx295_0⟩ := Kd.at_int HR294_0.out x6_1 p295 q295
     cases e295
     replace hx295_0 := hX_ HB hx295_0; replace p295 := eq_true p295; replace q295 := eq_true q295; have p296 : 0 ≤ ((ji9) : Int) := dA_; have q296 : (ji9) < (l0_3.length : Int) := dA_; obtain ⟨ad296, e296, hx296_0, hx296_1⟩ := at_T43 HR0_3.out (ji9) p296 q296
     cases e296
     replace hx296_0 := hX_ HB hx296_0; replace hx296_1 := hX_ HB hx296_1; replace p296 := eq_true p296; replace q296 := eq_true q296
     go_wp2
     repeat (go_quiet (fail); try go_wp2)
     go_ret; exact ⟨by first | rfl | (simp [errW_none, errW_some] <;> rfl) | (simp only [← hji9]; first | rfl | (simp [errW_none, errW_some] <;> rfl)) | (simp [*, errW_none, errW_some] <;> rfl), sABelo_7⟩
   ·rw [if_neg c7] at H; have c7b0 := decide_eq_false c7; clear c7; obtain rfl := Option.some.inj H
    go_wp2
    repeat (go_quiet (fail); try go_wp2)
    go_ret; exact ⟨eW_, sABelo_7⟩

/-! ### spec_l24Running: function 75 -/
def spec_l24Running.l0 : Nat → Int → Int → Int → List (S39) → List Int → Int → List (S43) → Option (Int)
 | 0, _, _, _, _, _, _, _ => none
 | k + 1, x1, x5, x6, x298000, x298001, x298002, x298003 => if x6 < (x298003.length : Int) then (if 0 ≤ x6 then (if ((rd_T43 x298003 x6).f0) = 1 then (if x6 < (x298000.length : Int) then (if ((rd_T39 x298000 x6).f1) = x1 then (spec_l24Running.l0 k x1 (wrap64 (x5 + 1)) (wrap64 (x6 + 1)) x298000 x298001 x298002 x298003) else (spec_l24Running.l0 k x1 x5 (wrap64 (x6 + 1)) x298000 x298001 x298002 x298003)) else (none)) else (spec_l24Running.l0 k x1 x5 (wrap64 (x6 + 1)) x298000 x298001 x298002 x298003)) else (none)) else (some x5)
def spec_l24Running.f (k : Nat) (l0_0 : List (S39)) (l0_1 : List Int) (a0_2 : Int) (l0_3 : List (S43)) (a1 : Int) : Option (Int) := spec_l24Running.l0 k a1 0 0 l0_0 l0_1 a0_2 l0_3
theorem spec_l24Running.mono_l : ∀ k, (∀ y0 y1 y2 y3 y4 y5 y6, LeO (spec_l24Running.l0 k y0 y1 y2 y3 y4 y5 y6) (spec_l24Running.l0 (k + 1) y0 y1 y2 y3 y4 y5 y6))
 | 0 => fun _ _ _ _ _ _ _ r h => by simp [spec_l24Running.l0] at h
 | k + 1 => by
  have ih0 := spec_l24Running.mono_l k
  ·intro y0 y1 y2 y3 y4 y5 y6; unfold spec_l24Running.l0
   repeat' first
   | (with_reducible exact ih0 _ _ _ _ _ _ _)
   | (with_reducible exact LeO.refl _)
   | (with_reducible exact LeO.none _)
   | (with_reducible refine LeO.ite ?_ ?_)
   | (with_reducible refine LeO.bind ?_ (fun _ => ?_))
   | exact ih0 _ _ _ _ _ _ _
   | exact LeO.none _
   | refine LeO.ite ?_ ?_
   | refine LeO.bind ?_ (fun _ => ?_)
theorem spec_l24Running.mono : ∀ a0 a1 a2 a3 a4 k, LeO (spec_l24Running.f k a0 a1 a2 a3 a4) (spec_l24Running.f (k + 1) a0 a1 a2 a3 a4) := by
 intro a0 a1 a2 a3 a4 k; have ih0 := spec_l24Running.mono_l k; unfold spec_l24Running.f
 repeat' first
   | (with_reducible exact ih0 _ _ _ _ _ _ _)
   | (with_reducible exact LeO.refl _)
   | (with_reducible exact LeO.none _)
   | (with_reducible refine LeO.ite ?_ ?_)
   | (with_reducible refine LeO.bind ?_ (fun _ => ?_))
   | exact ih0 _ _ _ _ _ _ _
   | exact LeO.none _
   | refine LeO.ite ?_ ?_
   | refine LeO.bind ?_ (fun _ => ?_)
set_option maxHeartbeats 8000000 in
set_option maxRecDepth 100000 in
theorem spec_l24Running.calls (k : Nat) (A0_0 : Option Addr) (c0_0 : Nat) (l0_0 : List (S39)) (A0_1 : Option Addr) (c0_1 : Nat) (l0_1 : List Int) (a0_2 : Int) (A0_3 : Option Addr) (c0_3 : Nat) (l0_3 : List (S43)) (a1 : Int) (r : Int) (w : World) (hr0_0 : Kd.C k39 w A0_0 l0_0.length l0_0) (hc0_0 : l0_0.length ≤ c0_0) (hr0_1 : Kd.C (Kd.int .i64) w A0_1 l0_1.length l0_1) (hc0_1 : l0_1.length ≤ c0_1) (hr0_3 : Kd.C k43 w A0_3 l0_3.length l0_3) (hc0_3 : l0_3.length ≤ c0_3) (h : spec_l24Running.f k l0_0 l0_1 a0_2 l0_3 a1 = some r) :
  Calls Try.prog 75 #[.agg #[.slice A0_0 l0_0.length c0_0, .slice A0_1 l0_1.length c0_1, .int .i64 a0_2, .slice A0_3 l0_3.length c0_3], .int .i64 a1] w fun e w' => e = .returned (.int .i64 r) ∧ Below w.heap.size w w' := by
 have hu31 := Try.underlying31; have HR0_0 := mk_ hr0_0; have HC0_0 := mk_ hc0_0; clear hr0_0 hc0_0; have HR0_1 := mk_ hr0_1; have HC0_1 := mk_ hc0_1; clear hr0_1 hc0_1; have HR0_3 := mk_ hr0_3; have HC0_3 := mk_ hc0_3; clear hr0_3 hc0_3; have HB := mk_ (Below.refl w.heap.size w); have H : (spec_l24Running.l0 k a1 0 0 l0_0 l0_1 a0_2 l0_3) = some r := h; clear h; have H' := mk_ H; clear H; go_enter Try.func75, Try.ntmps75
 go_wp2_with (first | ((with_reducible refine gate_dst (N := 2) rfl ?_); refine box_event ?hg (N := 2) ?hd (cs := #[.slice A0_0 l0_0.length c0_0, .slice A0_1 l0_1.length c0_1, .int .i64 a0_2, .slice A0_3 l0_3.length c0_3]) (t := 31) ?hr ?_; (case hd => rfl); (case hg => rfl); (case hr => first | (go_simp; done) | (go_simp; rfl)); intro gb297 hg w3 hbox hb; have BK297 := mk_ (hbox); have GW297 := gE_ HB hg; have GE297 := gE_ HB hg; replace HB := bS_ HB hb; clear hb hbox hg))
 go_loopg [5, 6] k (fun kq v5 v6 w' => ∃ (x5_1 : Int) (x6_1 : Int), v5 = .int .i64 x5_1 ∧ v6 = .int .i64 x6_1 ∧ Aside0 (spec_l24Running.l0 kq a1 x5_1 x6_1 l0_0 l0_1 a0_2 l0_3 = some r) ∧ Aside0 (kq ≤ k) ∧ Aside0 (w'.heap[gb297]? = some (.cells #[(.slice A0_0 l0_0.length c0_0), (.slice A0_1 l0_1.length c0_1), .int .i64 a0_2, (.slice A0_3 l0_3.length c0_3)] 31 (0, 0))) ∧ Aside0 (Below w.heap.size w w'))
 case atStart => exact ⟨(0), (0), eS_, eS_, H', ⟨Nat.le_refl _⟩, ⟨bT_ BK297⟩, ⟨sABelo_7⟩⟩
 case round =>
  clear H'; obtain ⟨x5_1, x6_1, rfl, rfl, HA, HK1, BK297, HB⟩ := hrel
  cases gk with
  | zero => exact absurd HA.out (by simp [spec_l24Running.l0])
  | succ k1 =>
   have H := HA.out; clear HA; simp only [spec_l24Running.l0] at H
   by_cases c4 : x6_1 < (l0_3.length : Int)
   ·rw [if_pos c4] at H; have c4b0 := decide_eq_true c4; clear c4; obtain ⟨c5, H⟩ := ifS_ H; have c5b0 : decide (0 ≤ x6_1) = true := decide_eq_true c5; clear c5
    by_cases c6 : ((rd_T43 l0_3 x6_1).f0) = 1
    ·rw [if_pos c6] at H; have c6b0 := beq_iff_eq.mpr c6; have c6b1 := bne_eq_false_iff_eq.mpr c6; clear c6; obtain ⟨c7, H⟩ := ifS_ H; have c7b0 : decide (x6_1 < (l0_0.length : Int)) = true := decide_eq_true c7; clear c7
     by_cases c8 : ((rd_T39 l0_0 x6_1).f1) = a1
     ·rw [if_pos c8] at H; have c8b0 := beq_iff_eq.mpr c8; have c8b1 := bne_eq_false_iff_eq.mpr c8; clear c8; have H' := mk_ H; clear H; obtain ⟨hcz9_0, hcz9_1, hcz9_2, hcz9_3, hfz9_0, hfz9_1, hfz9_2, hfz9_3⟩ := cf4_ BK297; have p298 : 0 ≤ (x6_1 : Int) := dA_; have q298 : x6_1 < (l0_3.length : Int) := dA_; obtain ⟨ad298, e298, hx298_0, hx298_1⟩ := at_T43 HR0_3.out x6_1 p298 q298
      cases e298
      replace hx298_0 := hX_ HB hx298_0; replace hx298_1 := hX_ HB hx298_1; replace p298 := eq_true p298; replace q298 := eq_true q298; have p299 : 0 ≤ (x6_1 : Int) := dA_; have q299 : x6_1 < (l0_0.length : Int) := dA_; obtain ⟨ad299, A299_0, c299_0, e299, hx299_0, hx299_1, hx299_2, hx299_3, hl299_0, hi299_0⟩ := at_T39 HR0_0.out x6_1 p299 q299
      cases e299
      replace hx299_0 := hX_ HB hx299_0; replace hx299_1 := hX_ HB hx299_1; replace hx299_2 := hX_ HB hx299_2; replace hx299_3 := hX_ HB hx299_3; have HR299_0 := mk_ hi299_0; have HC299_0 := mk_ hl299_0; clear hi299_0 hl299_0; replace p299 := eq_true p299; replace q299 := eq_true q299
      go_wp2
      go_roundg k1
      case measure => have := HK1.out; omega
      case rel => exact ⟨(wrap64 (x5_1 + 1)), (wrap64 (x6_1 + 1)), eS_, eS_, H', ⟨by have := HK1.out; omega⟩, ⟨bT_ BK297⟩, ⟨sABelo_7⟩⟩
     ·rw [if_neg c8] at H; have c8b0 := beq_eq_false_iff_ne.mpr c8; have c8b1 := bne_iff_ne.mpr c8; have H' := mk_ H; clear H; obtain ⟨hcz10_0, hcz10_1, hcz10_2, hcz10_3, hfz10_0, hfz10_1, hfz10_2, hfz10_3⟩ := cf4_ BK297; have p298 : 0 ≤ (x6_1 : Int) := dA_; have q298 : x6_1 < (l0_3.length : Int) := dA_; obtain ⟨ad298, e298, hx298_0, hx298_1⟩ := at_T43 HR0_3.out x6_1 p298 q298
      cases e298
      replace hx298_0 := hX_ HB hx298_0; replace hx298_1 := hX_ HB hx298_1; replace p298 := eq_true p298; replace q298 := eq_true q298; have p299 : 0 ≤ (x6_1 : Int) := dA_; have q299 : x6_1 < (l0_0.length : Int) := dA_; obtain ⟨ad299, A299_0, c299_0, e299, hx299_0, hx299_1, hx299_2, hx299_3, hl299_0, hi299_0⟩ := at_T39 HR0_0.out x6_1 p299 q299
      cases e299
      replace hx299_0 := hX_ HB hx299_0; replace hx299_1 := hX_ HB hx299_1; replace hx299_2 := hX_ HB hx299_2; replace hx299_3 := hX_ HB hx299_3; have HR299_0 := mk_ hi299_0; have HC299_0 := mk_ hl299_0; clear hi299_0 hl299_0; replace p299 := eq_true p299; replace q299 := eq_true q299
      go_wp2
      go_roundg k1
      case measure => have := HK1.out; omega
      case rel => exact ⟨(x5_1), (wrap64 (x6_1 + 1)), eS_, eS_, H', ⟨by have := HK1.out; omega⟩, ⟨bT_ BK297⟩, ⟨sABelo_7⟩⟩
    ·rw [if_neg c6] at H; have c6b0 := beq_eq_false_iff_ne.mpr c6; have c6b1 := bne_iff_ne.mpr c6; have H' := mk_ H; clear H; obtain ⟨hcz11_0, hcz11_1, hcz11_2, hcz11_3, hfz11_0, hfz11_1, hfz11_2, hfz11_3⟩ := cf4_ BK297; have p298 : 0 ≤ (x6_1 : Int) := dA_; have q298 : x6_1 < (l0_3.length : Int) := dA_; obtain ⟨ad298, e298, hx298_0, hx298_1⟩ := at_T43 HR0_3.out x6_1 p298 q298
     cases e298
     replace hx298_0 := hX_ HB hx298_0; replace hx298_1 := hX_ HB hx298_1; replace p298 := eq_true p298; replace q298 := eq_true q298
     go_wp2
     go_roundg k1
     case measure => have := HK1.out; omega
     case rel => exact ⟨(x5_1), (wrap64 (x6_1 + 1)), eS_, eS_, H', ⟨by have := HK1.out; omega⟩, ⟨bT_ BK297⟩, ⟨sABelo_7⟩⟩
   ·rw [if_neg c4] at H; have c4b0 := decide_eq_false c4; clear c4; obtain rfl := Option.some.inj H; obtain ⟨hcz12_0, hcz12_1, hcz12_2, hcz12_3, hfz12_0, hfz12_1, hfz12_2, hfz12_3⟩ := cf4_ BK297
    go_wp2
    go_ret; exact ⟨eW_, sABelo_7⟩

end Go.Proofs.Ytjoghfehmhapbaa.QFnSuiteOnce
