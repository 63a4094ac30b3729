-- Written by a program of this session out of the printer's texts and contracts of its own.
import Derived.Test.YtjoghfehmhapbaaSq
import Derived.Test.YtjoghfehmhapbaaQFnReportsAnywayx0
import Derived.Test.YtjoghfehmhapbaaQFnReportsAnywayx11
import Derived.Test.YtjoghfehmhapbaaQFnReportsAnywayx12
namespace Go.Proofs.Ytjoghfehmhapbaa.QFnReportsAnyway
open Go.RowKit Go.Proofs.YtjoghfehmhapbaaW.PrintWords Go.Proofs.YtjoghfehmhapbaaW.PrintLast Go.Proofs.YtjoghfehmhapbaaW.PrintMore Go.Proofs.Ytjoghfehmhapbaa.Sq
attribute [local go_sem] max2_int min2_int max_two min_two max_three min_three max_four min_four   -- for this text's walks alone
set_option linter.unusedVariables false
set_option linter.unusedSimpArgs false
theorem sABelo_14 {b : Nat} {w W : World} (h : Below b w W := by repeat (first | (with_reducible first | exact Aside0.out (by assumption) | apply below_alloc | apply pw_below_drewN | apply below_drew1 | refine below_set ?_ (Aside0.out (by assumption))) | exact Aside0.out (by assumption))) : Below b w W := h

/-! ### spec_CrashRun: function 40 -/
def spec_CrashRun.l0 : Nat → Int → List (S39) → List Int → Int → List (S43) → Option ((List (S39)) × List Int × Int × (List (S43)))
 | 0, _, _, _, _, _ => none
 | k + 1, x4, x334000, x334001, x334002, x334003 => if x4 < (x334003.length : Int) then (if 0 ≤ x4 then (if ((rd_T43 x334003 x4).f0) = 1 then (spec_CrashRun.l0 k (wrap64 (x4 + 1)) x334000 x334001 x334002 (x334003.set (x4 : Int).toNat (⟨0, wrap64 (((rd_T43 x334003 x4).f1) - 1)⟩ : S43))) else (spec_CrashRun.l0 k (wrap64 (x4 + 1)) x334000 x334001 x334002 x334003)) else (none)) else (some (x334000, x334001, x334002, x334003))
def spec_CrashRun.f (k : Nat) (l0_0 : List (S39)) (l0_1 : List Int) (a0_2 : Int) (l0_3 : List (S43)) : Option ((List (S39)) × List Int × Int × (List (S43))) := (spec_l24Ok.f k l0_0 l0_1 a0_2 l0_3).bind fun t322 => (if t322 = true then ((spec_l24Copy.f k l0_0 l0_1 a0_2 l0_3).bind fun bt323 => (spec_CrashRun.l0 k 0 bt323.1 bt323.2.1 bt323.2.2.1 bt323.2.2.2)) else (some (([] : List (S39)), ([] : List Int), 0, ([] : List (S43)))))
theorem spec_CrashRun.mono_l : ∀ k, (∀ y0 y1 y2 y3 y4, LeO (spec_CrashRun.l0 k y0 y1 y2 y3 y4) (spec_CrashRun.l0 (k + 1) y0 y1 y2 y3 y4))
 | 0 => fun _ _ _ _ _ r h => by simp [spec_CrashRun.l0] at h
 | k + 1 => by
  have ih0 := spec_CrashRun.mono_l k
  ·intro y0 y1 y2 y3 y4
   unfold spec_CrashRun.l0
   repeat' first
   | (with_reducible exact ih0 _ _ _ _ _)
   | (with_reducible exact spec_l24Copy.mono _ _ _ _ _)
   | (with_reducible exact spec_l24Ok.mono _ _ _ _ _)
   | (with_reducible exact LeO.refl _)
   | (with_reducible exact LeO.none _)
   | (with_reducible refine LeO.ite ?_ ?_)
   | (with_reducible refine LeO.bind ?_ (fun _ => ?_))
   | exact ih0 _ _ _ _ _
   | exact LeO.none _
   | refine LeO.ite ?_ ?_
   | refine LeO.bind ?_ (fun _ => ?_)
theorem spec_CrashRun.mono : ∀ a0 a1 a2 a3 k, LeO (spec_CrashRun.f k a0 a1 a2 a3) (spec_CrashRun.f (k + 1) a0 a1 a2 a3) := by
 intro a0 a1 a2 a3 k
 have ih0 := spec_CrashRun.mono_l k
 unfold spec_CrashRun.f
 repeat' first
   | (with_reducible exact ih0 _ _ _ _ _)
   | (with_reducible exact spec_l24Copy.mono _ _ _ _ _)
   | (with_reducible exact spec_l24Ok.mono _ _ _ _ _)
   | (with_reducible exact LeO.refl _)
   | (with_reducible exact LeO.none _)
   | (with_reducible refine LeO.ite ?_ ?_)
   | (with_reducible refine LeO.bind ?_ (fun _ => ?_))
   | exact ih0 _ _ _ _ _
   | exact LeO.none _
   | refine LeO.ite ?_ ?_
   | refine LeO.bind ?_ (fun _ => ?_)
def spec_CrashRun.T8 : Bool × List (List Nat × List Nat) := (true, [([], []), ([0], [0]), ([], []), ([], []), ([3], [3]), ([], []), ([4, 5], [4, 5]), ([6], [6]), ([7], [7]), ([8], [8]), ([9], [9]), ([1, 2, 0, 1, 2, 3, 4, 5, 6, 7, 8, 9, 10], [1, 2]), ([11, 10, 0, 1, 2, 3, 4, 5, 6, 7, 8, 9, 10], [10, 11])])
def spec_CrashRun.B8 : List Nat := [0, 1, 0, 0, 8, 0, 56, 120, 248, 504, 1016, 2047, 4095]
theorem spec_CrashRun.tab8 : rtab .any (opsOf Try.f40 8) = spec_CrashRun.T8 := by kernel_rfl
theorem spec_CrashRun.bits8 : waitsOk spec_CrashRun.T8.2 spec_CrashRun.B8 = true := by kernel_rfl
set_option maxHeartbeats 8000000 in
set_option maxRecDepth 100000 in
theorem spec_CrashRun.calls (k : Nat) (A0_0 : Option Addr) (c0_0 : Nat) (l0_0 : List (S39)) (A0_1 : Option Addr) (c0_1 : Nat) (l0_1 : List Int) (a0_2 : Int) (A0_3 : Option Addr) (c0_3 : Nat) (l0_3 : List (S43)) (r1 : List (S39)) (r2 : List Int) (r3 : Int) (r4 : List (S43)) (w : World) (hr0_0 : Kd.C k39 w A0_0 l0_0.length l0_0) (hc0_0 : l0_0.length ≤ c0_0) (hr0_1 : Kd.C (Kd.int .i64) w A0_1 l0_1.length l0_1) (hc0_1 : l0_1.length ≤ c0_1) (hr0_3 : Kd.C k43 w A0_3 l0_3.length l0_3) (hc0_3 : l0_3.length ≤ c0_3) (h : spec_CrashRun.f k l0_0 l0_1 a0_2 l0_3 = some (r1, r2, r3, r4)) :
  Calls Try.prog 40 #[.agg #[.slice A0_0 l0_0.length c0_0, .slice A0_1 l0_1.length c0_1, .int .i64 a0_2, .slice A0_3 l0_3.length c0_3]] w fun e w' => ∃ v0_ v1_ v3_ : Value, e = .returned (.agg #[v0_, v1_, .int .i64 r3, v3_]) ∧ Kd.S k39 39 w' w.heap.size (fun k_ => some k_ ≠ (v1_ : Value).ownBlock) v0_ r1 ∧ Kd.R (Kd.int .i64) 2 w' w.heap.size (fun _ => True) v1_ r2 ∧ Kd.R k43 43 w' w.heap.size (fun _ => True) v3_ r4 ∧ Below w.heap.size w w' := by
 have hu31 := Try.underlying31; have hu43 := Try.underlying43; have HR0_0 := mk_ hr0_0; have HC0_0 := mk_ hc0_0; clear hr0_0 hc0_0; have HR0_1 := mk_ hr0_1; have HC0_1 := mk_ hc0_1; clear hr0_1 hc0_1; have HR0_3 := mk_ hr0_3; have HC0_3 := mk_ hc0_3; clear hr0_3 hc0_3
 have HB := mk_ (Below.refl w.heap.size w)
 have H : ((spec_l24Ok.f k l0_0 l0_1 a0_2 l0_3).bind fun t322 => (if t322 = true then ((spec_l24Copy.f k l0_0 l0_1 a0_2 l0_3).bind fun bt323 => (spec_CrashRun.l0 k 0 bt323.1 bt323.2.1 bt323.2.2.1 bt323.2.2.2)) else (some (([] : List (S39)), ([] : List Int), 0, ([] : List (S43)))))) = some (r1, r2, r3, r4) := h
 clear h; replace H := Option.bind_eq_some_iff.mp H
 obtain ⟨t322, A20, H⟩ := H
 (try dsimp only at H)
 have A2 := mk_ A20; clear A20
 by_cases c3 : t322 = true
 ·subst c3
  replace H := ifT_ H; replace H := Option.bind_eq_some_iff.mp H
  obtain ⟨⟨t323, t326, t329, t330⟩, A40, H⟩ := H
  (try dsimp only at H)
  have A4 := mk_ A40; clear A40; have H' := mk_ H; clear H
  go_enter Try.func40, Try.ntmps40
  go_wp2_with (first | ((with_reducible refine gate_dst (N := 1) rfl ?_); refine box_event ?hg (N := 1) ?hd (cs := #[.slice A0_0 l0_0.length c0_0, .slice A0_1 l0_1.length c0_1, .int .i64 a0_2, .slice A0_3 l0_3.length c0_3]) (t := 31) ?hr ?_; (case hd => rfl); (case hg => rfl); (case hr => first | (go_simp; done) | (go_simp; rfl)); intro gb320 hg w5 hbox hb; have BK320 := mk_ (hbox); have GW320 := gE_ HB hg; have GE320 := gE_ HB hg; replace HB := bS_ HB hb; clear hb hbox hg) | ((with_reducible refine gate_dst (N := 2) rfl ?_); refine box_event ?hg (N := 2) ?hd (cs := #[.slice none 0 0, .slice none 0 0, .int .i64 0, .slice none 0 0]) (t := 31) ?hr ?_; (case hd => rfl); (case hg => rfl); (case hr => first | (go_simp; done) | (go_simp; rfl)); intro gb321 hg w6 hbox hb; have BK321 := mk_ (hbox); have GW321 := gE_ HB hg; have GE321 := gE_ HB hg; replace HB := bS_ HB hb; have NB320_321 := nL_ BK320 hg; have NB321_320 := nG_ BK320 hg; replace BK320 := bB_ BK320 hb; clear hb hbox hg; have hnb7 := NB320_321.out; have hnc7 := NB321_320.out; obtain ⟨hcz8_0, hcz8_1, hcz8_2, hcz8_3, hfz8_0, hfz8_1, hfz8_2, hfz8_3⟩ := cf4_ BK320) | ((with_reducible refine gate_callee (f := 58) rfl ?_); refine gL_ (some 6) Try.func58 #[.agg #[.slice A0_0 l0_0.length c0_0, .slice A0_1 l0_1.length c0_1, .int .i64 a0_2, .slice A0_3 l0_3.length c0_3]] ?_; (with_reducible refine (spec_l24Ok.calls k _ _ l0_0 _ _ l0_1 a0_2 _ _ l0_3 true _ ?side1 ?side2 ?side3 ?side4 ?side5 ?side6 A2.out).mono ?_); (case side1 => exact cB_ HR0_0 HB); (case side2 => exact HC0_0.out); (case side3 => exact cB_ HR0_1 HB); (case side4 => exact HC0_1.out); (case side5 => exact cB_ HR0_3 HB); (case side6 => exact HC0_3.out); rintro e w9 ⟨rfl, hb⟩; refine ⟨_, rfl, ?_⟩; replace BK320 := bB_ BK320 hb; replace BK321 := bB_ BK321 hb; replace HB := bS_ HB hb; (try clear hb); obtain ⟨hcz10_0, hcz10_1, hcz10_2, hcz10_3, hfz10_0, hfz10_1, hfz10_2, hfz10_3⟩ := cf4_ BK320) | ((with_reducible refine gate_callee (f := 59) rfl ?_); refine gL_ (some 10) Try.func59 #[.agg #[.slice A0_0 l0_0.length c0_0, .slice A0_1 l0_1.length c0_1, .int .i64 a0_2, .slice A0_3 l0_3.length c0_3]] ?_; (with_reducible refine (spec_l24Copy.calls k _ _ l0_0 _ _ l0_1 a0_2 _ _ l0_3 t323 t326 t329 t330 _ ?side1 ?side2 ?side3 ?side4 ?side5 ?side6 A4.out).mono ?_); (case side1 => exact cB_ HR0_0 HB); (case side2 => exact HC0_0.out); (case side3 => exact cB_ HR0_1 HB); (case side4 => exact HC0_1.out); (case side5 => exact cB_ HR0_3 HB); (case side6 => exact HC0_3.out); rintro e w11 ⟨v324, v327, v331, rfl, ho0, ho1, ho2, hb⟩; refine ⟨_, rfl, ?_⟩; have HO325 := sL_ ho0 HB; have HO328 := rL_ ho1 HB; have HO332 := rL_ ho2 HB; replace BK320 := bB_ BK320 hb; replace BK321 := bB_ BK321 hb; replace HB := bS_ HB hb; (try clear hb); (try clear ho0); (try clear ho1); (try clear ho2)) | ((with_reducible refine gate_dst (N := 3) rfl ?_); refine box_event ?hg (N := 3) ?hd (cs := #[.slice none 0 0, .slice none 0 0, .int .i64 0, .slice none 0 0]) (t := 31) ?hr ?_; (case hd => rfl); (case hg => rfl); (case hr => first | (go_simp; done) | (go_simp; rfl)); intro gb333 hg w12 hbox hb; replace HO325 := sB_ HO325 hb; replace HO328 := rB_ HO328 hb; replace HO332 := rB_ HO332 hb; have BK333 := mk_ (hbox); have GW333 := gE_ HB hg; have GE333 := gE_ HB hg; replace HB := bS_ HB hb; have NB320_333 := nL_ BK320 hg; have NB333_320 := nG_ BK320 hg; replace BK320 := bB_ BK320 hb; have NB321_333 := nL_ BK321 hg; have NB333_321 := nG_ BK321 hg; replace BK321 := bB_ BK321 hb; clear hb hbox hg; obtain ⟨Ao13, co13, eo13⟩ := Kd.S_slice HO325.out; subst eo13; have hnb14 := NB333_320.out; have hnc14 := NB320_333.out; have hnb15 := NB333_321.out; have hnc15 := NB321_333.out; obtain ⟨hcz16_0, hcz16_1, hcz16_2, hcz16_3, hfz16_0, hfz16_1, hfz16_2, hfz16_3⟩ := cf4_ BK333; obtain ⟨Ao17, co17, eo17⟩ := Kd.R_slice HO328.out; subst eo17; obtain ⟨Ao18, co18, eo18⟩ := Kd.R_slice HO332.out; subst eo18))
  go_loopg [4] k (fun kq v4 w' => ∃ (x4_1 : Int) (x334003_1 : List (S43)) (u334003 : Value), v4 = .int .i64 x4_1 ∧ Aside0 (spec_CrashRun.l0 kq x4_1 t323 t326 t329 x334003_1 = some (r1, r2, r3, r4)) ∧ Aside0 (kq ≤ k) ∧ Aside0 (Kd.S k39 39 w' w.heap.size (fun k_ => some k_ ≠ ((.slice Ao17 t326.length co17) : Value).ownBlock) (.slice Ao13 t323.length co13) t323) ∧ Aside0 (Kd.R (Kd.int .i64) 2 w' w.heap.size (fun _ => True) (.slice Ao17 t326.length co17) t326) ∧ Aside0 (Kd.R k43 43 w' w.heap.size (fun _ => True) u334003 x334003_1) ∧ Aside0 (w'.heap[gb320]? = some (.cells #[(.slice A0_0 l0_0.length c0_0), (.slice A0_1 l0_1.length c0_1), .int .i64 a0_2, (.slice A0_3 l0_3.length c0_3)] 31 (0, 0))) ∧ Aside0 (w'.heap[gb321]? = some (.cells #[(.slice none 0 0), (.slice none 0 0), .int .i64 0, (.slice none 0 0)] 31 (0, 0))) ∧ Aside0 (w'.heap[gb333]? = some (.cells #[(.slice Ao13 t323.length co13), (.slice Ao17 t326.length co17), .int .i64 t329, u334003] 31 (0, 0))) ∧ Aside0 (Below w.heap.size w w'))
  case atStart => exact ⟨(0), (t330), (.slice Ao18 t330.length co18), eS_, H', ⟨Nat.le_refl _⟩, ⟨sFM_ HO325 BK333⟩, ⟨rFM_ HO328 BK333⟩, ⟨rFM_ HO332 BK333⟩, ⟨bF_ BK320 NB320_333⟩, ⟨bF_ BK321 NB321_333⟩, ⟨bP_ BK333⟩, ⟨sABelo_14⟩⟩
  case round =>
   clear H'; (try clear c3); (try clear hcz10_0); (try clear hcz10_1); (try clear hcz10_2); (try clear hcz10_3); (try clear hcz16_0); (try clear hcz16_1); (try clear hcz16_2); (try clear hcz16_3); (try clear hcz8_0); (try clear hcz8_1); (try clear hcz8_2); (try clear hcz8_3); (try clear hfz10_0); (try clear hfz10_1); (try clear hfz10_2); (try clear hfz10_3); (try clear hfz16_0); (try clear hfz16_1); (try clear hfz16_2); (try clear hfz16_3); (try clear hfz8_0); (try clear hfz8_1); (try clear hfz8_2); (try clear hfz8_3)
   obtain ⟨x4_1, x334003_1, u334003, rfl, HA, HK1, HO_334000, HO_334001, HO_334003, BK320, BK321, BK333, HB⟩ := hrel
   cases gk with
   | zero => exact absurd HA.out (by simp [spec_CrashRun.l0])
   | succ k1 =>
    have H := HA.out; clear HA
    simp only [spec_CrashRun.l0] at H
    by_cases c19 : x4_1 < (x334003_1.length : Int)
    ·rw [if_pos c19] at H
     have c19b0 := decide_eq_true c19
     clear c19
     obtain ⟨c20, H⟩ := ifS_ H
     have c20b0 : decide (0 ≤ x4_1) = true := decide_eq_true c20
     clear c20
     by_cases c21 : ((rd_T43 x334003_1 x4_1).f0) = 1
     ·rw [if_pos c21] at H
      have c21b0 := beq_iff_eq.mpr c21
      have c21b1 := bne_eq_false_iff_eq.mpr c21
      clear c21
      obtain ⟨y336, hy336⟩ : ∃ y_ : List (S43), y_ = (x334003_1.set (x4_1 : Int).toNat (⟨0, wrap64 (((rd_T43 x334003_1 x4_1).f1) - 1)⟩ : S43)) := ⟨_, rfl⟩
      replace H : (spec_CrashRun.l0 k1 (wrap64 (x4_1 + 1)) t323 t326 t329 y336) = some (r1, r2, r3, r4) := by first | (rw [hy336]; with_reducible exact H) | (have H2_ := (Option.bind_some _ _).symm.trans H; rw [hy336]; with_reducible exact H2_) | (have H2_ := (Option.bind_some _ _).symm.trans H; with_reducible exact H2_) | with_reducible exact H | (rw [hy336]; exact H) | exact H
      have Ny336 := mk_ hy336; clear hy336; have H' := mk_ H; clear H; have hnb23 := NB333_320.out; have hnc23 := NB320_333.out; have hnb24 := NB333_321.out; have hnc24 := NB321_333.out
      obtain ⟨hcz25_0, hcz25_1, hcz25_2, hcz25_3, hfz25_0, hfz25_1, hfz25_2, hfz25_3⟩ := cf4_ BK333
      obtain ⟨Ao26, co26, eo26⟩ := Kd.R_slice HO_334003.out
      subst eo26
      have p334 : 0 ≤ (x4_1 : Int) := dA_
      have q334 : x4_1 < (x334003_1.length : Int) := dA_
      obtain ⟨ad334, e334, hx334_0, hx334_1⟩ := at_T43 (Kd.R_reads' HO_334003.out).2.2 x4_1 p334 q334
      cases e334
      replace p334 := eq_true p334; replace q334 := eq_true q334
      try go_wp2
      replace HO_334000 := mk_ (Kd.S_drew HO_334000.out)
      replace HO_334001 := mk_ (Kd.R_drew HO_334001.out)
      replace HO_334003 := mk_ (Kd.R_drew HO_334003.out)
      replace BK320 := mk_ (blk_drew BK320.out)
      replace BK321 := mk_ (blk_drew BK321.out)
      replace BK333 := mk_ (blk_drew BK333.out)
      replace HB := mk_ (below_drew1 HB.out)
      have p335 : 0 ≤ (x4_1 : Int) := dA_
      have q335 : x4_1 < (x334003_1.length : Int) := dA_
      obtain ⟨ad335, e335, hx335_0, hx335_1⟩ := at_T43 (Kd.R_reads' HO_334003.out).2.2 x4_1 p335 q335
      obtain rfl : ad334 = ad335 := (by injection e335)
      replace p335 := eq_true p335; replace q335 := eq_true q335
      have p22 : 0 ≤ (x4_1 : Int) := dA_
      have q22 : (x4_1 : Int) < ((x334003_1.length : Int) : Int) := dA_
      obtain ⟨go22, co22, eo22, gb22, gl22, cl22, HG22⟩ := Kd.R_form HO_334003.out (by omega)
      (first | cases eo22 | (injection eo22 with ea_ en_ ec_; (first | subst ea_ | (injection ea_ with ea_; subst ea_)); subst ec_; clear en_))
      have GB22 := mk_ gb22; have GG22 := mk_ HG22; clear gb22 gl22 HG22
      (first | simp only [add_plain] at hx334_0 | skip)
      (first | simp only [add_plain] at hx334_1 | skip)
      (first | simp only [add_plain] at hx335_0 | skip)
      (first | simp only [add_plain] at hx335_1 | skip)
      obtain ⟨ce22, hcl22, hM22, hcc22, hfr22⟩ := Kd.R_elem HO_334003.out z43 (x4_1 : Int) p22 q22
      obtain rfl := k43_openM hM22
      have hx22_0 : World.cell? _ ⟨go22, (x4_1 : Int).toNat * 2, none⟩ = some (.int .i64 ((rd_T43 x334003_1 x4_1).f0)) := hcc22 0 _ rfl
      have hx22_1 : World.cell? _ ⟨go22, (x4_1 : Int).toNat * 2 + 1, none⟩ = some (.int .i64 ((rd_T43 x334003_1 x4_1).f1)) := hcc22 1 _ rfl
      have hf22_0 : World.frozen? _ ⟨go22, (x4_1 : Int).toNat * 2, none⟩ = false := hfr22 0
      have hf22_1 : World.frozen? _ ⟨go22, (x4_1 : Int).toNat * 2 + 1, none⟩ = false := hfr22 1
      clear hcl22 hcc22 hfr22 hM22; replace p22 := eq_true p22; replace q22 := eq_true q22
      obtain ⟨ce28, hcl28, hM28, hcc28, hfr28⟩ := Kd.R_elem HO_334003.out z43 (x4_1 : Int) dA_ (by have h_ : (x4_1 : Int) < ((x334003_1.length : Int) : Int) := dA_; first | exact h_ | (have e_ := (Kd.R_reads' HO_334003.out).1; omega) | simpa using h_)
      obtain rfl := k43_openM hM28
      have HP28 := (Kd.R_seg HO_334003.out (x4_1 : Int) dA_ (by have h_ : (x4_1 : Int) < ((x334003_1.length : Int) : Int) := dA_; first | exact h_ | (have e_ := (Kd.R_reads' HO_334003.out).1; omega) | simpa using h_) (seg := [.int .i64 0, .int .i64 (wrap64 (((rd_T43 x334003_1 x4_1).f1) - 1))]) (j := 0) hcl28 hcc28 (show 2 ≤ 2 from by decide) (x' := (⟨0, wrap64 (((rd_T43 x334003_1 x4_1).f1) - 1)⟩ : S43)) (k43_mkM _ _ _ (⟨0, wrap64 (((rd_T43 x334003_1 x4_1).f1) - 1)⟩ : S43) ) (fun _ hk => hk)).1
      rw [← Ny336.out] at HP28
      have HQ28 := mk_ HP28; clear hcl28 hcc28 hfr28 hM28 HP28
      refine start_ (n := 13) (S := fun w' => w'.cell? ⟨gb333, 0, none⟩ = some (.slice Ao13 t323.length co13) ∧ w'.cell? ⟨gb333, 1, none⟩ = some (.slice Ao17 t326.length co17) ∧ w'.cell? ⟨gb333, 2, none⟩ = some (.int .i64 t329) ∧ w'.cell? ⟨gb333, 3, none⟩ = some (.slice (some ⟨go22, 0, none⟩) x334003_1.length co26) ∧ w'.cell? ⟨go22, ((x4_1).toNat * 2), none⟩ = some (.int .i64 ((rd_T43 x334003_1 x4_1).f0)) ∧ w'.cell? ⟨go22, ((x4_1).toNat * 2) + 1, none⟩ = some (.int .i64 ((rd_T43 x334003_1 x4_1).f1))) (ds := [12]) (uu 0 13) (by kernel_rfl) rfl rfl ⟨(blk_cell BK333.out 0).trans rfl, (blk_cell BK333.out 1).trans rfl, (blk_cell BK333.out 2).trans rfl, (blk_cell BK333.out 3).trans rfl, hx335_0, hx335_1⟩ (fun hHeld => ?_); refine with_tabW spec_CrashRun.tab8 spec_CrashRun.bits8 (fun HT_ HW_ => ?_)
      generalize wr.drew = w27 at HO_334000 HO_334001 HO_334003 BK320 BK321 BK333 HB GG22 HQ28 hf22_0 hf22_1 hx22_0 hx22_1 hx334_0 hx334_1 hx335_0 hx335_1 hHeld ⊢
      refine pT_ 0 (some 25) (uu 1 12) HT_ ?_
      refine pT_ 2 (some 27) #[true, false, true, false, false, false, false, false, false, false, false, false, false] HT_ ?_
      refine pT_ 3 (some 28) #[true, false, true, true, false, false, false, false, false, false, false, false, false] HT_ ?_
      refine pT_ 5 (some 30) #[true, false, true, true, false, true, false, false, false, false, false, false, false] HT_ ?_
      refine tT_ 1 (some 26) #[true, true, true, true, false, true, false, false, false, false, false, false, false] HT_ HW_ hHeld ?_ (hy := by rintro w' ⟨s0, s1, s2, s3, s4, s5⟩; go_simp; with_reducible rfl)
      refine tT_ 4 (some 29) (uu 6 7) HT_ HW_ hHeld ?_ (hy := by rintro w' ⟨s0, s1, s2, s3, s4, s5⟩; go_simp; with_reducible rfl)
      refine pT_ 6 (some 31) (uu 7 6) HT_ ?_
      refine pT_ 7 (some 32) (uu 8 5) HT_ ?_
      refine tT_ 8 (some 33) (uu 9 4) HT_ HW_ hHeld ?_ (hy := by rintro w' ⟨s0, s1, s2, s3, s4, s5⟩; go_simp; with_reducible rfl)
      refine pT_ 9 (some 34) (uu 10 3) HT_ ?_
      refine pT_ 10 (some 35) (uu 11 2) HT_ ?_
      refine pT_ 11 (some 36) (uu 12 1) HT_ ?_
      refine last_ (i := 12) (N := none) (uu 13 0) rfl rfl (one_of HT_.out (by kernel_rfl)) (by decide) (fun K hK => ?_)
      refine skip_ (w1 := ?_) (by rfl) rfl ?_ ?_
      rotate_left
      ·go_simp
       rfl
      refine hK.out _ _ ?_
      clear hK K
      refine done_ (done_of HT_.out (by kernel_rfl)) ?_
      try go_wp2
      go_roundg k1
      case measure => have := HK1.out; omega
      case rel => exact ⟨(wrap64 (x4_1 + 1)), (y336), (.slice (some ⟨go22, 0, none⟩) x334003_1.length co26), eS_, H', ⟨by have := HK1.out; omega⟩, ⟨by (with_reducible repeat (first | apply Kd.S_alloc | apply Kd.S_drewN | apply Kd.S_drew)); exact Kd.S_mono (Kd.S_far (p := ⟨go22, (x4_1 : Int).toNat * 2 + 1, none⟩) (Kd.S_far (p := ⟨go22, (x4_1 : Int).toNat * 2, none⟩) (Kd.S_types HO_334000.out GG22.out (by decide)) (fun _ hk => hk.2) (.int .i64 0)) (fun _ hk => hk.2) (.int .i64 (wrap64 (((rd_T43 x334003_1 x4_1).f1) - 1)))) (fun _ hk => hk.1)⟩, ⟨by (with_reducible repeat (first | apply Kd.R_alloc | apply Kd.R_drewN | apply Kd.R_drew)); exact Kd.R_mono (Kd.R_far (p := ⟨go22, (x4_1 : Int).toNat * 2 + 1, none⟩) (Kd.R_far (p := ⟨go22, (x4_1 : Int).toNat * 2, none⟩) (Kd.R_types HO_334001.out GG22.out (by decide)) (fun _ hk => hk.2) (.int .i64 0)) (fun _ hk => hk.2) (.int .i64 (wrap64 (((rd_T43 x334003_1 x4_1).f1) - 1)))) (fun _ hk => trivial)⟩, ⟨by (with_reducible repeat (first | apply Kd.R_alloc | apply Kd.R_drewN | apply Kd.R_drew)); exact HQ28.out⟩, ⟨by (with_reducible repeat (first | refine blk_drewN ?_ _ | refine blk_drew ?_ | refine blk_alloc ?_ _)); refine blk_far ?_ (by have h_ := Kd.R_ne HO_334003.out BK320.out (by decide); intro e_; exact h_ (by rw [e_]; rfl)) _; (with_reducible repeat (first | refine blk_drewN ?_ _ | refine blk_drew ?_ | refine blk_alloc ?_ _)); refine blk_far ?_ (by have h_ := Kd.R_ne HO_334003.out BK320.out (by decide); intro e_; exact h_ (by rw [e_]; rfl)) _; exact bT_ BK320⟩, ⟨by (with_reducible repeat (first | refine blk_drewN ?_ _ | refine blk_drew ?_ | refine blk_alloc ?_ _)); refine blk_far ?_ (by have h_ := Kd.R_ne HO_334003.out BK321.out (by decide); intro e_; exact h_ (by rw [e_]; rfl)) _; (with_reducible repeat (first | refine blk_drewN ?_ _ | refine blk_drew ?_ | refine blk_alloc ?_ _)); refine blk_far ?_ (by have h_ := Kd.R_ne HO_334003.out BK321.out (by decide); intro e_; exact h_ (by rw [e_]; rfl)) _; exact bT_ BK321⟩, ⟨by (with_reducible repeat (first | refine blk_drewN ?_ _ | refine blk_drew ?_ | refine blk_alloc ?_ _)); refine blk_far ?_ (by have h_ := Kd.R_ne HO_334003.out BK333.out (by decide); intro e_; exact h_ (by rw [e_]; rfl)) _; (with_reducible repeat (first | refine blk_drewN ?_ _ | refine blk_drew ?_ | refine blk_alloc ?_ _)); refine blk_far ?_ (by have h_ := Kd.R_ne HO_334003.out BK333.out (by decide); intro e_; exact h_ (by rw [e_]; rfl)) _; exact bT_ BK333⟩, ⟨sABelo_14⟩⟩
     ·rw [if_neg c21] at H
      have c21b0 := beq_eq_false_iff_ne.mpr c21
      have c21b1 := bne_iff_ne.mpr c21
      have H' := mk_ H; clear H; have hnb29 := NB333_320.out; have hnc29 := NB320_333.out; have hnb30 := NB333_321.out; have hnc30 := NB321_333.out
      obtain ⟨hcz31_0, hcz31_1, hcz31_2, hcz31_3, hfz31_0, hfz31_1, hfz31_2, hfz31_3⟩ := cf4_ BK333
      obtain ⟨Ao32, co32, eo32⟩ := Kd.R_slice HO_334003.out
      subst eo32
      have p334 : 0 ≤ (x4_1 : Int) := dA_
      have q334 : x4_1 < (x334003_1.length : Int) := dA_
      obtain ⟨ad334, e334, hx334_0, hx334_1⟩ := at_T43 (Kd.R_reads' HO_334003.out).2.2 x4_1 p334 q334
      cases e334
      replace p334 := eq_true p334; replace q334 := eq_true q334
      go_wp2
      go_roundg k1
      case measure => have := HK1.out; omega
      case rel => exact ⟨(wrap64 (x4_1 + 1)), (x334003_1), (.slice (some ad334) x334003_1.length co32), eS_, H', ⟨by have := HK1.out; omega⟩, ⟨sT_ HO_334000⟩, ⟨rT_ HO_334001⟩, ⟨rT_ HO_334003⟩, ⟨bT_ BK320⟩, ⟨bT_ BK321⟩, ⟨bT_ BK333⟩, ⟨sABelo_14⟩⟩
    ·rw [if_neg c19] at H
     have c19b0 := decide_eq_false c19
     clear c19
     simp only [Option.some.injEq, Prod.mk.injEq] at H
     obtain ⟨rfl, rfl, rfl, rfl⟩ := H
     have hnb33 := NB333_320.out; have hnc33 := NB320_333.out; have hnb34 := NB333_321.out; have hnc34 := NB321_333.out
     obtain ⟨hcz35_0, hcz35_1, hcz35_2, hcz35_3, hfz35_0, hfz35_1, hfz35_2, hfz35_3⟩ := cf4_ BK333
     obtain ⟨Ao36, co36, eo36⟩ := Kd.R_slice HO_334003.out
     subst eo36
     have hnb37 := NB321_320.out; have hnc37 := NB320_321.out
     obtain ⟨hcz38_0, hcz38_1, hcz38_2, hcz38_3, hfz38_0, hfz38_1, hfz38_2, hfz38_3⟩ := cf4_ BK321
     go_wp2
     refine bodyPost_ret (results_cell_row rfl _ _ gb321 31 #[.slice Ao13 t323.length co13, .slice Ao17 t326.length co17, .int .i64 t329, .slice Ao36 x334003_1.length co36] (0, 0) _ rfl (bP_ BK321) Try.underlying31 rfl (by kernel_rfl)) rfl ?_
     exact ⟨_, _, _, eW_, by (with_reducible repeat (first | apply Kd.S_alloc | apply Kd.S_drewN | apply Kd.S_drew)); exact Kd.S_mono (Kd.S_far (p := ⟨gb321, 3, none⟩) (Kd.S_far (p := ⟨gb321, 2, none⟩) (Kd.S_far (p := ⟨gb321, 1, none⟩) (Kd.S_far (p := ⟨gb321, 0, none⟩) (Kd.S_types HO_334000.out BK321.out (by decide)) (fun _ hk => hk.2) (.slice Ao13 t323.length co13)) (fun _ hk => hk.2) (.slice Ao17 t326.length co17)) (fun _ hk => hk.2) (.int .i64 t329)) (fun _ hk => hk.2) (.slice Ao36 x334003_1.length co36)) (fun _ hk => hk.1), by (with_reducible repeat (first | apply Kd.R_alloc | apply Kd.R_drewN | apply Kd.R_drew)); exact Kd.R_mono (Kd.R_far (p := ⟨gb321, 3, none⟩) (Kd.R_far (p := ⟨gb321, 2, none⟩) (Kd.R_far (p := ⟨gb321, 1, none⟩) (Kd.R_far (p := ⟨gb321, 0, none⟩) (Kd.R_types HO_334001.out BK321.out (by decide)) (fun _ hk => hk.2) (.slice Ao13 t323.length co13)) (fun _ hk => hk.2) (.slice Ao17 t326.length co17)) (fun _ hk => hk.2) (.int .i64 t329)) (fun _ hk => hk.2) (.slice Ao36 x334003_1.length co36)) (fun _ hk => trivial), by (with_reducible repeat (first | apply Kd.R_alloc | apply Kd.R_drewN | apply Kd.R_drew)); exact Kd.R_mono (Kd.R_far (p := ⟨gb321, 3, none⟩) (Kd.R_far (p := ⟨gb321, 2, none⟩) (Kd.R_far (p := ⟨gb321, 1, none⟩) (Kd.R_far (p := ⟨gb321, 0, none⟩) (Kd.R_types HO_334003.out BK321.out (by decide)) (fun _ hk => hk.2) (.slice Ao13 t323.length co13)) (fun _ hk => hk.2) (.slice Ao17 t326.length co17)) (fun _ hk => hk.2) (.int .i64 t329)) (fun _ hk => hk.2) (.slice Ao36 x334003_1.length co36)) (fun _ hk => trivial), sABelo_14⟩
 ·replace c3 := Bool.eq_false_iff.mpr c3
  subst c3
  replace H := ifF_ H
  simp only [Option.some.injEq, Prod.mk.injEq] at H
  obtain ⟨rfl, rfl, rfl, rfl⟩ := H
  go_enter Try.func40, Try.ntmps40
  go_wp2_with (first | ((with_reducible refine gate_dst (N := 1) rfl ?_); refine box_event ?hg (N := 1) ?hd (cs := #[.slice A0_0 l0_0.length c0_0, .slice A0_1 l0_1.length c0_1, .int .i64 a0_2, .slice A0_3 l0_3.length c0_3]) (t := 31) ?hr ?_; (case hd => rfl); (case hg => rfl); (case hr => first | (go_simp; done) | (go_simp; rfl)); intro gb320 hg w39 hbox hb; have BK320 := mk_ (hbox); have GW320 := gE_ HB hg; have GE320 := gE_ HB hg; replace HB := bS_ HB hb; clear hb hbox hg) | ((with_reducible refine gate_dst (N := 2) rfl ?_); refine box_event ?hg (N := 2) ?hd (cs := #[.slice none 0 0, .slice none 0 0, .int .i64 0, .slice none 0 0]) (t := 31) ?hr ?_; (case hd => rfl); (case hg => rfl); (case hr => first | (go_simp; done) | (go_simp; rfl)); intro gb321 hg w40 hbox hb; have BK321 := mk_ (hbox); have GW321 := gE_ HB hg; have GE321 := gE_ HB hg; replace HB := bS_ HB hb; have NB320_321 := nL_ BK320 hg; have NB321_320 := nG_ BK320 hg; replace BK320 := bB_ BK320 hb; clear hb hbox hg; have hnb41 := NB320_321.out; have hnc41 := NB321_320.out; obtain ⟨hcz42_0, hcz42_1, hcz42_2, hcz42_3, hfz42_0, hfz42_1, hfz42_2, hfz42_3⟩ := cf4_ BK320) | ((with_reducible refine gate_callee (f := 58) rfl ?_); refine gL_ (some 6) Try.func58 #[.agg #[.slice A0_0 l0_0.length c0_0, .slice A0_1 l0_1.length c0_1, .int .i64 a0_2, .slice A0_3 l0_3.length c0_3]] ?_; (with_reducible refine (spec_l24Ok.calls k _ _ l0_0 _ _ l0_1 a0_2 _ _ l0_3 false _ ?side1 ?side2 ?side3 ?side4 ?side5 ?side6 A2.out).mono ?_); (case side1 => exact cB_ HR0_0 HB); (case side2 => exact HC0_0.out); (case side3 => exact cB_ HR0_1 HB); (case side4 => exact HC0_1.out); (case side5 => exact cB_ HR0_3 HB); (case side6 => exact HC0_3.out); rintro e w43 ⟨rfl, hb⟩; refine ⟨_, rfl, ?_⟩; replace BK320 := bB_ BK320 hb; replace BK321 := bB_ BK321 hb; replace HB := bS_ HB hb; (try clear hb); obtain ⟨hcz44_0, hcz44_1, hcz44_2, hcz44_3, hfz44_0, hfz44_1, hfz44_2, hfz44_3⟩ := cf4_ BK321))
  refine bodyPost_ret (results_cell_row rfl _ _ gb321 31 #[.slice none 0 0, .slice none 0 0, .int .i64 0, .slice none 0 0] (0, 0) _ rfl (bP_ BK321) Try.underlying31 rfl (by kernel_rfl)) rfl ?_
  exact ⟨_, _, _, eW_, by first | exact Kd.S_nil _ _ _ _ _ | exact Kd.N_nil _ _ _ _ _ | exact Kd.V_nil _ _ _ _ _ | exact Kd.Q_nil _ _ _ _ _ | exact Kd.R_nil _ _ _ _ _, by first | exact Kd.R_nil _ _ _ _ _ | exact Kd.N_nil _ _ _ _ _ | exact Kd.V_nil _ _ _ _ _ | exact Kd.Q_nil _ _ _ _ _ | exact Kd.S_nil _ _ _ _ _, by first | exact Kd.R_nil _ _ _ _ _ | exact Kd.N_nil _ _ _ _ _ | exact Kd.V_nil _ _ _ _ _ | exact Kd.Q_nil _ _ _ _ _ | exact Kd.S_nil _ _ _ _ _, sABelo_14⟩

end Go.Proofs.Ytjoghfehmhapbaa.QFnReportsAnyway
