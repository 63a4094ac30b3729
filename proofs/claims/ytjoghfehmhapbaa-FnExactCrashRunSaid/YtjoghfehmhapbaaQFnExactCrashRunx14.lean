-- Written by a program of this session out of the printer's texts and contracts of its own.
import Derived.Test.YtjoghfehmhapbaaSq
import Derived.Test.YtjoghfehmhapbaaQFnExactCrashRunx0
import Derived.Test.YtjoghfehmhapbaaQFnExactCrashRunx12
import Derived.Test.YtjoghfehmhapbaaQFnExactCrashRunx13
namespace Go.Proofs.Ytjoghfehmhapbaa.QFnExactCrashRun
open Go.RowKit Go.Proofs.YtjoghfehmhapbaaW.PrintWords Go.Proofs.YtjoghfehmhapbaaW.PrintLast Go.Proofs.YtjoghfehmhapbaaW.PrintMore Go.Proofs.Ytjoghfehmhapbaa.Sq
attribute [local go_sem] max2_int min2_int max_two min_two max_three min_three max_four min_four   -- for this text's walks alone
set_option linter.unusedVariables false
set_option linter.unusedSimpArgs false
theorem sABelo_14 {b : Nat} {w W : World} (h : Below b w W := by repeat (first | (with_reducible first | exact Aside0.out (by assumption) | apply below_alloc | apply pw_below_drewN | apply below_drew1 | refine below_set ?_ (Aside0.out (by assumption))) | exact Aside0.out (by assumption))) : Below b w W := h

/-! ### spec_CrashRun: function 40 -/
def spec_CrashRun.l0 : Nat → Int → List (S39) → List Int → Int → List (S43) → Option ((List (S39)) × List Int × Int × (List (S43)))
 | 0, _, _, _, _, _ => none
 | k + 1, x4, x367000, x367001, x367002, x367003 => if x4 < (x367003.length : Int) then (if 0 ≤ x4 then (if ((rd_T43 x367003 x4).f0) = 1 then (spec_CrashRun.l0 k (wrap64 (x4 + 1)) x367000 x367001 x367002 (x367003.set (x4 : Int).toNat (⟨0, wrap64 (((rd_T43 x367003 x4).f1) - 1)⟩ : S43))) else (spec_CrashRun.l0 k (wrap64 (x4 + 1)) x367000 x367001 x367002 x367003)) else (none)) else (some (x367000, x367001, x367002, x367003))
def spec_CrashRun.f (k : Nat) (l0_0 : List (S39)) (l0_1 : List Int) (a0_2 : Int) (l0_3 : List (S43)) : Option ((List (S39)) × List Int × Int × (List (S43))) := (spec_l24Ok.f k l0_0 l0_1 a0_2 l0_3).bind fun t355 => (if t355 = true then ((spec_l24Copy.f k l0_0 l0_1 a0_2 l0_3).bind fun bt356 => (spec_CrashRun.l0 k 0 bt356.1 bt356.2.1 bt356.2.2.1 bt356.2.2.2)) else (some (([] : List (S39)), ([] : List Int), 0, ([] : List (S43)))))
theorem spec_CrashRun.mono_l : ∀ k, (∀ y0 y1 y2 y3 y4, LeO (spec_CrashRun.l0 k y0 y1 y2 y3 y4) (spec_CrashRun.l0 (k + 1) y0 y1 y2 y3 y4))
 | 0 => fun _ _ _ _ _ r h => by simp [spec_CrashRun.l0] at h
 | k + 1 => by
  have ih0 := spec_CrashRun.mono_l k
  ·intro y0 y1 y2 y3 y4
   unfold spec_CrashRun.l0
   repeat' first
   | (with_reducible exact ih0 _ _ _ _ _)
   | (with_reducible exact spec_l24Copy.mono _ _ _ _ _)
   | (with_reducible exact spec_l24Ok.mono _ _ _ _ _)
   | (with_reducible exact LeO.refl _)
   | (with_reducible exact LeO.none _)
   | (with_reducible refine LeO.ite ?_ ?_)
   | (with_reducible refine LeO.bind ?_ (fun _ => ?_))
   | exact ih0 _ _ _ _ _
   | exact spec_l24Copy.mono _ _ _ _ _
   | exact spec_l24Ok.mono _ _ _ _ _
   | exact LeO.none _
   | refine LeO.ite ?_ ?_
   | refine LeO.bind ?_ (fun _ => ?_)
theorem spec_CrashRun.mono : ∀ a0 a1 a2 a3 k, LeO (spec_CrashRun.f k a0 a1 a2 a3) (spec_CrashRun.f (k + 1) a0 a1 a2 a3) := by
 intro a0 a1 a2 a3 k
 have ih0 := spec_CrashRun.mono_l k
 unfold spec_CrashRun.f
 repeat' first
   | (with_reducible exact ih0 _ _ _ _ _)
   | (with_reducible exact spec_l24Copy.mono _ _ _ _ _)
   | (with_reducible exact spec_l24Ok.mono _ _ _ _ _)
   | (with_reducible exact LeO.refl _)
   | (with_reducible exact LeO.none _)
   | (with_reducible refine LeO.ite ?_ ?_)
   | (with_reducible refine LeO.bind ?_ (fun _ => ?_))
   | exact ih0 _ _ _ _ _
   | exact spec_l24Copy.mono _ _ _ _ _
   | exact spec_l24Ok.mono _ _ _ _ _
   | exact LeO.none _
   | refine LeO.ite ?_ ?_
   | refine LeO.bind ?_ (fun _ => ?_)
def spec_CrashRun.T8 : Bool × List (List Nat × List Nat) := (true, [([], []), ([0], [0]), ([], []), ([], []), ([3], [3]), ([], []), ([4, 5], [4, 5]), ([6], [6]), ([7], [7]), ([8], [8]), ([9], [9]), ([1, 2, 0, 1, 2, 3, 4, 5, 6, 7, 8, 9, 10], [1, 2]), ([11, 10, 0, 1, 2, 3, 4, 5, 6, 7, 8, 9, 10], [10, 11])])
def spec_CrashRun.B8 : List Nat := [0, 1, 0, 0, 8, 0, 56, 120, 248, 504, 1016, 2047, 4095]
theorem spec_CrashRun.tab8 : rtab .any (opsOf Try.f40 8) = spec_CrashRun.T8 := by kernel_rfl
theorem spec_CrashRun.bits8 : waitsOk spec_CrashRun.T8.2 spec_CrashRun.B8 = true := by kernel_rfl
set_option maxHeartbeats 8000000 in
set_option maxRecDepth 100000 in
theorem spec_CrashRun.calls (k : Nat) (A0_0 : Option Addr) (c0_0 : Nat) (l0_0 : List (S39)) (A0_1 : Option Addr) (c0_1 : Nat) (l0_1 : List Int) (a0_2 : Int) (A0_3 : Option Addr) (c0_3 : Nat) (l0_3 : List (S43)) (r1 : List (S39)) (r2 : List Int) (r3 : Int) (r4 : List (S43)) (w : World) (hr0_0 : Kd.C k39 w A0_0 l0_0.length l0_0) (hc0_0 : l0_0.length ≤ c0_0) (hr0_1 : Kd.C (Kd.int .i64) w A0_1 l0_1.length l0_1) (hc0_1 : l0_1.length ≤ c0_1) (hr0_3 : Kd.C k43 w A0_3 l0_3.length l0_3) (hc0_3 : l0_3.length ≤ c0_3) (h : spec_CrashRun.f k l0_0 l0_1 a0_2 l0_3 = some (r1, r2, r3, r4)) :
  Calls Try.prog 40 #[.agg #[.slice A0_0 l0_0.length c0_0, .slice A0_1 l0_1.length c0_1, .int .i64 a0_2, .slice A0_3 l0_3.length c0_3]] w fun e w' => ∃ v0_ v1_ v3_ : Value, e = .returned (.agg #[v0_, v1_, .int .i64 r3, v3_]) ∧ Kd.S k39 39 w' w.heap.size (fun k_ => some k_ ≠ (v1_ : Value).ownBlock) v0_ r1 ∧ Kd.R (Kd.int .i64) 2 w' w.heap.size (fun _ => True) v1_ r2 ∧ Kd.R k43 43 w' w.heap.size (fun _ => True) v3_ r4 ∧ Below w.heap.size w w' := by
 have hu31 := Try.underlying31; have hu43 := Try.underlying43; have HR0_0 := Aside0.mk hr0_0; have HC0_0 := Aside0.mk hc0_0; clear hr0_0 hc0_0; have HR0_1 := Aside0.mk hr0_1; have HC0_1 := Aside0.mk hc0_1; clear hr0_1 hc0_1; have HR0_3 := Aside0.mk hr0_3; have HC0_3 := Aside0.mk hc0_3; clear hr0_3 hc0_3
 have HB := Aside0.mk (Below.refl w.heap.size w)
 have H : ((spec_l24Ok.f k l0_0 l0_1 a0_2 l0_3).bind fun t355 => (if t355 = true then ((spec_l24Copy.f k l0_0 l0_1 a0_2 l0_3).bind fun bt356 => (spec_CrashRun.l0 k 0 bt356.1 bt356.2.1 bt356.2.2.1 bt356.2.2.2)) else (some (([] : List (S39)), ([] : List Int), 0, ([] : List (S43)))))) = some (r1, r2, r3, r4) := h
 clear h; replace H := Option.bind_eq_some_iff.mp H
 obtain ⟨t355, A20, H⟩ := H
 replace H : (if t355 = true then ((spec_l24Copy.f k l0_0 l0_1 a0_2 l0_3).bind fun bt356 => (spec_CrashRun.l0 k 0 bt356.1 bt356.2.1 bt356.2.2.1 bt356.2.2.2)) else (some (([] : List (S39)), ([] : List Int), 0, ([] : List (S43))))) = some (r1, r2, r3, r4) := H
 have A2 := Aside0.mk A20; clear A20
 by_cases c3 : t355 = true
 ·subst c3
  have H1 : ((spec_l24Copy.f k l0_0 l0_1 a0_2 l0_3).bind fun bt356 => (spec_CrashRun.l0 k 0 bt356.1 bt356.2.1 bt356.2.2.1 bt356.2.2.2)) = some (r1, r2, r3, r4) := by rw [if_pos rfl] at H; exact H
  clear H; have H := H1; clear H1; replace H := Option.bind_eq_some_iff.mp H
  obtain ⟨⟨t356, t359, t362, t363⟩, A40, H⟩ := H
  replace H : (spec_CrashRun.l0 k 0 t356 t359 t362 t363) = some (r1, r2, r3, r4) := H
  have A4 := Aside0.mk A40; clear A40; have H' := Aside0.mk H; clear H
  go_enter Try.func40, Try.ntmps40
  go_wp2_with (first | ((with_reducible refine gate_dst (N := 1) rfl ?_); refine box_event ?hg (N := 1) ?hd (cs := #[.slice A0_0 l0_0.length c0_0, .slice A0_1 l0_1.length c0_1, .int .i64 a0_2, .slice A0_3 l0_3.length c0_3]) (t := 31) ?hr ?_; (case hd => rfl); (case hg => rfl); (case hr => first | (go_simp; done) | (go_simp; rfl)); intro gb353 hg w5 hbox hb; have BK353 := Aside0.mk (hbox); have GW353 := gE_ HB hg; have GE353 := gE_ HB hg; replace HB := bS_ HB hb; clear hb hbox hg) | ((with_reducible refine gate_dst (N := 2) rfl ?_); refine box_event ?hg (N := 2) ?hd (cs := #[.slice none 0 0, .slice none 0 0, .int .i64 0, .slice none 0 0]) (t := 31) ?hr ?_; (case hd => rfl); (case hg => rfl); (case hr => first | (go_simp; done) | (go_simp; rfl)); intro gb354 hg w6 hbox hb; have BK354 := Aside0.mk (hbox); have GW354 := gE_ HB hg; have GE354 := gE_ HB hg; replace HB := bS_ HB hb; have NB353_354 := nL_ BK353 hg; have NB354_353 := nG_ BK353 hg; replace BK353 := bB_ BK353 hb; clear hb hbox hg; have hnb7 := NB353_354.out; have hnc7 := NB354_353.out; have hcz8_0 : w6.cell? ⟨gb353, 0, none⟩ = some (.slice A0_0 l0_0.length c0_0) := (blk_cell BK353.out 0).trans rfl; have hcz8_1 : w6.cell? ⟨gb353, 1, none⟩ = some (.slice A0_1 l0_1.length c0_1) := (blk_cell BK353.out 1).trans rfl; have hcz8_2 : w6.cell? ⟨gb353, 2, none⟩ = some (.int .i64 a0_2) := (blk_cell BK353.out 2).trans rfl; have hcz8_3 : w6.cell? ⟨gb353, 3, none⟩ = some (.slice A0_3 l0_3.length c0_3) := (blk_cell BK353.out 3).trans rfl; have hfz8_0 := blk_frozen BK353.out 0; have hfz8_1 := blk_frozen BK353.out 1; have hfz8_2 := blk_frozen BK353.out 2; have hfz8_3 := blk_frozen BK353.out 3) | ((with_reducible refine gate_callee (f := 58) rfl ?_); refine gL_ (some 6) Try.func58 #[.agg #[.slice A0_0 l0_0.length c0_0, .slice A0_1 l0_1.length c0_1, .int .i64 a0_2, .slice A0_3 l0_3.length c0_3]] ?_; (with_reducible refine (spec_l24Ok.calls k _ _ l0_0 _ _ l0_1 a0_2 _ _ l0_3 true _ ?side1 ?side2 ?side3 ?side4 ?side5 ?side6 A2.out).mono ?_); (case side1 => exact cB_ HR0_0 HB); (case side2 => exact HC0_0.out); (case side3 => exact cB_ HR0_1 HB); (case side4 => exact HC0_1.out); (case side5 => exact cB_ HR0_3 HB); (case side6 => exact HC0_3.out); rintro e w9 ⟨rfl, hb⟩; refine ⟨_, rfl, ?_⟩; replace BK353 := bB_ BK353 hb; replace BK354 := bB_ BK354 hb; replace HB := bS_ HB hb; (try clear hb); (try clear hb2); (try clear hk); (try clear hi); have hcz10_0 : w9.cell? ⟨gb353, 0, none⟩ = some (.slice A0_0 l0_0.length c0_0) := (blk_cell BK353.out 0).trans rfl; have hcz10_1 : w9.cell? ⟨gb353, 1, none⟩ = some (.slice A0_1 l0_1.length c0_1) := (blk_cell BK353.out 1).trans rfl; have hcz10_2 : w9.cell? ⟨gb353, 2, none⟩ = some (.int .i64 a0_2) := (blk_cell BK353.out 2).trans rfl; have hcz10_3 : w9.cell? ⟨gb353, 3, none⟩ = some (.slice A0_3 l0_3.length c0_3) := (blk_cell BK353.out 3).trans rfl; have hfz10_0 := blk_frozen BK353.out 0; have hfz10_1 := blk_frozen BK353.out 1; have hfz10_2 := blk_frozen BK353.out 2; have hfz10_3 := blk_frozen BK353.out 3) | ((with_reducible refine gate_callee (f := 59) rfl ?_); refine gL_ (some 10) Try.func59 #[.agg #[.slice A0_0 l0_0.length c0_0, .slice A0_1 l0_1.length c0_1, .int .i64 a0_2, .slice A0_3 l0_3.length c0_3]] ?_; (with_reducible refine (spec_l24Copy.calls k _ _ l0_0 _ _ l0_1 a0_2 _ _ l0_3 t356 t359 t362 t363 _ ?side1 ?side2 ?side3 ?side4 ?side5 ?side6 A4.out).mono ?_); (case side1 => exact cB_ HR0_0 HB); (case side2 => exact HC0_0.out); (case side3 => exact cB_ HR0_1 HB); (case side4 => exact HC0_1.out); (case side5 => exact cB_ HR0_3 HB); (case side6 => exact HC0_3.out); rintro e w11 ⟨v357, v360, v364, rfl, ho0, ho1, ho2, hb⟩; refine ⟨_, rfl, ?_⟩; have HO358 := Aside0.mk (Kd.S_lower ho0 (below_size sABelo_14)); have HO361 := rL_ ho1 HB; have HO365 := rL_ ho2 HB; replace BK353 := bB_ BK353 hb; replace BK354 := bB_ BK354 hb; replace HB := bS_ HB hb; (try clear hb); (try clear hb2); (try clear hk); (try clear hi); (try clear ho0); (try clear ho1); (try clear ho2)) | ((with_reducible refine gate_dst (N := 3) rfl ?_); refine box_event ?hg (N := 3) ?hd (cs := #[.slice none 0 0, .slice none 0 0, .int .i64 0, .slice none 0 0]) (t := 31) ?hr ?_; (case hd => rfl); (case hg => rfl); (case hr => first | (go_simp; done) | (go_simp; rfl)); intro gb366 hg w12 hbox hb; replace HO358 := Aside0.mk (Kd.S_below (by (with_reducible repeat (first | apply Kd.S_alloc | apply Kd.S_drewN | apply Kd.S_drew)); exact HO358.out) hb); replace HO361 := rB_ HO361 hb; replace HO365 := rB_ HO365 hb; have BK366 := Aside0.mk (hbox); have GW366 := gE_ HB hg; have GE366 := gE_ HB hg; replace HB := bS_ HB hb; have NB353_366 := nL_ BK353 hg; have NB366_353 := nG_ BK353 hg; replace BK353 := bB_ BK353 hb; have NB354_366 := nL_ BK354 hg; have NB366_354 := nG_ BK354 hg; replace BK354 := bB_ BK354 hb; clear hb hbox hg; obtain ⟨Ao13, co13, eo13⟩ := Kd.S_slice HO358.out; subst eo13; have hnb14 := NB366_353.out; have hnc14 := NB353_366.out; have hnb15 := NB366_354.out; have hnc15 := NB354_366.out; have hcz16_0 : w12.cell? ⟨gb366, 0, none⟩ = some (.slice none 0 0) := (blk_cell BK366.out 0).trans rfl; have hcz16_1 : w12.cell? ⟨gb366, 1, none⟩ = some (.slice none 0 0) := (blk_cell BK366.out 1).trans rfl; have hcz16_2 : w12.cell? ⟨gb366, 2, none⟩ = some (.int .i64 0) := (blk_cell BK366.out 2).trans rfl; have hcz16_3 : w12.cell? ⟨gb366, 3, none⟩ = some (.slice none 0 0) := (blk_cell BK366.out 3).trans rfl; have hfz16_0 := blk_frozen BK366.out 0; have hfz16_1 := blk_frozen BK366.out 1; have hfz16_2 := blk_frozen BK366.out 2; have hfz16_3 := blk_frozen BK366.out 3; obtain ⟨Ao17, co17, eo17⟩ := Kd.R_slice HO361.out; subst eo17; obtain ⟨Ao18, co18, eo18⟩ := Kd.R_slice HO365.out; subst eo18))
  go_loopg [4] k (fun kq v4 w' => ∃ (x4_1 : Int) (x367003_1 : List (S43)) (u367003 : Value), v4 = .int .i64 x4_1 ∧ Aside0 (spec_CrashRun.l0 kq x4_1 t356 t359 t362 x367003_1 = some (r1, r2, r3, r4)) ∧ Aside0 (kq ≤ k) ∧ Aside0 (Kd.S k39 39 w' w.heap.size (fun k_ => some k_ ≠ ((.slice Ao17 t359.length co17) : Value).ownBlock) (.slice Ao13 t356.length co13) t356) ∧ Aside0 (Kd.R (Kd.int .i64) 2 w' w.heap.size (fun _ => True) (.slice Ao17 t359.length co17) t359) ∧ Aside0 (Kd.R k43 43 w' w.heap.size (fun _ => True) u367003 x367003_1) ∧ Aside0 (w'.heap[gb353]? = some (.cells #[(.slice A0_0 l0_0.length c0_0), (.slice A0_1 l0_1.length c0_1), .int .i64 a0_2, (.slice A0_3 l0_3.length c0_3)] 31 (0, 0))) ∧ Aside0 (w'.heap[gb354]? = some (.cells #[(.slice none 0 0), (.slice none 0 0), .int .i64 0, (.slice none 0 0)] 31 (0, 0))) ∧ Aside0 (w'.heap[gb366]? = some (.cells #[(.slice Ao13 t356.length co13), (.slice Ao17 t359.length co17), .int .i64 t362, u367003] 31 (0, 0))) ∧ Aside0 (Below w.heap.size w w'))
  case atStart => exact ⟨(0), (t363), (.slice Ao18 t363.length co18), (by first | rfl | (simp; done) | (simp [*]; done)), H', ⟨Nat.le_refl _⟩, ⟨by (with_reducible repeat (first | apply Kd.S_alloc | apply Kd.S_drewN | apply Kd.S_drew)); exact Kd.S_mono (Kd.S_far (p := ⟨gb366, 3, none⟩) (Kd.S_far (p := ⟨gb366, 2, none⟩) (Kd.S_far (p := ⟨gb366, 1, none⟩) (Kd.S_far (p := ⟨gb366, 0, none⟩) (Kd.S_types HO358.out BK366.out (by decide)) (fun _ hk => hk.2) (.slice Ao13 t356.length co13)) (fun _ hk => hk.2) (.slice Ao17 t359.length co17)) (fun _ hk => hk.2) (.int .i64 t362)) (fun _ hk => hk.2) (.slice Ao18 t363.length co18)) (fun _ hk => hk.1)⟩, ⟨by (with_reducible repeat (first | apply Kd.R_alloc | apply Kd.R_drewN | apply Kd.R_drew)); exact Kd.R_mono (Kd.R_far (p := ⟨gb366, 3, none⟩) (Kd.R_far (p := ⟨gb366, 2, none⟩) (Kd.R_far (p := ⟨gb366, 1, none⟩) (Kd.R_far (p := ⟨gb366, 0, none⟩) (Kd.R_types HO361.out BK366.out (by decide)) (fun _ hk => hk.2) (.slice Ao13 t356.length co13)) (fun _ hk => hk.2) (.slice Ao17 t359.length co17)) (fun _ hk => hk.2) (.int .i64 t362)) (fun _ hk => hk.2) (.slice Ao18 t363.length co18)) (fun _ hk => trivial)⟩, ⟨by (with_reducible repeat (first | apply Kd.R_alloc | apply Kd.R_drewN | apply Kd.R_drew)); exact Kd.R_mono (Kd.R_far (p := ⟨gb366, 3, none⟩) (Kd.R_far (p := ⟨gb366, 2, none⟩) (Kd.R_far (p := ⟨gb366, 1, none⟩) (Kd.R_far (p := ⟨gb366, 0, none⟩) (Kd.R_types HO365.out BK366.out (by decide)) (fun _ hk => hk.2) (.slice Ao13 t356.length co13)) (fun _ hk => hk.2) (.slice Ao17 t359.length co17)) (fun _ hk => hk.2) (.int .i64 t362)) (fun _ hk => hk.2) (.slice Ao18 t363.length co18)) (fun _ hk => trivial)⟩, ⟨by (with_reducible repeat (first | refine blk_drewN ?_ _ | refine blk_drew ?_ | refine blk_alloc ?_ _)); refine blk_far ?_ NB353_366.out _; (with_reducible repeat (first | refine blk_drewN ?_ _ | refine blk_drew ?_ | refine blk_alloc ?_ _)); refine blk_far ?_ NB353_366.out _; (with_reducible repeat (first | refine blk_drewN ?_ _ | refine blk_drew ?_ | refine blk_alloc ?_ _)); refine blk_far ?_ NB353_366.out _; (with_reducible repeat (first | refine blk_drewN ?_ _ | refine blk_drew ?_ | refine blk_alloc ?_ _)); refine blk_far ?_ NB353_366.out _; exact bT_ BK353⟩, ⟨by (with_reducible repeat (first | refine blk_drewN ?_ _ | refine blk_drew ?_ | refine blk_alloc ?_ _)); refine blk_far ?_ NB354_366.out _; (with_reducible repeat (first | refine blk_drewN ?_ _ | refine blk_drew ?_ | refine blk_alloc ?_ _)); refine blk_far ?_ NB354_366.out _; (with_reducible repeat (first | refine blk_drewN ?_ _ | refine blk_drew ?_ | refine blk_alloc ?_ _)); refine blk_far ?_ NB354_366.out _; (with_reducible repeat (first | refine blk_drewN ?_ _ | refine blk_drew ?_ | refine blk_alloc ?_ _)); refine blk_far ?_ NB354_366.out _; exact bT_ BK354⟩, ⟨by (with_reducible repeat (first | refine blk_drewN ?_ _ | refine blk_drew ?_ | refine blk_alloc ?_ _)); refine blk_put (cs := #[.slice Ao13 t356.length co13, .slice Ao17 t359.length co17, .int .i64 t362, .slice none 0 0]) ?_ 3 _ rfl; (with_reducible repeat (first | refine blk_drewN ?_ _ | refine blk_drew ?_ | refine blk_alloc ?_ _)); refine blk_put (cs := #[.slice Ao13 t356.length co13, .slice Ao17 t359.length co17, .int .i64 0, .slice none 0 0]) ?_ 2 _ rfl; (with_reducible repeat (first | refine blk_drewN ?_ _ | refine blk_drew ?_ | refine blk_alloc ?_ _)); refine blk_put (cs := #[.slice Ao13 t356.length co13, .slice none 0 0, .int .i64 0, .slice none 0 0]) ?_ 1 _ rfl; (with_reducible repeat (first | refine blk_drewN ?_ _ | refine blk_drew ?_ | refine blk_alloc ?_ _)); refine blk_put (cs := #[.slice none 0 0, .slice none 0 0, .int .i64 0, .slice none 0 0]) ?_ 0 _ rfl; exact bT_ BK366⟩, ⟨sABelo_14⟩⟩
  case round =>
   clear H'; (try clear c1); (try clear p2); (try clear c3); (try clear c4); (try clear c5); (try clear c7); (try clear c14); (try clear c15); (try clear hcz10_0); (try clear hcz10_1); (try clear hcz10_2); (try clear hcz10_3); (try clear hcz16_0); (try clear hcz16_1); (try clear hcz16_2); (try clear hcz16_3); (try clear hcz8_0); (try clear hcz8_1); (try clear hcz8_2); (try clear hcz8_3); (try clear hfz10_0); (try clear hfz10_1); (try clear hfz10_2); (try clear hfz10_3); (try clear hfz16_0); (try clear hfz16_1); (try clear hfz16_2); (try clear hfz16_3); (try clear hfz8_0); (try clear hfz8_1); (try clear hfz8_2); (try clear hfz8_3)
   obtain ⟨x4_1, x367003_1, u367003, rfl, HA, HK1, HO_367000, HO_367001, HO_367003, BK353, BK354, BK366, HB⟩ := hrel
   cases gk with
   | zero => exact absurd HA.out (by simp [spec_CrashRun.l0])
   | succ k1 =>
    have H := HA.out; clear HA
    simp only [spec_CrashRun.l0] at H
    by_cases c19 : x4_1 < (x367003_1.length : Int)
    ·rw [if_pos c19] at H
     have c19b0 : decide (x4_1 < (x367003_1.length : Int)) = true := decide_eq_true c19
     clear c19
     obtain ⟨c20, H⟩ := ifS_ H
     have c20b0 : decide (0 ≤ x4_1) = true := decide_eq_true c20
     clear c20
     by_cases c21 : ((rd_T43 x367003_1 x4_1).f0) = 1
     ·rw [if_pos c21] at H
      have c21b0 : (((rd_T43 x367003_1 x4_1).f0) == 1) = true := beq_iff_eq.mpr c21
      have c21b1 : (((rd_T43 x367003_1 x4_1).f0) != 1) = false := bne_eq_false_iff_eq.mpr c21
      clear c21
      obtain ⟨y369, hy369⟩ : ∃ y_ : List (S43), y_ = (x367003_1.set (x4_1 : Int).toNat (⟨0, wrap64 (((rd_T43 x367003_1 x4_1).f1) - 1)⟩ : S43)) := ⟨_, rfl⟩
      replace H : (spec_CrashRun.l0 k1 (wrap64 (x4_1 + 1)) t356 t359 t362 y369) = some (r1, r2, r3, r4) := by first | (rw [hy369]; with_reducible exact H) | (have H2_ := (Option.bind_some _ _).symm.trans H; rw [hy369]; with_reducible exact H2_) | (have H2_ := (Option.bind_some _ _).symm.trans H; with_reducible exact H2_) | with_reducible exact H | (rw [hy369]; exact H) | exact H
      have Ny369 := Aside0.mk hy369; clear hy369; have H' := Aside0.mk H; clear H; have hnb23 := NB366_353.out; have hnc23 := NB353_366.out; have hnb24 := NB366_354.out; have hnc24 := NB354_366.out
      have hcz25_0 : wr.cell? ⟨gb366, 0, none⟩ = some (.slice Ao13 t356.length co13) := (blk_cell BK366.out 0).trans rfl
      have hcz25_1 : wr.cell? ⟨gb366, 1, none⟩ = some (.slice Ao17 t359.length co17) := (blk_cell BK366.out 1).trans rfl
      have hcz25_2 : wr.cell? ⟨gb366, 2, none⟩ = some (.int .i64 t362) := (blk_cell BK366.out 2).trans rfl
      have hcz25_3 : wr.cell? ⟨gb366, 3, none⟩ = some (u367003) := (blk_cell BK366.out 3).trans rfl
      have hfz25_0 := blk_frozen BK366.out 0; have hfz25_1 := blk_frozen BK366.out 1; have hfz25_2 := blk_frozen BK366.out 2; have hfz25_3 := blk_frozen BK366.out 3
      obtain ⟨Ao26, co26, eo26⟩ := Kd.R_slice HO_367003.out
      subst eo26
      have p367 : 0 ≤ (x4_1 : Int) := of_decide_eq_true (by first | (with_reducible assumption) | assumption)
      have q367 : x4_1 < (x367003_1.length : Int) := of_decide_eq_true (by first | (with_reducible assumption) | assumption)
      obtain ⟨ad367, e367, hx367_0, hx367_1⟩ := at_T43 (Kd.R_reads' HO_367003.out).2.2 x4_1 p367 q367
      cases e367
      replace p367 := eq_true p367; replace q367 := eq_true q367
      try go_wp2
      replace HO_367000 := Aside0.mk (Kd.S_drew HO_367000.out)
      replace HO_367001 := Aside0.mk (Kd.R_drew HO_367001.out)
      replace HO_367003 := Aside0.mk (Kd.R_drew HO_367003.out)
      replace BK353 := Aside0.mk (blk_drew BK353.out)
      replace BK354 := Aside0.mk (blk_drew BK354.out)
      replace BK366 := Aside0.mk (blk_drew BK366.out)
      replace HB := Aside0.mk (below_drew1 HB.out)
      have p368 : 0 ≤ (x4_1 : Int) := of_decide_eq_true (by first | (with_reducible assumption) | assumption)
      have q368 : x4_1 < (x367003_1.length : Int) := of_decide_eq_true (by first | (with_reducible assumption) | assumption)
      obtain ⟨ad368, e368, hx368_0, hx368_1⟩ := at_T43 (Kd.R_reads' HO_367003.out).2.2 x4_1 p368 q368
      obtain rfl : ad367 = ad368 := (by injection e368)
      replace p368 := eq_true p368; replace q368 := eq_true q368
      have p22 : 0 ≤ (x4_1 : Int) := of_decide_eq_true (by first | (with_reducible assumption) | assumption)
      have q22 : (x4_1 : Int) < ((x367003_1.length : Int) : Int) := of_decide_eq_true (by first | (with_reducible assumption) | assumption)
      obtain ⟨go22, co22, eo22, gb22, gl22, cl22, HG22⟩ := Kd.R_form HO_367003.out (by omega)
      (first | cases eo22 | (injection eo22 with ea_ en_ ec_; (first | subst ea_ | (injection ea_ with ea_; subst ea_)); subst ec_; clear en_))
      have GB22 := Aside0.mk gb22; have GG22 := Aside0.mk HG22; clear gb22 gl22 HG22
      (first | simp only [add_plain] at hx367_0 | skip)
      (first | simp only [add_plain] at hx367_1 | skip)
      (first | simp only [add_plain] at hx368_0 | skip)
      (first | simp only [add_plain] at hx368_1 | skip)
      obtain ⟨ce22, hcl22, hM22, hcc22, hfr22⟩ := Kd.R_elem HO_367003.out z43 (x4_1 : Int) p22 q22
      obtain rfl := k43_openM hM22
      have hx22_0 : World.cell? _ ⟨go22, (x4_1 : Int).toNat * 2, none⟩ = some (.int .i64 ((rd_T43 x367003_1 x4_1).f0)) := hcc22 0 _ rfl
      have hx22_1 : World.cell? _ ⟨go22, (x4_1 : Int).toNat * 2 + 1, none⟩ = some (.int .i64 ((rd_T43 x367003_1 x4_1).f1)) := hcc22 1 _ rfl
      have hf22_0 : World.frozen? _ ⟨go22, (x4_1 : Int).toNat * 2, none⟩ = false := hfr22 0
      have hf22_1 : World.frozen? _ ⟨go22, (x4_1 : Int).toNat * 2 + 1, none⟩ = false := hfr22 1
      clear hcl22 hcc22 hfr22 hM22; replace p22 := eq_true p22; replace q22 := eq_true q22
      obtain ⟨ce28, hcl28, hM28, hcc28, hfr28⟩ := Kd.R_elem HO_367003.out z43 (x4_1 : Int) (of_decide_eq_true (by first | (with_reducible assumption) | assumption)) (by have h_ : (x4_1 : Int) < ((x367003_1.length : Int) : Int) := of_decide_eq_true (by first | (with_reducible assumption) | assumption); first | exact h_ | (have e_ := (Kd.R_reads' HO_367003.out).1; omega) | simpa using h_)
      obtain rfl := k43_openM hM28
      have HP28 := (Kd.R_seg HO_367003.out (x4_1 : Int) (of_decide_eq_true (by first | (with_reducible assumption) | assumption)) (by have h_ : (x4_1 : Int) < ((x367003_1.length : Int) : Int) := of_decide_eq_true (by first | (with_reducible assumption) | assumption); first | exact h_ | (have e_ := (Kd.R_reads' HO_367003.out).1; omega) | simpa using h_) (seg := [.int .i64 0, .int .i64 (wrap64 (((rd_T43 x367003_1 x4_1).f1) - 1))]) (j := 0) hcl28 hcc28 (show 2 ≤ 2 from by decide) (x' := (⟨0, wrap64 (((rd_T43 x367003_1 x4_1).f1) - 1)⟩ : S43)) (k43_mkM _ _ _ (⟨0, wrap64 (((rd_T43 x367003_1 x4_1).f1) - 1)⟩ : S43) ) (fun _ hk => hk)).1
      rw [← Ny369.out] at HP28
      have HQ28 := Aside0.mk HP28; clear hcl28 hcc28 hfr28 hM28 HP28
      refine start_ (n := 13) (S := fun w' => w'.cell? ⟨gb366, 0, none⟩ = some (.slice Ao13 t356.length co13) ∧ w'.cell? ⟨gb366, 1, none⟩ = some (.slice Ao17 t359.length co17) ∧ w'.cell? ⟨gb366, 2, none⟩ = some (.int .i64 t362) ∧ w'.cell? ⟨gb366, 3, none⟩ = some (.slice (some ⟨go22, 0, none⟩) x367003_1.length co26) ∧ w'.cell? ⟨go22, ((x4_1).toNat * 2), none⟩ = some (.int .i64 ((rd_T43 x367003_1 x4_1).f0)) ∧ w'.cell? ⟨go22, ((x4_1).toNat * 2) + 1, none⟩ = some (.int .i64 ((rd_T43 x367003_1 x4_1).f1))) (ds := [12]) #[false, false, false, false, false, false, false, false, false, false, false, false, false] (by kernel_rfl) rfl rfl ⟨(blk_cell BK366.out 0).trans rfl, (blk_cell BK366.out 1).trans rfl, (blk_cell BK366.out 2).trans rfl, (blk_cell BK366.out 3).trans rfl, hx368_0, hx368_1⟩ (fun hHeld => ?_); refine with_tabW spec_CrashRun.tab8 spec_CrashRun.bits8 (fun HT_ HW_ => ?_)
      generalize wr.drew = w27 at HO_367000 HO_367001 HO_367003 BK353 BK354 BK366 HB GG22 HQ28 hf22_0 hf22_1 hx22_0 hx22_1 hx367_0 hx367_1 hx368_0 hx368_1 hHeld ⊢
      refine pT_ 0 (some 25) #[true, false, false, false, false, false, false, false, false, false, false, false, false] HT_ ?_
      refine pT_ 2 (some 27) #[true, false, true, false, false, false, false, false, false, false, false, false, false] HT_ ?_
      refine pT_ 3 (some 28) #[true, false, true, true, false, false, false, false, false, false, false, false, false] HT_ ?_
      refine pT_ 5 (some 30) #[true, false, true, true, false, true, false, false, false, false, false, false, false] HT_ ?_
      refine tT_ 1 (some 26) #[true, true, true, true, false, true, false, false, false, false, false, false, false] HT_ HW_ hHeld ?_ (hy := by rintro w' ⟨s0, s1, s2, s3, s4, s5⟩; go_simp; with_reducible rfl)
      refine tT_ 4 (some 29) #[true, true, true, true, true, true, false, false, false, false, false, false, false] HT_ HW_ hHeld ?_ (hy := by rintro w' ⟨s0, s1, s2, s3, s4, s5⟩; go_simp; with_reducible rfl)
      refine pT_ 6 (some 31) #[true, true, true, true, true, true, true, false, false, false, false, false, false] HT_ ?_
      refine pT_ 7 (some 32) #[true, true, true, true, true, true, true, true, false, false, false, false, false] HT_ ?_
      refine tT_ 8 (some 33) #[true, true, true, true, true, true, true, true, true, false, false, false, false] HT_ HW_ hHeld ?_ (hy := by rintro w' ⟨s0, s1, s2, s3, s4, s5⟩; go_simp; with_reducible rfl)
      refine pT_ 9 (some 34) #[true, true, true, true, true, true, true, true, true, true, false, false, false] HT_ ?_
      refine pT_ 10 (some 35) #[true, true, true, true, true, true, true, true, true, true, true, false, false] HT_ ?_
      refine pT_ 11 (some 36) #[true, true, true, true, true, true, true, true, true, true, true, true, false] HT_ ?_
      refine last_ (i := 12) (N := none) #[true, true, true, true, true, true, true, true, true, true, true, true, true] rfl rfl (one_of HT_.out (by kernel_rfl)) (by decide) (fun K hK => ?_)
      refine skip_ (w1 := ?_) (by rfl) rfl ?_ ?_
      rotate_left
      ·go_simp
       rfl
      refine hK.out _ _ ?_
      clear hK K
      refine done_ (done_of HT_.out (by kernel_rfl)) ?_
      try go_wp2
      go_roundg k1
      case measure => have := HK1.out; omega
      case rel => exact ⟨(wrap64 (x4_1 + 1)), (y369), (.slice (some ⟨go22, 0, none⟩) x367003_1.length co26), (by first | rfl | (simp; done) | (simp [*]; done)), H', ⟨by have := HK1.out; omega⟩, ⟨by (with_reducible repeat (first | apply Kd.S_alloc | apply Kd.S_drewN | apply Kd.S_drew)); exact Kd.S_mono (Kd.S_far (p := ⟨go22, (x4_1 : Int).toNat * 2 + 1, none⟩) (Kd.S_far (p := ⟨go22, (x4_1 : Int).toNat * 2, none⟩) (Kd.S_types HO_367000.out GG22.out (by decide)) (fun _ hk => hk.2) (.int .i64 0)) (fun _ hk => hk.2) (.int .i64 (wrap64 (((rd_T43 x367003_1 x4_1).f1) - 1)))) (fun _ hk => hk.1)⟩, ⟨by (with_reducible repeat (first | apply Kd.R_alloc | apply Kd.R_drewN | apply Kd.R_drew)); exact Kd.R_mono (Kd.R_far (p := ⟨go22, (x4_1 : Int).toNat * 2 + 1, none⟩) (Kd.R_far (p := ⟨go22, (x4_1 : Int).toNat * 2, none⟩) (Kd.R_types HO_367001.out GG22.out (by decide)) (fun _ hk => hk.2) (.int .i64 0)) (fun _ hk => hk.2) (.int .i64 (wrap64 (((rd_T43 x367003_1 x4_1).f1) - 1)))) (fun _ hk => trivial)⟩, ⟨by (with_reducible repeat (first | apply Kd.R_alloc | apply Kd.R_drewN | apply Kd.R_drew)); exact HQ28.out⟩, ⟨by (with_reducible repeat (first | refine blk_drewN ?_ _ | refine blk_drew ?_ | refine blk_alloc ?_ _)); refine blk_far ?_ (by have h_ := Kd.R_ne HO_367003.out BK353.out (by decide); intro e_; exact h_ (by rw [e_]; rfl)) _; (with_reducible repeat (first | refine blk_drewN ?_ _ | refine blk_drew ?_ | refine blk_alloc ?_ _)); refine blk_far ?_ (by have h_ := Kd.R_ne HO_367003.out BK353.out (by decide); intro e_; exact h_ (by rw [e_]; rfl)) _; exact bT_ BK353⟩, ⟨by (with_reducible repeat (first | refine blk_drewN ?_ _ | refine blk_drew ?_ | refine blk_alloc ?_ _)); refine blk_far ?_ (by have h_ := Kd.R_ne HO_367003.out BK354.out (by decide); intro e_; exact h_ (by rw [e_]; rfl)) _; (with_reducible repeat (first | refine blk_drewN ?_ _ | refine blk_drew ?_ | refine blk_alloc ?_ _)); refine blk_far ?_ (by have h_ := Kd.R_ne HO_367003.out BK354.out (by decide); intro e_; exact h_ (by rw [e_]; rfl)) _; exact bT_ BK354⟩, ⟨by (with_reducible repeat (first | refine blk_drewN ?_ _ | refine blk_drew ?_ | refine blk_alloc ?_ _)); refine blk_far ?_ (by have h_ := Kd.R_ne HO_367003.out BK366.out (by decide); intro e_; exact h_ (by rw [e_]; rfl)) _; (with_reducible repeat (first | refine blk_drewN ?_ _ | refine blk_drew ?_ | refine blk_alloc ?_ _)); refine blk_far ?_ (by have h_ := Kd.R_ne HO_367003.out BK366.out (by decide); intro e_; exact h_ (by rw [e_]; rfl)) _; exact bT_ BK366⟩, ⟨sABelo_14⟩⟩
     ·rw [if_neg c21] at H
      have c21b0 : (((rd_T43 x367003_1 x4_1).f0) == 1) = false := beq_eq_false_iff_ne.mpr c21
      have c21b1 : (((rd_T43 x367003_1 x4_1).f0) != 1) = true := bne_iff_ne.mpr c21
      have H' := Aside0.mk H; clear H; have hnb29 := NB366_353.out; have hnc29 := NB353_366.out; have hnb30 := NB366_354.out; have hnc30 := NB354_366.out
      have hcz31_0 : wr.cell? ⟨gb366, 0, none⟩ = some (.slice Ao13 t356.length co13) := (blk_cell BK366.out 0).trans rfl
      have hcz31_1 : wr.cell? ⟨gb366, 1, none⟩ = some (.slice Ao17 t359.length co17) := (blk_cell BK366.out 1).trans rfl
      have hcz31_2 : wr.cell? ⟨gb366, 2, none⟩ = some (.int .i64 t362) := (blk_cell BK366.out 2).trans rfl
      have hcz31_3 : wr.cell? ⟨gb366, 3, none⟩ = some (u367003) := (blk_cell BK366.out 3).trans rfl
      have hfz31_0 := blk_frozen BK366.out 0; have hfz31_1 := blk_frozen BK366.out 1; have hfz31_2 := blk_frozen BK366.out 2; have hfz31_3 := blk_frozen BK366.out 3
      obtain ⟨Ao32, co32, eo32⟩ := Kd.R_slice HO_367003.out
      subst eo32
      have p367 : 0 ≤ (x4_1 : Int) := of_decide_eq_true (by first | (with_reducible assumption) | assumption)
      have q367 : x4_1 < (x367003_1.length : Int) := of_decide_eq_true (by first | (with_reducible assumption) | assumption)
      obtain ⟨ad367, e367, hx367_0, hx367_1⟩ := at_T43 (Kd.R_reads' HO_367003.out).2.2 x4_1 p367 q367
      cases e367
      replace p367 := eq_true p367; replace q367 := eq_true q367
      go_wp2
      go_roundg k1
      case measure => have := HK1.out; omega
      case rel => exact ⟨(wrap64 (x4_1 + 1)), (x367003_1), (.slice (some ad367) x367003_1.length co32), (by first | rfl | (simp; done) | (simp [*]; done)), H', ⟨by have := HK1.out; omega⟩, ⟨by (with_reducible repeat (first | apply Kd.S_alloc | apply Kd.S_drewN | apply Kd.S_drew)); exact HO_367000.out⟩, ⟨by (with_reducible repeat (first | apply Kd.R_alloc | apply Kd.R_drewN | apply Kd.R_drew)); exact HO_367001.out⟩, ⟨by (with_reducible repeat (first | apply Kd.R_alloc | apply Kd.R_drewN | apply Kd.R_drew)); exact HO_367003.out⟩, ⟨by exact bT_ BK353⟩, ⟨by exact bT_ BK354⟩, ⟨by exact bT_ BK366⟩, ⟨sABelo_14⟩⟩
    ·rw [if_neg c19] at H
     have c19b0 : decide (x4_1 < (x367003_1.length : Int)) = false := decide_eq_false c19
     clear c19
     simp only [Option.some.injEq, Prod.mk.injEq] at H
     obtain ⟨rfl, rfl, rfl, rfl⟩ := H
     have hnb33 := NB366_353.out; have hnc33 := NB353_366.out; have hnb34 := NB366_354.out; have hnc34 := NB354_366.out
     have hcz35_0 : wr.cell? ⟨gb366, 0, none⟩ = some (.slice Ao13 t356.length co13) := (blk_cell BK366.out 0).trans rfl
     have hcz35_1 : wr.cell? ⟨gb366, 1, none⟩ = some (.slice Ao17 t359.length co17) := (blk_cell BK366.out 1).trans rfl
     have hcz35_2 : wr.cell? ⟨gb366, 2, none⟩ = some (.int .i64 t362) := (blk_cell BK366.out 2).trans rfl
     have hcz35_3 : wr.cell? ⟨gb366, 3, none⟩ = some (u367003) := (blk_cell BK366.out 3).trans rfl
     have hfz35_0 := blk_frozen BK366.out 0; have hfz35_1 := blk_frozen BK366.out 1; have hfz35_2 := blk_frozen BK366.out 2; have hfz35_3 := blk_frozen BK366.out 3
     obtain ⟨Ao36, co36, eo36⟩ := Kd.R_slice HO_367003.out
     subst eo36
     have hnb37 := NB354_353.out; have hnc37 := NB353_354.out
     have hcz38_0 : wr.cell? ⟨gb354, 0, none⟩ = some (.slice none 0 0) := (blk_cell BK354.out 0).trans rfl
     have hcz38_1 : wr.cell? ⟨gb354, 1, none⟩ = some (.slice none 0 0) := (blk_cell BK354.out 1).trans rfl
     have hcz38_2 : wr.cell? ⟨gb354, 2, none⟩ = some (.int .i64 0) := (blk_cell BK354.out 2).trans rfl
     have hcz38_3 : wr.cell? ⟨gb354, 3, none⟩ = some (.slice none 0 0) := (blk_cell BK354.out 3).trans rfl
     have hfz38_0 := blk_frozen BK354.out 0; have hfz38_1 := blk_frozen BK354.out 1; have hfz38_2 := blk_frozen BK354.out 2; have hfz38_3 := blk_frozen BK354.out 3
     go_wp2
     refine bodyPost_ret (results_cell_row rfl _ _ gb354 31 #[.slice Ao13 t356.length co13, .slice Ao17 t359.length co17, .int .i64 t362, .slice Ao36 x367003_1.length co36] (0, 0) _ rfl (by (with_reducible repeat (first | refine blk_drewN ?_ _ | refine blk_drew ?_ | refine blk_alloc ?_ _)); refine blk_put (cs := #[.slice Ao13 t356.length co13, .slice Ao17 t359.length co17, .int .i64 t362, .slice none 0 0]) ?_ 3 _ rfl; (with_reducible repeat (first | refine blk_drewN ?_ _ | refine blk_drew ?_ | refine blk_alloc ?_ _)); refine blk_put (cs := #[.slice Ao13 t356.length co13, .slice Ao17 t359.length co17, .int .i64 0, .slice none 0 0]) ?_ 2 _ rfl; (with_reducible repeat (first | refine blk_drewN ?_ _ | refine blk_drew ?_ | refine blk_alloc ?_ _)); refine blk_put (cs := #[.slice Ao13 t356.length co13, .slice none 0 0, .int .i64 0, .slice none 0 0]) ?_ 1 _ rfl; (with_reducible repeat (first | refine blk_drewN ?_ _ | refine blk_drew ?_ | refine blk_alloc ?_ _)); refine blk_put (cs := #[.slice none 0 0, .slice none 0 0, .int .i64 0, .slice none 0 0]) ?_ 0 _ rfl; exact bT_ BK354) Try.underlying31 rfl (by kernel_rfl)) rfl ?_
     exact ⟨_, _, _, by first | rfl | (simp [errW_none, errW_some] <;> rfl) | (simp [*, errW_none, errW_some] <;> rfl), by (with_reducible repeat (first | apply Kd.S_alloc | apply Kd.S_drewN | apply Kd.S_drew)); exact Kd.S_mono (Kd.S_far (p := ⟨gb354, 3, none⟩) (Kd.S_far (p := ⟨gb354, 2, none⟩) (Kd.S_far (p := ⟨gb354, 1, none⟩) (Kd.S_far (p := ⟨gb354, 0, none⟩) (Kd.S_types HO_367000.out BK354.out (by decide)) (fun _ hk => hk.2) (.slice Ao13 t356.length co13)) (fun _ hk => hk.2) (.slice Ao17 t359.length co17)) (fun _ hk => hk.2) (.int .i64 t362)) (fun _ hk => hk.2) (.slice Ao36 x367003_1.length co36)) (fun _ hk => hk.1), by (with_reducible repeat (first | apply Kd.R_alloc | apply Kd.R_drewN | apply Kd.R_drew)); exact Kd.R_mono (Kd.R_far (p := ⟨gb354, 3, none⟩) (Kd.R_far (p := ⟨gb354, 2, none⟩) (Kd.R_far (p := ⟨gb354, 1, none⟩) (Kd.R_far (p := ⟨gb354, 0, none⟩) (Kd.R_types HO_367001.out BK354.out (by decide)) (fun _ hk => hk.2) (.slice Ao13 t356.length co13)) (fun _ hk => hk.2) (.slice Ao17 t359.length co17)) (fun _ hk => hk.2) (.int .i64 t362)) (fun _ hk => hk.2) (.slice Ao36 x367003_1.length co36)) (fun _ hk => trivial), by (with_reducible repeat (first | apply Kd.R_alloc | apply Kd.R_drewN | apply Kd.R_drew)); exact Kd.R_mono (Kd.R_far (p := ⟨gb354, 3, none⟩) (Kd.R_far (p := ⟨gb354, 2, none⟩) (Kd.R_far (p := ⟨gb354, 1, none⟩) (Kd.R_far (p := ⟨gb354, 0, none⟩) (Kd.R_types HO_367003.out BK354.out (by decide)) (fun _ hk => hk.2) (.slice Ao13 t356.length co13)) (fun _ hk => hk.2) (.slice Ao17 t359.length co17)) (fun _ hk => hk.2) (.int .i64 t362)) (fun _ hk => hk.2) (.slice Ao36 x367003_1.length co36)) (fun _ hk => trivial), sABelo_14⟩
 ·replace c3 := Bool.eq_false_iff.mpr c3
  subst c3
  have H1 : (some (([] : List (S39)), ([] : List Int), 0, ([] : List (S43)))) = some (r1, r2, r3, r4) := by rw [if_neg (show ¬ (false = true) by decide)] at H; exact H
  clear H; have H := H1; clear H1
  simp only [Option.some.injEq, Prod.mk.injEq] at H
  obtain ⟨rfl, rfl, rfl, rfl⟩ := H
  go_enter Try.func40, Try.ntmps40
  go_wp2_with (first | ((with_reducible refine gate_dst (N := 1) rfl ?_); refine box_event ?hg (N := 1) ?hd (cs := #[.slice A0_0 l0_0.length c0_0, .slice A0_1 l0_1.length c0_1, .int .i64 a0_2, .slice A0_3 l0_3.length c0_3]) (t := 31) ?hr ?_; (case hd => rfl); (case hg => rfl); (case hr => first | (go_simp; done) | (go_simp; rfl)); intro gb353 hg w39 hbox hb; have BK353 := Aside0.mk (hbox); have GW353 := gE_ HB hg; have GE353 := gE_ HB hg; replace HB := bS_ HB hb; clear hb hbox hg) | ((with_reducible refine gate_dst (N := 2) rfl ?_); refine box_event ?hg (N := 2) ?hd (cs := #[.slice none 0 0, .slice none 0 0, .int .i64 0, .slice none 0 0]) (t := 31) ?hr ?_; (case hd => rfl); (case hg => rfl); (case hr => first | (go_simp; done) | (go_simp; rfl)); intro gb354 hg w40 hbox hb; have BK354 := Aside0.mk (hbox); have GW354 := gE_ HB hg; have GE354 := gE_ HB hg; replace HB := bS_ HB hb; have NB353_354 := nL_ BK353 hg; have NB354_353 := nG_ BK353 hg; replace BK353 := bB_ BK353 hb; clear hb hbox hg; have hnb41 := NB353_354.out; have hnc41 := NB354_353.out; have hcz42_0 : w40.cell? ⟨gb353, 0, none⟩ = some (.slice A0_0 l0_0.length c0_0) := (blk_cell BK353.out 0).trans rfl; have hcz42_1 : w40.cell? ⟨gb353, 1, none⟩ = some (.slice A0_1 l0_1.length c0_1) := (blk_cell BK353.out 1).trans rfl; have hcz42_2 : w40.cell? ⟨gb353, 2, none⟩ = some (.int .i64 a0_2) := (blk_cell BK353.out 2).trans rfl; have hcz42_3 : w40.cell? ⟨gb353, 3, none⟩ = some (.slice A0_3 l0_3.length c0_3) := (blk_cell BK353.out 3).trans rfl; have hfz42_0 := blk_frozen BK353.out 0; have hfz42_1 := blk_frozen BK353.out 1; have hfz42_2 := blk_frozen BK353.out 2; have hfz42_3 := blk_frozen BK353.out 3) | ((with_reducible refine gate_callee (f := 58) rfl ?_); refine gL_ (some 6) Try.func58 #[.agg #[.slice A0_0 l0_0.length c0_0, .slice A0_1 l0_1.length c0_1, .int .i64 a0_2, .slice A0_3 l0_3.length c0_3]] ?_; (with_reducible refine (spec_l24Ok.calls k _ _ l0_0 _ _ l0_1 a0_2 _ _ l0_3 false _ ?side1 ?side2 ?side3 ?side4 ?side5 ?side6 A2.out).mono ?_); (case side1 => exact cB_ HR0_0 HB); (case side2 => exact HC0_0.out); (case side3 => exact cB_ HR0_1 HB); (case side4 => exact HC0_1.out); (case side5 => exact cB_ HR0_3 HB); (case side6 => exact HC0_3.out); rintro e w43 ⟨rfl, hb⟩; refine ⟨_, rfl, ?_⟩; replace BK353 := bB_ BK353 hb; replace BK354 := bB_ BK354 hb; replace HB := bS_ HB hb; (try clear hb); (try clear hb2); (try clear hk); (try clear hi); have hcz44_0 : w43.cell? ⟨gb354, 0, none⟩ = some (.slice none 0 0) := (blk_cell BK354.out 0).trans rfl; have hcz44_1 : w43.cell? ⟨gb354, 1, none⟩ = some (.slice none 0 0) := (blk_cell BK354.out 1).trans rfl; have hcz44_2 : w43.cell? ⟨gb354, 2, none⟩ = some (.int .i64 0) := (blk_cell BK354.out 2).trans rfl; have hcz44_3 : w43.cell? ⟨gb354, 3, none⟩ = some (.slice none 0 0) := (blk_cell BK354.out 3).trans rfl; have hfz44_0 := blk_frozen BK354.out 0; have hfz44_1 := blk_frozen BK354.out 1; have hfz44_2 := blk_frozen BK354.out 2; have hfz44_3 := blk_frozen BK354.out 3))
  refine bodyPost_ret (results_cell_row rfl _ _ gb354 31 #[.slice none 0 0, .slice none 0 0, .int .i64 0, .slice none 0 0] (0, 0) _ rfl (by (with_reducible repeat (first | refine blk_drewN ?_ _ | refine blk_drew ?_ | refine blk_alloc ?_ _)); refine blk_put (cs := #[.slice none 0 0, .slice none 0 0, .int .i64 0, .slice none 0 0]) ?_ 3 _ rfl; (with_reducible repeat (first | refine blk_drewN ?_ _ | refine blk_drew ?_ | refine blk_alloc ?_ _)); refine blk_put (cs := #[.slice none 0 0, .slice none 0 0, .int .i64 0, .slice none 0 0]) ?_ 2 _ rfl; (with_reducible repeat (first | refine blk_drewN ?_ _ | refine blk_drew ?_ | refine blk_alloc ?_ _)); refine blk_put (cs := #[.slice none 0 0, .slice none 0 0, .int .i64 0, .slice none 0 0]) ?_ 1 _ rfl; (with_reducible repeat (first | refine blk_drewN ?_ _ | refine blk_drew ?_ | refine blk_alloc ?_ _)); refine blk_put (cs := #[.slice none 0 0, .slice none 0 0, .int .i64 0, .slice none 0 0]) ?_ 0 _ rfl; exact bT_ BK354) Try.underlying31 rfl (by kernel_rfl)) rfl ?_
  exact ⟨_, _, _, by first | rfl | (simp [errW_none, errW_some] <;> rfl) | (simp [*, errW_none, errW_some] <;> rfl), by first | exact Kd.S_nil _ _ _ _ _ | exact Kd.N_nil _ _ _ _ _ | exact Kd.V_nil _ _ _ _ _ | exact Kd.Q_nil _ _ _ _ _ | exact Kd.R_nil _ _ _ _ _, by first | exact Kd.R_nil _ _ _ _ _ | exact Kd.N_nil _ _ _ _ _ | exact Kd.V_nil _ _ _ _ _ | exact Kd.Q_nil _ _ _ _ _ | exact Kd.S_nil _ _ _ _ _, by first | exact Kd.R_nil _ _ _ _ _ | exact Kd.N_nil _ _ _ _ _ | exact Kd.V_nil _ _ _ _ _ | exact Kd.Q_nil _ _ _ _ _ | exact Kd.S_nil _ _ _ _ _, sABelo_14⟩

end Go.Proofs.Ytjoghfehmhapbaa.QFnExactCrashRun
