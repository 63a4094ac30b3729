-- Written by a program of this session out of the printer's texts and contracts of its own.
import Derived.Test.YtjoghfehmhapbaaSq
import Derived.Test.YtjoghfehmhapbaaQFnReportsAnywayx0
import Derived.Test.YtjoghfehmhapbaaQFnReportsAnywayx5
import Derived.Test.YtjoghfehmhapbaaQFnReportsAnywayx11
import Derived.Test.YtjoghfehmhapbaaQFnReportsAnywayx12
namespace Go.Proofs.Ytjoghfehmhapbaa.QFnReportsAnyway
open Go.RowKit Go.Proofs.YtjoghfehmhapbaaW.PrintWords Go.Proofs.YtjoghfehmhapbaaW.PrintLast Go.Proofs.YtjoghfehmhapbaaW.PrintMore Go.Proofs.Ytjoghfehmhapbaa.Sq
attribute [local go_sem] max2_int min2_int max_two min_two max_three min_three max_four min_four   -- for this text's walks alone
set_option linter.unusedVariables false
set_option linter.unusedSimpArgs false
theorem sABelo_15 {b : Nat} {w W : World} (h : Below b w W := by repeat (first | (with_reducible first | exact Aside0.out (by assumption) | apply below_alloc | apply pw_below_drewN | apply below_drew1 | refine below_set ?_ (Aside0.out (by assumption))) | exact Aside0.out (by assumption))) : Below b w W := h

/-! ### spec_StartTasks: function 41 -/
def spec_StartTasks.l0 : Nat → List Int → Int → List (S39) → List Int → Int → List (S43) → Option ((List (S39)) × List Int × Int × (List (S43)) × List Int)
 | 0, _, _, _, _, _, _ => none
 | k + 1, x4, x6, x354000, x354001, x354002, x354003 => if x6 < (x354003.length : Int) then (if 0 ≤ x6 then (if x6 < (x354000.length : Int) then (if ((rd_T43 x354003 x6).f0) = 0 then ((spec_l24Free.f k x354000 x354001 x354002 x354003 x6).bind fun t356 => (if t356 = true then ((spec_l24Running.f k x354000 x354001 x354002 x354003 ((rd_T39 x354000 x6).f1)).bind fun t357 => (if 0 ≤ (wrap64 (((rd_T39 x354000 x6).f1) - 1)) then (if (wrap64 (((rd_T39 x354000 x6).f1) - 1)) < (x354001.length : Int) then (if t357 < (rd x354001 (wrap64 (((rd_T39 x354000 x6).f1) - 1))) then (if x4.length < 17592186044416 then (spec_StartTasks.l0 k (x4 ++ [wrap64 (x6 + 1)]) (wrap64 (x6 + 1)) x354000 x354001 x354002 (x354003.set (x6 : Int).toNat (⟨1, wrap64 (((rd_T43 x354003 x6).f1) + 1)⟩ : S43))) else (none)) else (spec_StartTasks.l0 k x4 (wrap64 (x6 + 1)) x354000 x354001 x354002 x354003)) else (none)) else (none))) else (spec_StartTasks.l0 k x4 (wrap64 (x6 + 1)) x354000 x354001 x354002 x354003))) else (spec_StartTasks.l0 k x4 (wrap64 (x6 + 1)) x354000 x354001 x354002 x354003)) else (none)) else (none)) else (some (x354000, x354001, x354002, x354003, x4))
def spec_StartTasks.f (k : Nat) (l0_0 : List (S39)) (l0_1 : List Int) (a0_2 : Int) (l0_3 : List (S43)) : Option ((List (S39)) × List Int × Int × (List (S43)) × List Int) := (some (([] : List Int) : List Int)).bind fun y339 => ((spec_l24Ok.f k l0_0 l0_1 a0_2 l0_3).bind fun t342 => (if t342 = true then ((spec_l24Copy.f k l0_0 l0_1 a0_2 l0_3).bind fun bt343 => (spec_StartTasks.l0 k y339 0 bt343.1 bt343.2.1 bt343.2.2.1 bt343.2.2.2)) else (some (([] : List (S39)), ([] : List Int), 0, ([] : List (S43)), y339))))
theorem spec_StartTasks.mono_l : ∀ k, (∀ y0 y1 y2 y3 y4 y5, LeO (spec_StartTasks.l0 k y0 y1 y2 y3 y4 y5) (spec_StartTasks.l0 (k + 1) y0 y1 y2 y3 y4 y5))
 | 0 => fun _ _ _ _ _ _ r h => by simp [spec_StartTasks.l0] at h
 | k + 1 => by
  have ih0 := spec_StartTasks.mono_l k
  ·intro y0 y1 y2 y3 y4 y5
   unfold spec_StartTasks.l0
   repeat' first
   | (with_reducible exact ih0 _ _ _ _ _ _)
   | (with_reducible exact spec_l24Copy.mono _ _ _ _ _)
   | (with_reducible exact spec_l24Free.mono _ _ _ _ _ _)
   | (with_reducible exact spec_l24Ok.mono _ _ _ _ _)
   | (with_reducible exact spec_l24Running.mono _ _ _ _ _ _)
   | (with_reducible exact LeO.refl _)
   | (with_reducible exact LeO.none _)
   | (with_reducible refine LeO.ite ?_ ?_)
   | (with_reducible refine LeO.bind ?_ (fun _ => ?_))
   | exact ih0 _ _ _ _ _ _
   | exact spec_l24Copy.mono _ _ _ _ _
   | exact spec_l24Free.mono _ _ _ _ _ _
   | exact spec_l24Ok.mono _ _ _ _ _
   | exact spec_l24Running.mono _ _ _ _ _ _
   | exact LeO.none _
   | refine LeO.ite ?_ ?_
   | refine LeO.bind ?_ (fun _ => ?_)
theorem spec_StartTasks.mono : ∀ a0 a1 a2 a3 k, LeO (spec_StartTasks.f k a0 a1 a2 a3) (spec_StartTasks.f (k + 1) a0 a1 a2 a3) := by
 intro a0 a1 a2 a3 k
 have ih0 := spec_StartTasks.mono_l k
 unfold spec_StartTasks.f
 repeat' first
   | (with_reducible exact ih0 _ _ _ _ _ _)
   | (with_reducible exact spec_l24Copy.mono _ _ _ _ _)
   | (with_reducible exact spec_l24Free.mono _ _ _ _ _ _)
   | (with_reducible exact spec_l24Ok.mono _ _ _ _ _)
   | (with_reducible exact spec_l24Running.mono _ _ _ _ _ _)
   | (with_reducible exact LeO.refl _)
   | (with_reducible exact LeO.none _)
   | (with_reducible refine LeO.ite ?_ ?_)
   | (with_reducible refine LeO.bind ?_ (fun _ => ?_))
   | exact ih0 _ _ _ _ _ _
   | exact spec_l24Copy.mono _ _ _ _ _
   | exact spec_l24Free.mono _ _ _ _ _ _
   | exact spec_l24Ok.mono _ _ _ _ _
   | exact spec_l24Running.mono _ _ _ _ _ _
   | exact LeO.none _
   | refine LeO.ite ?_ ?_
   | refine LeO.bind ?_ (fun _ => ?_)
def spec_StartTasks.T9 : Bool × List (List Nat × List Nat) := (true, [([], []), ([0], [0]), ([], []), ([1, 2], [1, 2]), ([3], [3]), ([4], [4]), ([5], [5]), ([6], [6]), ([7], [7]), ([7], [7]), ([8, 9, 7, 7], [7, 8, 9]), ([7, 10], [7, 10]), ([11, 10], [11]), ([12], [12]), ([12], [12]), ([13, 14, 12, 12], [12, 13, 14]), ([12], [12]), ([16, 12], [12, 16]), ([17, 12], [12, 17]), ([12], [12]), ([19, 12], [12, 19]), ([18, 20, 12], [12, 18, 20]), ([21, 12], [12, 21]), ([15, 22, 12], [12, 15, 22]), ([12, 23], [12, 23])])
def spec_StartTasks.B9 : List Nat := [0, 1, 0, 7, 15, 31, 63, 127, 255, 255, 1023, 2047, 4095, 8191, 8191, 32767, 8191, 73727, 204799, 8191, 532479, 2039807, 4136959, 8388607, 16777215]
theorem spec_StartTasks.tab9 : rtab .any (opsOf Try.f41 9) = spec_StartTasks.T9 := by kernel_rfl
theorem spec_StartTasks.bits9 : waitsOk spec_StartTasks.T9.2 spec_StartTasks.B9 = true := by kernel_rfl
def spec_StartTasks.T10 : Bool × List (List Nat × List Nat) := (true, [([], []), ([0], [0]), ([], []), ([], []), ([3], [3]), ([], []), ([4, 5], [4, 5]), ([6], [6]), ([7], [7]), ([8], [8]), ([9], [9]), ([1, 2, 0, 1, 2, 3, 4, 5, 6, 7, 8, 9, 10], [1, 2]), ([11, 10, 0, 1, 2, 3, 4, 5, 6, 7, 8, 9, 10], [10, 11])])
def spec_StartTasks.B10 : List Nat := [0, 1, 0, 0, 8, 0, 56, 120, 248, 504, 1016, 2047, 4095]
theorem spec_StartTasks.tab10 : rtab .any (opsOf Try.f41 10) = spec_StartTasks.T10 := by kernel_rfl
theorem spec_StartTasks.bits10 : waitsOk spec_StartTasks.T10.2 spec_StartTasks.B10 = true := by kernel_rfl
set_option maxHeartbeats 8000000 in
set_option maxRecDepth 100000 in
theorem spec_StartTasks.calls (k : Nat) (A0_0 : Option Addr) (c0_0 : Nat) (l0_0 : List (S39)) (A0_1 : Option Addr) (c0_1 : Nat) (l0_1 : List Int) (a0_2 : Int) (A0_3 : Option Addr) (c0_3 : Nat) (l0_3 : List (S43)) (r1 : List (S39)) (r2 : List Int) (r3 : Int) (r4 : List (S43)) (r5 : List Int) (w : World) (hr0_0 : Kd.C k39 w A0_0 l0_0.length l0_0) (hc0_0 : l0_0.length ≤ c0_0) (hr0_1 : Kd.C (Kd.int .i64) w A0_1 l0_1.length l0_1) (hc0_1 : l0_1.length ≤ c0_1) (hr0_3 : Kd.C k43 w A0_3 l0_3.length l0_3) (hc0_3 : l0_3.length ≤ c0_3) (h : spec_StartTasks.f k l0_0 l0_1 a0_2 l0_3 = some (r1, r2, r3, r4, r5)) :
  Calls Try.prog 41 #[.agg #[.slice A0_0 l0_0.length c0_0, .slice A0_1 l0_1.length c0_1, .int .i64 a0_2, .slice A0_3 l0_3.length c0_3]] w fun e w' => ∃ v0_ v1_ v3_ v4_ : Value, e = .returned (.tuple #[.agg #[v0_, v1_, .int .i64 r3, v3_], v4_]) ∧ Kd.S k39 39 w' w.heap.size (fun k_ => some k_ ≠ (v1_ : Value).ownBlock ∧ some k_ ≠ (v4_ : Value).ownBlock) v0_ r1 ∧ Kd.R (Kd.int .i64) 2 w' w.heap.size (fun k_ => some k_ ≠ (v4_ : Value).ownBlock) v1_ r2 ∧ Kd.R k43 43 w' w.heap.size (fun _ => True) v3_ r4 ∧ Kd.R (Kd.int .i64) 2 w' w.heap.size (fun k_ => some k_ ≠ (v1_ : Value).ownBlock) v4_ r5 ∧ Below w.heap.size w w' := by
 have hu31 := Try.underlying31; have hu43 := Try.underlying43; have HR0_0 := Aside0.mk hr0_0; have HC0_0 := Aside0.mk hc0_0; clear hr0_0 hc0_0; have HR0_1 := Aside0.mk hr0_1; have HC0_1 := Aside0.mk hc0_1; clear hr0_1 hc0_1; have HR0_3 := Aside0.mk hr0_3; have HC0_3 := Aside0.mk hc0_3; clear hr0_3 hc0_3
 have HB := Aside0.mk (Below.refl w.heap.size w)
 have H : ((some (([] : List Int) : List Int)).bind fun y339 => ((spec_l24Ok.f k l0_0 l0_1 a0_2 l0_3).bind fun t342 => (if t342 = true then ((spec_l24Copy.f k l0_0 l0_1 a0_2 l0_3).bind fun bt343 => (spec_StartTasks.l0 k y339 0 bt343.1 bt343.2.1 bt343.2.2.1 bt343.2.2.2)) else (some (([] : List (S39)), ([] : List Int), 0, ([] : List (S43)), y339))))) = some (r1, r2, r3, r4, r5) := h
 clear h
 obtain ⟨y339, hy339⟩ : ∃ y_ : List Int, y_ = (([] : List Int)) := ⟨_, rfl⟩
 replace H : ((spec_l24Ok.f k l0_0 l0_1 a0_2 l0_3).bind fun t342 => (if t342 = true then ((spec_l24Copy.f k l0_0 l0_1 a0_2 l0_3).bind fun bt343 => (spec_StartTasks.l0 k y339 0 bt343.1 bt343.2.1 bt343.2.2.1 bt343.2.2.2)) else (some (([] : List (S39)), ([] : List Int), 0, ([] : List (S43)), y339)))) = some (r1, r2, r3, r4, r5) := by first | (rw [hy339]; with_reducible exact H) | (have H2_ := (Option.bind_some _ _).symm.trans H; rw [hy339]; with_reducible exact H2_) | (have H2_ := (Option.bind_some _ _).symm.trans H; with_reducible exact H2_) | with_reducible exact H | (rw [hy339]; exact H) | exact H
 have Ny339 := Aside0.mk hy339; clear hy339; replace H := Option.bind_eq_some_iff.mp H
 obtain ⟨t342, A20, H⟩ := H
 replace H : (if t342 = true then ((spec_l24Copy.f k l0_0 l0_1 a0_2 l0_3).bind fun bt343 => (spec_StartTasks.l0 k y339 0 bt343.1 bt343.2.1 bt343.2.2.1 bt343.2.2.2)) else (some (([] : List (S39)), ([] : List Int), 0, ([] : List (S43)), y339))) = some (r1, r2, r3, r4, r5) := H
 have A2 := Aside0.mk A20; clear A20
 by_cases c3 : t342 = true
 ·subst c3
  replace H := ifT_ H; replace H := Option.bind_eq_some_iff.mp H
  obtain ⟨⟨t343, t346, t349, t350⟩, A40, H⟩ := H
  replace H : (spec_StartTasks.l0 k y339 0 t343 t346 t349 t350) = some (r1, r2, r3, r4, r5) := H
  have A4 := Aside0.mk A40; clear A40; have H' := Aside0.mk H; clear H
  go_enter Try.func41, Try.ntmps41
  go_wp2_with (first | ((with_reducible refine gate_dst (N := 1) rfl ?_); refine box_event ?hg (N := 1) ?hd (cs := #[.slice A0_0 l0_0.length c0_0, .slice A0_1 l0_1.length c0_1, .int .i64 a0_2, .slice A0_3 l0_3.length c0_3]) (t := 31) ?hr ?_; (case hd => rfl); (case hg => rfl); (case hr => first | (go_simp; done) | (go_simp; rfl)); intro gb337 hg w5 hbox hb; have BK337 := Aside0.mk (hbox); have GW337 := gE_ HB hg; have GE337 := gE_ HB hg; replace HB := bS_ HB hb; clear hb hbox hg) | ((with_reducible refine gate_dst (N := 2) rfl ?_); refine box_event ?hg (N := 2) ?hd (cs := #[.slice none 0 0, .slice none 0 0, .int .i64 0, .slice none 0 0]) (t := 31) ?hr ?_; (case hd => rfl); (case hg => rfl); (case hr => first | (go_simp; done) | (go_simp; rfl)); intro gb338 hg w6 hbox hb; have BK338 := Aside0.mk (hbox); have GW338 := gE_ HB hg; have GE338 := gE_ HB hg; replace HB := bS_ HB hb; have NB337_338 := nL_ BK337 hg; have NB338_337 := nG_ BK337 hg; replace BK337 := bB_ BK337 hb; clear hb hbox hg) | ((with_reducible refine gate_dst (N := 8) rfl ?_); refine Kd.R_lit (Kd.int .i64) _ 2 ?hg (N := 8) ?hd (xs := ([] : List Int)) (inner := []) (ok := fun _ => True) (okp := fun _ => True) ?hr ?hp (fun _ hk => hk) trivial (Below.refl _ _) (Nat.le_refl _) (by simp) ?_; (case hd => rfl); (case hg => rfl); (case hr => first | (go_simp; done) | (go_simp; rfl)); (case hp => exact (Reps.none _ _)); intro v340 w7 ho8 hb hg_ hnew_; clear hg_ hnew_; (first | rw [← Ny339.out] at ho8 | (simp only [Int.reduceToNat] at ho8; rw [← Ny339.out] at ho8)); have HO341 := rL_ ho8 HB; replace BK337 := bB_ BK337 hb; replace BK338 := bB_ BK338 hb; replace HB := bS_ HB hb; clear hb ho8; have hnb9 := NB337_338.out; have hnc9 := NB338_337.out; obtain ⟨hcz10_0, hcz10_1, hcz10_2, hcz10_3, hfz10_0, hfz10_1, hfz10_2, hfz10_3⟩ := cf4_ BK337) | ((with_reducible refine gate_callee (f := 58) rfl ?_); refine gL_ (some 10) Try.func58 #[.agg #[.slice A0_0 l0_0.length c0_0, .slice A0_1 l0_1.length c0_1, .int .i64 a0_2, .slice A0_3 l0_3.length c0_3]] ?_; (with_reducible refine (spec_l24Ok.calls k _ _ l0_0 _ _ l0_1 a0_2 _ _ l0_3 true _ ?side1 ?side2 ?side3 ?side4 ?side5 ?side6 A2.out).mono ?_); (case side1 => exact cB_ HR0_0 HB); (case side2 => exact HC0_0.out); (case side3 => exact cB_ HR0_1 HB); (case side4 => exact HC0_1.out); (case side5 => exact cB_ HR0_3 HB); (case side6 => exact HC0_3.out); rintro e w11 ⟨rfl, hb⟩; refine ⟨_, rfl, ?_⟩; replace HO341 := rB_ HO341 hb; replace BK337 := bB_ BK337 hb; replace BK338 := bB_ BK338 hb; replace HB := bS_ HB hb; (try clear hb); (try clear hk); obtain ⟨hcz12_0, hcz12_1, hcz12_2, hcz12_3, hfz12_0, hfz12_1, hfz12_2, hfz12_3⟩ := cf4_ BK337) | ((with_reducible refine gate_callee (f := 59) rfl ?_); refine gL_ (some 15) Try.func59 #[.agg #[.slice A0_0 l0_0.length c0_0, .slice A0_1 l0_1.length c0_1, .int .i64 a0_2, .slice A0_3 l0_3.length c0_3]] ?_; (with_reducible refine (spec_l24Copy.calls k _ _ l0_0 _ _ l0_1 a0_2 _ _ l0_3 t343 t346 t349 t350 _ ?side1 ?side2 ?side3 ?side4 ?side5 ?side6 A4.out).mono ?_); (case side1 => exact cB_ HR0_0 HB); (case side2 => exact HC0_0.out); (case side3 => exact cB_ HR0_1 HB); (case side4 => exact HC0_1.out); (case side5 => exact cB_ HR0_3 HB); (case side6 => exact HC0_3.out); rintro e w13 ⟨v344, v347, v351, rfl, ho0, ho1, ho2, hb⟩; refine ⟨_, rfl, ?_⟩; have HO345 := sL_ (Kd.S_new' ho0 (rLt_ HO341)) HB; have HO348 := rL_ (rN_ ho1 HO341) HB; replace HO341 := rE_ HO341 ho1 hb; have HO352 := rL_ ho2 HB; replace BK337 := bB_ BK337 hb; replace BK338 := bB_ BK338 hb; replace HB := bS_ HB hb; (try clear hb); (try clear hk); (try clear ho0); (try clear ho1); (try clear ho2)) | ((with_reducible refine gate_dst (N := 5) rfl ?_); refine box_event ?hg (N := 5) ?hd (cs := #[.slice none 0 0, .slice none 0 0, .int .i64 0, .slice none 0 0]) (t := 31) ?hr ?_; (case hd => rfl); (case hg => rfl); (case hr => first | (go_simp; done) | (go_simp; rfl)); intro gb353 hg w14 hbox hb; replace HO341 := rB_ HO341 hb; replace HO345 := sB_ HO345 hb; replace HO348 := rB_ HO348 hb; replace HO352 := rB_ HO352 hb; have BK353 := Aside0.mk (hbox); have GW353 := gE_ HB hg; have GE353 := gE_ HB hg; replace HB := bS_ HB hb; have NB337_353 := nL_ BK337 hg; have NB353_337 := nG_ BK337 hg; replace BK337 := bB_ BK337 hb; have NB338_353 := nL_ BK338 hg; have NB353_338 := nG_ BK338 hg; replace BK338 := bB_ BK338 hb; clear hb hbox hg; obtain ⟨Ao15, co15, eo15⟩ := Kd.S_slice HO345.out; subst eo15; have hnb16 := NB353_337.out; have hnc16 := NB337_353.out; have hnb17 := NB353_338.out; have hnc17 := NB338_353.out; obtain ⟨hcz18_0, hcz18_1, hcz18_2, hcz18_3, hfz18_0, hfz18_1, hfz18_2, hfz18_3⟩ := cf4_ BK353; obtain ⟨Ao19, co19, eo19⟩ := Kd.R_slice HO348.out; subst eo19; obtain ⟨Ao20, co20, eo20⟩ := Kd.R_slice HO352.out; subst eo20))
  go_loopg [4, 6] k (fun kq v4 v6 w' => ∃ (x4_1 : List Int) (x6_1 : Int) (x354003_1 : List (S43)) (u354003 : Value), v6 = .int .i64 x6_1 ∧ Aside0 (spec_StartTasks.l0 kq x4_1 x6_1 t343 t346 t349 x354003_1 = some (r1, r2, r3, r4, r5)) ∧ Aside0 (kq ≤ k) ∧ Aside0 (Kd.R (Kd.int .i64) 2 w' w.heap.size (fun k_ => some k_ ≠ ((.slice Ao19 t346.length co19) : Value).ownBlock) v4 x4_1) ∧ Aside0 (Kd.S k39 39 w' w.heap.size (fun k_ => some k_ ≠ (v4 : Value).ownBlock ∧ some k_ ≠ ((.slice Ao19 t346.length co19) : Value).ownBlock) (.slice Ao15 t343.length co15) t343) ∧ Aside0 (Kd.R (Kd.int .i64) 2 w' w.heap.size (fun k_ => some k_ ≠ (v4 : Value).ownBlock) (.slice Ao19 t346.length co19) t346) ∧ Aside0 (Kd.R k43 43 w' w.heap.size (fun _ => True) u354003 x354003_1) ∧ Aside0 (w'.heap[gb337]? = some (.cells #[(.slice A0_0 l0_0.length c0_0), (.slice A0_1 l0_1.length c0_1), .int .i64 a0_2, (.slice A0_3 l0_3.length c0_3)] 31 (0, 0))) ∧ Aside0 (w'.heap[gb338]? = some (.cells #[(.slice none 0 0), (.slice none 0 0), .int .i64 0, (.slice none 0 0)] 31 (0, 0))) ∧ Aside0 (w'.heap[gb353]? = some (.cells #[(.slice Ao15 t343.length co15), (.slice Ao19 t346.length co19), .int .i64 t349, u354003] 31 (0, 0))) ∧ Aside0 (Below w.heap.size w w'))
  case atStart => exact ⟨(y339), (0), (t350), (.slice Ao20 t350.length co20), (by first | rfl | (simp; done) | (simp [*]; done)), H', ⟨Nat.le_refl _⟩, ⟨rFM_ HO341 BK353⟩, ⟨sFM_ HO345 BK353⟩, ⟨rFM_ HO348 BK353⟩, ⟨rFM_ HO352 BK353⟩, ⟨bF_ BK337 NB337_353⟩, ⟨bF_ BK338 NB338_353⟩, ⟨bP_ BK353⟩, ⟨sABelo_15⟩⟩
  case round =>
   clear H'; (try clear c3); (try clear hcz10_0); (try clear hcz10_1); (try clear hcz10_2); (try clear hcz10_3); (try clear hcz12_0); (try clear hcz12_1); (try clear hcz12_2); (try clear hcz12_3); (try clear hcz18_0); (try clear hcz18_1); (try clear hcz18_2); (try clear hcz18_3); (try clear hfz10_0); (try clear hfz10_1); (try clear hfz10_2); (try clear hfz10_3); (try clear hfz12_0); (try clear hfz12_1); (try clear hfz12_2); (try clear hfz12_3); (try clear hfz18_0); (try clear hfz18_1); (try clear hfz18_2); (try clear hfz18_3)
   obtain ⟨x4_1, x6_1, x354003_1, u354003, rfl, HA, HK1, HO_4, HO_354000, HO_354001, HO_354003, BK337, BK338, BK353, HB⟩ := hrel
   cases gk with
   | zero => exact absurd HA.out (by simp [spec_StartTasks.l0])
   | succ k1 =>
    have H := HA.out; clear HA
    simp only [spec_StartTasks.l0] at H
    by_cases c21 : x6_1 < (x354003_1.length : Int)
    ·rw [if_pos c21] at H
     have c21b0 := decide_eq_true c21
     clear c21
     obtain ⟨c22, H⟩ := ifS_ H
     have c22b0 : decide (0 ≤ x6_1) = true := decide_eq_true c22
     clear c22
     obtain ⟨c23, H⟩ := ifS_ H
     have c23b0 : decide (x6_1 < (t343.length : Int)) = true := decide_eq_true c23
     clear c23
     by_cases c24 : ((rd_T43 x354003_1 x6_1).f0) = 0
     ·rw [if_pos c24] at H
      have c24b0 := beq_iff_eq.mpr c24
      have c24b1 := bne_eq_false_iff_eq.mpr c24
      clear c24; replace H := Option.bind_eq_some_iff.mp H
      obtain ⟨t356, A250, H⟩ := H
      replace H : (if t356 = true then ((spec_l24Running.f k1 t343 t346 t349 x354003_1 ((rd_T39 t343 x6_1).f1)).bind fun t357 => (if 0 ≤ (wrap64 (((rd_T39 t343 x6_1).f1) - 1)) then (if (wrap64 (((rd_T39 t343 x6_1).f1) - 1)) < (t346.length : Int) then (if t357 < (rd t346 (wrap64 (((rd_T39 t343 x6_1).f1) - 1))) then (if x4_1.length < 17592186044416 then (spec_StartTasks.l0 k1 (x4_1 ++ [wrap64 (x6_1 + 1)]) (wrap64 (x6_1 + 1)) t343 t346 t349 (x354003_1.set (x6_1 : Int).toNat (⟨1, wrap64 (((rd_T43 x354003_1 x6_1).f1) + 1)⟩ : S43))) else (none)) else (spec_StartTasks.l0 k1 x4_1 (wrap64 (x6_1 + 1)) t343 t346 t349 x354003_1)) else (none)) else (none))) else (spec_StartTasks.l0 k1 x4_1 (wrap64 (x6_1 + 1)) t343 t346 t349 x354003_1)) = some (r1, r2, r3, r4, r5) := H
      have A25 := Aside0.mk A250; clear A250
      by_cases c26 : t356 = true
      ·subst c26
       replace H := ifT_ H; replace H := Option.bind_eq_some_iff.mp H
       obtain ⟨t357, A270, H⟩ := H
       replace H : (if 0 ≤ (wrap64 (((rd_T39 t343 x6_1).f1) - 1)) then (if (wrap64 (((rd_T39 t343 x6_1).f1) - 1)) < (t346.length : Int) then (if t357 < (rd t346 (wrap64 (((rd_T39 t343 x6_1).f1) - 1))) then (if x4_1.length < 17592186044416 then (spec_StartTasks.l0 k1 (x4_1 ++ [wrap64 (x6_1 + 1)]) (wrap64 (x6_1 + 1)) t343 t346 t349 (x354003_1.set (x6_1 : Int).toNat (⟨1, wrap64 (((rd_T43 x354003_1 x6_1).f1) + 1)⟩ : S43))) else (none)) else (spec_StartTasks.l0 k1 x4_1 (wrap64 (x6_1 + 1)) t343 t346 t349 x354003_1)) else (none)) else (none)) = some (r1, r2, r3, r4, r5) := H
       have A27 := Aside0.mk A270; clear A270
       obtain ⟨ji28, hji28⟩ : ∃ j_ : Int, (wrap64 (((rd_T39 t343 x6_1).f1) - 1)) = j_ := ⟨_, rfl⟩
       replace H : (if 0 ≤ (ji28) then (if (ji28) < (t346.length : Int) then (if t357 < (rd t346 (ji28)) then (if x4_1.length < 17592186044416 then (spec_StartTasks.l0 k1 (x4_1 ++ [wrap64 (x6_1 + 1)]) (wrap64 (x6_1 + 1)) t343 t346 t349 (x354003_1.set (x6_1 : Int).toNat (⟨1, wrap64 (((rd_T43 x354003_1 x6_1).f1) + 1)⟩ : S43))) else (none)) else (spec_StartTasks.l0 k1 x4_1 (wrap64 (x6_1 + 1)) t343 t346 t349 x354003_1)) else (none)) else (none)) = some (r1, r2, r3, r4, r5) := by first | (rw [hji28] at H; exact H) | (simp only [hji28] at H ⊢; exact H)
       (try rw [hji28] at A25)
       (try rw [hji28] at A27)
       have hji28w : (IntKind.i64.wrap (((rd_T39 t343 x6_1).f1) - 1)) = ji28 := (i64_w _).trans hji28
       obtain ⟨c29, H⟩ := ifS_ H
       have c29b0 : decide (0 ≤ (ji28)) = true := decide_eq_true c29
       clear c29
       obtain ⟨c30, H⟩ := ifS_ H
       have c30b0 : decide ((ji28) < (t346.length : Int)) = true := decide_eq_true c30
       clear c30
       by_cases c31 : t357 < (rd t346 (ji28))
       ·rw [if_pos c31] at H
        have c31b0 := decide_eq_true c31
        clear c31
        obtain ⟨y360, hy360⟩ : ∃ y_ : List (S43), y_ = (x354003_1.set (x6_1 : Int).toNat (⟨1, wrap64 (((rd_T43 x354003_1 x6_1).f1) + 1)⟩ : S43)) := ⟨_, rfl⟩
        replace H : (if x4_1.length < 17592186044416 then (spec_StartTasks.l0 k1 (x4_1 ++ [wrap64 (x6_1 + 1)]) (wrap64 (x6_1 + 1)) t343 t346 t349 y360) else (none)) = some (r1, r2, r3, r4, r5) := by first | (rw [hy360]; with_reducible exact H) | (have H2_ := (Option.bind_some _ _).symm.trans H; rw [hy360]; with_reducible exact H2_) | (have H2_ := (Option.bind_some _ _).symm.trans H; with_reducible exact H2_) | with_reducible exact H | (rw [hy360]; exact H) | exact H
        have Ny360 := Aside0.mk hy360; clear hy360
        obtain ⟨c33, H⟩ := ifS_ H
        have LMc33 := Aside0.mk c33; clear c33
        obtain ⟨y361, hy361⟩ : ∃ y_ : List Int, y_ = (x4_1 ++ [wrap64 (x6_1 + 1)]) := ⟨_, rfl⟩
        replace H : (spec_StartTasks.l0 k1 y361 (wrap64 (x6_1 + 1)) t343 t346 t349 y360) = some (r1, r2, r3, r4, r5) := by first | (rw [hy361]; with_reducible exact H) | (have H2_ := (Option.bind_some _ _).symm.trans H; rw [hy361]; with_reducible exact H2_) | (have H2_ := (Option.bind_some _ _).symm.trans H; with_reducible exact H2_) | with_reducible exact H | (rw [hy361]; exact H) | exact H
        have Ny361 := Aside0.mk hy361; clear hy361; have H' := Aside0.mk H; clear H; have hnb34 := NB353_337.out; have hnc34 := NB337_353.out; have hnb35 := NB353_338.out; have hnc35 := NB338_353.out
        obtain ⟨hcz36_0, hcz36_1, hcz36_2, hcz36_3, hfz36_0, hfz36_1, hfz36_2, hfz36_3⟩ := cf4_ BK353
        obtain ⟨Ao37, co37, eo37⟩ := Kd.R_slice HO_354003.out
        subst eo37
        have p354 : 0 ≤ (x6_1 : Int) := dA_
        have q354 : x6_1 < (t343.length : Int) := dA_
        obtain ⟨ad354, A354_0, c354_0, e354, hx354_0, hx354_1, hx354_2, hx354_3, hl354_0, hi354_0⟩ := at_T39 (Kd.S_reads' HO_354000.out).2.2 x6_1 p354 q354
        cases e354
        obtain ⟨ce354, hce354, hMe354, hcc354⟩ := Kd.S_get HO_354000.out z39 x6_1 p354 (by first | exact q354 | exact of_decide_eq_true (by first | (with_reducible assumption) | assumption) | (have e_ := (Kd.S_reads' HO_354000.out).1; omega))
        obtain ⟨ve354_0, rfl, ge354_0⟩ := k39_openM hMe354
        have hv354_0 := hcc354 0 _ rfl
        rw [Nat.add_zero] at hv354_0
        replace hv354_0 := Option.some.inj (hv354_0.symm.trans hx354_0)
        rw [hv354_0] at ge354_0
        have HL354_0 := Aside0.mk (show Kd.R (Kd.int .i64) 2 _ _ _ _ ((rd_T39 t343 x6_1).f0) from ge354_0)
        clear hv354_0 ge354_0 hcc354 hce354; have HR354_0 := Aside0.mk hi354_0; have HC354_0 := Aside0.mk hl354_0; clear hi354_0 hl354_0; replace p354 := eq_true p354; replace q354 := eq_true q354
        try go_wp2
        replace HO_4 := Aside0.mk (Kd.R_drew HO_4.out)
        replace HO_354000 := Aside0.mk (Kd.S_drew HO_354000.out)
        replace HO_354001 := Aside0.mk (Kd.R_drew HO_354001.out)
        replace HO_354003 := Aside0.mk (Kd.R_drew HO_354003.out)
        replace HL354_0 := Aside0.mk (Kd.R_drew HL354_0.out)
        replace BK337 := Aside0.mk (blk_drew BK337.out)
        replace BK338 := Aside0.mk (blk_drew BK338.out)
        replace BK353 := Aside0.mk (blk_drew BK353.out)
        replace HR354_0 := Aside0.mk (Kd.C_drew HR354_0.out)
        replace HB := Aside0.mk (below_drew1 HB.out)
        have p355 : 0 ≤ (x6_1 : Int) := dA_
        have q355 : x6_1 < (x354003_1.length : Int) := dA_
        obtain ⟨ad355, e355, hx355_0, hx355_1⟩ := at_T43 (Kd.R_reads' HO_354003.out).2.2 x6_1 p355 q355
        cases e355
        replace p355 := eq_true p355; replace q355 := eq_true q355
        have p358 : 0 ≤ ((ji28) : Int) := dA_
        have q358 : (ji28) < (t346.length : Int) := dA_
        obtain ⟨ad358, e358, hx358_0⟩ := Kd.at_int (Kd.R_reads' HO_354001.out).2.2 (ji28) p358 q358
        cases e358
        replace p358 := eq_true p358; replace q358 := eq_true q358
        refine start_ (n := 25) (S := fun w' => w'.cell? ⟨gb353, 0, none⟩ = some (.slice (some ad354) t343.length co15) ∧ w'.cell? ⟨gb353, 1, none⟩ = some (.slice (some ad358) t346.length co19) ∧ w'.cell? ⟨gb353, 2, none⟩ = some (.int .i64 t349) ∧ w'.cell? ⟨gb353, 3, none⟩ = some (.slice (some ad355) x354003_1.length co37) ∧ w'.cell? (ad355.add ((x6_1).toNat * 2)) = some (.int .i64 ((rd_T43 x354003_1 x6_1).f0)) ∧ w'.cell? ⟨(ad355.add ((x6_1).toNat * 2)).block, (ad355.add ((x6_1).toNat * 2)).off + 1, none⟩ = some (.int .i64 ((rd_T43 x354003_1 x6_1).f1)) ∧ w'.cell? (ad358.add ((ji28)).toNat) = some (.int .i64 (rd t346 (ji28)))) (ds := []) #[false, false, false, false, false, false, false, false, false, false, false, false, false, false, false, false, false, false, false, false, false, false, false, false, false] (by kernel_rfl) rfl rfl ⟨(blk_cell BK353.out 0).trans rfl, (blk_cell BK353.out 1).trans rfl, (blk_cell BK353.out 2).trans rfl, (blk_cell BK353.out 3).trans rfl, hx355_0, hx355_1, hx358_0⟩ (fun hHeld => ?_); refine with_tabW spec_StartTasks.tab9 spec_StartTasks.bits9 (fun HT_ HW_ => ?_)
        generalize wr.drew = w38 at HO_4 HO_354000 HO_354001 HO_354003 HL354_0 BK337 BK338 BK353 HR354_0 HB hx355_0 hx355_1 hx358_0 hHeld ⊢
        refine pT_ 0 (some 30) #[true, false, false, false, false, false, false, false, false, false, false, false, false, false, false, false, false, false, false, false, false, false, false, false, false] HT_ ?_
        refine pT_ 2 (some 32) #[true, false, true, false, false, false, false, false, false, false, false, false, false, false, false, false, false, false, false, false, false, false, false, false, false] HT_ ?_
        refine tT_ 1 (some 31) #[true, true, true, false, false, false, false, false, false, false, false, false, false, false, false, false, false, false, false, false, false, false, false, false, false] HT_ HW_ hHeld ?_ (hy := by rintro w' ⟨s0, s1, s2, s3, s4, s5, s6⟩; go_simp; with_reducible rfl)
        refine pT_ 3 (some 33) #[true, true, true, true, false, false, false, false, false, false, false, false, false, false, false, false, false, false, false, false, false, false, false, false, false] HT_ ?_
        refine pT_ 4 (some 34) #[true, true, true, true, true, false, false, false, false, false, false, false, false, false, false, false, false, false, false, false, false, false, false, false, false] HT_ ?_
        refine tT_ 5 (some 35) #[true, true, true, true, true, true, false, false, false, false, false, false, false, false, false, false, false, false, false, false, false, false, false, false, false] HT_ HW_ hHeld ?_ (hy := by rintro w' ⟨s0, s1, s2, s3, s4, s5, s6⟩; go_simp; with_reducible rfl)
        refine pT_ 6 (some 36) #[true, true, true, true, true, true, true, false, false, false, false, false, false, false, false, false, false, false, false, false, false, false, false, false, false] HT_ ?_
        refine pT_ 7 (some 37) #[true, true, true, true, true, true, true, true, false, false, false, false, false, false, false, false, false, false, false, false, false, false, false, false, false] HT_ ?_
        refine pT_ 9 (some 39) #[true, true, true, true, true, true, true, true, false, true, false, false, false, false, false, false, false, false, false, false, false, false, false, false, false] HT_ ?_
        refine tT_ 8 (some 38) #[true, true, true, true, true, true, true, true, true, true, false, false, false, false, false, false, false, false, false, false, false, false, false, false, false] HT_ HW_ hHeld ?_ (hy := by rintro w' ⟨s0, s1, s2, s3, s4, s5, s6⟩; go_simp; with_reducible rfl)
        refine one_ (i := 10) (N := some 40) #[true, true, true, true, true, true, true, true, true, true, true, false, false, false, false, false, false, false, false, false, false, false, false, false, false] rfl rfl (one_of HT_.out (by kernel_rfl)) (by decide) (fun K hK => ?_)
        refine goes_ Try.func74 (by kernel_rfl) rfl #[.agg #[.slice (some ad354) t343.length co15, .slice (some ad358) t346.length co19, .int .i64 t349, .slice (some ad355) x354003_1.length co37], .int .i64 x6_1] (by rfl) rfl rfl (by (try simp only [List.map_toArray, List.map_cons, List.map_nil]); first | done | rfl | (simp only [List.length_drop, List.length_take]; rfl)) ?_
        with_reducible refine (spec_l24Free.calls k1 _ _ t343 _ _ t346 t349 _ _ x354003_1 x6_1 true _ ?side1 ?side2 ?side3 ?side4 ?side5 ?side6 A25.out).mono ?_
        (case side1 => exact sD_ HO_354000)
        (case side2 => exact (Kd.S_reads' HO_354000.out).2.1)
        (case side3 => exact rD_ HO_354001)
        (case side4 => exact (Kd.R_reads' HO_354001.out).2.1)
        (case side5 => exact rD_ HO_354003)
        (case side6 => exact (Kd.R_reads' HO_354003.out).2.1)
        rintro e w39 ⟨rfl, hb⟩
        have HS4_ := (hb.cell (World.block_lt_of_cell? _ _ (hHeld.2.2.2.2.1))).trans (hHeld.2.2.2.2.1)
        have HS5_ := (hb.cell (World.block_lt_of_cell? _ _ (hHeld.2.2.2.2.2.1))).trans (hHeld.2.2.2.2.2.1)
        have HS6_ := (hb.cell (World.block_lt_of_cell? _ _ (hHeld.2.2.2.2.2.2))).trans (hHeld.2.2.2.2.2.2)
        refine ⟨_, rfl, ?_⟩
        replace HO_4 := rB_ HO_4 hb; replace HO_354000 := sB_ HO_354000 hb; replace HO_354001 := rB_ HO_354001 hb; replace HO_354003 := rB_ HO_354003 hb; replace HL354_0 := rB_ HL354_0 hb; replace BK337 := bB_ BK337 hb; replace BK338 := bB_ BK338 hb; replace BK353 := bB_ BK353 hb
        replace HR354_0 := Aside0.mk (Kd.C_below (by repeat (first | (with_reducible exact HR354_0.out) | (with_reducible refine Kd.C_alloc ?_ _) | (with_reducible refine Kd.C_drewN ?_ _) | (with_reducible refine Kd.C_drew ?_) | exact HR354_0.out)) hb)
        replace HB := bS_ HB hb; (try clear hb); (try clear hk)
        refine hK.out _ _ ⟨(blk_cell BK353.out 0).trans rfl, (blk_cell BK353.out 1).trans rfl, (blk_cell BK353.out 2).trans rfl, (blk_cell BK353.out 3).trans rfl, HS4_, HS5_, HS6_⟩ (fun hHeld => ?_)
        clear hK K
        refine nS_ (some 40) ?_
        refine pT_ 11 (some 41) #[true, true, true, true, true, true, true, true, true, true, true, true, false, false, false, false, false, false, false, false, false, false, false, false, false] HT_ ?_
        refine pT_ 12 (some 42) #[true, true, true, true, true, true, true, true, true, true, true, true, true, false, false, false, false, false, false, false, false, false, false, false, false] HT_ ?_
        refine pT_ 14 (some 44) #[true, true, true, true, true, true, true, true, true, true, true, true, true, false, true, false, false, false, false, false, false, false, false, false, false] HT_ ?_
        refine pT_ 16 (some 46) #[true, true, true, true, true, true, true, true, true, true, true, true, true, false, true, false, true, false, false, false, false, false, false, false, false] HT_ ?_
        refine pT_ 17 (some 47) #[true, true, true, true, true, true, true, true, true, true, true, true, true, false, true, false, true, true, false, false, false, false, false, false, false] HT_ ?_
        refine pT_ 19 (some 49) #[true, true, true, true, true, true, true, true, true, true, true, true, true, false, true, false, true, true, false, true, false, false, false, false, false] HT_ ?_
        refine pT_ 20 (some 50) #[true, true, true, true, true, true, true, true, true, true, true, true, true, false, true, false, true, true, false, true, true, false, false, false, false] HT_ ?_
        refine tT_ 13 (some 43) #[true, true, true, true, true, true, true, true, true, true, true, true, true, true, true, false, true, true, false, true, true, false, false, false, false] HT_ HW_ hHeld ?_ (hy := by rintro w' ⟨s0, s1, s2, s3, s4, s5, s6⟩; go_simp; with_reducible rfl)
        refine tT_ 18 (some 48) #[true, true, true, true, true, true, true, true, true, true, true, true, true, true, true, false, true, true, true, true, true, false, false, false, false] HT_ HW_ hHeld ?_ (hy := by rintro w' ⟨s0, s1, s2, s3, s4, s5, s6⟩; go_simp; with_reducible rfl)
        refine pT_ 21 (some 51) #[true, true, true, true, true, true, true, true, true, true, true, true, true, true, true, false, true, true, true, true, true, true, false, false, false] HT_ ?_
        refine tT_ 22 (some 52) #[true, true, true, true, true, true, true, true, true, true, true, true, true, true, true, false, true, true, true, true, true, true, true, false, false] HT_ HW_ hHeld ?_ (hy := by rintro w' ⟨s0, s1, s2, s3, s4, s5, s6⟩; go_simp; with_reducible rfl)
        refine one_ (i := 15) (N := some 45) #[true, true, true, true, true, true, true, true, true, true, true, true, true, true, true, true, true, true, true, true, true, true, true, false, false] rfl rfl (one_of HT_.out (by kernel_rfl)) (by decide) (fun K hK => ?_)
        refine goes_ Try.func75 (by kernel_rfl) rfl #[.agg #[.slice (some ad354) t343.length co15, .slice (some ad358) t346.length co19, .int .i64 t349, .slice (some ad355) x354003_1.length co37], .int .i64 ((rd_T39 t343 x6_1).f1)] (by rfl) rfl rfl (by (try simp only [List.map_toArray, List.map_cons, List.map_nil]); first | done | rfl | (simp only [List.length_drop, List.length_take]; rfl)) ?_
        with_reducible refine (spec_l24Running.calls k1 _ _ t343 _ _ t346 t349 _ _ x354003_1 ((rd_T39 t343 x6_1).f1) t357 _ ?side1 ?side2 ?side3 ?side4 ?side5 ?side6 A27.out).mono ?_
        (case side1 => exact sD_ HO_354000)
        (case side2 => exact (Kd.S_reads' HO_354000.out).2.1)
        (case side3 => exact rD_ HO_354001)
        (case side4 => exact (Kd.R_reads' HO_354001.out).2.1)
        (case side5 => exact rD_ HO_354003)
        (case side6 => exact (Kd.R_reads' HO_354003.out).2.1)
        rintro e w40 ⟨rfl, hb⟩
        have HS4_ := (hb.cell (World.block_lt_of_cell? _ _ (hHeld.2.2.2.2.1))).trans (hHeld.2.2.2.2.1)
        have HS5_ := (hb.cell (World.block_lt_of_cell? _ _ (hHeld.2.2.2.2.2.1))).trans (hHeld.2.2.2.2.2.1)
        have HS6_ := (hb.cell (World.block_lt_of_cell? _ _ (hHeld.2.2.2.2.2.2))).trans (hHeld.2.2.2.2.2.2)
        refine ⟨_, rfl, ?_⟩
        replace HO_4 := rB_ HO_4 hb; replace HO_354000 := sB_ HO_354000 hb; replace HO_354001 := rB_ HO_354001 hb; replace HO_354003 := rB_ HO_354003 hb; replace HL354_0 := rB_ HL354_0 hb; replace BK337 := bB_ BK337 hb; replace BK338 := bB_ BK338 hb; replace BK353 := bB_ BK353 hb
        replace HR354_0 := Aside0.mk (Kd.C_below (by repeat (first | (with_reducible exact HR354_0.out) | (with_reducible refine Kd.C_alloc ?_ _) | (with_reducible refine Kd.C_drewN ?_ _) | (with_reducible refine Kd.C_drew ?_) | exact HR354_0.out)) hb)
        replace HB := bS_ HB hb; (try clear hb); (try clear hk)
        refine hK.out _ _ ⟨(blk_cell BK353.out 0).trans rfl, (blk_cell BK353.out 1).trans rfl, (blk_cell BK353.out 2).trans rfl, (blk_cell BK353.out 3).trans rfl, HS4_, HS5_, HS6_⟩ (fun hHeld => ?_)
        clear hK K
        refine nS_ (some 45) ?_
        refine pT_ 23 (some 53) #[true, true, true, true, true, true, true, true, true, true, true, true, true, true, true, true, true, true, true, true, true, true, true, true, false] HT_ ?_
        refine pT_ 24 (some 54) #[true, true, true, true, true, true, true, true, true, true, true, true, true, true, true, true, true, true, true, true, true, true, true, true, true] HT_ ?_
        refine done_ (done_of HT_.out (by kernel_rfl)) ?_
        try go_wp2
        replace HO_4 := Aside0.mk (Kd.R_drew HO_4.out)
        replace HO_354000 := Aside0.mk (Kd.S_drew HO_354000.out)
        replace HO_354001 := Aside0.mk (Kd.R_drew HO_354001.out)
        replace HO_354003 := Aside0.mk (Kd.R_drew HO_354003.out)
        replace HL354_0 := Aside0.mk (Kd.R_drew HL354_0.out)
        replace BK337 := Aside0.mk (blk_drew BK337.out)
        replace BK338 := Aside0.mk (blk_drew BK338.out)
        replace BK353 := Aside0.mk (blk_drew BK353.out)
        replace HR354_0 := Aside0.mk (Kd.C_drew HR354_0.out)
        replace HB := Aside0.mk (below_drew1 HB.out)
        have p359 : 0 ≤ (x6_1 : Int) := dA_
        have q359 : x6_1 < (x354003_1.length : Int) := dA_
        obtain ⟨ad359, e359, hx359_0, hx359_1⟩ := at_T43 (Kd.R_reads' HO_354003.out).2.2 x6_1 p359 q359
        obtain rfl : ad355 = ad359 := (by injection e359)
        replace p359 := eq_true p359; replace q359 := eq_true q359
        have p32 : 0 ≤ (x6_1 : Int) := dA_
        have q32 : (x6_1 : Int) < ((x354003_1.length : Int) : Int) := dA_
        obtain ⟨go32, co32, eo32, gb32, gl32, cl32, HG32⟩ := Kd.R_form HO_354003.out (by omega)
        (first | cases eo32 | (injection eo32 with ea_ en_ ec_; (first | subst ea_ | (injection ea_ with ea_; subst ea_)); subst ec_; clear en_))
        have GB32 := Aside0.mk gb32; have GG32 := Aside0.mk HG32; clear gb32 gl32 HG32
        (first | simp only [add_plain] at hx355_0 | skip)
        (first | simp only [add_plain] at hx355_1 | skip)
        (first | simp only [add_plain] at hx359_0 | skip)
        (first | simp only [add_plain] at hx359_1 | skip)
        obtain ⟨ce32, hcl32, hM32, hcc32, hfr32⟩ := Kd.R_elem HO_354003.out z43 (x6_1 : Int) p32 q32
        obtain rfl := k43_openM hM32
        have hx32_0 : World.cell? _ ⟨go32, (x6_1 : Int).toNat * 2, none⟩ = some (.int .i64 ((rd_T43 x354003_1 x6_1).f0)) := hcc32 0 _ rfl
        have hx32_1 : World.cell? _ ⟨go32, (x6_1 : Int).toNat * 2 + 1, none⟩ = some (.int .i64 ((rd_T43 x354003_1 x6_1).f1)) := hcc32 1 _ rfl
        have hf32_0 : World.frozen? _ ⟨go32, (x6_1 : Int).toNat * 2, none⟩ = false := hfr32 0
        have hf32_1 : World.frozen? _ ⟨go32, (x6_1 : Int).toNat * 2 + 1, none⟩ = false := hfr32 1
        clear hcl32 hcc32 hfr32 hM32; replace p32 := eq_true p32; replace q32 := eq_true q32
        obtain ⟨ce42, hcl42, hM42, hcc42, hfr42⟩ := Kd.R_elem HO_354003.out z43 (x6_1 : Int) dA_ (by have h_ : (x6_1 : Int) < ((x354003_1.length : Int) : Int) := dA_; first | exact h_ | (have e_ := (Kd.R_reads' HO_354003.out).1; omega) | simpa using h_)
        obtain rfl := k43_openM hM42
        have HP42 := (Kd.R_seg HO_354003.out (x6_1 : Int) dA_ (by have h_ : (x6_1 : Int) < ((x354003_1.length : Int) : Int) := dA_; first | exact h_ | (have e_ := (Kd.R_reads' HO_354003.out).1; omega) | simpa using h_) (seg := [.int .i64 1, .int .i64 (wrap64 (((rd_T43 x354003_1 x6_1).f1) + 1))]) (j := 0) hcl42 hcc42 (show 2 ≤ 2 from by decide) (x' := (⟨1, wrap64 (((rd_T43 x354003_1 x6_1).f1) + 1)⟩ : S43)) (k43_mkM _ _ _ (⟨1, wrap64 (((rd_T43 x354003_1 x6_1).f1) + 1)⟩ : S43) ) (fun _ hk => hk)).1
        rw [← Ny360.out] at HP42
        have HQ42 := Aside0.mk HP42; clear hcl42 hcc42 hfr42 hM42 HP42
        refine start_ (n := 13) (S := fun w' => w'.cell? ⟨gb353, 0, none⟩ = some (.slice (some ad354) t343.length co15) ∧ w'.cell? ⟨gb353, 1, none⟩ = some (.slice (some ad358) t346.length co19) ∧ w'.cell? ⟨gb353, 2, none⟩ = some (.int .i64 t349) ∧ w'.cell? ⟨gb353, 3, none⟩ = some (.slice (some ⟨go32, 0, none⟩) x354003_1.length co37) ∧ w'.cell? ⟨go32, ((x6_1).toNat * 2), none⟩ = some (.int .i64 ((rd_T43 x354003_1 x6_1).f0)) ∧ w'.cell? ⟨go32, ((x6_1).toNat * 2) + 1, none⟩ = some (.int .i64 ((rd_T43 x354003_1 x6_1).f1))) (ds := [12]) #[false, false, false, false, false, false, false, false, false, false, false, false, false] (by kernel_rfl) rfl rfl ⟨(blk_cell BK353.out 0).trans rfl, (blk_cell BK353.out 1).trans rfl, (blk_cell BK353.out 2).trans rfl, (blk_cell BK353.out 3).trans rfl, hx359_0, hx359_1⟩ (fun hHeld => ?_); refine with_tabW spec_StartTasks.tab10 spec_StartTasks.bits10 (fun HT_ HW_ => ?_)
        generalize w40.drew = w41 at HO_4 HO_354000 HO_354001 HO_354003 HL354_0 BK337 BK338 BK353 HR354_0 HB GG32 HQ42 hf32_0 hf32_1 hx32_0 hx32_1 hx355_0 hx355_1 hx359_0 hx359_1 hHeld ⊢
        refine pT_ 0 (some 55) #[true, false, false, false, false, false, false, false, false, false, false, false, false] HT_ ?_
        refine pT_ 2 (some 57) #[true, false, true, false, false, false, false, false, false, false, false, false, false] HT_ ?_
        refine pT_ 3 (some 58) #[true, false, true, true, false, false, false, false, false, false, false, false, false] HT_ ?_
        refine pT_ 5 (some 60) #[true, false, true, true, false, true, false, false, false, false, false, false, false] HT_ ?_
        refine tT_ 1 (some 56) #[true, true, true, true, false, true, false, false, false, false, false, false, false] HT_ HW_ hHeld ?_ (hy := by rintro w' ⟨s0, s1, s2, s3, s4, s5⟩; go_simp; with_reducible rfl)
        refine tT_ 4 (some 59) #[true, true, true, true, true, true, false, false, false, false, false, false, false] HT_ HW_ hHeld ?_ (hy := by rintro w' ⟨s0, s1, s2, s3, s4, s5⟩; go_simp; with_reducible rfl)
        refine pT_ 6 (some 61) #[true, true, true, true, true, true, true, false, false, false, false, false, false] HT_ ?_
        refine pT_ 7 (some 62) #[true, true, true, true, true, true, true, true, false, false, false, false, false] HT_ ?_
        refine tT_ 8 (some 63) #[true, true, true, true, true, true, true, true, true, false, false, false, false] HT_ HW_ hHeld ?_ (hy := by rintro w' ⟨s0, s1, s2, s3, s4, s5⟩; go_simp; with_reducible rfl)
        refine pT_ 9 (some 64) #[true, true, true, true, true, true, true, true, true, true, false, false, false] HT_ ?_
        refine pT_ 10 (some 65) #[true, true, true, true, true, true, true, true, true, true, true, false, false] HT_ ?_
        refine pT_ 11 (some 66) #[true, true, true, true, true, true, true, true, true, true, true, true, false] HT_ ?_
        refine last_ (i := 12) (N := none) #[true, true, true, true, true, true, true, true, true, true, true, true, true] rfl rfl (one_of HT_.out (by kernel_rfl)) (by decide) (fun K hK => ?_)
        refine skip_ (w1 := ?_) (by rfl) rfl ?_ ?_
        rotate_left
        ·go_simp
         rfl
        refine hK.out _ _ ?_
        clear hK K
        refine done_ (done_of HT_.out (by kernel_rfl)) ?_
        try go_wp2_with (first | ((with_reducible refine gate_builtin (b := .append) (xs := #[.tmp 67, .tmp 70]) rfl ?_); at_builtin; refine Kd.R_append (Kd.int .i64) (w0 := w) w.heap.size rfl (.tmp 67) (.tmp 70) 25 2 (.int .i64 0) 8 rfl Try.underlying25 info2 rfl (by decide) (by omega) u4 x4_1 (wrap64 (x6_1 + 1)) [.int .i64 (wrap64 (x6_1 + 1))] (fun k_ => some k_ ≠ (.slice (some ad358) t346.length co19 : Value).ownBlock) (fun _ => False) rfl (by first | (go_simp; done) | (go_simp; rfl)) ?aP (fun _ hk => hk.elim) ?aF ?aO ?aB ?aS ?aL ?_; (case aP => exact rfl); (case aB => exact sABelo_15); (case aF => exact (fun k_ hk => Kd.fresh' (Kd.R_lt (by (with_reducible repeat (first | apply Kd.R_alloc | apply Kd.R_drewN | apply Kd.R_drew)); exact (Kd.R_mono (Kd.R_far (p := ⟨go32, (x6_1 : Int).toNat * 2 + 1, none⟩) (Kd.R_far (p := ⟨go32, (x6_1 : Int).toNat * 2, none⟩) (Kd.R_types HO_354001.out GG32.out (by decide)) (fun _ hk => hk.2) (.int .i64 1)) (fun _ hk => hk.2) (.int .i64 (wrap64 (((rd_T43 x354003_1 x6_1).f1) + 1)))) (fun _ h_ => h_.1)))) k_ hk)); (case aO => exact (by (with_reducible repeat (first | apply Kd.R_alloc | apply Kd.R_drewN | apply Kd.R_drew)); exact Kd.R_mono (Kd.R_far (p := ⟨go32, (x6_1 : Int).toNat * 2 + 1, none⟩) (Kd.R_far (p := ⟨go32, (x6_1 : Int).toNat * 2, none⟩) (Kd.R_types HO_4.out GG32.out (by decide)) (fun _ hk => hk.2) (.int .i64 1)) (fun _ hk => hk.2) (.int .i64 (wrap64 (((rd_T43 x354003_1 x6_1).f1) + 1)))) (fun _ hk => hk.1))); (case aS => exact (below_size sABelo_15)); (case aL => have := LMc33.out; omega); intro v362 w43 ho hb hg hat; rw [← Ny361.out] at ho; replace HO_354000 := Aside0.mk (Kd.S_after (ok := (fun k_ => some k_ ≠ (.slice (some ad358) t346.length co19 : Value).ownBlock)) (by (with_reducible repeat (first | apply Kd.S_alloc | apply Kd.S_drewN | apply Kd.S_drew)); exact Kd.S_mono (Kd.S_far (p := ⟨go32, (x6_1 : Int).toNat * 2 + 1, none⟩) (Kd.S_far (p := ⟨go32, (x6_1 : Int).toNat * 2, none⟩) (Kd.S_types HO_354000.out GG32.out (by decide)) (fun _ hk => hk.2) (.int .i64 1)) (fun _ hk => hk.2) (.int .i64 (wrap64 (((rd_T43 x354003_1 x6_1).f1) + 1)))) (fun _ hk => ⟨hk.1.2, hk.1.1⟩)) hg hat); replace HO_354001 := Aside0.mk (Kd.R_after (ok := (fun _ => True)) (by (with_reducible repeat (first | apply Kd.R_alloc | apply Kd.R_drewN | apply Kd.R_drew)); exact Kd.R_mono (Kd.R_far (p := ⟨go32, (x6_1 : Int).toNat * 2 + 1, none⟩) (Kd.R_far (p := ⟨go32, (x6_1 : Int).toNat * 2, none⟩) (Kd.R_types HO_354001.out GG32.out (by decide)) (fun _ hk => hk.2) (.int .i64 1)) (fun _ hk => hk.2) (.int .i64 (wrap64 (((rd_T43 x354003_1 x6_1).f1) + 1)))) (fun _ hk => ⟨trivial, hk.1⟩)) hg hat); replace BK337 := Aside0.mk (blk_grown (g := gb337) (o := .cells #[.slice A0_0 l0_0.length c0_0, .slice A0_1 l0_1.length c0_1, .int .i64 a0_2, .slice A0_3 l0_3.length c0_3] 31 (0, 0)) (by (with_reducible repeat (first | refine blk_drewN ?_ _ | refine blk_drew ?_ | refine blk_alloc ?_ _)); refine blk_far ?_ (by have h_ := Kd.R_ne HO_354003.out BK337.out (by decide); intro e_; exact h_ (by rw [e_]; rfl)) _; (with_reducible repeat (first | refine blk_drewN ?_ _ | refine blk_drew ?_ | refine blk_alloc ?_ _)); refine blk_far ?_ (by have h_ := Kd.R_ne HO_354003.out BK337.out (by decide); intro e_; exact h_ (by rw [e_]; rfl)) _; exact bT_ BK337) hg (Kd.R_ne HO_4.out BK337.out (by decide))); replace BK338 := Aside0.mk (blk_grown (g := gb338) (o := .cells #[.slice none 0 0, .slice none 0 0, .int .i64 0, .slice none 0 0] 31 (0, 0)) (by (with_reducible repeat (first | refine blk_drewN ?_ _ | refine blk_drew ?_ | refine blk_alloc ?_ _)); refine blk_far ?_ (by have h_ := Kd.R_ne HO_354003.out BK338.out (by decide); intro e_; exact h_ (by rw [e_]; rfl)) _; (with_reducible repeat (first | refine blk_drewN ?_ _ | refine blk_drew ?_ | refine blk_alloc ?_ _)); refine blk_far ?_ (by have h_ := Kd.R_ne HO_354003.out BK338.out (by decide); intro e_; exact h_ (by rw [e_]; rfl)) _; exact bT_ BK338) hg (Kd.R_ne HO_4.out BK338.out (by decide))); replace BK353 := Aside0.mk (blk_grown (g := gb353) (o := .cells #[.slice (some ad354) t343.length co15, .slice (some ad358) t346.length co19, .int .i64 t349, .slice (some ⟨go32, 0, none⟩) x354003_1.length co37] 31 (0, 0)) (by (with_reducible repeat (first | refine blk_drewN ?_ _ | refine blk_drew ?_ | refine blk_alloc ?_ _)); refine blk_far ?_ (by have h_ := Kd.R_ne HO_354003.out BK353.out (by decide); intro e_; exact h_ (by rw [e_]; rfl)) _; (with_reducible repeat (first | refine blk_drewN ?_ _ | refine blk_drew ?_ | refine blk_alloc ?_ _)); refine blk_far ?_ (by have h_ := Kd.R_ne HO_354003.out BK353.out (by decide); intro e_; exact h_ (by rw [e_]; rfl)) _; exact bT_ BK353) hg (Kd.R_ne HO_4.out BK353.out (by decide))); replace HO_354003 := Aside0.mk (Kd.R_over' (by (with_reducible repeat (first | apply Kd.R_alloc | apply Kd.R_drewN | apply Kd.R_drew)); exact HQ42.out) (Kd.R_typed (by (with_reducible repeat (first | apply Kd.R_alloc | apply Kd.R_drewN | apply Kd.R_drew)); exact (Kd.R_mono (Kd.R_far (p := ⟨go32, (x6_1 : Int).toNat * 2 + 1, none⟩) (Kd.R_far (p := ⟨go32, (x6_1 : Int).toNat * 2, none⟩) (Kd.R_types HO_4.out GG32.out (by decide)) (fun _ hk => hk.2) (.int .i64 1)) (fun _ hk => hk.2) (.int .i64 (wrap64 (((rd_T43 x354003_1 x6_1).f1) + 1)))) (fun _ h_ => h_.1)))) (by decide) hg); replace HL354_0 := Aside0.mk (Kd.R_after (ok := (fun k_ => some k_ ≠ (.slice (some ad354) t343.length co15 : Value).ownBlock ∧ some k_ ≠ (.slice (some ad358) t346.length co19 : Value).ownBlock)) (by (with_reducible repeat (first | apply Kd.R_alloc | apply Kd.R_drewN | apply Kd.R_drew)); exact Kd.R_mono (Kd.R_far (p := ⟨go32, (x6_1 : Int).toNat * 2 + 1, none⟩) (Kd.R_far (p := ⟨go32, (x6_1 : Int).toNat * 2, none⟩) (Kd.R_types HL354_0.out GG32.out (by decide)) (fun _ hk => hk.2) (.int .i64 1)) (fun _ hk => hk.2) (.int .i64 (wrap64 (((rd_T43 x354003_1 x6_1).f1) + 1)))) (fun _ hk => ⟨⟨hk.1.2, hk.1.1.2⟩, hk.1.1.1⟩)) hg hat); replace HB := Aside0.mk (hb); have HO363 := Aside0.mk (ho); clear HO_4; clear ho hb hg hat))
        go_roundg k1
        case measure => have := HK1.out; omega
        case rel => exact ⟨(y361), (wrap64 (x6_1 + 1)), (y360), (.slice (some ⟨go32, 0, none⟩) x354003_1.length co37), (by first | rfl | (simp; done) | (simp [*]; done)), H', ⟨by have := HK1.out; omega⟩, ⟨rT_ HO363⟩, ⟨sM2_ HO_354000⟩, ⟨rM2_ HO_354001⟩, ⟨rT_ HO_354003⟩, ⟨bT_ BK337⟩, ⟨bT_ BK338⟩, ⟨bT_ BK353⟩, ⟨sABelo_15⟩⟩
       ·rw [if_neg c31] at H
        have c31b0 := decide_eq_false c31
        clear c31; have H' := Aside0.mk H; clear H; have hnb44 := NB353_337.out; have hnc44 := NB337_353.out; have hnb45 := NB353_338.out; have hnc45 := NB338_353.out
        obtain ⟨hcz46_0, hcz46_1, hcz46_2, hcz46_3, hfz46_0, hfz46_1, hfz46_2, hfz46_3⟩ := cf4_ BK353
        obtain ⟨Ao47, co47, eo47⟩ := Kd.R_slice HO_354003.out
        subst eo47
        have p354 : 0 ≤ (x6_1 : Int) := dA_
        have q354 : x6_1 < (t343.length : Int) := dA_
        obtain ⟨ad354, A354_0, c354_0, e354, hx354_0, hx354_1, hx354_2, hx354_3, hl354_0, hi354_0⟩ := at_T39 (Kd.S_reads' HO_354000.out).2.2 x6_1 p354 q354
        cases e354
        obtain ⟨ce354, hce354, hMe354, hcc354⟩ := Kd.S_get HO_354000.out z39 x6_1 p354 (by first | exact q354 | exact of_decide_eq_true (by first | (with_reducible assumption) | assumption) | (have e_ := (Kd.S_reads' HO_354000.out).1; omega))
        obtain ⟨ve354_0, rfl, ge354_0⟩ := k39_openM hMe354
        have hv354_0 := hcc354 0 _ rfl
        rw [Nat.add_zero] at hv354_0
        replace hv354_0 := Option.some.inj (hv354_0.symm.trans hx354_0)
        rw [hv354_0] at ge354_0
        have HL354_0 := Aside0.mk (show Kd.R (Kd.int .i64) 2 _ _ _ _ ((rd_T39 t343 x6_1).f0) from ge354_0)
        clear hv354_0 ge354_0 hcc354 hce354; have HR354_0 := Aside0.mk hi354_0; have HC354_0 := Aside0.mk hl354_0; clear hi354_0 hl354_0; replace p354 := eq_true p354; replace q354 := eq_true q354
        try go_wp2
        replace HO_4 := Aside0.mk (Kd.R_drew HO_4.out)
        replace HO_354000 := Aside0.mk (Kd.S_drew HO_354000.out)
        replace HO_354001 := Aside0.mk (Kd.R_drew HO_354001.out)
        replace HO_354003 := Aside0.mk (Kd.R_drew HO_354003.out)
        replace HL354_0 := Aside0.mk (Kd.R_drew HL354_0.out)
        replace BK337 := Aside0.mk (blk_drew BK337.out)
        replace BK338 := Aside0.mk (blk_drew BK338.out)
        replace BK353 := Aside0.mk (blk_drew BK353.out)
        replace HR354_0 := Aside0.mk (Kd.C_drew HR354_0.out)
        replace HB := Aside0.mk (below_drew1 HB.out)
        have p355 : 0 ≤ (x6_1 : Int) := dA_
        have q355 : x6_1 < (x354003_1.length : Int) := dA_
        obtain ⟨ad355, e355, hx355_0, hx355_1⟩ := at_T43 (Kd.R_reads' HO_354003.out).2.2 x6_1 p355 q355
        cases e355
        replace p355 := eq_true p355; replace q355 := eq_true q355
        have p358 : 0 ≤ ((ji28) : Int) := dA_
        have q358 : (ji28) < (t346.length : Int) := dA_
        obtain ⟨ad358, e358, hx358_0⟩ := Kd.at_int (Kd.R_reads' HO_354001.out).2.2 (ji28) p358 q358
        cases e358
        replace p358 := eq_true p358; replace q358 := eq_true q358
        refine start_ (n := 25) (S := fun w' => w'.cell? ⟨gb353, 0, none⟩ = some (.slice (some ad354) t343.length co15) ∧ w'.cell? ⟨gb353, 1, none⟩ = some (.slice (some ad358) t346.length co19) ∧ w'.cell? ⟨gb353, 2, none⟩ = some (.int .i64 t349) ∧ w'.cell? ⟨gb353, 3, none⟩ = some (.slice (some ad355) x354003_1.length co47) ∧ w'.cell? (ad355.add ((x6_1).toNat * 2)) = some (.int .i64 ((rd_T43 x354003_1 x6_1).f0)) ∧ w'.cell? ⟨(ad355.add ((x6_1).toNat * 2)).block, (ad355.add ((x6_1).toNat * 2)).off + 1, none⟩ = some (.int .i64 ((rd_T43 x354003_1 x6_1).f1)) ∧ w'.cell? (ad358.add ((ji28)).toNat) = some (.int .i64 (rd t346 (ji28)))) (ds := []) #[false, false, false, false, false, false, false, false, false, false, false, false, false, false, false, false, false, false, false, false, false, false, false, false, false] (by kernel_rfl) rfl rfl ⟨(blk_cell BK353.out 0).trans rfl, (blk_cell BK353.out 1).trans rfl, (blk_cell BK353.out 2).trans rfl, (blk_cell BK353.out 3).trans rfl, hx355_0, hx355_1, hx358_0⟩ (fun hHeld => ?_); refine with_tabW spec_StartTasks.tab9 spec_StartTasks.bits9 (fun HT_ HW_ => ?_)
        generalize wr.drew = w48 at HO_4 HO_354000 HO_354001 HO_354003 HL354_0 BK337 BK338 BK353 HR354_0 HB hx355_0 hx355_1 hx358_0 hHeld ⊢
        refine pT_ 0 (some 30) #[true, false, false, false, false, false, false, false, false, false, false, false, false, false, false, false, false, false, false, false, false, false, false, false, false] HT_ ?_
        refine pT_ 2 (some 32) #[true, false, true, false, false, false, false, false, false, false, false, false, false, false, false, false, false, false, false, false, false, false, false, false, false] HT_ ?_
        refine tT_ 1 (some 31) #[true, true, true, false, false, false, false, false, false, false, false, false, false, false, false, false, false, false, false, false, false, false, false, false, false] HT_ HW_ hHeld ?_ (hy := by rintro w' ⟨s0, s1, s2, s3, s4, s5, s6⟩; go_simp; with_reducible rfl)
        refine pT_ 3 (some 33) #[true, true, true, true, false, false, false, false, false, false, false, false, false, false, false, false, false, false, false, false, false, false, false, false, false] HT_ ?_
        refine pT_ 4 (some 34) #[true, true, true, true, true, false, false, false, false, false, false, false, false, false, false, false, false, false, false, false, false, false, false, false, false] HT_ ?_
        refine tT_ 5 (some 35) #[true, true, true, true, true, true, false, false, false, false, false, false, false, false, false, false, false, false, false, false, false, false, false, false, false] HT_ HW_ hHeld ?_ (hy := by rintro w' ⟨s0, s1, s2, s3, s4, s5, s6⟩; go_simp; with_reducible rfl)
        refine pT_ 6 (some 36) #[true, true, true, true, true, true, true, false, false, false, false, false, false, false, false, false, false, false, false, false, false, false, false, false, false] HT_ ?_
        refine pT_ 7 (some 37) #[true, true, true, true, true, true, true, true, false, false, false, false, false, false, false, false, false, false, false, false, false, false, false, false, false] HT_ ?_
        refine pT_ 9 (some 39) #[true, true, true, true, true, true, true, true, false, true, false, false, false, false, false, false, false, false, false, false, false, false, false, false, false] HT_ ?_
        refine tT_ 8 (some 38) #[true, true, true, true, true, true, true, true, true, true, false, false, false, false, false, false, false, false, false, false, false, false, false, false, false] HT_ HW_ hHeld ?_ (hy := by rintro w' ⟨s0, s1, s2, s3, s4, s5, s6⟩; go_simp; with_reducible rfl)
        refine one_ (i := 10) (N := some 40) #[true, true, true, true, true, true, true, true, true, true, true, false, false, false, false, false, false, false, false, false, false, false, false, false, false] rfl rfl (one_of HT_.out (by kernel_rfl)) (by decide) (fun K hK => ?_)
        refine goes_ Try.func74 (by kernel_rfl) rfl #[.agg #[.slice (some ad354) t343.length co15, .slice (some ad358) t346.length co19, .int .i64 t349, .slice (some ad355) x354003_1.length co47], .int .i64 x6_1] (by rfl) rfl rfl (by (try simp only [List.map_toArray, List.map_cons, List.map_nil]); first | done | rfl | (simp only [List.length_drop, List.length_take]; rfl)) ?_
        with_reducible refine (spec_l24Free.calls k1 _ _ t343 _ _ t346 t349 _ _ x354003_1 x6_1 true _ ?side1 ?side2 ?side3 ?side4 ?side5 ?side6 A25.out).mono ?_
        (case side1 => exact sD_ HO_354000)
        (case side2 => exact (Kd.S_reads' HO_354000.out).2.1)
        (case side3 => exact rD_ HO_354001)
        (case side4 => exact (Kd.R_reads' HO_354001.out).2.1)
        (case side5 => exact rD_ HO_354003)
        (case side6 => exact (Kd.R_reads' HO_354003.out).2.1)
        rintro e w49 ⟨rfl, hb⟩
        have HS4_ := (hb.cell (World.block_lt_of_cell? _ _ (hHeld.2.2.2.2.1))).trans (hHeld.2.2.2.2.1)
        have HS5_ := (hb.cell (World.block_lt_of_cell? _ _ (hHeld.2.2.2.2.2.1))).trans (hHeld.2.2.2.2.2.1)
        have HS6_ := (hb.cell (World.block_lt_of_cell? _ _ (hHeld.2.2.2.2.2.2))).trans (hHeld.2.2.2.2.2.2)
        refine ⟨_, rfl, ?_⟩
        replace HO_4 := rB_ HO_4 hb; replace HO_354000 := sB_ HO_354000 hb; replace HO_354001 := rB_ HO_354001 hb; replace HO_354003 := rB_ HO_354003 hb; replace HL354_0 := rB_ HL354_0 hb; replace BK337 := bB_ BK337 hb; replace BK338 := bB_ BK338 hb; replace BK353 := bB_ BK353 hb
        replace HR354_0 := Aside0.mk (Kd.C_below (by repeat (first | (with_reducible exact HR354_0.out) | (with_reducible refine Kd.C_alloc ?_ _) | (with_reducible refine Kd.C_drewN ?_ _) | (with_reducible refine Kd.C_drew ?_) | exact HR354_0.out)) hb)
        replace HB := bS_ HB hb; (try clear hb); (try clear hk)
        refine hK.out _ _ ⟨(blk_cell BK353.out 0).trans rfl, (blk_cell BK353.out 1).trans rfl, (blk_cell BK353.out 2).trans rfl, (blk_cell BK353.out 3).trans rfl, HS4_, HS5_, HS6_⟩ (fun hHeld => ?_)
        clear hK K
        refine nS_ (some 40) ?_
        refine pT_ 11 (some 41) #[true, true, true, true, true, true, true, true, true, true, true, true, false, false, false, false, false, false, false, false, false, false, false, false, false] HT_ ?_
        refine pT_ 12 (some 42) #[true, true, true, true, true, true, true, true, true, true, true, true, true, false, false, false, false, false, false, false, false, false, false, false, false] HT_ ?_
        refine pT_ 14 (some 44) #[true, true, true, true, true, true, true, true, true, true, true, true, true, false, true, false, false, false, false, false, false, false, false, false, false] HT_ ?_
        refine pT_ 16 (some 46) #[true, true, true, true, true, true, true, true, true, true, true, true, true, false, true, false, true, false, false, false, false, false, false, false, false] HT_ ?_
        refine pT_ 17 (some 47) #[true, true, true, true, true, true, true, true, true, true, true, true, true, false, true, false, true, true, false, false, false, false, false, false, false] HT_ ?_
        refine pT_ 19 (some 49) #[true, true, true, true, true, true, true, true, true, true, true, true, true, false, true, false, true, true, false, true, false, false, false, false, false] HT_ ?_
        refine pT_ 20 (some 50) #[true, true, true, true, true, true, true, true, true, true, true, true, true, false, true, false, true, true, false, true, true, false, false, false, false] HT_ ?_
        refine tT_ 13 (some 43) #[true, true, true, true, true, true, true, true, true, true, true, true, true, true, true, false, true, true, false, true, true, false, false, false, false] HT_ HW_ hHeld ?_ (hy := by rintro w' ⟨s0, s1, s2, s3, s4, s5, s6⟩; go_simp; with_reducible rfl)
        refine tT_ 18 (some 48) #[true, true, true, true, true, true, true, true, true, true, true, true, true, true, true, false, true, true, true, true, true, false, false, false, false] HT_ HW_ hHeld ?_ (hy := by rintro w' ⟨s0, s1, s2, s3, s4, s5, s6⟩; go_simp; with_reducible rfl)
        refine pT_ 21 (some 51) #[true, true, true, true, true, true, true, true, true, true, true, true, true, true, true, false, true, true, true, true, true, true, false, false, false] HT_ ?_
        refine tT_ 22 (some 52) #[true, true, true, true, true, true, true, true, true, true, true, true, true, true, true, false, true, true, true, true, true, true, true, false, false] HT_ HW_ hHeld ?_ (hy := by rintro w' ⟨s0, s1, s2, s3, s4, s5, s6⟩; go_simp; with_reducible rfl)
        refine one_ (i := 15) (N := some 45) #[true, true, true, true, true, true, true, true, true, true, true, true, true, true, true, true, true, true, true, true, true, true, true, false, false] rfl rfl (one_of HT_.out (by kernel_rfl)) (by decide) (fun K hK => ?_)
        refine goes_ Try.func75 (by kernel_rfl) rfl #[.agg #[.slice (some ad354) t343.length co15, .slice (some ad358) t346.length co19, .int .i64 t349, .slice (some ad355) x354003_1.length co47], .int .i64 ((rd_T39 t343 x6_1).f1)] (by rfl) rfl rfl (by (try simp only [List.map_toArray, List.map_cons, List.map_nil]); first | done | rfl | (simp only [List.length_drop, List.length_take]; rfl)) ?_
        with_reducible refine (spec_l24Running.calls k1 _ _ t343 _ _ t346 t349 _ _ x354003_1 ((rd_T39 t343 x6_1).f1) t357 _ ?side1 ?side2 ?side3 ?side4 ?side5 ?side6 A27.out).mono ?_
        (case side1 => exact sD_ HO_354000)
        (case side2 => exact (Kd.S_reads' HO_354000.out).2.1)
        (case side3 => exact rD_ HO_354001)
        (case side4 => exact (Kd.R_reads' HO_354001.out).2.1)
        (case side5 => exact rD_ HO_354003)
        (case side6 => exact (Kd.R_reads' HO_354003.out).2.1)
        rintro e w50 ⟨rfl, hb⟩
        have HS4_ := (hb.cell (World.block_lt_of_cell? _ _ (hHeld.2.2.2.2.1))).trans (hHeld.2.2.2.2.1)
        have HS5_ := (hb.cell (World.block_lt_of_cell? _ _ (hHeld.2.2.2.2.2.1))).trans (hHeld.2.2.2.2.2.1)
        have HS6_ := (hb.cell (World.block_lt_of_cell? _ _ (hHeld.2.2.2.2.2.2))).trans (hHeld.2.2.2.2.2.2)
        refine ⟨_, rfl, ?_⟩
        replace HO_4 := rB_ HO_4 hb; replace HO_354000 := sB_ HO_354000 hb; replace HO_354001 := rB_ HO_354001 hb; replace HO_354003 := rB_ HO_354003 hb; replace HL354_0 := rB_ HL354_0 hb; replace BK337 := bB_ BK337 hb; replace BK338 := bB_ BK338 hb; replace BK353 := bB_ BK353 hb
        replace HR354_0 := Aside0.mk (Kd.C_below (by repeat (first | (with_reducible exact HR354_0.out) | (with_reducible refine Kd.C_alloc ?_ _) | (with_reducible refine Kd.C_drewN ?_ _) | (with_reducible refine Kd.C_drew ?_) | exact HR354_0.out)) hb)
        replace HB := bS_ HB hb; (try clear hb); (try clear hk)
        refine hK.out _ _ ⟨(blk_cell BK353.out 0).trans rfl, (blk_cell BK353.out 1).trans rfl, (blk_cell BK353.out 2).trans rfl, (blk_cell BK353.out 3).trans rfl, HS4_, HS5_, HS6_⟩ (fun hHeld => ?_)
        clear hK K
        refine nS_ (some 45) ?_
        refine pT_ 23 (some 53) #[true, true, true, true, true, true, true, true, true, true, true, true, true, true, true, true, true, true, true, true, true, true, true, true, false] HT_ ?_
        refine pT_ 24 (some 54) #[true, true, true, true, true, true, true, true, true, true, true, true, true, true, true, true, true, true, true, true, true, true, true, true, true] HT_ ?_
        refine done_ (done_of HT_.out (by kernel_rfl)) ?_
        try go_wp2
        go_roundg k1
        case measure => have := HK1.out; omega
        case rel => exact ⟨(x4_1), (wrap64 (x6_1 + 1)), (x354003_1), (.slice (some ad355) x354003_1.length co47), (by first | rfl | (simp; done) | (simp [*]; done)), H', ⟨by have := HK1.out; omega⟩, ⟨rT_ HO_4⟩, ⟨sT_ HO_354000⟩, ⟨rT_ HO_354001⟩, ⟨rT_ HO_354003⟩, ⟨bT_ BK337⟩, ⟨bT_ BK338⟩, ⟨bT_ BK353⟩, ⟨sABelo_15⟩⟩
      ·replace c26 := Bool.eq_false_iff.mpr c26
       subst c26
       replace H := ifF_ H; have H' := Aside0.mk H; clear H; have hnb51 := NB353_337.out; have hnc51 := NB337_353.out; have hnb52 := NB353_338.out; have hnc52 := NB338_353.out
       obtain ⟨hcz53_0, hcz53_1, hcz53_2, hcz53_3, hfz53_0, hfz53_1, hfz53_2, hfz53_3⟩ := cf4_ BK353
       obtain ⟨Ao54, co54, eo54⟩ := Kd.R_slice HO_354003.out
       subst eo54
       have p354 : 0 ≤ (x6_1 : Int) := dA_
       have q354 : x6_1 < (t343.length : Int) := dA_
       obtain ⟨ad354, A354_0, c354_0, e354, hx354_0, hx354_1, hx354_2, hx354_3, hl354_0, hi354_0⟩ := at_T39 (Kd.S_reads' HO_354000.out).2.2 x6_1 p354 q354
       cases e354
       obtain ⟨ce354, hce354, hMe354, hcc354⟩ := Kd.S_get HO_354000.out z39 x6_1 p354 (by first | exact q354 | exact of_decide_eq_true (by first | (with_reducible assumption) | assumption) | (have e_ := (Kd.S_reads' HO_354000.out).1; omega))
       obtain ⟨ve354_0, rfl, ge354_0⟩ := k39_openM hMe354
       have hv354_0 := hcc354 0 _ rfl
       rw [Nat.add_zero] at hv354_0
       replace hv354_0 := Option.some.inj (hv354_0.symm.trans hx354_0)
       rw [hv354_0] at ge354_0
       have HL354_0 := Aside0.mk (show Kd.R (Kd.int .i64) 2 _ _ _ _ ((rd_T39 t343 x6_1).f0) from ge354_0)
       clear hv354_0 ge354_0 hcc354 hce354; have HR354_0 := Aside0.mk hi354_0; have HC354_0 := Aside0.mk hl354_0; clear hi354_0 hl354_0; replace p354 := eq_true p354; replace q354 := eq_true q354
       try go_wp2
       replace HO_4 := Aside0.mk (Kd.R_drew HO_4.out)
       replace HO_354000 := Aside0.mk (Kd.S_drew HO_354000.out)
       replace HO_354001 := Aside0.mk (Kd.R_drew HO_354001.out)
       replace HO_354003 := Aside0.mk (Kd.R_drew HO_354003.out)
       replace HL354_0 := Aside0.mk (Kd.R_drew HL354_0.out)
       replace BK337 := Aside0.mk (blk_drew BK337.out)
       replace BK338 := Aside0.mk (blk_drew BK338.out)
       replace BK353 := Aside0.mk (blk_drew BK353.out)
       replace HR354_0 := Aside0.mk (Kd.C_drew HR354_0.out)
       replace HB := Aside0.mk (below_drew1 HB.out)
       have p355 : 0 ≤ (x6_1 : Int) := dA_
       have q355 : x6_1 < (x354003_1.length : Int) := dA_
       obtain ⟨ad355, e355, hx355_0, hx355_1⟩ := at_T43 (Kd.R_reads' HO_354003.out).2.2 x6_1 p355 q355
       cases e355
       replace p355 := eq_true p355; replace q355 := eq_true q355
       refine start_ (n := 25) (S := fun w' => w'.cell? ⟨gb353, 0, none⟩ = some (.slice (some ad354) t343.length co15) ∧ w'.cell? ⟨gb353, 1, none⟩ = some (.slice Ao19 t346.length co19) ∧ w'.cell? ⟨gb353, 2, none⟩ = some (.int .i64 t349) ∧ w'.cell? ⟨gb353, 3, none⟩ = some (.slice (some ad355) x354003_1.length co54) ∧ w'.cell? (ad355.add ((x6_1).toNat * 2)) = some (.int .i64 ((rd_T43 x354003_1 x6_1).f0)) ∧ w'.cell? ⟨(ad355.add ((x6_1).toNat * 2)).block, (ad355.add ((x6_1).toNat * 2)).off + 1, none⟩ = some (.int .i64 ((rd_T43 x354003_1 x6_1).f1))) (ds := []) #[false, false, false, false, false, false, false, false, false, false, false, false, false, false, false, false, false, false, false, false, false, false, false, false, false] (by kernel_rfl) rfl rfl ⟨(blk_cell BK353.out 0).trans rfl, (blk_cell BK353.out 1).trans rfl, (blk_cell BK353.out 2).trans rfl, (blk_cell BK353.out 3).trans rfl, hx355_0, hx355_1⟩ (fun hHeld => ?_); refine with_tabW spec_StartTasks.tab9 spec_StartTasks.bits9 (fun HT_ HW_ => ?_)
       generalize wr.drew = w55 at HO_4 HO_354000 HO_354001 HO_354003 HL354_0 BK337 BK338 BK353 HR354_0 HB hx355_0 hx355_1 hHeld ⊢
       refine pT_ 0 (some 30) #[true, false, false, false, false, false, false, false, false, false, false, false, false, false, false, false, false, false, false, false, false, false, false, false, false] HT_ ?_
       refine pT_ 2 (some 32) #[true, false, true, false, false, false, false, false, false, false, false, false, false, false, false, false, false, false, false, false, false, false, false, false, false] HT_ ?_
       refine tT_ 1 (some 31) #[true, true, true, false, false, false, false, false, false, false, false, false, false, false, false, false, false, false, false, false, false, false, false, false, false] HT_ HW_ hHeld ?_ (hy := by rintro w' ⟨s0, s1, s2, s3, s4, s5⟩; go_simp; with_reducible rfl)
       refine pT_ 3 (some 33) #[true, true, true, true, false, false, false, false, false, false, false, false, false, false, false, false, false, false, false, false, false, false, false, false, false] HT_ ?_
       refine pT_ 4 (some 34) #[true, true, true, true, true, false, false, false, false, false, false, false, false, false, false, false, false, false, false, false, false, false, false, false, false] HT_ ?_
       refine tT_ 5 (some 35) #[true, true, true, true, true, true, false, false, false, false, false, false, false, false, false, false, false, false, false, false, false, false, false, false, false] HT_ HW_ hHeld ?_ (hy := by rintro w' ⟨s0, s1, s2, s3, s4, s5⟩; go_simp; with_reducible rfl)
       refine pT_ 6 (some 36) #[true, true, true, true, true, true, true, false, false, false, false, false, false, false, false, false, false, false, false, false, false, false, false, false, false] HT_ ?_
       refine pT_ 7 (some 37) #[true, true, true, true, true, true, true, true, false, false, false, false, false, false, false, false, false, false, false, false, false, false, false, false, false] HT_ ?_
       refine pT_ 9 (some 39) #[true, true, true, true, true, true, true, true, false, true, false, false, false, false, false, false, false, false, false, false, false, false, false, false, false] HT_ ?_
       refine tT_ 8 (some 38) #[true, true, true, true, true, true, true, true, true, true, false, false, false, false, false, false, false, false, false, false, false, false, false, false, false] HT_ HW_ hHeld ?_ (hy := by rintro w' ⟨s0, s1, s2, s3, s4, s5⟩; go_simp; with_reducible rfl)
       refine one_ (i := 10) (N := some 40) #[true, true, true, true, true, true, true, true, true, true, true, false, false, false, false, false, false, false, false, false, false, false, false, false, false] rfl rfl (one_of HT_.out (by kernel_rfl)) (by decide) (fun K hK => ?_)
       refine goes_ Try.func74 (by kernel_rfl) rfl #[.agg #[.slice (some ad354) t343.length co15, .slice Ao19 t346.length co19, .int .i64 t349, .slice (some ad355) x354003_1.length co54], .int .i64 x6_1] (by rfl) rfl rfl (by (try simp only [List.map_toArray, List.map_cons, List.map_nil]); first | done | rfl | (simp only [List.length_drop, List.length_take]; rfl)) ?_
       with_reducible refine (spec_l24Free.calls k1 _ _ t343 _ _ t346 t349 _ _ x354003_1 x6_1 false _ ?side1 ?side2 ?side3 ?side4 ?side5 ?side6 A25.out).mono ?_
       (case side1 => exact sD_ HO_354000)
       (case side2 => exact (Kd.S_reads' HO_354000.out).2.1)
       (case side3 => exact rD_ HO_354001)
       (case side4 => exact (Kd.R_reads' HO_354001.out).2.1)
       (case side5 => exact rD_ HO_354003)
       (case side6 => exact (Kd.R_reads' HO_354003.out).2.1)
       rintro e w56 ⟨rfl, hb⟩
       have HS4_ := (hb.cell (World.block_lt_of_cell? _ _ (hHeld.2.2.2.2.1))).trans (hHeld.2.2.2.2.1)
       have HS5_ := (hb.cell (World.block_lt_of_cell? _ _ (hHeld.2.2.2.2.2))).trans (hHeld.2.2.2.2.2)
       refine ⟨_, rfl, ?_⟩
       replace HO_4 := rB_ HO_4 hb; replace HO_354000 := sB_ HO_354000 hb; replace HO_354001 := rB_ HO_354001 hb; replace HO_354003 := rB_ HO_354003 hb; replace HL354_0 := rB_ HL354_0 hb; replace BK337 := bB_ BK337 hb; replace BK338 := bB_ BK338 hb; replace BK353 := bB_ BK353 hb
       replace HR354_0 := Aside0.mk (Kd.C_below (by repeat (first | (with_reducible exact HR354_0.out) | (with_reducible refine Kd.C_alloc ?_ _) | (with_reducible refine Kd.C_drewN ?_ _) | (with_reducible refine Kd.C_drew ?_) | exact HR354_0.out)) hb)
       replace HB := bS_ HB hb; (try clear hb); (try clear hk)
       refine hK.out _ _ ⟨(blk_cell BK353.out 0).trans rfl, (blk_cell BK353.out 1).trans rfl, (blk_cell BK353.out 2).trans rfl, (blk_cell BK353.out 3).trans rfl, HS4_, HS5_⟩ (fun hHeld => ?_)
       clear hK K
       refine nS_ (some 40) ?_
       refine pT_ 11 (some 41) #[true, true, true, true, true, true, true, true, true, true, true, true, false, false, false, false, false, false, false, false, false, false, false, false, false] HT_ ?_
       refine pT_ 12 (some 42) #[true, true, true, true, true, true, true, true, true, true, true, true, true, false, false, false, false, false, false, false, false, false, false, false, false] HT_ ?_
       refine pU_ 13 (some 43) #[true, true, true, true, true, true, true, true, true, true, true, true, true, true, false, false, false, false, false, false, false, false, false, false, false] HT_ ?_
       refine pU_ 14 (some 44) #[true, true, true, true, true, true, true, true, true, true, true, true, true, true, true, false, false, false, false, false, false, false, false, false, false] HT_ ?_
       refine pU_ 15 (some 45) #[true, true, true, true, true, true, true, true, true, true, true, true, true, true, true, true, false, false, false, false, false, false, false, false, false] HT_ ?_
       refine pU_ 16 (some 46) #[true, true, true, true, true, true, true, true, true, true, true, true, true, true, true, true, true, false, false, false, false, false, false, false, false] HT_ ?_
       refine pU_ 17 (some 47) #[true, true, true, true, true, true, true, true, true, true, true, true, true, true, true, true, true, true, false, false, false, false, false, false, false] HT_ ?_
       refine pU_ 18 (some 48) #[true, true, true, true, true, true, true, true, true, true, true, true, true, true, true, true, true, true, true, false, false, false, false, false, false] HT_ ?_
       refine pU_ 19 (some 49) #[true, true, true, true, true, true, true, true, true, true, true, true, true, true, true, true, true, true, true, true, false, false, false, false, false] HT_ ?_
       refine pU_ 20 (some 50) #[true, true, true, true, true, true, true, true, true, true, true, true, true, true, true, true, true, true, true, true, true, false, false, false, false] HT_ ?_
       refine pU_ 21 (some 51) #[true, true, true, true, true, true, true, true, true, true, true, true, true, true, true, true, true, true, true, true, true, true, false, false, false] HT_ ?_
       refine pU_ 22 (some 52) #[true, true, true, true, true, true, true, true, true, true, true, true, true, true, true, true, true, true, true, true, true, true, true, false, false] HT_ ?_
       refine pU_ 23 (some 53) #[true, true, true, true, true, true, true, true, true, true, true, true, true, true, true, true, true, true, true, true, true, true, true, true, false] HT_ ?_
       refine pT_ 24 (some 54) #[true, true, true, true, true, true, true, true, true, true, true, true, true, true, true, true, true, true, true, true, true, true, true, true, true] HT_ ?_
       refine done_ (done_of HT_.out (by kernel_rfl)) ?_
       try go_wp2
       go_roundg k1
       case measure => have := HK1.out; omega
       case rel => exact ⟨(x4_1), (wrap64 (x6_1 + 1)), (x354003_1), (.slice (some ad355) x354003_1.length co54), (by first | rfl | (simp; done) | (simp [*]; done)), H', ⟨by have := HK1.out; omega⟩, ⟨rT_ HO_4⟩, ⟨sT_ HO_354000⟩, ⟨rT_ HO_354001⟩, ⟨rT_ HO_354003⟩, ⟨bT_ BK337⟩, ⟨bT_ BK338⟩, ⟨bT_ BK353⟩, ⟨sABelo_15⟩⟩
     ·rw [if_neg c24] at H
      have c24b0 := beq_eq_false_iff_ne.mpr c24
      have c24b1 := bne_iff_ne.mpr c24
      have H' := Aside0.mk H; clear H; have hnb57 := NB353_337.out; have hnc57 := NB337_353.out; have hnb58 := NB353_338.out; have hnc58 := NB338_353.out
      obtain ⟨hcz59_0, hcz59_1, hcz59_2, hcz59_3, hfz59_0, hfz59_1, hfz59_2, hfz59_3⟩ := cf4_ BK353
      obtain ⟨Ao60, co60, eo60⟩ := Kd.R_slice HO_354003.out
      subst eo60
      have p354 : 0 ≤ (x6_1 : Int) := dA_
      have q354 : x6_1 < (t343.length : Int) := dA_
      obtain ⟨ad354, A354_0, c354_0, e354, hx354_0, hx354_1, hx354_2, hx354_3, hl354_0, hi354_0⟩ := at_T39 (Kd.S_reads' HO_354000.out).2.2 x6_1 p354 q354
      cases e354
      obtain ⟨ce354, hce354, hMe354, hcc354⟩ := Kd.S_get HO_354000.out z39 x6_1 p354 (by first | exact q354 | exact of_decide_eq_true (by first | (with_reducible assumption) | assumption) | (have e_ := (Kd.S_reads' HO_354000.out).1; omega))
      obtain ⟨ve354_0, rfl, ge354_0⟩ := k39_openM hMe354
      have hv354_0 := hcc354 0 _ rfl
      rw [Nat.add_zero] at hv354_0
      replace hv354_0 := Option.some.inj (hv354_0.symm.trans hx354_0)
      rw [hv354_0] at ge354_0
      have HL354_0 := Aside0.mk (show Kd.R (Kd.int .i64) 2 _ _ _ _ ((rd_T39 t343 x6_1).f0) from ge354_0)
      clear hv354_0 ge354_0 hcc354 hce354; have HR354_0 := Aside0.mk hi354_0; have HC354_0 := Aside0.mk hl354_0; clear hi354_0 hl354_0; replace p354 := eq_true p354; replace q354 := eq_true q354
      try go_wp2
      replace HO_4 := Aside0.mk (Kd.R_drew HO_4.out)
      replace HO_354000 := Aside0.mk (Kd.S_drew HO_354000.out)
      replace HO_354001 := Aside0.mk (Kd.R_drew HO_354001.out)
      replace HO_354003 := Aside0.mk (Kd.R_drew HO_354003.out)
      replace HL354_0 := Aside0.mk (Kd.R_drew HL354_0.out)
      replace BK337 := Aside0.mk (blk_drew BK337.out)
      replace BK338 := Aside0.mk (blk_drew BK338.out)
      replace BK353 := Aside0.mk (blk_drew BK353.out)
      replace HR354_0 := Aside0.mk (Kd.C_drew HR354_0.out)
      replace HB := Aside0.mk (below_drew1 HB.out)
      have p355 : 0 ≤ (x6_1 : Int) := dA_
      have q355 : x6_1 < (x354003_1.length : Int) := dA_
      obtain ⟨ad355, e355, hx355_0, hx355_1⟩ := at_T43 (Kd.R_reads' HO_354003.out).2.2 x6_1 p355 q355
      cases e355
      replace p355 := eq_true p355; replace q355 := eq_true q355
      refine start_ (n := 25) (S := fun w' => w'.cell? ⟨gb353, 0, none⟩ = some (.slice (some ad354) t343.length co15) ∧ w'.cell? ⟨gb353, 1, none⟩ = some (.slice Ao19 t346.length co19) ∧ w'.cell? ⟨gb353, 2, none⟩ = some (.int .i64 t349) ∧ w'.cell? ⟨gb353, 3, none⟩ = some (.slice (some ad355) x354003_1.length co60) ∧ w'.cell? (ad355.add ((x6_1).toNat * 2)) = some (.int .i64 ((rd_T43 x354003_1 x6_1).f0)) ∧ w'.cell? ⟨(ad355.add ((x6_1).toNat * 2)).block, (ad355.add ((x6_1).toNat * 2)).off + 1, none⟩ = some (.int .i64 ((rd_T43 x354003_1 x6_1).f1))) (ds := []) #[false, false, false, false, false, false, false, false, false, false, false, false, false, false, false, false, false, false, false, false, false, false, false, false, false] (by kernel_rfl) rfl rfl ⟨(blk_cell BK353.out 0).trans rfl, (blk_cell BK353.out 1).trans rfl, (blk_cell BK353.out 2).trans rfl, (blk_cell BK353.out 3).trans rfl, hx355_0, hx355_1⟩ (fun hHeld => ?_); refine with_tabW spec_StartTasks.tab9 spec_StartTasks.bits9 (fun HT_ HW_ => ?_)
      generalize wr.drew = w61 at HO_4 HO_354000 HO_354001 HO_354003 HL354_0 BK337 BK338 BK353 HR354_0 HB hx355_0 hx355_1 hHeld ⊢
      refine pT_ 0 (some 30) #[true, false, false, false, false, false, false, false, false, false, false, false, false, false, false, false, false, false, false, false, false, false, false, false, false] HT_ ?_
      refine pT_ 2 (some 32) #[true, false, true, false, false, false, false, false, false, false, false, false, false, false, false, false, false, false, false, false, false, false, false, false, false] HT_ ?_
      refine tT_ 1 (some 31) #[true, true, true, false, false, false, false, false, false, false, false, false, false, false, false, false, false, false, false, false, false, false, false, false, false] HT_ HW_ hHeld ?_ (hy := by rintro w' ⟨s0, s1, s2, s3, s4, s5⟩; go_simp; with_reducible rfl)
      refine pT_ 3 (some 33) #[true, true, true, true, false, false, false, false, false, false, false, false, false, false, false, false, false, false, false, false, false, false, false, false, false] HT_ ?_
      refine pT_ 4 (some 34) #[true, true, true, true, true, false, false, false, false, false, false, false, false, false, false, false, false, false, false, false, false, false, false, false, false] HT_ ?_
      refine tT_ 5 (some 35) #[true, true, true, true, true, true, false, false, false, false, false, false, false, false, false, false, false, false, false, false, false, false, false, false, false] HT_ HW_ hHeld ?_ (hy := by rintro w' ⟨s0, s1, s2, s3, s4, s5⟩; go_simp; with_reducible rfl)
      refine pT_ 6 (some 36) #[true, true, true, true, true, true, true, false, false, false, false, false, false, false, false, false, false, false, false, false, false, false, false, false, false] HT_ ?_
      refine pT_ 7 (some 37) #[true, true, true, true, true, true, true, true, false, false, false, false, false, false, false, false, false, false, false, false, false, false, false, false, false] HT_ ?_
      refine pU_ 8 (some 38) #[true, true, true, true, true, true, true, true, true, false, false, false, false, false, false, false, false, false, false, false, false, false, false, false, false] HT_ ?_
      refine pU_ 9 (some 39) #[true, true, true, true, true, true, true, true, true, true, false, false, false, false, false, false, false, false, false, false, false, false, false, false, false] HT_ ?_
      refine pU_ 10 (some 40) #[true, true, true, true, true, true, true, true, true, true, true, false, false, false, false, false, false, false, false, false, false, false, false, false, false] HT_ ?_
      refine pT_ 11 (some 41) #[true, true, true, true, true, true, true, true, true, true, true, true, false, false, false, false, false, false, false, false, false, false, false, false, false] HT_ ?_
      refine pT_ 12 (some 42) #[true, true, true, true, true, true, true, true, true, true, true, true, true, false, false, false, false, false, false, false, false, false, false, false, false] HT_ ?_
      refine pU_ 13 (some 43) #[true, true, true, true, true, true, true, true, true, true, true, true, true, true, false, false, false, false, false, false, false, false, false, false, false] HT_ ?_
      refine pU_ 14 (some 44) #[true, true, true, true, true, true, true, true, true, true, true, true, true, true, true, false, false, false, false, false, false, false, false, false, false] HT_ ?_
      refine pU_ 15 (some 45) #[true, true, true, true, true, true, true, true, true, true, true, true, true, true, true, true, false, false, false, false, false, false, false, false, false] HT_ ?_
      refine pU_ 16 (some 46) #[true, true, true, true, true, true, true, true, true, true, true, true, true, true, true, true, true, false, false, false, false, false, false, false, false] HT_ ?_
      refine pU_ 17 (some 47) #[true, true, true, true, true, true, true, true, true, true, true, true, true, true, true, true, true, true, false, false, false, false, false, false, false] HT_ ?_
      refine pU_ 18 (some 48) #[true, true, true, true, true, true, true, true, true, true, true, true, true, true, true, true, true, true, true, false, false, false, false, false, false] HT_ ?_
      refine pU_ 19 (some 49) #[true, true, true, true, true, true, true, true, true, true, true, true, true, true, true, true, true, true, true, true, false, false, false, false, false] HT_ ?_
      refine pU_ 20 (some 50) #[true, true, true, true, true, true, true, true, true, true, true, true, true, true, true, true, true, true, true, true, true, false, false, false, false] HT_ ?_
      refine pU_ 21 (some 51) #[true, true, true, true, true, true, true, true, true, true, true, true, true, true, true, true, true, true, true, true, true, true, false, false, false] HT_ ?_
      refine pU_ 22 (some 52) #[true, true, true, true, true, true, true, true, true, true, true, true, true, true, true, true, true, true, true, true, true, true, true, false, false] HT_ ?_
      refine pU_ 23 (some 53) #[true, true, true, true, true, true, true, true, true, true, true, true, true, true, true, true, true, true, true, true, true, true, true, true, false] HT_ ?_
      refine pT_ 24 (some 54) #[true, true, true, true, true, true, true, true, true, true, true, true, true, true, true, true, true, true, true, true, true, true, true, true, true] HT_ ?_
      refine done_ (done_of HT_.out (by kernel_rfl)) ?_
      try go_wp2
      go_roundg k1
      case measure => have := HK1.out; omega
      case rel => exact ⟨(x4_1), (wrap64 (x6_1 + 1)), (x354003_1), (.slice (some ad355) x354003_1.length co60), (by first | rfl | (simp; done) | (simp [*]; done)), H', ⟨by have := HK1.out; omega⟩, ⟨rT_ HO_4⟩, ⟨sT_ HO_354000⟩, ⟨rT_ HO_354001⟩, ⟨rT_ HO_354003⟩, ⟨bT_ BK337⟩, ⟨bT_ BK338⟩, ⟨bT_ BK353⟩, ⟨sABelo_15⟩⟩
    ·rw [if_neg c21] at H
     have c21b0 := decide_eq_false c21
     clear c21
     simp only [Option.some.injEq, Prod.mk.injEq] at H
     obtain ⟨rfl, rfl, rfl, rfl, rfl⟩ := H
     have hnb62 := NB353_337.out; have hnc62 := NB337_353.out; have hnb63 := NB353_338.out; have hnc63 := NB338_353.out
     obtain ⟨hcz64_0, hcz64_1, hcz64_2, hcz64_3, hfz64_0, hfz64_1, hfz64_2, hfz64_3⟩ := cf4_ BK353
     obtain ⟨Ao65, co65, eo65⟩ := Kd.R_slice HO_354003.out
     subst eo65
     have hnb66 := NB338_337.out; have hnc66 := NB337_338.out
     obtain ⟨hcz67_0, hcz67_1, hcz67_2, hcz67_3, hfz67_0, hfz67_1, hfz67_2, hfz67_3⟩ := cf4_ BK338
     go_wp2
     refine bodyPost_ret (results_ct rfl _ _ gb338 31 #[.slice Ao15 t343.length co15, .slice Ao19 t346.length co19, .int .i64 t349, .slice Ao65 x354003_1.length co65] (0, 0) _ rfl (bP_ BK338) Try.underlying31 rfl (by kernel_rfl)) rfl ?_
     exact ⟨_, _, _, _, by first | rfl | (simp [errW_none, errW_some] <;> rfl) | (simp [*, errW_none, errW_some] <;> rfl), by (with_reducible repeat (first | apply Kd.S_alloc | apply Kd.S_drewN | apply Kd.S_drew)); exact Kd.S_mono (Kd.S_far (p := ⟨gb338, 3, none⟩) (Kd.S_far (p := ⟨gb338, 2, none⟩) (Kd.S_far (p := ⟨gb338, 1, none⟩) (Kd.S_far (p := ⟨gb338, 0, none⟩) (Kd.S_types HO_354000.out BK338.out (by decide)) (fun _ hk => hk.2) (.slice Ao15 t343.length co15)) (fun _ hk => hk.2) (.slice Ao19 t346.length co19)) (fun _ hk => hk.2) (.int .i64 t349)) (fun _ hk => hk.2) (.slice Ao65 x354003_1.length co65)) (fun _ hk => ⟨hk.1.2, hk.1.1⟩), by (with_reducible repeat (first | apply Kd.R_alloc | apply Kd.R_drewN | apply Kd.R_drew)); exact Kd.R_mono (Kd.R_far (p := ⟨gb338, 3, none⟩) (Kd.R_far (p := ⟨gb338, 2, none⟩) (Kd.R_far (p := ⟨gb338, 1, none⟩) (Kd.R_far (p := ⟨gb338, 0, none⟩) (Kd.R_types HO_354001.out BK338.out (by decide)) (fun _ hk => hk.2) (.slice Ao15 t343.length co15)) (fun _ hk => hk.2) (.slice Ao19 t346.length co19)) (fun _ hk => hk.2) (.int .i64 t349)) (fun _ hk => hk.2) (.slice Ao65 x354003_1.length co65)) (fun _ hk => hk.1), by (with_reducible repeat (first | apply Kd.R_alloc | apply Kd.R_drewN | apply Kd.R_drew)); exact Kd.R_mono (Kd.R_far (p := ⟨gb338, 3, none⟩) (Kd.R_far (p := ⟨gb338, 2, none⟩) (Kd.R_far (p := ⟨gb338, 1, none⟩) (Kd.R_far (p := ⟨gb338, 0, none⟩) (Kd.R_types HO_354003.out BK338.out (by decide)) (fun _ hk => hk.2) (.slice Ao15 t343.length co15)) (fun _ hk => hk.2) (.slice Ao19 t346.length co19)) (fun _ hk => hk.2) (.int .i64 t349)) (fun _ hk => hk.2) (.slice Ao65 x354003_1.length co65)) (fun _ hk => trivial), by (with_reducible repeat (first | apply Kd.R_alloc | apply Kd.R_drewN | apply Kd.R_drew)); exact Kd.R_mono (Kd.R_far (p := ⟨gb338, 3, none⟩) (Kd.R_far (p := ⟨gb338, 2, none⟩) (Kd.R_far (p := ⟨gb338, 1, none⟩) (Kd.R_far (p := ⟨gb338, 0, none⟩) (Kd.R_types HO_4.out BK338.out (by decide)) (fun _ hk => hk.2) (.slice Ao15 t343.length co15)) (fun _ hk => hk.2) (.slice Ao19 t346.length co19)) (fun _ hk => hk.2) (.int .i64 t349)) (fun _ hk => hk.2) (.slice Ao65 x354003_1.length co65)) (fun _ hk => hk.1), sABelo_15⟩
 ·replace c3 := Bool.eq_false_iff.mpr c3
  subst c3
  replace H := ifF_ H
  simp only [Option.some.injEq, Prod.mk.injEq] at H
  obtain ⟨rfl, rfl, rfl, rfl, rfl⟩ := H
  go_enter Try.func41, Try.ntmps41
  go_wp2_with (first | ((with_reducible refine gate_dst (N := 1) rfl ?_); refine box_event ?hg (N := 1) ?hd (cs := #[.slice A0_0 l0_0.length c0_0, .slice A0_1 l0_1.length c0_1, .int .i64 a0_2, .slice A0_3 l0_3.length c0_3]) (t := 31) ?hr ?_; (case hd => rfl); (case hg => rfl); (case hr => first | (go_simp; done) | (go_simp; rfl)); intro gb337 hg w68 hbox hb; have BK337 := Aside0.mk (hbox); have GW337 := gE_ HB hg; have GE337 := gE_ HB hg; replace HB := bS_ HB hb; clear hb hbox hg) | ((with_reducible refine gate_dst (N := 2) rfl ?_); refine box_event ?hg (N := 2) ?hd (cs := #[.slice none 0 0, .slice none 0 0, .int .i64 0, .slice none 0 0]) (t := 31) ?hr ?_; (case hd => rfl); (case hg => rfl); (case hr => first | (go_simp; done) | (go_simp; rfl)); intro gb338 hg w69 hbox hb; have BK338 := Aside0.mk (hbox); have GW338 := gE_ HB hg; have GE338 := gE_ HB hg; replace HB := bS_ HB hb; have NB337_338 := nL_ BK337 hg; have NB338_337 := nG_ BK337 hg; replace BK337 := bB_ BK337 hb; clear hb hbox hg) | ((with_reducible refine gate_dst (N := 8) rfl ?_); refine Kd.R_lit (Kd.int .i64) _ 2 ?hg (N := 8) ?hd (xs := ([] : List Int)) (inner := []) (ok := fun _ => True) (okp := fun _ => True) ?hr ?hp (fun _ hk => hk) trivial (Below.refl _ _) (Nat.le_refl _) (by simp) ?_; (case hd => rfl); (case hg => rfl); (case hr => first | (go_simp; done) | (go_simp; rfl)); (case hp => exact (Reps.none _ _)); intro v340 w70 ho71 hb hg_ hnew_; clear hg_ hnew_; (first | rw [← Ny339.out] at ho71 | (simp only [Int.reduceToNat] at ho71; rw [← Ny339.out] at ho71)); have HO341 := rL_ ho71 HB; replace BK337 := bB_ BK337 hb; replace BK338 := bB_ BK338 hb; replace HB := bS_ HB hb; clear hb ho71; have hnb72 := NB337_338.out; have hnc72 := NB338_337.out; obtain ⟨hcz73_0, hcz73_1, hcz73_2, hcz73_3, hfz73_0, hfz73_1, hfz73_2, hfz73_3⟩ := cf4_ BK337) | ((with_reducible refine gate_callee (f := 58) rfl ?_); refine gL_ (some 10) Try.func58 #[.agg #[.slice A0_0 l0_0.length c0_0, .slice A0_1 l0_1.length c0_1, .int .i64 a0_2, .slice A0_3 l0_3.length c0_3]] ?_; (with_reducible refine (spec_l24Ok.calls k _ _ l0_0 _ _ l0_1 a0_2 _ _ l0_3 false _ ?side1 ?side2 ?side3 ?side4 ?side5 ?side6 A2.out).mono ?_); (case side1 => exact cB_ HR0_0 HB); (case side2 => exact HC0_0.out); (case side3 => exact cB_ HR0_1 HB); (case side4 => exact HC0_1.out); (case side5 => exact cB_ HR0_3 HB); (case side6 => exact HC0_3.out); rintro e w74 ⟨rfl, hb⟩; refine ⟨_, rfl, ?_⟩; replace HO341 := rB_ HO341 hb; replace BK337 := bB_ BK337 hb; replace BK338 := bB_ BK338 hb; replace HB := bS_ HB hb; (try clear hb); (try clear hk); obtain ⟨hcz75_0, hcz75_1, hcz75_2, hcz75_3, hfz75_0, hfz75_1, hfz75_2, hfz75_3⟩ := cf4_ BK338))
  refine bodyPost_ret (results_ct rfl _ _ gb338 31 #[.slice none 0 0, .slice none 0 0, .int .i64 0, .slice none 0 0] (0, 0) _ rfl (bP_ BK338) Try.underlying31 rfl (by kernel_rfl)) rfl ?_
  exact ⟨_, _, _, _, by first | rfl | (simp [errW_none, errW_some] <;> rfl) | (simp [*, errW_none, errW_some] <;> rfl), by first | exact Kd.S_nil _ _ _ _ _ | exact Kd.N_nil _ _ _ _ _ | exact Kd.V_nil _ _ _ _ _ | exact Kd.Q_nil _ _ _ _ _ | exact Kd.R_nil _ _ _ _ _, by first | exact Kd.R_nil _ _ _ _ _ | exact Kd.N_nil _ _ _ _ _ | exact Kd.V_nil _ _ _ _ _ | exact Kd.Q_nil _ _ _ _ _ | exact Kd.S_nil _ _ _ _ _, by first | exact Kd.R_nil _ _ _ _ _ | exact Kd.N_nil _ _ _ _ _ | exact Kd.V_nil _ _ _ _ _ | exact Kd.Q_nil _ _ _ _ _ | exact Kd.S_nil _ _ _ _ _, by (with_reducible repeat (first | apply Kd.R_alloc | apply Kd.R_drewN | apply Kd.R_drew)); exact Kd.R_mono (Kd.R_far (p := ⟨gb338, 3, none⟩) (Kd.R_far (p := ⟨gb338, 2, none⟩) (Kd.R_far (p := ⟨gb338, 1, none⟩) (Kd.R_far (p := ⟨gb338, 0, none⟩) (Kd.R_types HO341.out BK338.out (by decide)) (fun _ hk => hk.2) (.slice none 0 0)) (fun _ hk => hk.2) (.slice none 0 0)) (fun _ hk => hk.2) (.int .i64 0)) (fun _ hk => hk.2) (.slice none 0 0)) (fun _ hk => (by simp [Value.ownBlock])), sABelo_15⟩

end Go.Proofs.Ytjoghfehmhapbaa.QFnReportsAnyway
