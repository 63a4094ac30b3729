-- Written by a program of this session out of the printer's texts and contracts of its own.
import Derived.Test.YtjoghfehmhapbaaSq
import Derived.Test.YtjoghfehmhapbaaQFnExactStartTasksx0
import Derived.Test.YtjoghfehmhapbaaQFnExactStartTasksx4
import Derived.Test.YtjoghfehmhapbaaQFnExactStartTasksx13
import Derived.Test.YtjoghfehmhapbaaQFnExactStartTasksx14
namespace Go.Proofs.Ytjoghfehmhapbaa.QFnExactStartTasks
open Go.RowKit Go.Proofs.YtjoghfehmhapbaaW.PrintWords Go.Proofs.YtjoghfehmhapbaaW.PrintLast Go.Proofs.YtjoghfehmhapbaaW.PrintMore Go.Proofs.Ytjoghfehmhapbaa.Sq
attribute [local go_sem] max2_int min2_int max_two min_two max_three min_three max_four min_four   -- for this text's walks alone
set_option linter.unusedVariables false
set_option linter.unusedSimpArgs false
theorem sABelo_15 {b : Nat} {w W : World} (h : Below b w W := by repeat (first | (with_reducible first | exact Aside0.out (by assumption) | apply below_alloc | apply pw_below_drewN | apply below_drew1 | refine below_set ?_ (Aside0.out (by assumption))) | exact Aside0.out (by assumption))) : Below b w W := h

/-! ### spec_StartTasks: function 41 -/
def spec_StartTasks.l0 : Nat → List Int → Int → List (S39) → List Int → Int → List (S43) → Option ((List (S39)) × List Int × Int × (List (S43)) × List Int)
 | 0, _, _, _, _, _, _ => none
 | k + 1, x4, x6, x381000, x381001, x381002, x381003 => if x6 < (x381003.length : Int) then (if 0 ≤ x6 then (if x6 < (x381000.length : Int) then (if ((rd_T43 x381003 x6).f0) = 0 then ((spec_l24Free.f k x381000 x381001 x381002 x381003 x6).bind fun t383 => (if t383 = true then ((spec_l24Running.f k x381000 x381001 x381002 x381003 ((rd_T39 x381000 x6).f1)).bind fun t384 => (if 0 ≤ (wrap64 (((rd_T39 x381000 x6).f1) - 1)) then (if (wrap64 (((rd_T39 x381000 x6).f1) - 1)) < (x381001.length : Int) then (if t384 < (rd x381001 (wrap64 (((rd_T39 x381000 x6).f1) - 1))) then (if x4.length < 17592186044416 then (spec_StartTasks.l0 k (x4 ++ [wrap64 (x6 + 1)]) (wrap64 (x6 + 1)) x381000 x381001 x381002 (x381003.set (x6 : Int).toNat (⟨1, wrap64 (((rd_T43 x381003 x6).f1) + 1)⟩ : S43))) else (none)) else (spec_StartTasks.l0 k x4 (wrap64 (x6 + 1)) x381000 x381001 x381002 x381003)) else (none)) else (none))) else (spec_StartTasks.l0 k x4 (wrap64 (x6 + 1)) x381000 x381001 x381002 x381003))) else (spec_StartTasks.l0 k x4 (wrap64 (x6 + 1)) x381000 x381001 x381002 x381003)) else (none)) else (none)) else (some (x381000, x381001, x381002, x381003, x4))
def spec_StartTasks.f (k : Nat) (l0_0 : List (S39)) (l0_1 : List Int) (a0_2 : Int) (l0_3 : List (S43)) : Option ((List (S39)) × List Int × Int × (List (S43)) × List Int) := (some (([] : List Int) : List Int)).bind fun y366 => ((spec_l24Ok.f k l0_0 l0_1 a0_2 l0_3).bind fun t369 => (if t369 = true then ((spec_l24Copy.f k l0_0 l0_1 a0_2 l0_3).bind fun bt370 => (spec_StartTasks.l0 k y366 0 bt370.1 bt370.2.1 bt370.2.2.1 bt370.2.2.2)) else (some (([] : List (S39)), ([] : List Int), 0, ([] : List (S43)), y366))))
theorem spec_StartTasks.mono_l : ∀ k, (∀ y0 y1 y2 y3 y4 y5, LeO (spec_StartTasks.l0 k y0 y1 y2 y3 y4 y5) (spec_StartTasks.l0 (k + 1) y0 y1 y2 y3 y4 y5))
 | 0 => fun _ _ _ _ _ _ r h => by simp [spec_StartTasks.l0] at h
 | k + 1 => by
  have ih0 := spec_StartTasks.mono_l k
  ·intro y0 y1 y2 y3 y4 y5
   unfold spec_StartTasks.l0
   repeat' first
   | (with_reducible exact ih0 _ _ _ _ _ _)
   | (with_reducible exact spec_l24Copy.mono _ _ _ _ _)
   | (with_reducible exact spec_l24Free.mono _ _ _ _ _ _)
   | (with_reducible exact spec_l24Ok.mono _ _ _ _ _)
   | (with_reducible exact spec_l24Running.mono _ _ _ _ _ _)
   | (with_reducible exact LeO.refl _)
   | (with_reducible exact LeO.none _)
   | (with_reducible refine LeO.ite ?_ ?_)
   | (with_reducible refine LeO.bind ?_ (fun _ => ?_))
   | exact ih0 _ _ _ _ _ _
   | exact spec_l24Copy.mono _ _ _ _ _
   | exact spec_l24Free.mono _ _ _ _ _ _
   | exact spec_l24Ok.mono _ _ _ _ _
   | exact spec_l24Running.mono _ _ _ _ _ _
   | exact LeO.none _
   | refine LeO.ite ?_ ?_
   | refine LeO.bind ?_ (fun _ => ?_)
theorem spec_StartTasks.mono : ∀ a0 a1 a2 a3 k, LeO (spec_StartTasks.f k a0 a1 a2 a3) (spec_StartTasks.f (k + 1) a0 a1 a2 a3) := by
 intro a0 a1 a2 a3 k
 have ih0 := spec_StartTasks.mono_l k
 unfold spec_StartTasks.f
 repeat' first
   | (with_reducible exact ih0 _ _ _ _ _ _)
   | (with_reducible exact spec_l24Copy.mono _ _ _ _ _)
   | (with_reducible exact spec_l24Free.mono _ _ _ _ _ _)
   | (with_reducible exact spec_l24Ok.mono _ _ _ _ _)
   | (with_reducible exact spec_l24Running.mono _ _ _ _ _ _)
   | (with_reducible exact LeO.refl _)
   | (with_reducible exact LeO.none _)
   | (with_reducible refine LeO.ite ?_ ?_)
   | (with_reducible refine LeO.bind ?_ (fun _ => ?_))
   | exact ih0 _ _ _ _ _ _
   | exact spec_l24Copy.mono _ _ _ _ _
   | exact spec_l24Free.mono _ _ _ _ _ _
   | exact spec_l24Ok.mono _ _ _ _ _
   | exact spec_l24Running.mono _ _ _ _ _ _
   | exact LeO.none _
   | refine LeO.ite ?_ ?_
   | refine LeO.bind ?_ (fun _ => ?_)
def spec_StartTasks.T9 : Bool × List (List Nat × List Nat) := (true, [([], []), ([0], [0]), ([], []), ([1, 2], [1, 2]), ([3], [3]), ([4], [4]), ([5], [5]), ([6], [6]), ([7], [7]), ([7], [7]), ([8, 9, 7, 7], [7, 8, 9]), ([7, 10], [7, 10]), ([11, 10], [11]), ([12], [12]), ([12], [12]), ([13, 14, 12, 12], [12, 13, 14]), ([12], [12]), ([16, 12], [12, 16]), ([17, 12], [12, 17]), ([12], [12]), ([19, 12], [12, 19]), ([18, 20, 12], [12, 18, 20]), ([21, 12], [12, 21]), ([15, 22, 12], [12, 15, 22]), ([12, 23], [12, 23])])
def spec_StartTasks.B9 : List Nat := [0, 1, 0, 7, 15, 31, 63, 127, 255, 255, 1023, 2047, 4095, 8191, 8191, 32767, 8191, 73727, 204799, 8191, 532479, 2039807, 4136959, 8388607, 16777215]
theorem spec_StartTasks.tab9 : rtab .any (opsOf Try.f41 9) = spec_StartTasks.T9 := by kernel_rfl
theorem spec_StartTasks.bits9 : waitsOk spec_StartTasks.T9.2 spec_StartTasks.B9 = true := by kernel_rfl
def spec_StartTasks.T10 : Bool × List (List Nat × List Nat) := (true, [([], []), ([0], [0]), ([], []), ([], []), ([3], [3]), ([], []), ([4, 5], [4, 5]), ([6], [6]), ([7], [7]), ([8], [8]), ([9], [9]), ([1, 2, 0, 1, 2, 3, 4, 5, 6, 7, 8, 9, 10], [1, 2]), ([11, 10, 0, 1, 2, 3, 4, 5, 6, 7, 8, 9, 10], [10, 11])])
def spec_StartTasks.B10 : List Nat := [0, 1, 0, 0, 8, 0, 56, 120, 248, 504, 1016, 2047, 4095]
theorem spec_StartTasks.tab10 : rtab .any (opsOf Try.f41 10) = spec_StartTasks.T10 := by kernel_rfl
theorem spec_StartTasks.bits10 : waitsOk spec_StartTasks.T10.2 spec_StartTasks.B10 = true := by kernel_rfl
set_option maxHeartbeats 8000000 in
set_option maxRecDepth 100000 in
theorem spec_StartTasks.calls (k : Nat) (A0_0 : Option Addr) (c0_0 : Nat) (l0_0 : List (S39)) (A0_1 : Option Addr) (c0_1 : Nat) (l0_1 : List Int) (a0_2 : Int) (A0_3 : Option Addr) (c0_3 : Nat) (l0_3 : List (S43)) (r1 : List (S39)) (r2 : List Int) (r3 : Int) (r4 : List (S43)) (r5 : List Int) (w : World) (hr0_0 : Kd.C k39 w A0_0 l0_0.length l0_0) (hc0_0 : l0_0.length ≤ c0_0) (hr0_1 : Kd.C (Kd.int .i64) w A0_1 l0_1.length l0_1) (hc0_1 : l0_1.length ≤ c0_1) (hr0_3 : Kd.C k43 w A0_3 l0_3.length l0_3) (hc0_3 : l0_3.length ≤ c0_3) (h : spec_StartTasks.f k l0_0 l0_1 a0_2 l0_3 = some (r1, r2, r3, r4, r5)) :
  Calls Try.prog 41 #[.agg #[.slice A0_0 l0_0.length c0_0, .slice A0_1 l0_1.length c0_1, .int .i64 a0_2, .slice A0_3 l0_3.length c0_3]] w fun e w' => ∃ v0_ v1_ v3_ v4_ : Value, e = .returned (.tuple #[.agg #[v0_, v1_, .int .i64 r3, v3_], v4_]) ∧ Kd.S k39 39 w' w.heap.size (fun k_ => some k_ ≠ (v1_ : Value).ownBlock ∧ some k_ ≠ (v4_ : Value).ownBlock) v0_ r1 ∧ Kd.R (Kd.int .i64) 2 w' w.heap.size (fun k_ => some k_ ≠ (v4_ : Value).ownBlock) v1_ r2 ∧ Kd.R k43 43 w' w.heap.size (fun _ => True) v3_ r4 ∧ Kd.R (Kd.int .i64) 2 w' w.heap.size (fun k_ => some k_ ≠ (v1_ : Value).ownBlock) v4_ r5 ∧ Below w.heap.size w w' := by
 have hu31 := Try.underlying31; have hu43 := Try.underlying43; have HR0_0 := Aside0.mk hr0_0; have HC0_0 := Aside0.mk hc0_0; clear hr0_0 hc0_0; have HR0_1 := Aside0.mk hr0_1; have HC0_1 := Aside0.mk hc0_1; clear hr0_1 hc0_1; have HR0_3 := Aside0.mk hr0_3; have HC0_3 := Aside0.mk hc0_3; clear hr0_3 hc0_3
 have HB := Aside0.mk (Below.refl w.heap.size w)
 have H : ((some (([] : List Int) : List Int)).bind fun y366 => ((spec_l24Ok.f k l0_0 l0_1 a0_2 l0_3).bind fun t369 => (if t369 = true then ((spec_l24Copy.f k l0_0 l0_1 a0_2 l0_3).bind fun bt370 => (spec_StartTasks.l0 k y366 0 bt370.1 bt370.2.1 bt370.2.2.1 bt370.2.2.2)) else (some (([] : List (S39)), ([] : List Int), 0, ([] : List (S43)), y366))))) = some (r1, r2, r3, r4, r5) := h
 clear h
 obtain ⟨y366, hy366⟩ : ∃ y_ : List Int, y_ = (([] : List Int)) := ⟨_, rfl⟩
 replace H : ((spec_l24Ok.f k l0_0 l0_1 a0_2 l0_3).bind fun t369 => (if t369 = true then ((spec_l24Copy.f k l0_0 l0_1 a0_2 l0_3).bind fun bt370 => (spec_StartTasks.l0 k y366 0 bt370.1 bt370.2.1 bt370.2.2.1 bt370.2.2.2)) else (some (([] : List (S39)), ([] : List Int), 0, ([] : List (S43)), y366)))) = some (r1, r2, r3, r4, r5) := by first | (rw [hy366]; with_reducible exact H) | (have H2_ := (Option.bind_some _ _).symm.trans H; rw [hy366]; with_reducible exact H2_) | (have H2_ := (Option.bind_some _ _).symm.trans H; with_reducible exact H2_) | with_reducible exact H | (rw [hy366]; exact H) | exact H
 have Ny366 := Aside0.mk hy366; clear hy366; replace H := Option.bind_eq_some_iff.mp H
 obtain ⟨t369, A20, H⟩ := H
 replace H : (if t369 = true then ((spec_l24Copy.f k l0_0 l0_1 a0_2 l0_3).bind fun bt370 => (spec_StartTasks.l0 k y366 0 bt370.1 bt370.2.1 bt370.2.2.1 bt370.2.2.2)) else (some (([] : List (S39)), ([] : List Int), 0, ([] : List (S43)), y366))) = some (r1, r2, r3, r4, r5) := H
 have A2 := Aside0.mk A20; clear A20
 by_cases c3 : t369 = true
 ·subst c3
  replace H := ifT_ H; replace H := Option.bind_eq_some_iff.mp H
  obtain ⟨⟨t370, t373, t376, t377⟩, A40, H⟩ := H
  replace H : (spec_StartTasks.l0 k y366 0 t370 t373 t376 t377) = some (r1, r2, r3, r4, r5) := H
  have A4 := Aside0.mk A40; clear A40; have H' := Aside0.mk H; clear H
  go_enter Try.func41, Try.ntmps41
  go_wp2_with (first | ((with_reducible refine gate_dst (N := 1) rfl ?_); refine box_event ?hg (N := 1) ?hd (cs := #[.slice A0_0 l0_0.length c0_0, .slice A0_1 l0_1.length c0_1, .int .i64 a0_2, .slice A0_3 l0_3.length c0_3]) (t := 31) ?hr ?_; (case hd => rfl); (case hg => rfl); (case hr => first | (go_simp; done) | (go_simp; rfl)); intro gb364 hg w5 hbox hb; have BK364 := Aside0.mk (hbox); have GW364 := gE_ HB hg; have GE364 := gE_ HB hg; replace HB := bS_ HB hb; clear hb hbox hg) | ((with_reducible refine gate_dst (N := 2) rfl ?_); refine box_event ?hg (N := 2) ?hd (cs := #[.slice none 0 0, .slice none 0 0, .int .i64 0, .slice none 0 0]) (t := 31) ?hr ?_; (case hd => rfl); (case hg => rfl); (case hr => first | (go_simp; done) | (go_simp; rfl)); intro gb365 hg w6 hbox hb; have BK365 := Aside0.mk (hbox); have GW365 := gE_ HB hg; have GE365 := gE_ HB hg; replace HB := bS_ HB hb; have NB364_365 := nL_ BK364 hg; have NB365_364 := nG_ BK364 hg; replace BK364 := bB_ BK364 hb; clear hb hbox hg) | ((with_reducible refine gate_dst (N := 8) rfl ?_); refine Kd.R_lit (Kd.int .i64) _ 2 ?hg (N := 8) ?hd (xs := ([] : List Int)) (inner := []) (ok := fun _ => True) (okp := fun _ => True) ?hr ?hp (fun _ hk => hk) trivial (Below.refl _ _) (Nat.le_refl _) (by simp) ?_; (case hd => rfl); (case hg => rfl); (case hr => first | (go_simp; done) | (go_simp; rfl)); (case hp => exact (Reps.none _ _)); intro v367 w7 ho8 hb hg_ hnew_; clear hg_ hnew_; (first | rw [← Ny366.out] at ho8 | (simp only [Int.reduceToNat] at ho8; rw [← Ny366.out] at ho8)); have HO368 := rL_ ho8 HB; replace BK364 := bB_ BK364 hb; replace BK365 := bB_ BK365 hb; replace HB := bS_ HB hb; clear hb ho8; have hnb9 := NB364_365.out; have hnc9 := NB365_364.out; obtain ⟨hcz10_0, hcz10_1, hcz10_2, hcz10_3, hfz10_0, hfz10_1, hfz10_2, hfz10_3⟩ := cf4_ BK364) | ((with_reducible refine gate_callee (f := 58) rfl ?_); refine gL_ (some 10) Try.func58 #[.agg #[.slice A0_0 l0_0.length c0_0, .slice A0_1 l0_1.length c0_1, .int .i64 a0_2, .slice A0_3 l0_3.length c0_3]] ?_; (with_reducible refine (spec_l24Ok.calls k _ _ l0_0 _ _ l0_1 a0_2 _ _ l0_3 true _ ?side1 ?side2 ?side3 ?side4 ?side5 ?side6 A2.out).mono ?_); (case side1 => exact cB_ HR0_0 HB); (case side2 => exact HC0_0.out); (case side3 => exact cB_ HR0_1 HB); (case side4 => exact HC0_1.out); (case side5 => exact cB_ HR0_3 HB); (case side6 => exact HC0_3.out); rintro e w11 ⟨rfl, hb⟩; refine ⟨_, rfl, ?_⟩; replace HO368 := rB_ HO368 hb; replace BK364 := bB_ BK364 hb; replace BK365 := bB_ BK365 hb; replace HB := bS_ HB hb; (try clear hb); (try clear hk); obtain ⟨hcz12_0, hcz12_1, hcz12_2, hcz12_3, hfz12_0, hfz12_1, hfz12_2, hfz12_3⟩ := cf4_ BK364) | ((with_reducible refine gate_callee (f := 59) rfl ?_); refine gL_ (some 15) Try.func59 #[.agg #[.slice A0_0 l0_0.length c0_0, .slice A0_1 l0_1.length c0_1, .int .i64 a0_2, .slice A0_3 l0_3.length c0_3]] ?_; (with_reducible refine (spec_l24Copy.calls k _ _ l0_0 _ _ l0_1 a0_2 _ _ l0_3 t370 t373 t376 t377 _ ?side1 ?side2 ?side3 ?side4 ?side5 ?side6 A4.out).mono ?_); (case side1 => exact cB_ HR0_0 HB); (case side2 => exact HC0_0.out); (case side3 => exact cB_ HR0_1 HB); (case side4 => exact HC0_1.out); (case side5 => exact cB_ HR0_3 HB); (case side6 => exact HC0_3.out); rintro e w13 ⟨v371, v374, v378, rfl, ho0, ho1, ho2, hb⟩; refine ⟨_, rfl, ?_⟩; have HO372 := sL_ (Kd.S_new' ho0 (rLt_ HO368)) HB; have HO375 := rL_ (rN_ ho1 HO368) HB; replace HO368 := rE_ HO368 ho1 hb; have HO379 := rL_ ho2 HB; replace BK364 := bB_ BK364 hb; replace BK365 := bB_ BK365 hb; replace HB := bS_ HB hb; (try clear hb); (try clear hk); (try clear ho0); (try clear ho1); (try clear ho2)) | ((with_reducible refine gate_dst (N := 5) rfl ?_); refine box_event ?hg (N := 5) ?hd (cs := #[.slice none 0 0, .slice none 0 0, .int .i64 0, .slice none 0 0]) (t := 31) ?hr ?_; (case hd => rfl); (case hg => rfl); (case hr => first | (go_simp; done) | (go_simp; rfl)); intro gb380 hg w14 hbox hb; replace HO368 := rB_ HO368 hb; replace HO372 := sB_ HO372 hb; replace HO375 := rB_ HO375 hb; replace HO379 := rB_ HO379 hb; have BK380 := Aside0.mk (hbox); have GW380 := gE_ HB hg; have GE380 := gE_ HB hg; replace HB := bS_ HB hb; have NB364_380 := nL_ BK364 hg; have NB380_364 := nG_ BK364 hg; replace BK364 := bB_ BK364 hb; have NB365_380 := nL_ BK365 hg; have NB380_365 := nG_ BK365 hg; replace BK365 := bB_ BK365 hb; clear hb hbox hg; obtain ⟨Ao15, co15, eo15⟩ := Kd.S_slice HO372.out; subst eo15; have hnb16 := NB380_364.out; have hnc16 := NB364_380.out; have hnb17 := NB380_365.out; have hnc17 := NB365_380.out; obtain ⟨hcz18_0, hcz18_1, hcz18_2, hcz18_3, hfz18_0, hfz18_1, hfz18_2, hfz18_3⟩ := cf4_ BK380; obtain ⟨Ao19, co19, eo19⟩ := Kd.R_slice HO375.out; subst eo19; obtain ⟨Ao20, co20, eo20⟩ := Kd.R_slice HO379.out; subst eo20))
  go_loopg [4, 6] k (fun kq v4 v6 w' => ∃ (x4_1 : List Int) (x6_1 : Int) (x381003_1 : List (S43)) (u381003 : Value), v6 = .int .i64 x6_1 ∧ Aside0 (spec_StartTasks.l0 kq x4_1 x6_1 t370 t373 t376 x381003_1 = some (r1, r2, r3, r4, r5)) ∧ Aside0 (kq ≤ k) ∧ Aside0 (Kd.R (Kd.int .i64) 2 w' w.heap.size (fun k_ => some k_ ≠ ((.slice Ao19 t373.length co19) : Value).ownBlock) v4 x4_1) ∧ Aside0 (Kd.S k39 39 w' w.heap.size (fun k_ => some k_ ≠ (v4 : Value).ownBlock ∧ some k_ ≠ ((.slice Ao19 t373.length co19) : Value).ownBlock) (.slice Ao15 t370.length co15) t370) ∧ Aside0 (Kd.R (Kd.int .i64) 2 w' w.heap.size (fun k_ => some k_ ≠ (v4 : Value).ownBlock) (.slice Ao19 t373.length co19) t373) ∧ Aside0 (Kd.R k43 43 w' w.heap.size (fun _ => True) u381003 x381003_1) ∧ Aside0 (w'.heap[gb364]? = some (.cells #[(.slice A0_0 l0_0.length c0_0), (.slice A0_1 l0_1.length c0_1), .int .i64 a0_2, (.slice A0_3 l0_3.length c0_3)] 31 (0, 0))) ∧ Aside0 (w'.heap[gb365]? = some (.cells #[(.slice none 0 0), (.slice none 0 0), .int .i64 0, (.slice none 0 0)] 31 (0, 0))) ∧ Aside0 (w'.heap[gb380]? = some (.cells #[(.slice Ao15 t370.length co15), (.slice Ao19 t373.length co19), .int .i64 t376, u381003] 31 (0, 0))) ∧ Aside0 (Below w.heap.size w w'))
  case atStart => exact ⟨(y366), (0), (t377), (.slice Ao20 t377.length co20), (by first | rfl | (simp; done) | (simp [*]; done)), H', ⟨Nat.le_refl _⟩, ⟨rFM_ HO368 BK380⟩, ⟨sFM_ HO372 BK380⟩, ⟨rFM_ HO375 BK380⟩, ⟨rFM_ HO379 BK380⟩, ⟨bF_ BK364 NB364_380⟩, ⟨bF_ BK365 NB365_380⟩, ⟨bP_ BK380⟩, ⟨sABelo_15⟩⟩
  case round =>
   clear H'; (try clear c3); (try clear hcz10_0); (try clear hcz10_1); (try clear hcz10_2); (try clear hcz10_3); (try clear hcz12_0); (try clear hcz12_1); (try clear hcz12_2); (try clear hcz12_3); (try clear hcz18_0); (try clear hcz18_1); (try clear hcz18_2); (try clear hcz18_3); (try clear hfz10_0); (try clear hfz10_1); (try clear hfz10_2); (try clear hfz10_3); (try clear hfz12_0); (try clear hfz12_1); (try clear hfz12_2); (try clear hfz12_3); (try clear hfz18_0); (try clear hfz18_1); (try clear hfz18_2); (try clear hfz18_3)
   obtain ⟨x4_1, x6_1, x381003_1, u381003, rfl, HA, HK1, HO_4, HO_381000, HO_381001, HO_381003, BK364, BK365, BK380, HB⟩ := hrel
   cases gk with
   | zero => exact absurd HA.out (by simp [spec_StartTasks.l0])
   | succ k1 =>
    have H := HA.out; clear HA
    simp only [spec_StartTasks.l0] at H
    by_cases c21 : x6_1 < (x381003_1.length : Int)
    ·rw [if_pos c21] at H
     have c21b0 := decide_eq_true c21
     clear c21
     obtain ⟨c22, H⟩ := ifS_ H
     have c22b0 : decide (0 ≤ x6_1) = true := decide_eq_true c22
     clear c22
     obtain ⟨c23, H⟩ := ifS_ H
     have c23b0 : decide (x6_1 < (t370.length : Int)) = true := decide_eq_true c23
     clear c23
     by_cases c24 : ((rd_T43 x381003_1 x6_1).f0) = 0
     ·rw [if_pos c24] at H
      have c24b0 := beq_iff_eq.mpr c24
      have c24b1 := bne_eq_false_iff_eq.mpr c24
      clear c24; replace H := Option.bind_eq_some_iff.mp H
      obtain ⟨t383, A250, H⟩ := H
      replace H : (if t383 = true then ((spec_l24Running.f k1 t370 t373 t376 x381003_1 ((rd_T39 t370 x6_1).f1)).bind fun t384 => (if 0 ≤ (wrap64 (((rd_T39 t370 x6_1).f1) - 1)) then (if (wrap64 (((rd_T39 t370 x6_1).f1) - 1)) < (t373.length : Int) then (if t384 < (rd t373 (wrap64 (((rd_T39 t370 x6_1).f1) - 1))) then (if x4_1.length < 17592186044416 then (spec_StartTasks.l0 k1 (x4_1 ++ [wrap64 (x6_1 + 1)]) (wrap64 (x6_1 + 1)) t370 t373 t376 (x381003_1.set (x6_1 : Int).toNat (⟨1, wrap64 (((rd_T43 x381003_1 x6_1).f1) + 1)⟩ : S43))) else (none)) else (spec_StartTasks.l0 k1 x4_1 (wrap64 (x6_1 + 1)) t370 t373 t376 x381003_1)) else (none)) else (none))) else (spec_StartTasks.l0 k1 x4_1 (wrap64 (x6_1 + 1)) t370 t373 t376 x381003_1)) = some (r1, r2, r3, r4, r5) := H
      have A25 := Aside0.mk A250; clear A250
      by_cases c26 : t383 = true
      ·subst c26
       replace H := ifT_ H; replace H := Option.bind_eq_some_iff.mp H
       obtain ⟨t384, A270, H⟩ := H
       replace H : (if 0 ≤ (wrap64 (((rd_T39 t370 x6_1).f1) - 1)) then (if (wrap64 (((rd_T39 t370 x6_1).f1) - 1)) < (t373.length : Int) then (if t384 < (rd t373 (wrap64 (((rd_T39 t370 x6_1).f1) - 1))) then (if x4_1.length < 17592186044416 then (spec_StartTasks.l0 k1 (x4_1 ++ [wrap64 (x6_1 + 1)]) (wrap64 (x6_1 + 1)) t370 t373 t376 (x381003_1.set (x6_1 : Int).toNat (⟨1, wrap64 (((rd_T43 x381003_1 x6_1).f1) + 1)⟩ : S43))) else (none)) else (spec_StartTasks.l0 k1 x4_1 (wrap64 (x6_1 + 1)) t370 t373 t376 x381003_1)) else (none)) else (none)) = some (r1, r2, r3, r4, r5) := H
       have A27 := Aside0.mk A270; clear A270
       obtain ⟨ji28, hji28⟩ : ∃ j_ : Int, (wrap64 (((rd_T39 t370 x6_1).f1) - 1)) = j_ := ⟨_, rfl⟩
       replace H : (if 0 ≤ (ji28) then (if (ji28) < (t373.length : Int) then (if t384 < (rd t373 (ji28)) then (if x4_1.length < 17592186044416 then (spec_StartTasks.l0 k1 (x4_1 ++ [wrap64 (x6_1 + 1)]) (wrap64 (x6_1 + 1)) t370 t373 t376 (x381003_1.set (x6_1 : Int).toNat (⟨1, wrap64 (((rd_T43 x381003_1 x6_1).f1) + 1)⟩ : S43))) else (none)) else (spec_StartTasks.l0 k1 x4_1 (wrap64 (x6_1 + 1)) t370 t373 t376 x381003_1)) else (none)) else (none)) = some (r1, r2, r3, r4, r5) := by first | (rw [hji28] at H; exact H) | (simp only [hji28] at H ⊢; exact H)
       (try rw [hji28] at A25)
       (try rw [hji28] at A27)
       have hji28w : (IntKind.i64.wrap (((rd_T39 t370 x6_1).f1) - 1)) = ji28 := (i64_w _).trans hji28
       obtain ⟨c29, H⟩ := ifS_ H
       have c29b0 : decide (0 ≤ (ji28)) = true := decide_eq_true c29
       clear c29
       obtain ⟨c30, H⟩ := ifS_ H
       have c30b0 : decide ((ji28) < (t373.length : Int)) = true := decide_eq_true c30
       clear c30
       by_cases c31 : t384 < (rd t373 (ji28))
       ·rw [if_pos c31] at H
        have c31b0 := decide_eq_true c31
        clear c31
        obtain ⟨y387, hy387⟩ : ∃ y_ : List (S43), y_ = (x381003_1.set (x6_1 : Int).toNat (⟨1, wrap64 (((rd_T43 x381003_1 x6_1).f1) + 1)⟩ : S43)) := ⟨_, rfl⟩
        replace H : (if x4_1.length < 17592186044416 then (spec_StartTasks.l0 k1 (x4_1 ++ [wrap64 (x6_1 + 1)]) (wrap64 (x6_1 + 1)) t370 t373 t376 y387) else (none)) = some (r1, r2, r3, r4, r5) := by first | (rw [hy387]; with_reducible exact H) | (have H2_ := (Option.bind_some _ _).symm.trans H; rw [hy387]; with_reducible exact H2_) | (have H2_ := (Option.bind_some _ _).symm.trans H; with_reducible exact H2_) | with_reducible exact H | (rw [hy387]; exact H) | exact H
        have Ny387 := Aside0.mk hy387; clear hy387
        obtain ⟨c33, H⟩ := ifS_ H
        have LMc33 := Aside0.mk c33; clear c33
        obtain ⟨y388, hy388⟩ : ∃ y_ : List Int, y_ = (x4_1 ++ [wrap64 (x6_1 + 1)]) := ⟨_, rfl⟩
        replace H : (spec_StartTasks.l0 k1 y388 (wrap64 (x6_1 + 1)) t370 t373 t376 y387) = some (r1, r2, r3, r4, r5) := by first | (rw [hy388]; with_reducible exact H) | (have H2_ := (Option.bind_some _ _).symm.trans H; rw [hy388]; with_reducible exact H2_) | (have H2_ := (Option.bind_some _ _).symm.trans H; with_reducible exact H2_) | with_reducible exact H | (rw [hy388]; exact H) | exact H
        have Ny388 := Aside0.mk hy388; clear hy388; have H' := Aside0.mk H; clear H; have hnb34 := NB380_364.out; have hnc34 := NB364_380.out; have hnb35 := NB380_365.out; have hnc35 := NB365_380.out
        obtain ⟨hcz36_0, hcz36_1, hcz36_2, hcz36_3, hfz36_0, hfz36_1, hfz36_2, hfz36_3⟩ := cf4_ BK380
        obtain ⟨Ao37, co37, eo37⟩ := Kd.R_slice HO_381003.out
        subst eo37
        have p381 : 0 ≤ (x6_1 : Int) := dA_
        have q381 : x6_1 < (t370.length : Int) := dA_
        obtain ⟨ad381, A381_0, c381_0, e381, hx381_0, hx381_1, hx381_2, hx381_3, hl381_0, hi381_0⟩ := at_T39 (Kd.S_reads' HO_381000.out).2.2 x6_1 p381 q381
        cases e381
        obtain ⟨ce381, hce381, hMe381, hcc381⟩ := Kd.S_get HO_381000.out z39 x6_1 p381 (by first | exact q381 | exact of_decide_eq_true (by first | (with_reducible assumption) | assumption) | (have e_ := (Kd.S_reads' HO_381000.out).1; omega))
        obtain ⟨ve381_0, rfl, ge381_0⟩ := k39_openM hMe381
        have hv381_0 := hcc381 0 _ rfl
        rw [Nat.add_zero] at hv381_0
        replace hv381_0 := Option.some.inj (hv381_0.symm.trans hx381_0)
        rw [hv381_0] at ge381_0
        have HL381_0 := Aside0.mk (show Kd.R (Kd.int .i64) 2 _ _ _ _ ((rd_T39 t370 x6_1).f0) from ge381_0)
        clear hv381_0 ge381_0 hcc381 hce381; have HR381_0 := Aside0.mk hi381_0; have HC381_0 := Aside0.mk hl381_0; clear hi381_0 hl381_0; replace p381 := eq_true p381; replace q381 := eq_true q381
        try go_wp2
        replace HO_4 := Aside0.mk (Kd.R_drew HO_4.out)
        replace HO_381000 := Aside0.mk (Kd.S_drew HO_381000.out)
        replace HO_381001 := Aside0.mk (Kd.R_drew HO_381001.out)
        replace HO_381003 := Aside0.mk (Kd.R_drew HO_381003.out)
        replace HL381_0 := Aside0.mk (Kd.R_drew HL381_0.out)
        replace BK364 := Aside0.mk (blk_drew BK364.out)
        replace BK365 := Aside0.mk (blk_drew BK365.out)
        replace BK380 := Aside0.mk (blk_drew BK380.out)
        replace HR381_0 := Aside0.mk (Kd.C_drew HR381_0.out)
        replace HB := Aside0.mk (below_drew1 HB.out)
        have p382 : 0 ≤ (x6_1 : Int) := dA_
        have q382 : x6_1 < (x381003_1.length : Int) := dA_
        obtain ⟨ad382, e382, hx382_0, hx382_1⟩ := at_T43 (Kd.R_reads' HO_381003.out).2.2 x6_1 p382 q382
        cases e382
        replace p382 := eq_true p382; replace q382 := eq_true q382
        have p385 : 0 ≤ ((ji28) : Int) := dA_
        have q385 : (ji28) < (t373.length : Int) := dA_
        obtain ⟨ad385, e385, hx385_0⟩ := Kd.at_int (Kd.R_reads' HO_381001.out).2.2 (ji28) p385 q385
        cases e385
        replace p385 := eq_true p385; replace q385 := eq_true q385
        refine start_ (n := 25) (S := fun w' => w'.cell? ⟨gb380, 0, none⟩ = some (.slice (some ad381) t370.length co15) ∧ w'.cell? ⟨gb380, 1, none⟩ = some (.slice (some ad385) t373.length co19) ∧ w'.cell? ⟨gb380, 2, none⟩ = some (.int .i64 t376) ∧ w'.cell? ⟨gb380, 3, none⟩ = some (.slice (some ad382) x381003_1.length co37) ∧ w'.cell? (ad382.add ((x6_1).toNat * 2)) = some (.int .i64 ((rd_T43 x381003_1 x6_1).f0)) ∧ w'.cell? ⟨(ad382.add ((x6_1).toNat * 2)).block, (ad382.add ((x6_1).toNat * 2)).off + 1, none⟩ = some (.int .i64 ((rd_T43 x381003_1 x6_1).f1)) ∧ w'.cell? (ad385.add ((ji28)).toNat) = some (.int .i64 (rd t373 (ji28)))) (ds := []) #[false, false, false, false, false, false, false, false, false, false, false, false, false, false, false, false, false, false, false, false, false, false, false, false, false] (by kernel_rfl) rfl rfl ⟨(blk_cell BK380.out 0).trans rfl, (blk_cell BK380.out 1).trans rfl, (blk_cell BK380.out 2).trans rfl, (blk_cell BK380.out 3).trans rfl, hx382_0, hx382_1, hx385_0⟩ (fun hHeld => ?_); refine with_tabW spec_StartTasks.tab9 spec_StartTasks.bits9 (fun HT_ HW_ => ?_)
        generalize wr.drew = w38 at HO_4 HO_381000 HO_381001 HO_381003 HL381_0 BK364 BK365 BK380 HR381_0 HB hx382_0 hx382_1 hx385_0 hHeld ⊢
        refine pT_ 0 (some 30) #[true, false, false, false, false, false, false, false, false, false, false, false, false, false, false, false, false, false, false, false, false, false, false, false, false] HT_ ?_
        refine pT_ 2 (some 32) #[true, false, true, false, false, false, false, false, false, false, false, false, false, false, false, false, false, false, false, false, false, false, false, false, false] HT_ ?_
        refine tT_ 1 (some 31) #[true, true, true, false, false, false, false, false, false, false, false, false, false, false, false, false, false, false, false, false, false, false, false, false, false] HT_ HW_ hHeld ?_ (hy := by rintro w' ⟨s0, s1, s2, s3, s4, s5, s6⟩; go_simp; with_reducible rfl)
        refine pT_ 3 (some 33) #[true, true, true, true, false, false, false, false, false, false, false, false, false, false, false, false, false, false, false, false, false, false, false, false, false] HT_ ?_
        refine pT_ 4 (some 34) #[true, true, true, true, true, false, false, false, false, false, false, false, false, false, false, false, false, false, false, false, false, false, false, false, false] HT_ ?_
        refine tT_ 5 (some 35) #[true, true, true, true, true, true, false, false, false, false, false, false, false, false, false, false, false, false, false, false, false, false, false, false, false] HT_ HW_ hHeld ?_ (hy := by rintro w' ⟨s0, s1, s2, s3, s4, s5, s6⟩; go_simp; with_reducible rfl)
        refine pT_ 6 (some 36) #[true, true, true, true, true, true, true, false, false, false, false, false, false, false, false, false, false, false, false, false, false, false, false, false, false] HT_ ?_
        refine pT_ 7 (some 37) #[true, true, true, true, true, true, true, true, false, false, false, false, false, false, false, false, false, false, false, false, false, false, false, false, false] HT_ ?_
        refine pT_ 9 (some 39) #[true, true, true, true, true, true, true, true, false, true, false, false, false, false, false, false, false, false, false, false, false, false, false, false, false] HT_ ?_
        refine tT_ 8 (some 38) #[true, true, true, true, true, true, true, true, true, true, false, false, false, false, false, false, false, false, false, false, false, false, false, false, false] HT_ HW_ hHeld ?_ (hy := by rintro w' ⟨s0, s1, s2, s3, s4, s5, s6⟩; go_simp; with_reducible rfl)
        refine one_ (i := 10) (N := some 40) #[true, true, true, true, true, true, true, true, true, true, true, false, false, false, false, false, false, false, false, false, false, false, false, false, false] rfl rfl (one_of HT_.out (by kernel_rfl)) (by decide) (fun K hK => ?_)
        refine goes_ Try.func74 (by kernel_rfl) rfl #[.agg #[.slice (some ad381) t370.length co15, .slice (some ad385) t373.length co19, .int .i64 t376, .slice (some ad382) x381003_1.length co37], .int .i64 x6_1] (by rfl) rfl rfl (by (try simp only [List.map_toArray, List.map_cons, List.map_nil]); first | done | rfl | (simp only [List.length_drop, List.length_take]; rfl)) ?_
        with_reducible refine (spec_l24Free.calls k1 _ _ t370 _ _ t373 t376 _ _ x381003_1 x6_1 true _ ?side1 ?side2 ?side3 ?side4 ?side5 ?side6 A25.out).mono ?_
        (case side1 => exact sD_ HO_381000)
        (case side2 => exact (Kd.S_reads' HO_381000.out).2.1)
        (case side3 => exact rD_ HO_381001)
        (case side4 => exact (Kd.R_reads' HO_381001.out).2.1)
        (case side5 => exact rD_ HO_381003)
        (case side6 => exact (Kd.R_reads' HO_381003.out).2.1)
        rintro e w39 ⟨rfl, hb⟩
        have HS4_ := (hb.cell (World.block_lt_of_cell? _ _ (hHeld.2.2.2.2.1))).trans (hHeld.2.2.2.2.1)
        have HS5_ := (hb.cell (World.block_lt_of_cell? _ _ (hHeld.2.2.2.2.2.1))).trans (hHeld.2.2.2.2.2.1)
        have HS6_ := (hb.cell (World.block_lt_of_cell? _ _ (hHeld.2.2.2.2.2.2))).trans (hHeld.2.2.2.2.2.2)
        refine ⟨_, rfl, ?_⟩
        replace HO_4 := rB_ HO_4 hb; replace HO_381000 := sB_ HO_381000 hb; replace HO_381001 := rB_ HO_381001 hb; replace HO_381003 := rB_ HO_381003 hb; replace HL381_0 := rB_ HL381_0 hb; replace BK364 := bB_ BK364 hb; replace BK365 := bB_ BK365 hb; replace BK380 := bB_ BK380 hb
        replace HR381_0 := Aside0.mk (Kd.C_below (by repeat (first | (with_reducible exact HR381_0.out) | (with_reducible refine Kd.C_alloc ?_ _) | (with_reducible refine Kd.C_drewN ?_ _) | (with_reducible refine Kd.C_drew ?_) | exact HR381_0.out)) hb)
        replace HB := bS_ HB hb; (try clear hb); (try clear hk)
        refine hK.out _ _ ⟨(blk_cell BK380.out 0).trans rfl, (blk_cell BK380.out 1).trans rfl, (blk_cell BK380.out 2).trans rfl, (blk_cell BK380.out 3).trans rfl, HS4_, HS5_, HS6_⟩ (fun hHeld => ?_)
        clear hK K
        refine nS_ (some 40) ?_
        refine pT_ 11 (some 41) #[true, true, true, true, true, true, true, true, true, true, true, true, false, false, false, false, false, false, false, false, false, false, false, false, false] HT_ ?_
        refine pT_ 12 (some 42) #[true, true, true, true, true, true, true, true, true, true, true, true, true, false, false, false, false, false, false, false, false, false, false, false, false] HT_ ?_
        refine pT_ 14 (some 44) #[true, true, true, true, true, true, true, true, true, true, true, true, true, false, true, false, false, false, false, false, false, false, false, false, false] HT_ ?_
        refine pT_ 16 (some 46) #[true, true, true, true, true, true, true, true, true, true, true, true, true, false, true, false, true, false, false, false, false, false, false, false, false] HT_ ?_
        refine pT_ 17 (some 47) #[true, true, true, true, true, true, true, true, true, true, true, true, true, false, true, false, true, true, false, false, false, false, false, false, false] HT_ ?_
        refine pT_ 19 (some 49) #[true, true, true, true, true, true, true, true, true, true, true, true, true, false, true, false, true, true, false, true, false, false, false, false, false] HT_ ?_
        refine pT_ 20 (some 50) #[true, true, true, true, true, true, true, true, true, true, true, true, true, false, true, false, true, true, false, true, true, false, false, false, false] HT_ ?_
        refine tT_ 13 (some 43) #[true, true, true, true, true, true, true, true, true, true, true, true, true, true, true, false, true, true, false, true, true, false, false, false, false] HT_ HW_ hHeld ?_ (hy := by rintro w' ⟨s0, s1, s2, s3, s4, s5, s6⟩; go_simp; with_reducible rfl)
        refine tT_ 18 (some 48) #[true, true, true, true, true, true, true, true, true, true, true, true, true, true, true, false, true, true, true, true, true, false, false, false, false] HT_ HW_ hHeld ?_ (hy := by rintro w' ⟨s0, s1, s2, s3, s4, s5, s6⟩; go_simp; with_reducible rfl)
        refine pT_ 21 (some 51) #[true, true, true, true, true, true, true, true, true, true, true, true, true, true, true, false, true, true, true, true, true, true, false, false, false] HT_ ?_
        refine tT_ 22 (some 52) #[true, true, true, true, true, true, true, true, true, true, true, true, true, true, true, false, true, true, true, true, true, true, true, false, false] HT_ HW_ hHeld ?_ (hy := by rintro w' ⟨s0, s1, s2, s3, s4, s5, s6⟩; go_simp; with_reducible rfl)
        refine one_ (i := 15) (N := some 45) #[true, true, true, true, true, true, true, true, true, true, true, true, true, true, true, true, true, true, true, true, true, true, true, false, false] rfl rfl (one_of HT_.out (by kernel_rfl)) (by decide) (fun K hK => ?_)
        refine goes_ Try.func75 (by kernel_rfl) rfl #[.agg #[.slice (some ad381) t370.length co15, .slice (some ad385) t373.length co19, .int .i64 t376, .slice (some ad382) x381003_1.length co37], .int .i64 ((rd_T39 t370 x6_1).f1)] (by rfl) rfl rfl (by (try simp only [List.map_toArray, List.map_cons, List.map_nil]); first | done | rfl | (simp only [List.length_drop, List.length_take]; rfl)) ?_
        with_reducible refine (spec_l24Running.calls k1 _ _ t370 _ _ t373 t376 _ _ x381003_1 ((rd_T39 t370 x6_1).f1) t384 _ ?side1 ?side2 ?side3 ?side4 ?side5 ?side6 A27.out).mono ?_
        (case side1 => exact sD_ HO_381000)
        (case side2 => exact (Kd.S_reads' HO_381000.out).2.1)
        (case side3 => exact rD_ HO_381001)
        (case side4 => exact (Kd.R_reads' HO_381001.out).2.1)
        (case side5 => exact rD_ HO_381003)
        (case side6 => exact (Kd.R_reads' HO_381003.out).2.1)
        rintro e w40 ⟨rfl, hb⟩
        have HS4_ := (hb.cell (World.block_lt_of_cell? _ _ (hHeld.2.2.2.2.1))).trans (hHeld.2.2.2.2.1)
        have HS5_ := (hb.cell (World.block_lt_of_cell? _ _ (hHeld.2.2.2.2.2.1))).trans (hHeld.2.2.2.2.2.1)
        have HS6_ := (hb.cell (World.block_lt_of_cell? _ _ (hHeld.2.2.2.2.2.2))).trans (hHeld.2.2.2.2.2.2)
        refine ⟨_, rfl, ?_⟩
        replace HO_4 := rB_ HO_4 hb; replace HO_381000 := sB_ HO_381000 hb; replace HO_381001 := rB_ HO_381001 hb; replace HO_381003 := rB_ HO_381003 hb; replace HL381_0 := rB_ HL381_0 hb; replace BK364 := bB_ BK364 hb; replace BK365 := bB_ BK365 hb; replace BK380 := bB_ BK380 hb
        replace HR381_0 := Aside0.mk (Kd.C_below (by repeat (first | (with_reducible exact HR381_0.out) | (with_reducible refine Kd.C_alloc ?_ _) | (with_reducible refine Kd.C_drewN ?_ _) | (with_reducible refine Kd.C_drew ?_) | exact HR381_0.out)) hb)
        replace HB := bS_ HB hb; (try clear hb); (try clear hk)
        refine hK.out _ _ ⟨(blk_cell BK380.out 0).trans rfl, (blk_cell BK380.out 1).trans rfl, (blk_cell BK380.out 2).trans rfl, (blk_cell BK380.out 3).trans rfl, HS4_, HS5_, HS6_⟩ (fun hHeld => ?_)
        clear hK K
        refine nS_ (some 45) ?_
        refine pT_ 23 (some 53) #[true, true, true, true, true, true, true, true, true, true, true, true, true, true, true, true, true, true, true, true, true, true, true, true, false] HT_ ?_
        refine pT_ 24 (some 54) #[true, true, true, true, true, true, true, true, true, true, true, true, true, true, true, true, true, true, true, true, true, true, true, true, true] HT_ ?_
        refine done_ (done_of HT_.out (by kernel_rfl)) ?_
        try go_wp2
        replace HO_4 := Aside0.mk (Kd.R_drew HO_4.out)
        replace HO_381000 := Aside0.mk (Kd.S_drew HO_381000.out)
        replace HO_381001 := Aside0.mk (Kd.R_drew HO_381001.out)
        replace HO_381003 := Aside0.mk (Kd.R_drew HO_381003.out)
        replace HL381_0 := Aside0.mk (Kd.R_drew HL381_0.out)
        replace BK364 := Aside0.mk (blk_drew BK364.out)
        replace BK365 := Aside0.mk (blk_drew BK365.out)
        replace BK380 := Aside0.mk (blk_drew BK380.out)
        replace HR381_0 := Aside0.mk (Kd.C_drew HR381_0.out)
        replace HB := Aside0.mk (below_drew1 HB.out)
        have p386 : 0 ≤ (x6_1 : Int) := dA_
        have q386 : x6_1 < (x381003_1.length : Int) := dA_
        obtain ⟨ad386, e386, hx386_0, hx386_1⟩ := at_T43 (Kd.R_reads' HO_381003.out).2.2 x6_1 p386 q386
        obtain rfl : ad382 = ad386 := (by injection e386)
        replace p386 := eq_true p386; replace q386 := eq_true q386
        have p32 : 0 ≤ (x6_1 : Int) := dA_
        have q32 : (x6_1 : Int) < ((x381003_1.length : Int) : Int) := dA_
        obtain ⟨go32, co32, eo32, gb32, gl32, cl32, HG32⟩ := Kd.R_form HO_381003.out (by omega)
        (first | cases eo32 | (injection eo32 with ea_ en_ ec_; (first | subst ea_ | (injection ea_ with ea_; subst ea_)); subst ec_; clear en_))
        have GB32 := Aside0.mk gb32; have GG32 := Aside0.mk HG32; clear gb32 gl32 HG32
        (first | simp only [add_plain] at hx382_0 | skip)
        (first | simp only [add_plain] at hx382_1 | skip)
        (first | simp only [add_plain] at hx386_0 | skip)
        (first | simp only [add_plain] at hx386_1 | skip)
        obtain ⟨ce32, hcl32, hM32, hcc32, hfr32⟩ := Kd.R_elem HO_381003.out z43 (x6_1 : Int) p32 q32
        obtain rfl := k43_openM hM32
        have hx32_0 : World.cell? _ ⟨go32, (x6_1 : Int).toNat * 2, none⟩ = some (.int .i64 ((rd_T43 x381003_1 x6_1).f0)) := hcc32 0 _ rfl
        have hx32_1 : World.cell? _ ⟨go32, (x6_1 : Int).toNat * 2 + 1, none⟩ = some (.int .i64 ((rd_T43 x381003_1 x6_1).f1)) := hcc32 1 _ rfl
        have hf32_0 : World.frozen? _ ⟨go32, (x6_1 : Int).toNat * 2, none⟩ = false := hfr32 0
        have hf32_1 : World.frozen? _ ⟨go32, (x6_1 : Int).toNat * 2 + 1, none⟩ = false := hfr32 1
        clear hcl32 hcc32 hfr32 hM32; replace p32 := eq_true p32; replace q32 := eq_true q32
        obtain ⟨ce42, hcl42, hM42, hcc42, hfr42⟩ := Kd.R_elem HO_381003.out z43 (x6_1 : Int) dA_ (by have h_ : (x6_1 : Int) < ((x381003_1.length : Int) : Int) := dA_; first | exact h_ | (have e_ := (Kd.R_reads' HO_381003.out).1; omega) | simpa using h_)
        obtain rfl := k43_openM hM42
        have HP42 := (Kd.R_seg HO_381003.out (x6_1 : Int) dA_ (by have h_ : (x6_1 : Int) < ((x381003_1.length : Int) : Int) := dA_; first | exact h_ | (have e_ := (Kd.R_reads' HO_381003.out).1; omega) | simpa using h_) (seg := [.int .i64 1, .int .i64 (wrap64 (((rd_T43 x381003_1 x6_1).f1) + 1))]) (j := 0) hcl42 hcc42 (show 2 ≤ 2 from by decide) (x' := (⟨1, wrap64 (((rd_T43 x381003_1 x6_1).f1) + 1)⟩ : S43)) (k43_mkM _ _ _ (⟨1, wrap64 (((rd_T43 x381003_1 x6_1).f1) + 1)⟩ : S43) ) (fun _ hk => hk)).1
        rw [← Ny387.out] at HP42
        have HQ42 := Aside0.mk HP42; clear hcl42 hcc42 hfr42 hM42 HP42
        refine start_ (n := 13) (S := fun w' => w'.cell? ⟨gb380, 0, none⟩ = some (.slice (some ad381) t370.length co15) ∧ w'.cell? ⟨gb380, 1, none⟩ = some (.slice (some ad385) t373.length co19) ∧ w'.cell? ⟨gb380, 2, none⟩ = some (.int .i64 t376) ∧ w'.cell? ⟨gb380, 3, none⟩ = some (.slice (some ⟨go32, 0, none⟩) x381003_1.length co37) ∧ w'.cell? ⟨go32, ((x6_1).toNat * 2), none⟩ = some (.int .i64 ((rd_T43 x381003_1 x6_1).f0)) ∧ w'.cell? ⟨go32, ((x6_1).toNat * 2) + 1, none⟩ = some (.int .i64 ((rd_T43 x381003_1 x6_1).f1))) (ds := [12]) #[false, false, false, false, false, false, false, false, false, false, false, false, false] (by kernel_rfl) rfl rfl ⟨(blk_cell BK380.out 0).trans rfl, (blk_cell BK380.out 1).trans rfl, (blk_cell BK380.out 2).trans rfl, (blk_cell BK380.out 3).trans rfl, hx386_0, hx386_1⟩ (fun hHeld => ?_); refine with_tabW spec_StartTasks.tab10 spec_StartTasks.bits10 (fun HT_ HW_ => ?_)
        generalize w40.drew = w41 at HO_4 HO_381000 HO_381001 HO_381003 HL381_0 BK364 BK365 BK380 HR381_0 HB GG32 HQ42 hf32_0 hf32_1 hx32_0 hx32_1 hx382_0 hx382_1 hx386_0 hx386_1 hHeld ⊢
        refine pT_ 0 (some 55) #[true, false, false, false, false, false, false, false, false, false, false, false, false] HT_ ?_
        refine pT_ 2 (some 57) #[true, false, true, false, false, false, false, false, false, false, false, false, false] HT_ ?_
        refine pT_ 3 (some 58) #[true, false, true, true, false, false, false, false, false, false, false, false, false] HT_ ?_
        refine pT_ 5 (some 60) #[true, false, true, true, false, true, false, false, false, false, false, false, false] HT_ ?_
        refine tT_ 1 (some 56) #[true, true, true, true, false, true, false, false, false, false, false, false, false] HT_ HW_ hHeld ?_ (hy := by rintro w' ⟨s0, s1, s2, s3, s4, s5⟩; go_simp; with_reducible rfl)
        refine tT_ 4 (some 59) #[true, true, true, true, true, true, false, false, false, false, false, false, false] HT_ HW_ hHeld ?_ (hy := by rintro w' ⟨s0, s1, s2, s3, s4, s5⟩; go_simp; with_reducible rfl)
        refine pT_ 6 (some 61) #[true, true, true, true, true, true, true, false, false, false, false, false, false] HT_ ?_
        refine pT_ 7 (some 62) #[true, true, true, true, true, true, true, true, false, false, false, false, false] HT_ ?_
        refine tT_ 8 (some 63) #[true, true, true, true, true, true, true, true, true, false, false, false, false] HT_ HW_ hHeld ?_ (hy := by rintro w' ⟨s0, s1, s2, s3, s4, s5⟩; go_simp; with_reducible rfl)
        refine pT_ 9 (some 64) #[true, true, true, true, true, true, true, true, true, true, false, false, false] HT_ ?_
        refine pT_ 10 (some 65) #[true, true, true, true, true, true, true, true, true, true, true, false, false] HT_ ?_
        refine pT_ 11 (some 66) #[true, true, true, true, true, true, true, true, true, true, true, true, false] HT_ ?_
        refine last_ (i := 12) (N := none) #[true, true, true, true, true, true, true, true, true, true, true, true, true] rfl rfl (one_of HT_.out (by kernel_rfl)) (by decide) (fun K hK => ?_)
        refine skip_ (w1 := ?_) (by rfl) rfl ?_ ?_
        rotate_left
        ·go_simp
         rfl
        refine hK.out _ _ ?_
        clear hK K
        refine done_ (done_of HT_.out (by kernel_rfl)) ?_
        try go_wp2_with (first | ((with_reducible refine gate_builtin (b := .append) (xs := #[.tmp 67, .tmp 70]) rfl ?_); at_builtin; refine Kd.R_append (Kd.int .i64) (w0 := w) w.heap.size rfl (.tmp 67) (.tmp 70) 25 2 (.int .i64 0) 8 rfl Try.underlying25 info2 rfl (by decide) (by omega) u4 x4_1 (wrap64 (x6_1 + 1)) [.int .i64 (wrap64 (x6_1 + 1))] (fun k_ => some k_ ≠ (.slice (some ad385) t373.length co19 : Value).ownBlock) (fun _ => False) rfl (by first | (go_simp; done) | (go_simp; rfl)) ?aP (fun _ hk => hk.elim) ?aF ?aO ?aB ?aS ?aL ?_; (case aP => exact rfl); (case aB => exact sABelo_15); (case aF => exact (fun k_ hk => Kd.fresh' (Kd.R_lt (by (with_reducible repeat (first | apply Kd.R_alloc | apply Kd.R_drewN | apply Kd.R_drew)); exact (Kd.R_mono (Kd.R_far (p := ⟨go32, (x6_1 : Int).toNat * 2 + 1, none⟩) (Kd.R_far (p := ⟨go32, (x6_1 : Int).toNat * 2, none⟩) (Kd.R_types HO_381001.out GG32.out (by decide)) (fun _ hk => hk.2) (.int .i64 1)) (fun _ hk => hk.2) (.int .i64 (wrap64 (((rd_T43 x381003_1 x6_1).f1) + 1)))) (fun _ h_ => h_.1)))) k_ hk)); (case aO => exact (by (with_reducible repeat (first | apply Kd.R_alloc | apply Kd.R_drewN | apply Kd.R_drew)); exact Kd.R_mono (Kd.R_far (p := ⟨go32, (x6_1 : Int).toNat * 2 + 1, none⟩) (Kd.R_far (p := ⟨go32, (x6_1 : Int).toNat * 2, none⟩) (Kd.R_types HO_4.out GG32.out (by decide)) (fun _ hk => hk.2) (.int .i64 1)) (fun _ hk => hk.2) (.int .i64 (wrap64 (((rd_T43 x381003_1 x6_1).f1) + 1)))) (fun _ hk => hk.1))); (case aS => exact (below_size sABelo_15)); (case aL => have := LMc33.out; omega); intro v389 w43 ho hb hg hat; rw [← Ny388.out] at ho; replace HO_381000 := Aside0.mk (Kd.S_after (ok := (fun k_ => some k_ ≠ (.slice (some ad385) t373.length co19 : Value).ownBlock)) (by (with_reducible repeat (first | apply Kd.S_alloc | apply Kd.S_drewN | apply Kd.S_drew)); exact Kd.S_mono (Kd.S_far (p := ⟨go32, (x6_1 : Int).toNat * 2 + 1, none⟩) (Kd.S_far (p := ⟨go32, (x6_1 : Int).toNat * 2, none⟩) (Kd.S_types HO_381000.out GG32.out (by decide)) (fun _ hk => hk.2) (.int .i64 1)) (fun _ hk => hk.2) (.int .i64 (wrap64 (((rd_T43 x381003_1 x6_1).f1) + 1)))) (fun _ hk => ⟨hk.1.2, hk.1.1⟩)) hg hat); replace HO_381001 := Aside0.mk (Kd.R_after (ok := (fun _ => True)) (by (with_reducible repeat (first | apply Kd.R_alloc | apply Kd.R_drewN | apply Kd.R_drew)); exact Kd.R_mono (Kd.R_far (p := ⟨go32, (x6_1 : Int).toNat * 2 + 1, none⟩) (Kd.R_far (p := ⟨go32, (x6_1 : Int).toNat * 2, none⟩) (Kd.R_types HO_381001.out GG32.out (by decide)) (fun _ hk => hk.2) (.int .i64 1)) (fun _ hk => hk.2) (.int .i64 (wrap64 (((rd_T43 x381003_1 x6_1).f1) + 1)))) (fun _ hk => ⟨trivial, hk.1⟩)) hg hat); replace BK364 := Aside0.mk (blk_grown (g := gb364) (o := .cells #[.slice A0_0 l0_0.length c0_0, .slice A0_1 l0_1.length c0_1, .int .i64 a0_2, .slice A0_3 l0_3.length c0_3] 31 (0, 0)) (by (with_reducible repeat (first | refine blk_drewN ?_ _ | refine blk_drew ?_ | refine blk_alloc ?_ _)); refine blk_far ?_ (by have h_ := Kd.R_ne HO_381003.out BK364.out (by decide); intro e_; exact h_ (by rw [e_]; rfl)) _; (with_reducible repeat (first | refine blk_drewN ?_ _ | refine blk_drew ?_ | refine blk_alloc ?_ _)); refine blk_far ?_ (by have h_ := Kd.R_ne HO_381003.out BK364.out (by decide); intro e_; exact h_ (by rw [e_]; rfl)) _; exact bT_ BK364) hg (Kd.R_ne HO_4.out BK364.out (by decide))); replace BK365 := Aside0.mk (blk_grown (g := gb365) (o := .cells #[.slice none 0 0, .slice none 0 0, .int .i64 0, .slice none 0 0] 31 (0, 0)) (by (with_reducible repeat (first | refine blk_drewN ?_ _ | refine blk_drew ?_ | refine blk_alloc ?_ _)); refine blk_far ?_ (by have h_ := Kd.R_ne HO_381003.out BK365.out (by decide); intro e_; exact h_ (by rw [e_]; rfl)) _; (with_reducible repeat (first | refine blk_drewN ?_ _ | refine blk_drew ?_ | refine blk_alloc ?_ _)); refine blk_far ?_ (by have h_ := Kd.R_ne HO_381003.out BK365.out (by decide); intro e_; exact h_ (by rw [e_]; rfl)) _; exact bT_ BK365) hg (Kd.R_ne HO_4.out BK365.out (by decide))); replace BK380 := Aside0.mk (blk_grown (g := gb380) (o := .cells #[.slice (some ad381) t370.length co15, .slice (some ad385) t373.length co19, .int .i64 t376, .slice (some ⟨go32, 0, none⟩) x381003_1.length co37] 31 (0, 0)) (by (with_reducible repeat (first | refine blk_drewN ?_ _ | refine blk_drew ?_ | refine blk_alloc ?_ _)); refine blk_far ?_ (by have h_ := Kd.R_ne HO_381003.out BK380.out (by decide); intro e_; exact h_ (by rw [e_]; rfl)) _; (with_reducible repeat (first | refine blk_drewN ?_ _ | refine blk_drew ?_ | refine blk_alloc ?_ _)); refine blk_far ?_ (by have h_ := Kd.R_ne HO_381003.out BK380.out (by decide); intro e_; exact h_ (by rw [e_]; rfl)) _; exact bT_ BK380) hg (Kd.R_ne HO_4.out BK380.out (by decide))); replace HO_381003 := Aside0.mk (Kd.R_over' (by (with_reducible repeat (first | apply Kd.R_alloc | apply Kd.R_drewN | apply Kd.R_drew)); exact HQ42.out) (Kd.R_typed (by (with_reducible repeat (first | apply Kd.R_alloc | apply Kd.R_drewN | apply Kd.R_drew)); exact (Kd.R_mono (Kd.R_far (p := ⟨go32, (x6_1 : Int).toNat * 2 + 1, none⟩) (Kd.R_far (p := ⟨go32, (x6_1 : Int).toNat * 2, none⟩) (Kd.R_types HO_4.out GG32.out (by decide)) (fun _ hk => hk.2) (.int .i64 1)) (fun _ hk => hk.2) (.int .i64 (wrap64 (((rd_T43 x381003_1 x6_1).f1) + 1)))) (fun _ h_ => h_.1)))) (by decide) hg); replace HL381_0 := Aside0.mk (Kd.R_after (ok := (fun k_ => some k_ ≠ (.slice (some ad381) t370.length co15 : Value).ownBlock ∧ some k_ ≠ (.slice (some ad385) t373.length co19 : Value).ownBlock)) (by (with_reducible repeat (first | apply Kd.R_alloc | apply Kd.R_drewN | apply Kd.R_drew)); exact Kd.R_mono (Kd.R_far (p := ⟨go32, (x6_1 : Int).toNat * 2 + 1, none⟩) (Kd.R_far (p := ⟨go32, (x6_1 : Int).toNat * 2, none⟩) (Kd.R_types HL381_0.out GG32.out (by decide)) (fun _ hk => hk.2) (.int .i64 1)) (fun _ hk => hk.2) (.int .i64 (wrap64 (((rd_T43 x381003_1 x6_1).f1) + 1)))) (fun _ hk => ⟨⟨hk.1.2, hk.1.1.2⟩, hk.1.1.1⟩)) hg hat); replace HB := Aside0.mk (hb); have HO390 := Aside0.mk (ho); clear HO_4; clear ho hb hg hat))
        go_roundg k1
        case measure => have := HK1.out; omega
        case rel => exact ⟨(y388), (wrap64 (x6_1 + 1)), (y387), (.slice (some ⟨go32, 0, none⟩) x381003_1.length co37), (by first | rfl | (simp; done) | (simp [*]; done)), H', ⟨by have := HK1.out; omega⟩, ⟨rT_ HO390⟩, ⟨sM2_ HO_381000⟩, ⟨rM2_ HO_381001⟩, ⟨rT_ HO_381003⟩, ⟨bT_ BK364⟩, ⟨bT_ BK365⟩, ⟨bT_ BK380⟩, ⟨sABelo_15⟩⟩
       ·rw [if_neg c31] at H
        have c31b0 := decide_eq_false c31
        clear c31; have H' := Aside0.mk H; clear H; have hnb44 := NB380_364.out; have hnc44 := NB364_380.out; have hnb45 := NB380_365.out; have hnc45 := NB365_380.out
        obtain ⟨hcz46_0, hcz46_1, hcz46_2, hcz46_3, hfz46_0, hfz46_1, hfz46_2, hfz46_3⟩ := cf4_ BK380
        obtain ⟨Ao47, co47, eo47⟩ := Kd.R_slice HO_381003.out
        subst eo47
        have p381 : 0 ≤ (x6_1 : Int) := dA_
        have q381 : x6_1 < (t370.length : Int) := dA_
        obtain ⟨ad381, A381_0, c381_0, e381, hx381_0, hx381_1, hx381_2, hx381_3, hl381_0, hi381_0⟩ := at_T39 (Kd.S_reads' HO_381000.out).2.2 x6_1 p381 q381
        cases e381
        obtain ⟨ce381, hce381, hMe381, hcc381⟩ := Kd.S_get HO_381000.out z39 x6_1 p381 (by first | exact q381 | exact of_decide_eq_true (by first | (with_reducible assumption) | assumption) | (have e_ := (Kd.S_reads' HO_381000.out).1; omega))
        obtain ⟨ve381_0, rfl, ge381_0⟩ := k39_openM hMe381
        have hv381_0 := hcc381 0 _ rfl
        rw [Nat.add_zero] at hv381_0
        replace hv381_0 := Option.some.inj (hv381_0.symm.trans hx381_0)
        rw [hv381_0] at ge381_0
        have HL381_0 := Aside0.mk (show Kd.R (Kd.int .i64) 2 _ _ _ _ ((rd_T39 t370 x6_1).f0) from ge381_0)
        clear hv381_0 ge381_0 hcc381 hce381; have HR381_0 := Aside0.mk hi381_0; have HC381_0 := Aside0.mk hl381_0; clear hi381_0 hl381_0; replace p381 := eq_true p381; replace q381 := eq_true q381
        try go_wp2
        replace HO_4 := Aside0.mk (Kd.R_drew HO_4.out)
        replace HO_381000 := Aside0.mk (Kd.S_drew HO_381000.out)
        replace HO_381001 := Aside0.mk (Kd.R_drew HO_381001.out)
        replace HO_381003 := Aside0.mk (Kd.R_drew HO_381003.out)
        replace HL381_0 := Aside0.mk (Kd.R_drew HL381_0.out)
        replace BK364 := Aside0.mk (blk_drew BK364.out)
        replace BK365 := Aside0.mk (blk_drew BK365.out)
        replace BK380 := Aside0.mk (blk_drew BK380.out)
        replace HR381_0 := Aside0.mk (Kd.C_drew HR381_0.out)
        replace HB := Aside0.mk (below_drew1 HB.out)
        have p382 : 0 ≤ (x6_1 : Int) := dA_
        have q382 : x6_1 < (x381003_1.length : Int) := dA_
        obtain ⟨ad382, e382, hx382_0, hx382_1⟩ := at_T43 (Kd.R_reads' HO_381003.out).2.2 x6_1 p382 q382
        cases e382
        replace p382 := eq_true p382; replace q382 := eq_true q382
        have p385 : 0 ≤ ((ji28) : Int) := dA_
        have q385 : (ji28) < (t373.length : Int) := dA_
        obtain ⟨ad385, e385, hx385_0⟩ := Kd.at_int (Kd.R_reads' HO_381001.out).2.2 (ji28) p385 q385
        cases e385
        replace p385 := eq_true p385; replace q385 := eq_true q385
        refine start_ (n := 25) (S := fun w' => w'.cell? ⟨gb380, 0, none⟩ = some (.slice (some ad381) t370.length co15) ∧ w'.cell? ⟨gb380, 1, none⟩ = some (.slice (some ad385) t373.length co19) ∧ w'.cell? ⟨gb380, 2, none⟩ = some (.int .i64 t376) ∧ w'.cell? ⟨gb380, 3, none⟩ = some (.slice (some ad382) x381003_1.length co47) ∧ w'.cell? (ad382.add ((x6_1).toNat * 2)) = some (.int .i64 ((rd_T43 x381003_1 x6_1).f0)) ∧ w'.cell? ⟨(ad382.add ((x6_1).toNat * 2)).block, (ad382.add ((x6_1).toNat * 2)).off + 1, none⟩ = some (.int .i64 ((rd_T43 x381003_1 x6_1).f1)) ∧ w'.cell? (ad385.add ((ji28)).toNat) = some (.int .i64 (rd t373 (ji28)))) (ds := []) #[false, false, false, false, false, false, false, false, false, false, false, false, false, false, false, false, false, false, false, false, false, false, false, false, false] (by kernel_rfl) rfl rfl ⟨(blk_cell BK380.out 0).trans rfl, (blk_cell BK380.out 1).trans rfl, (blk_cell BK380.out 2).trans rfl, (blk_cell BK380.out 3).trans rfl, hx382_0, hx382_1, hx385_0⟩ (fun hHeld => ?_); refine with_tabW spec_StartTasks.tab9 spec_StartTasks.bits9 (fun HT_ HW_ => ?_)
        generalize wr.drew = w48 at HO_4 HO_381000 HO_381001 HO_381003 HL381_0 BK364 BK365 BK380 HR381_0 HB hx382_0 hx382_1 hx385_0 hHeld ⊢
        refine pT_ 0 (some 30) #[true, false, false, false, false, false, false, false, false, false, false, false, false, false, false, false, false, false, false, false, false, false, false, false, false] HT_ ?_
        refine pT_ 2 (some 32) #[true, false, true, false, false, false, false, false, false, false, false, false, false, false, false, false, false, false, false, false, false, false, false, false, false] HT_ ?_
        refine tT_ 1 (some 31) #[true, true, true, false, false, false, false, false, false, false, false, false, false, false, false, false, false, false, false, false, false, false, false, false, false] HT_ HW_ hHeld ?_ (hy := by rintro w' ⟨s0, s1, s2, s3, s4, s5, s6⟩; go_simp; with_reducible rfl)
        refine pT_ 3 (some 33) #[true, true, true, true, false, false, false, false, false, false, false, false, false, false, false, false, false, false, false, false, false, false, false, false, false] HT_ ?_
        refine pT_ 4 (some 34) #[true, true, true, true, true, false, false, false, false, false, false, false, false, false, false, false, false, false, false, false, false, false, false, false, false] HT_ ?_
        refine tT_ 5 (some 35) #[true, true, true, true, true, true, false, false, false, false, false, false, false, false, false, false, false, false, false, false, false, false, false, false, false] HT_ HW_ hHeld ?_ (hy := by rintro w' ⟨s0, s1, s2, s3, s4, s5, s6⟩; go_simp; with_reducible rfl)
        refine pT_ 6 (some 36) #[true, true, true, true, true, true, true, false, false, false, false, false, false, false, false, false, false, false, false, false, false, false, false, false, false] HT_ ?_
        refine pT_ 7 (some 37) #[true, true, true, true, true, true, true, true, false, false, false, false, false, false, false, false, false, false, false, false, false, false, false, false, false] HT_ ?_
        refine pT_ 9 (some 39) #[true, true, true, true, true, true, true, true, false, true, false, false, false, false, false, false, false, false, false, false, false, false, false, false, false] HT_ ?_
        refine tT_ 8 (some 38) #[true, true, true, true, true, true, true, true, true, true, false, false, false, false, false, false, false, false, false, false, false, false, false, false, false] HT_ HW_ hHeld ?_ (hy := by rintro w' ⟨s0, s1, s2, s3, s4, s5, s6⟩; go_simp; with_reducible rfl)
        refine one_ (i := 10) (N := some 40) #[true, true, true, true, true, true, true, true, true, true, true, false, false, false, false, false, false, false, false, false, false, false, false, false, false] rfl rfl (one_of HT_.out (by kernel_rfl)) (by decide) (fun K hK => ?_)
        refine goes_ Try.func74 (by kernel_rfl) rfl #[.agg #[.slice (some ad381) t370.length co15, .slice (some ad385) t373.length co19, .int .i64 t376, .slice (some ad382) x381003_1.length co47], .int .i64 x6_1] (by rfl) rfl rfl (by (try simp only [List.map_toArray, List.map_cons, List.map_nil]); first | done | rfl | (simp only [List.length_drop, List.length_take]; rfl)) ?_
        with_reducible refine (spec_l24Free.calls k1 _ _ t370 _ _ t373 t376 _ _ x381003_1 x6_1 true _ ?side1 ?side2 ?side3 ?side4 ?side5 ?side6 A25.out).mono ?_
        (case side1 => exact sD_ HO_381000)
        (case side2 => exact (Kd.S_reads' HO_381000.out).2.1)
        (case side3 => exact rD_ HO_381001)
        (case side4 => exact (Kd.R_reads' HO_381001.out).2.1)
        (case side5 => exact rD_ HO_381003)
        (case side6 => exact (Kd.R_reads' HO_381003.out).2.1)
        rintro e w49 ⟨rfl, hb⟩
        have HS4_ := (hb.cell (World.block_lt_of_cell? _ _ (hHeld.2.2.2.2.1))).trans (hHeld.2.2.2.2.1)
        have HS5_ := (hb.cell (World.block_lt_of_cell? _ _ (hHeld.2.2.2.2.2.1))).trans (hHeld.2.2.2.2.2.1)
        have HS6_ := (hb.cell (World.block_lt_of_cell? _ _ (hHeld.2.2.2.2.2.2))).trans (hHeld.2.2.2.2.2.2)
        refine ⟨_, rfl, ?_⟩
        replace HO_4 := rB_ HO_4 hb; replace HO_381000 := sB_ HO_381000 hb; replace HO_381001 := rB_ HO_381001 hb; replace HO_381003 := rB_ HO_381003 hb; replace HL381_0 := rB_ HL381_0 hb; replace BK364 := bB_ BK364 hb; replace BK365 := bB_ BK365 hb; replace BK380 := bB_ BK380 hb
        replace HR381_0 := Aside0.mk (Kd.C_below (by repeat (first | (with_reducible exact HR381_0.out) | (with_reducible refine Kd.C_alloc ?_ _) | (with_reducible refine Kd.C_drewN ?_ _) | (with_reducible refine Kd.C_drew ?_) | exact HR381_0.out)) hb)
        replace HB := bS_ HB hb; (try clear hb); (try clear hk)
        refine hK.out _ _ ⟨(blk_cell BK380.out 0).trans rfl, (blk_cell BK380.out 1).trans rfl, (blk_cell BK380.out 2).trans rfl, (blk_cell BK380.out 3).trans rfl, HS4_, HS5_, HS6_⟩ (fun hHeld => ?_)
        clear hK K
        refine nS_ (some 40) ?_
        refine pT_ 11 (some 41) #[true, true, true, true, true, true, true, true, true, true, true, true, false, false, false, false, false, false, false, false, false, false, false, false, false] HT_ ?_
        refine pT_ 12 (some 42) #[true, true, true, true, true, true, true, true, true, true, true, true, true, false, false, false, false, false, false, false, false, false, false, false, false] HT_ ?_
        refine pT_ 14 (some 44) #[true, true, true, true, true, true, true, true, true, true, true, true, true, false, true, false, false, false, false, false, false, false, false, false, false] HT_ ?_
        refine pT_ 16 (some 46) #[true, true, true, true, true, true, true, true, true, true, true, true, true, false, true, false, true, false, false, false, false, false, false, false, false] HT_ ?_
        refine pT_ 17 (some 47) #[true, true, true, true, true, true, true, true, true, true, true, true, true, false, true, false, true, true, false, false, false, false, false, false, false] HT_ ?_
        refine pT_ 19 (some 49) #[true, true, true, true, true, true, true, true, true, true, true, true, true, false, true, false, true, true, false, true, false, false, false, false, false] HT_ ?_
        refine pT_ 20 (some 50) #[true, true, true, true, true, true, true, true, true, true, true, true, true, false, true, false, true, true, false, true, true, false, false, false, false] HT_ ?_
        refine tT_ 13 (some 43) #[true, true, true, true, true, true, true, true, true, true, true, true, true, true, true, false, true, true, false, true, true, false, false, false, false] HT_ HW_ hHeld ?_ (hy := by rintro w' ⟨s0, s1, s2, s3, s4, s5, s6⟩; go_simp; with_reducible rfl)
        refine tT_ 18 (some 48) #[true, true, true, true, true, true, true, true, true, true, true, true, true, true, true, false, true, true, true, true, true, false, false, false, false] HT_ HW_ hHeld ?_ (hy := by rintro w' ⟨s0, s1, s2, s3, s4, s5, s6⟩; go_simp; with_reducible rfl)
        refine pT_ 21 (some 51) #[true, true, true, true, true, true, true, true, true, true, true, true, true, true, true, false, true, true, true, true, true, true, false, false, false] HT_ ?_
        refine tT_ 22 (some 52) #[true, true, true, true, true, true, true, true, true, true, true, true, true, true, true, false, true, true, true, true, true, true, true, false, false] HT_ HW_ hHeld ?_ (hy := by rintro w' ⟨s0, s1, s2, s3, s4, s5, s6⟩; go_simp; with_reducible rfl)
        refine one_ (i := 15) (N := some 45) #[true, true, true, true, true, true, true, true, true, true, true, true, true, true, true, true, true, true, true, true, true, true, true, false, false] rfl rfl (one_of HT_.out (by kernel_rfl)) (by decide) (fun K hK => ?_)
        refine goes_ Try.func75 (by kernel_rfl) rfl #[.agg #[.slice (some ad381) t370.length co15, .slice (some ad385) t373.length co19, .int .i64 t376, .slice (some ad382) x381003_1.length co47], .int .i64 ((rd_T39 t370 x6_1).f1)] (by rfl) rfl rfl (by (try simp only [List.map_toArray, List.map_cons, List.map_nil]); first | done | rfl | (simp only [List.length_drop, List.length_take]; rfl)) ?_
        with_reducible refine (spec_l24Running.calls k1 _ _ t370 _ _ t373 t376 _ _ x381003_1 ((rd_T39 t370 x6_1).f1) t384 _ ?side1 ?side2 ?side3 ?side4 ?side5 ?side6 A27.out).mono ?_
        (case side1 => exact sD_ HO_381000)
        (case side2 => exact (Kd.S_reads' HO_381000.out).2.1)
        (case side3 => exact rD_ HO_381001)
        (case side4 => exact (Kd.R_reads' HO_381001.out).2.1)
        (case side5 => exact rD_ HO_381003)
        (case side6 => exact (Kd.R_reads' HO_381003.out).2.1)
        rintro e w50 ⟨rfl, hb⟩
        have HS4_ := (hb.cell (World.block_lt_of_cell? _ _ (hHeld.2.2.2.2.1))).trans (hHeld.2.2.2.2.1)
        have HS5_ := (hb.cell (World.block_lt_of_cell? _ _ (hHeld.2.2.2.2.2.1))).trans (hHeld.2.2.2.2.2.1)
        have HS6_ := (hb.cell (World.block_lt_of_cell? _ _ (hHeld.2.2.2.2.2.2))).trans (hHeld.2.2.2.2.2.2)
        refine ⟨_, rfl, ?_⟩
        replace HO_4 := rB_ HO_4 hb; replace HO_381000 := sB_ HO_381000 hb; replace HO_381001 := rB_ HO_381001 hb; replace HO_381003 := rB_ HO_381003 hb; replace HL381_0 := rB_ HL381_0 hb; replace BK364 := bB_ BK364 hb; replace BK365 := bB_ BK365 hb; replace BK380 := bB_ BK380 hb
        replace HR381_0 := Aside0.mk (Kd.C_below (by repeat (first | (with_reducible exact HR381_0.out) | (with_reducible refine Kd.C_alloc ?_ _) | (with_reducible refine Kd.C_drewN ?_ _) | (with_reducible refine Kd.C_drew ?_) | exact HR381_0.out)) hb)
        replace HB := bS_ HB hb; (try clear hb); (try clear hk)
        refine hK.out _ _ ⟨(blk_cell BK380.out 0).trans rfl, (blk_cell BK380.out 1).trans rfl, (blk_cell BK380.out 2).trans rfl, (blk_cell BK380.out 3).trans rfl, HS4_, HS5_, HS6_⟩ (fun hHeld => ?_)
        clear hK K
        refine nS_ (some 45) ?_
        refine pT_ 23 (some 53) #[true, true, true, true, true, true, true, true, true, true, true, true, true, true, true, true, true, true, true, true, true, true, true, true, false] HT_ ?_
        refine pT_ 24 (some 54) #[true, true, true, true, true, true, true, true, true, true, true, true, true, true, true, true, true, true, true, true, true, true, true, true, true] HT_ ?_
        refine done_ (done_of HT_.out (by kernel_rfl)) ?_
        try go_wp2
        go_roundg k1
        case measure => have := HK1.out; omega
        case rel => exact ⟨(x4_1), (wrap64 (x6_1 + 1)), (x381003_1), (.slice (some ad382) x381003_1.length co47), (by first | rfl | (simp; done) | (simp [*]; done)), H', ⟨by have := HK1.out; omega⟩, ⟨rT_ HO_4⟩, ⟨sT_ HO_381000⟩, ⟨rT_ HO_381001⟩, ⟨rT_ HO_381003⟩, ⟨bT_ BK364⟩, ⟨bT_ BK365⟩, ⟨bT_ BK380⟩, ⟨sABelo_15⟩⟩
      ·replace c26 := Bool.eq_false_iff.mpr c26
       subst c26
       replace H := ifF_ H; have H' := Aside0.mk H; clear H; have hnb51 := NB380_364.out; have hnc51 := NB364_380.out; have hnb52 := NB380_365.out; have hnc52 := NB365_380.out
       obtain ⟨hcz53_0, hcz53_1, hcz53_2, hcz53_3, hfz53_0, hfz53_1, hfz53_2, hfz53_3⟩ := cf4_ BK380
       obtain ⟨Ao54, co54, eo54⟩ := Kd.R_slice HO_381003.out
       subst eo54
       have p381 : 0 ≤ (x6_1 : Int) := dA_
       have q381 : x6_1 < (t370.length : Int) := dA_
       obtain ⟨ad381, A381_0, c381_0, e381, hx381_0, hx381_1, hx381_2, hx381_3, hl381_0, hi381_0⟩ := at_T39 (Kd.S_reads' HO_381000.out).2.2 x6_1 p381 q381
       cases e381
       obtain ⟨ce381, hce381, hMe381, hcc381⟩ := Kd.S_get HO_381000.out z39 x6_1 p381 (by first | exact q381 | exact of_decide_eq_true (by first | (with_reducible assumption) | assumption) | (have e_ := (Kd.S_reads' HO_381000.out).1; omega))
       obtain ⟨ve381_0, rfl, ge381_0⟩ := k39_openM hMe381
       have hv381_0 := hcc381 0 _ rfl
       rw [Nat.add_zero] at hv381_0
       replace hv381_0 := Option.some.inj (hv381_0.symm.trans hx381_0)
       rw [hv381_0] at ge381_0
       have HL381_0 := Aside0.mk (show Kd.R (Kd.int .i64) 2 _ _ _ _ ((rd_T39 t370 x6_1).f0) from ge381_0)
       clear hv381_0 ge381_0 hcc381 hce381; have HR381_0 := Aside0.mk hi381_0; have HC381_0 := Aside0.mk hl381_0; clear hi381_0 hl381_0; replace p381 := eq_true p381; replace q381 := eq_true q381
       try go_wp2
       replace HO_4 := Aside0.mk (Kd.R_drew HO_4.out)
       replace HO_381000 := Aside0.mk (Kd.S_drew HO_381000.out)
       replace HO_381001 := Aside0.mk (Kd.R_drew HO_381001.out)
       replace HO_381003 := Aside0.mk (Kd.R_drew HO_381003.out)
       replace HL381_0 := Aside0.mk (Kd.R_drew HL381_0.out)
       replace BK364 := Aside0.mk (blk_drew BK364.out)
       replace BK365 := Aside0.mk (blk_drew BK365.out)
       replace BK380 := Aside0.mk (blk_drew BK380.out)
       replace HR381_0 := Aside0.mk (Kd.C_drew HR381_0.out)
       replace HB := Aside0.mk (below_drew1 HB.out)
       have p382 : 0 ≤ (x6_1 : Int) := dA_
       have q382 : x6_1 < (x381003_1.length : Int) := dA_
       obtain ⟨ad382, e382, hx382_0, hx382_1⟩ := at_T43 (Kd.R_reads' HO_381003.out).2.2 x6_1 p382 q382
       cases e382
       replace p382 := eq_true p382; replace q382 := eq_true q382
       refine start_ (n := 25) (S := fun w' => w'.cell? ⟨gb380, 0, none⟩ = some (.slice (some ad381) t370.length co15) ∧ w'.cell? ⟨gb380, 1, none⟩ = some (.slice Ao19 t373.length co19) ∧ w'.cell? ⟨gb380, 2, none⟩ = some (.int .i64 t376) ∧ w'.cell? ⟨gb380, 3, none⟩ = some (.slice (some ad382) x381003_1.length co54) ∧ w'.cell? (ad382.add ((x6_1).toNat * 2)) = some (.int .i64 ((rd_T43 x381003_1 x6_1).f0)) ∧ w'.cell? ⟨(ad382.add ((x6_1).toNat * 2)).block, (ad382.add ((x6_1).toNat * 2)).off + 1, none⟩ = some (.int .i64 ((rd_T43 x381003_1 x6_1).f1))) (ds := []) #[false, false, false, false, false, false, false, false, false, false, false, false, false, false, false, false, false, false, false, false, false, false, false, false, false] (by kernel_rfl) rfl rfl ⟨(blk_cell BK380.out 0).trans rfl, (blk_cell BK380.out 1).trans rfl, (blk_cell BK380.out 2).trans rfl, (blk_cell BK380.out 3).trans rfl, hx382_0, hx382_1⟩ (fun hHeld => ?_); refine with_tabW spec_StartTasks.tab9 spec_StartTasks.bits9 (fun HT_ HW_ => ?_)
       generalize wr.drew = w55 at HO_4 HO_381000 HO_381001 HO_381003 HL381_0 BK364 BK365 BK380 HR381_0 HB hx382_0 hx382_1 hHeld ⊢
       refine pT_ 0 (some 30) #[true, false, false, false, false, false, false, false, false, false, false, false, false, false, false, false, false, false, false, false, false, false, false, false, false] HT_ ?_
       refine pT_ 2 (some 32) #[true, false, true, false, false, false, false, false, false, false, false, false, false, false, false, false, false, false, false, false, false, false, false, false, false] HT_ ?_
       refine tT_ 1 (some 31) #[true, true, true, false, false, false, false, false, false, false, false, false, false, false, false, false, false, false, false, false, false, false, false, false, false] HT_ HW_ hHeld ?_ (hy := by rintro w' ⟨s0, s1, s2, s3, s4, s5⟩; go_simp; with_reducible rfl)
       refine pT_ 3 (some 33) #[true, true, true, true, false, false, false, false, false, false, false, false, false, false, false, false, false, false, false, false, false, false, false, false, false] HT_ ?_
       refine pT_ 4 (some 34) #[true, true, true, true, true, false, false, false, false, false, false, false, false, false, false, false, false, false, false, false, false, false, false, false, false] HT_ ?_
       refine tT_ 5 (some 35) #[true, true, true, true, true, true, false, false, false, false, false, false, false, false, false, false, false, false, false, false, false, false, false, false, false] HT_ HW_ hHeld ?_ (hy := by rintro w' ⟨s0, s1, s2, s3, s4, s5⟩; go_simp; with_reducible rfl)
       refine pT_ 6 (some 36) #[true, true, true, true, true, true, true, false, false, false, false, false, false, false, false, false, false, false, false, false, false, false, false, false, false] HT_ ?_
       refine pT_ 7 (some 37) #[true, true, true, true, true, true, true, true, false, false, false, false, false, false, false, false, false, false, false, false, false, false, false, false, false] HT_ ?_
       refine pT_ 9 (some 39) #[true, true, true, true, true, true, true, true, false, true, false, false, false, false, false, false, false, false, false, false, false, false, false, false, false] HT_ ?_
       refine tT_ 8 (some 38) #[true, true, true, true, true, true, true, true, true, true, false, false, false, false, false, false, false, false, false, false, false, false, false, false, false] HT_ HW_ hHeld ?_ (hy := by rintro w' ⟨s0, s1, s2, s3, s4, s5⟩; go_simp; with_reducible rfl)
       refine one_ (i := 10) (N := some 40) #[true, true, true, true, true, true, true, true, true, true, true, false, false, false, false, false, false, false, false, false, false, false, false, false, false] rfl rfl (one_of HT_.out (by kernel_rfl)) (by decide) (fun K hK => ?_)
       refine goes_ Try.func74 (by kernel_rfl) rfl #[.agg #[.slice (some ad381) t370.length co15, .slice Ao19 t373.length co19, .int .i64 t376, .slice (some ad382) x381003_1.length co54], .int .i64 x6_1] (by rfl) rfl rfl (by (try simp only [List.map_toArray, List.map_cons, List.map_nil]); first | done | rfl | (simp only [List.length_drop, List.length_take]; rfl)) ?_
       with_reducible refine (spec_l24Free.calls k1 _ _ t370 _ _ t373 t376 _ _ x381003_1 x6_1 false _ ?side1 ?side2 ?side3 ?side4 ?side5 ?side6 A25.out).mono ?_
       (case side1 => exact sD_ HO_381000)
       (case side2 => exact (Kd.S_reads' HO_381000.out).2.1)
       (case side3 => exact rD_ HO_381001)
       (case side4 => exact (Kd.R_reads' HO_381001.out).2.1)
       (case side5 => exact rD_ HO_381003)
       (case side6 => exact (Kd.R_reads' HO_381003.out).2.1)
       rintro e w56 ⟨rfl, hb⟩
       have HS4_ := (hb.cell (World.block_lt_of_cell? _ _ (hHeld.2.2.2.2.1))).trans (hHeld.2.2.2.2.1)
       have HS5_ := (hb.cell (World.block_lt_of_cell? _ _ (hHeld.2.2.2.2.2))).trans (hHeld.2.2.2.2.2)
       refine ⟨_, rfl, ?_⟩
       replace HO_4 := rB_ HO_4 hb; replace HO_381000 := sB_ HO_381000 hb; replace HO_381001 := rB_ HO_381001 hb; replace HO_381003 := rB_ HO_381003 hb; replace HL381_0 := rB_ HL381_0 hb; replace BK364 := bB_ BK364 hb; replace BK365 := bB_ BK365 hb; replace BK380 := bB_ BK380 hb
       replace HR381_0 := Aside0.mk (Kd.C_below (by repeat (first | (with_reducible exact HR381_0.out) | (with_reducible refine Kd.C_alloc ?_ _) | (with_reducible refine Kd.C_drewN ?_ _) | (with_reducible refine Kd.C_drew ?_) | exact HR381_0.out)) hb)
       replace HB := bS_ HB hb; (try clear hb); (try clear hk)
       refine hK.out _ _ ⟨(blk_cell BK380.out 0).trans rfl, (blk_cell BK380.out 1).trans rfl, (blk_cell BK380.out 2).trans rfl, (blk_cell BK380.out 3).trans rfl, HS4_, HS5_⟩ (fun hHeld => ?_)
       clear hK K
       refine nS_ (some 40) ?_
       refine pT_ 11 (some 41) #[true, true, true, true, true, true, true, true, true, true, true, true, false, false, false, false, false, false, false, false, false, false, false, false, false] HT_ ?_
       refine pT_ 12 (some 42) #[true, true, true, true, true, true, true, true, true, true, true, true, true, false, false, false, false, false, false, false, false, false, false, false, false] HT_ ?_
       refine pU_ 13 (some 43) #[true, true, true, true, true, true, true, true, true, true, true, true, true, true, false, false, false, false, false, false, false, false, false, false, false] HT_ ?_
       refine pU_ 14 (some 44) #[true, true, true, true, true, true, true, true, true, true, true, true, true, true, true, false, false, false, false, false, false, false, false, false, false] HT_ ?_
       refine pU_ 15 (some 45) #[true, true, true, true, true, true, true, true, true, true, true, true, true, true, true, true, false, false, false, false, false, false, false, false, false] HT_ ?_
       refine pU_ 16 (some 46) #[true, true, true, true, true, true, true, true, true, true, true, true, true, true, true, true, true, false, false, false, false, false, false, false, false] HT_ ?_
       refine pU_ 17 (some 47) #[true, true, true, true, true, true, true, true, true, true, true, true, true, true, true, true, true, true, false, false, false, false, false, false, false] HT_ ?_
       refine pU_ 18 (some 48) #[true, true, true, true, true, true, true, true, true, true, true, true, true, true, true, true, true, true, true, false, false, false, false, false, false] HT_ ?_
       refine pU_ 19 (some 49) #[true, true, true, true, true, true, true, true, true, true, true, true, true, true, true, true, true, true, true, true, false, false, false, false, false] HT_ ?_
       refine pU_ 20 (some 50) #[true, true, true, true, true, true, true, true, true, true, true, true, true, true, true, true, true, true, true, true, true, false, false, false, false] HT_ ?_
       refine pU_ 21 (some 51) #[true, true, true, true, true, true, true, true, true, true, true, true, true, true, true, true, true, true, true, true, true, true, false, false, false] HT_ ?_
       refine pU_ 22 (some 52) #[true, true, true, true, true, true, true, true, true, true, true, true, true, true, true, true, true, true, true, true, true, true, true, false, false] HT_ ?_
       refine pU_ 23 (some 53) #[true, true, true, true, true, true, true, true, true, true, true, true, true, true, true, true, true, true, true, true, true, true, true, true, false] HT_ ?_
       refine pT_ 24 (some 54) #[true, true, true, true, true, true, true, true, true, true, true, true, true, true, true, true, true, true, true, true, true, true, true, true, true] HT_ ?_
       refine done_ (done_of HT_.out (by kernel_rfl)) ?_
       try go_wp2
       go_roundg k1
       case measure => have := HK1.out; omega
       case rel => exact ⟨(x4_1), (wrap64 (x6_1 + 1)), (x381003_1), (.slice (some ad382) x381003_1.length co54), (by first | rfl | (simp; done) | (simp [*]; done)), H', ⟨by have := HK1.out; omega⟩, ⟨rT_ HO_4⟩, ⟨sT_ HO_381000⟩, ⟨rT_ HO_381001⟩, ⟨rT_ HO_381003⟩, ⟨bT_ BK364⟩, ⟨bT_ BK365⟩, ⟨bT_ BK380⟩, ⟨sABelo_15⟩⟩
     ·rw [if_neg c24] at H
      have c24b0 := beq_eq_false_iff_ne.mpr c24
      have c24b1 := bne_iff_ne.mpr c24
      have H' := Aside0.mk H; clear H; have hnb57 := NB380_364.out; have hnc57 := NB364_380.out; have hnb58 := NB380_365.out; have hnc58 := NB365_380.out
      obtain ⟨hcz59_0, hcz59_1, hcz59_2, hcz59_3, hfz59_0, hfz59_1, hfz59_2, hfz59_3⟩ := cf4_ BK380
      obtain ⟨Ao60, co60, eo60⟩ := Kd.R_slice HO_381003.out
      subst eo60
      have p381 : 0 ≤ (x6_1 : Int) := dA_
      have q381 : x6_1 < (t370.length : Int) := dA_
      obtain ⟨ad381, A381_0, c381_0, e381, hx381_0, hx381_1, hx381_2, hx381_3, hl381_0, hi381_0⟩ := at_T39 (Kd.S_reads' HO_381000.out).2.2 x6_1 p381 q381
      cases e381
      obtain ⟨ce381, hce381, hMe381, hcc381⟩ := Kd.S_get HO_381000.out z39 x6_1 p381 (by first | exact q381 | exact of_decide_eq_true (by first | (with_reducible assumption) | assumption) | (have e_ := (Kd.S_reads' HO_381000.out).1; omega))
      obtain ⟨ve381_0, rfl, ge381_0⟩ := k39_openM hMe381
      have hv381_0 := hcc381 0 _ rfl
      rw [Nat.add_zero] at hv381_0
      replace hv381_0 := Option.some.inj (hv381_0.symm.trans hx381_0)
      rw [hv381_0] at ge381_0
      have HL381_0 := Aside0.mk (show Kd.R (Kd.int .i64) 2 _ _ _ _ ((rd_T39 t370 x6_1).f0) from ge381_0)
      clear hv381_0 ge381_0 hcc381 hce381; have HR381_0 := Aside0.mk hi381_0; have HC381_0 := Aside0.mk hl381_0; clear hi381_0 hl381_0; replace p381 := eq_true p381; replace q381 := eq_true q381
      try go_wp2
      replace HO_4 := Aside0.mk (Kd.R_drew HO_4.out)
      replace HO_381000 := Aside0.mk (Kd.S_drew HO_381000.out)
      replace HO_381001 := Aside0.mk (Kd.R_drew HO_381001.out)
      replace HO_381003 := Aside0.mk (Kd.R_drew HO_381003.out)
      replace HL381_0 := Aside0.mk (Kd.R_drew HL381_0.out)
      replace BK364 := Aside0.mk (blk_drew BK364.out)
      replace BK365 := Aside0.mk (blk_drew BK365.out)
      replace BK380 := Aside0.mk (blk_drew BK380.out)
      replace HR381_0 := Aside0.mk (Kd.C_drew HR381_0.out)
      replace HB := Aside0.mk (below_drew1 HB.out)
      have p382 : 0 ≤ (x6_1 : Int) := dA_
      have q382 : x6_1 < (x381003_1.length : Int) := dA_
      obtain ⟨ad382, e382, hx382_0, hx382_1⟩ := at_T43 (Kd.R_reads' HO_381003.out).2.2 x6_1 p382 q382
      cases e382
      replace p382 := eq_true p382; replace q382 := eq_true q382
      refine start_ (n := 25) (S := fun w' => w'.cell? ⟨gb380, 0, none⟩ = some (.slice (some ad381) t370.length co15) ∧ w'.cell? ⟨gb380, 1, none⟩ = some (.slice Ao19 t373.length co19) ∧ w'.cell? ⟨gb380, 2, none⟩ = some (.int .i64 t376) ∧ w'.cell? ⟨gb380, 3, none⟩ = some (.slice (some ad382) x381003_1.length co60) ∧ w'.cell? (ad382.add ((x6_1).toNat * 2)) = some (.int .i64 ((rd_T43 x381003_1 x6_1).f0)) ∧ w'.cell? ⟨(ad382.add ((x6_1).toNat * 2)).block, (ad382.add ((x6_1).toNat * 2)).off + 1, none⟩ = some (.int .i64 ((rd_T43 x381003_1 x6_1).f1))) (ds := []) #[false, false, false, false, false, false, false, false, false, false, false, false, false, false, false, false, false, false, false, false, false, false, false, false, false] (by kernel_rfl) rfl rfl ⟨(blk_cell BK380.out 0).trans rfl, (blk_cell BK380.out 1).trans rfl, (blk_cell BK380.out 2).trans rfl, (blk_cell BK380.out 3).trans rfl, hx382_0, hx382_1⟩ (fun hHeld => ?_); refine with_tabW spec_StartTasks.tab9 spec_StartTasks.bits9 (fun HT_ HW_ => ?_)
      generalize wr.drew = w61 at HO_4 HO_381000 HO_381001 HO_381003 HL381_0 BK364 BK365 BK380 HR381_0 HB hx382_0 hx382_1 hHeld ⊢
      refine pT_ 0 (some 30) #[true, false, false, false, false, false, false, false, false, false, false, false, false, false, false, false, false, false, false, false, false, false, false, false, false] HT_ ?_
      refine pT_ 2 (some 32) #[true, false, true, false, false, false, false, false, false, false, false, false, false, false, false, false, false, false, false, false, false, false, false, false, false] HT_ ?_
      refine tT_ 1 (some 31) #[true, true, true, false, false, false, false, false, false, false, false, false, false, false, false, false, false, false, false, false, false, false, false, false, false] HT_ HW_ hHeld ?_ (hy := by rintro w' ⟨s0, s1, s2, s3, s4, s5⟩; go_simp; with_reducible rfl)
      refine pT_ 3 (some 33) #[true, true, true, true, false, false, false, false, false, false, false, false, false, false, false, false, false, false, false, false, false, false, false, false, false] HT_ ?_
      refine pT_ 4 (some 34) #[true, true, true, true, true, false, false, false, false, false, false, false, false, false, false, false, false, false, false, false, false, false, false, false, false] HT_ ?_
      refine tT_ 5 (some 35) #[true, true, true, true, true, true, false, false, false, false, false, false, false, false, false, false, false, false, false, false, false, false, false, false, false] HT_ HW_ hHeld ?_ (hy := by rintro w' ⟨s0, s1, s2, s3, s4, s5⟩; go_simp; with_reducible rfl)
      refine pT_ 6 (some 36) #[true, true, true, true, true, true, true, false, false, false, false, false, false, false, false, false, false, false, false, false, false, false, false, false, false] HT_ ?_
      refine pT_ 7 (some 37) #[true, true, true, true, true, true, true, true, false, false, false, false, false, false, false, false, false, false, false, false, false, false, false, false, false] HT_ ?_
      refine pU_ 8 (some 38) #[true, true, true, true, true, true, true, true, true, false, false, false, false, false, false, false, false, false, false, false, false, false, false, false, false] HT_ ?_
      refine pU_ 9 (some 39) #[true, true, true, true, true, true, true, true, true, true, false, false, false, false, false, false, false, false, false, false, false, false, false, false, false] HT_ ?_
      refine pU_ 10 (some 40) #[true, true, true, true, true, true, true, true, true, true, true, false, false, false, false, false, false, false, false, false, false, false, false, false, false] HT_ ?_
      refine pT_ 11 (some 41) #[true, true, true, true, true, true, true, true, true, true, true, true, false, false, false, false, false, false, false, false, false, false, false, false, false] HT_ ?_
      refine pT_ 12 (some 42) #[true, true, true, true, true, true, true, true, true, true, true, true, true, false, false, false, false, false, false, false, false, false, false, false, false] HT_ ?_
      refine pU_ 13 (some 43) #[true, true, true, true, true, true, true, true, true, true, true, true, true, true, false, false, false, false, false, false, false, false, false, false, false] HT_ ?_
      refine pU_ 14 (some 44) #[true, true, true, true, true, true, true, true, true, true, true, true, true, true, true, false, false, false, false, false, false, false, false, false, false] HT_ ?_
      refine pU_ 15 (some 45) #[true, true, true, true, true, true, true, true, true, true, true, true, true, true, true, true, false, false, false, false, false, false, false, false, false] HT_ ?_
      refine pU_ 16 (some 46) #[true, true, true, true, true, true, true, true, true, true, true, true, true, true, true, true, true, false, false, false, false, false, false, false, false] HT_ ?_
      refine pU_ 17 (some 47) #[true, true, true, true, true, true, true, true, true, true, true, true, true, true, true, true, true, true, false, false, false, false, false, false, false] HT_ ?_
      refine pU_ 18 (some 48) #[true, true, true, true, true, true, true, true, true, true, true, true, true, true, true, true, true, true, true, false, false, false, false, false, false] HT_ ?_
      refine pU_ 19 (some 49) #[true, true, true, true, true, true, true, true, true, true, true, true, true, true, true, true, true, true, true, true, false, false, false, false, false] HT_ ?_
      refine pU_ 20 (some 50) #[true, true, true, true, true, true, true, true, true, true, true, true, true, true, true, true, true, true, true, true, true, false, false, false, false] HT_ ?_
      refine pU_ 21 (some 51) #[true, true, true, true, true, true, true, true, true, true, true, true, true, true, true, true, true, true, true, true, true, true, false, false, false] HT_ ?_
      refine pU_ 22 (some 52) #[true, true, true, true, true, true, true, true, true, true, true, true, true, true, true, true, true, true, true, true, true, true, true, false, false] HT_ ?_
      refine pU_ 23 (some 53) #[true, true, true, true, true, true, true, true, true, true, true, true, true, true, true, true, true, true, true, true, true, true, true, true, false] HT_ ?_
      refine pT_ 24 (some 54) #[true, true, true, true, true, true, true, true, true, true, true, true, true, true, true, true, true, true, true, true, true, true, true, true, true] HT_ ?_
      refine done_ (done_of HT_.out (by kernel_rfl)) ?_
      try go_wp2
      go_roundg k1
      case measure => have := HK1.out; omega
      case rel => exact ⟨(x4_1), (wrap64 (x6_1 + 1)), (x381003_1), (.slice (some ad382) x381003_1.length co60), (by first | rfl | (simp; done) | (simp [*]; done)), H', ⟨by have := HK1.out; omega⟩, ⟨rT_ HO_4⟩, ⟨sT_ HO_381000⟩, ⟨rT_ HO_381001⟩, ⟨rT_ HO_381003⟩, ⟨bT_ BK364⟩, ⟨bT_ BK365⟩, ⟨bT_ BK380⟩, ⟨sABelo_15⟩⟩
    ·rw [if_neg c21] at H
     have c21b0 := decide_eq_false c21
     clear c21
     simp only [Option.some.injEq, Prod.mk.injEq] at H
     obtain ⟨rfl, rfl, rfl, rfl, rfl⟩ := H
     have hnb62 := NB380_364.out; have hnc62 := NB364_380.out; have hnb63 := NB380_365.out; have hnc63 := NB365_380.out
     obtain ⟨hcz64_0, hcz64_1, hcz64_2, hcz64_3, hfz64_0, hfz64_1, hfz64_2, hfz64_3⟩ := cf4_ BK380
     obtain ⟨Ao65, co65, eo65⟩ := Kd.R_slice HO_381003.out
     subst eo65
     have hnb66 := NB365_364.out; have hnc66 := NB364_365.out
     obtain ⟨hcz67_0, hcz67_1, hcz67_2, hcz67_3, hfz67_0, hfz67_1, hfz67_2, hfz67_3⟩ := cf4_ BK365
     go_wp2
     refine bodyPost_ret (results_ct rfl _ _ gb365 31 #[.slice Ao15 t370.length co15, .slice Ao19 t373.length co19, .int .i64 t376, .slice Ao65 x381003_1.length co65] (0, 0) _ rfl (bP_ BK365) Try.underlying31 rfl (by kernel_rfl)) rfl ?_
     exact ⟨_, _, _, _, by first | rfl | (simp [errW_none, errW_some] <;> rfl) | (simp [*, errW_none, errW_some] <;> rfl), by (with_reducible repeat (first | apply Kd.S_alloc | apply Kd.S_drewN | apply Kd.S_drew)); exact Kd.S_mono (Kd.S_far (p := ⟨gb365, 3, none⟩) (Kd.S_far (p := ⟨gb365, 2, none⟩) (Kd.S_far (p := ⟨gb365, 1, none⟩) (Kd.S_far (p := ⟨gb365, 0, none⟩) (Kd.S_types HO_381000.out BK365.out (by decide)) (fun _ hk => hk.2) (.slice Ao15 t370.length co15)) (fun _ hk => hk.2) (.slice Ao19 t373.length co19)) (fun _ hk => hk.2) (.int .i64 t376)) (fun _ hk => hk.2) (.slice Ao65 x381003_1.length co65)) (fun _ hk => ⟨hk.1.2, hk.1.1⟩), by (with_reducible repeat (first | apply Kd.R_alloc | apply Kd.R_drewN | apply Kd.R_drew)); exact Kd.R_mono (Kd.R_far (p := ⟨gb365, 3, none⟩) (Kd.R_far (p := ⟨gb365, 2, none⟩) (Kd.R_far (p := ⟨gb365, 1, none⟩) (Kd.R_far (p := ⟨gb365, 0, none⟩) (Kd.R_types HO_381001.out BK365.out (by decide)) (fun _ hk => hk.2) (.slice Ao15 t370.length co15)) (fun _ hk => hk.2) (.slice Ao19 t373.length co19)) (fun _ hk => hk.2) (.int .i64 t376)) (fun _ hk => hk.2) (.slice Ao65 x381003_1.length co65)) (fun _ hk => hk.1), by (with_reducible repeat (first | apply Kd.R_alloc | apply Kd.R_drewN | apply Kd.R_drew)); exact Kd.R_mono (Kd.R_far (p := ⟨gb365, 3, none⟩) (Kd.R_far (p := ⟨gb365, 2, none⟩) (Kd.R_far (p := ⟨gb365, 1, none⟩) (Kd.R_far (p := ⟨gb365, 0, none⟩) (Kd.R_types HO_381003.out BK365.out (by decide)) (fun _ hk => hk.2) (.slice Ao15 t370.length co15)) (fun _ hk => hk.2) (.slice Ao19 t373.length co19)) (fun _ hk => hk.2) (.int .i64 t376)) (fun _ hk => hk.2) (.slice Ao65 x381003_1.length co65)) (fun _ hk => trivial), by (with_reducible repeat (first | apply Kd.R_alloc | apply Kd.R_drewN | apply Kd.R_drew)); exact Kd.R_mono (Kd.R_far (p := ⟨gb365, 3, none⟩) (Kd.R_far (p := ⟨gb365, 2, none⟩) (Kd.R_far (p := ⟨gb365, 1, none⟩) (Kd.R_far (p := ⟨gb365, 0, none⟩) (Kd.R_types HO_4.out BK365.out (by decide)) (fun _ hk => hk.2) (.slice Ao15 t370.length co15)) (fun _ hk => hk.2) (.slice Ao19 t373.length co19)) (fun _ hk => hk.2) (.int .i64 t376)) (fun _ hk => hk.2) (.slice Ao65 x381003_1.length co65)) (fun _ hk => hk.1), sABelo_15⟩
 ·replace c3 := Bool.eq_false_iff.mpr c3
  subst c3
  replace H := ifF_ H
  simp only [Option.some.injEq, Prod.mk.injEq] at H
  obtain ⟨rfl, rfl, rfl, rfl, rfl⟩ := H
  go_enter Try.func41, Try.ntmps41
  go_wp2_with (first | ((with_reducible refine gate_dst (N := 1) rfl ?_); refine box_event ?hg (N := 1) ?hd (cs := #[.slice A0_0 l0_0.length c0_0, .slice A0_1 l0_1.length c0_1, .int .i64 a0_2, .slice A0_3 l0_3.length c0_3]) (t := 31) ?hr ?_; (case hd => rfl); (case hg => rfl); (case hr => first | (go_simp; done) | (go_simp; rfl)); intro gb364 hg w68 hbox hb; have BK364 := Aside0.mk (hbox); have GW364 := gE_ HB hg; have GE364 := gE_ HB hg; replace HB := bS_ HB hb; clear hb hbox hg) | ((with_reducible refine gate_dst (N := 2) rfl ?_); refine box_event ?hg (N := 2) ?hd (cs := #[.slice none 0 0, .slice none 0 0, .int .i64 0, .slice none 0 0]) (t := 31) ?hr ?_; (case hd => rfl); (case hg => rfl); (case hr => first | (go_simp; done) | (go_simp; rfl)); intro gb365 hg w69 hbox hb; have BK365 := Aside0.mk (hbox); have GW365 := gE_ HB hg; have GE365 := gE_ HB hg; replace HB := bS_ HB hb; have NB364_365 := nL_ BK364 hg; have NB365_364 := nG_ BK364 hg; replace BK364 := bB_ BK364 hb; clear hb hbox hg) | ((with_reducible refine gate_dst (N := 8) rfl ?_); refine Kd.R_lit (Kd.int .i64) _ 2 ?hg (N := 8) ?hd (xs := ([] : List Int)) (inner := []) (ok := fun _ => True) (okp := fun _ => True) ?hr ?hp (fun _ hk => hk) trivial (Below.refl _ _) (Nat.le_refl _) (by simp) ?_; (case hd => rfl); (case hg => rfl); (case hr => first | (go_simp; done) | (go_simp; rfl)); (case hp => exact (Reps.none _ _)); intro v367 w70 ho71 hb hg_ hnew_; clear hg_ hnew_; (first | rw [← Ny366.out] at ho71 | (simp only [Int.reduceToNat] at ho71; rw [← Ny366.out] at ho71)); have HO368 := rL_ ho71 HB; replace BK364 := bB_ BK364 hb; replace BK365 := bB_ BK365 hb; replace HB := bS_ HB hb; clear hb ho71; have hnb72 := NB364_365.out; have hnc72 := NB365_364.out; obtain ⟨hcz73_0, hcz73_1, hcz73_2, hcz73_3, hfz73_0, hfz73_1, hfz73_2, hfz73_3⟩ := cf4_ BK364) | ((with_reducible refine gate_callee (f := 58) rfl ?_); refine gL_ (some 10) Try.func58 #[.agg #[.slice A0_0 l0_0.length c0_0, .slice A0_1 l0_1.length c0_1, .int .i64 a0_2, .slice A0_3 l0_3.length c0_3]] ?_; (with_reducible refine (spec_l24Ok.calls k _ _ l0_0 _ _ l0_1 a0_2 _ _ l0_3 false _ ?side1 ?side2 ?side3 ?side4 ?side5 ?side6 A2.out).mono ?_); (case side1 => exact cB_ HR0_0 HB); (case side2 => exact HC0_0.out); (case side3 => exact cB_ HR0_1 HB); (case side4 => exact HC0_1.out); (case side5 => exact cB_ HR0_3 HB); (case side6 => exact HC0_3.out); rintro e w74 ⟨rfl, hb⟩; refine ⟨_, rfl, ?_⟩; replace HO368 := rB_ HO368 hb; replace BK364 := bB_ BK364 hb; replace BK365 := bB_ BK365 hb; replace HB := bS_ HB hb; (try clear hb); (try clear hk); obtain ⟨hcz75_0, hcz75_1, hcz75_2, hcz75_3, hfz75_0, hfz75_1, hfz75_2, hfz75_3⟩ := cf4_ BK365))
  refine bodyPost_ret (results_ct rfl _ _ gb365 31 #[.slice none 0 0, .slice none 0 0, .int .i64 0, .slice none 0 0] (0, 0) _ rfl (bP_ BK365) Try.underlying31 rfl (by kernel_rfl)) rfl ?_
  exact ⟨_, _, _, _, by first | rfl | (simp [errW_none, errW_some] <;> rfl) | (simp [*, errW_none, errW_some] <;> rfl), by first | exact Kd.S_nil _ _ _ _ _ | exact Kd.N_nil _ _ _ _ _ | exact Kd.V_nil _ _ _ _ _ | exact Kd.Q_nil _ _ _ _ _ | exact Kd.R_nil _ _ _ _ _, by first | exact Kd.R_nil _ _ _ _ _ | exact Kd.N_nil _ _ _ _ _ | exact Kd.V_nil _ _ _ _ _ | exact Kd.Q_nil _ _ _ _ _ | exact Kd.S_nil _ _ _ _ _, by first | exact Kd.R_nil _ _ _ _ _ | exact Kd.N_nil _ _ _ _ _ | exact Kd.V_nil _ _ _ _ _ | exact Kd.Q_nil _ _ _ _ _ | exact Kd.S_nil _ _ _ _ _, by (with_reducible repeat (first | apply Kd.R_alloc | apply Kd.R_drewN | apply Kd.R_drew)); exact Kd.R_mono (Kd.R_far (p := ⟨gb365, 3, none⟩) (Kd.R_far (p := ⟨gb365, 2, none⟩) (Kd.R_far (p := ⟨gb365, 1, none⟩) (Kd.R_far (p := ⟨gb365, 0, none⟩) (Kd.R_types HO368.out BK365.out (by decide)) (fun _ hk => hk.2) (.slice none 0 0)) (fun _ hk => hk.2) (.slice none 0 0)) (fun _ hk => hk.2) (.int .i64 0)) (fun _ hk => hk.2) (.slice none 0 0)) (fun _ hk => (by simp [Value.ownBlock])), sABelo_15⟩

end Go.Proofs.Ytjoghfehmhapbaa.QFnExactStartTasks
