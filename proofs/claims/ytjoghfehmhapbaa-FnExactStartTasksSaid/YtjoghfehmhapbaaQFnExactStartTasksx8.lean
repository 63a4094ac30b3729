-- Written by a program of this session out of the printer's texts and contracts of its own.
import Derived.Test.YtjoghfehmhapbaaSq
import Derived.Test.YtjoghfehmhapbaaQFnExactStartTasksx0
import Derived.Test.YtjoghfehmhapbaaQFnExactStartTasksx4
import Derived.Test.YtjoghfehmhapbaaQFnExactStartTasksx5
import Derived.Test.YtjoghfehmhapbaaQFnExactStartTasksx6
import Derived.Test.YtjoghfehmhapbaaQFnExactStartTasksx7
import Derived.Test.YtjoghfehmhapbaaStartMapFnExactStartTasks
namespace Go.Proofs.Ytjoghfehmhapbaa.QFnExactStartTasks
open Go.RowKit Go.Proofs.YtjoghfehmhapbaaW.PrintWords Go.Proofs.YtjoghfehmhapbaaW.PrintLast Go.Proofs.YtjoghfehmhapbaaW.PrintMore Go.Proofs.Ytjoghfehmhapbaa.Sq Go.Maps Go.Proofs.Ytjoghfehmhapbaa.Sq
attribute [local go_sem] max2_int min2_int max_two min_two max_three min_three max_four min_four   -- for this text's walks alone
set_option linter.unusedVariables false
set_option linter.unusedSimpArgs false
theorem sABelo_8 {b : Nat} {w W : World} (h : Below b w W := by repeat (first | (with_reducible first | exact Aside0.out (by assumption) | apply below_alloc | apply pw_below_drewN | apply below_drew1 | refine below_set ?_ (Aside0.out (by assumption))) | exact Aside0.out (by assumption))) : Below b w W := h

/-! ### impl_StartTasks: function 17 -/
def impl_StartTasks.l0 : Nat → List Int → Int → Int → List (S39) → List Int → Int → List (S43) → Option ((List (S39)) × List Int × Int × (List (S43)) × List Int)
 | 0, _, _, _, _, _, _, _ => none
 | k + 1, x6, x21, x22, x200000, x200001, x200002, x200003 => if x22 < x21 then (if 0 ≤ x22 then (if x22 < (x200000.length : Int) then (if x22 < (x200003.length : Int) then (if ((rd_T43 x200003 x22).f0) = 0 then ((impl_Run_done.f k x200000 x200001 x200002 x200003 x22).bind fun t206 => (if t206 = true then ((impl_count.f k x200000 x200001 x200002 x200003 ((rd_T39 x200000 x22).f1)).bind fun t207 => (if 0 ≤ (wrap64 (((rd_T39 x200000 x22).f1) - 1)) then (if (wrap64 (((rd_T39 x200000 x22).f1) - 1)) < (x200001.length : Int) then (if t207 ≥ (rd x200001 (wrap64 (((rd_T39 x200000 x22).f1) - 1))) then (impl_StartTasks.l0 k x6 x21 (wrap64 (x22 + 1)) x200000 x200001 x200002 x200003) else ((some (x200003.set (x22 : Int).toNat (⟨1, (rd_T43 x200003 x22).f1⟩ : S43) : List (S43))).bind fun y209 => (if x6.length < 17592186044416 then (impl_StartTasks.l0 k (x6 ++ [wrap64 (x22 + 1)]) x21 (wrap64 (x22 + 1)) x200000 x200001 x200002 (y209.set (x22 : Int).toNat (⟨(rd_T43 y209 x22).f0, wrap64 (((rd_T43 y209 x22).f1) + 1)⟩ : S43))) else (none)))) else (none)) else (none))) else (impl_StartTasks.l0 k x6 x21 (wrap64 (x22 + 1)) x200000 x200001 x200002 x200003))) else (impl_StartTasks.l0 k x6 x21 (wrap64 (x22 + 1)) x200000 x200001 x200002 x200003)) else (none)) else (none)) else (none)) else (some (x200000, x200001, x200002, x200003, x6))
def impl_StartTasks.f (k : Nat) (l0_0 : List (S39)) (l0_1 : List Int) (a0_2 : Int) (l0_3 : List (S43)) : Option ((List (S39)) × List Int × Int × (List (S43)) × List Int) := (impl_runOk.f k l0_0 l0_1 a0_2 l0_3).bind fun t188 => (if t188 = true then ((impl_copyRun.f k l0_0 l0_1 a0_2 l0_3).bind fun bt189 => ((impl_runningA.f k bt189.1 bt189.2.1 bt189.2.2.1 bt189.2.2.2).bind fun t200 => (impl_StartTasks.l0 k (([] : List Int)) (bt189.2.2.2.length : Int) 0 bt189.1 bt189.2.1 bt189.2.2.1 bt189.2.2.2))) else (some (([] : List (S39)), ([] : List Int), 0, ([] : List (S43)), ([] : List Int))))
theorem impl_StartTasks.mono_l : ∀ k, (∀ y0 y1 y2 y3 y4 y5 y6, LeO (impl_StartTasks.l0 k y0 y1 y2 y3 y4 y5 y6) (impl_StartTasks.l0 (k + 1) y0 y1 y2 y3 y4 y5 y6))
 | 0 => fun _ _ _ _ _ _ _ r h => by simp [impl_StartTasks.l0] at h
 | k + 1 => by
  have ih0 := impl_StartTasks.mono_l k
  ·intro y0 y1 y2 y3 y4 y5 y6
   unfold impl_StartTasks.l0
   repeat' first
   | (with_reducible exact ih0 _ _ _ _ _ _ _)
   | (with_reducible exact impl_Run_done.mono _ _ _ _ _ _)
   | (with_reducible exact impl_runningA.mono _ _ _ _ _)
   | (with_reducible exact impl_copyRun.mono _ _ _ _ _)
   | (with_reducible exact impl_runOk.mono _ _ _ _ _)
   | (with_reducible exact impl_count.mono _ _ _ _ _ _)
   | (with_reducible exact LeO.refl _)
   | (with_reducible exact LeO.none _)
   | (with_reducible refine LeO.ite ?_ ?_)
   | (with_reducible refine LeO.bind ?_ (fun _ => ?_))
   | exact ih0 _ _ _ _ _ _ _
   | exact impl_Run_done.mono _ _ _ _ _ _
   | exact impl_runningA.mono _ _ _ _ _
   | exact impl_copyRun.mono _ _ _ _ _
   | exact impl_runOk.mono _ _ _ _ _
   | exact impl_count.mono _ _ _ _ _ _
   | exact LeO.none _
   | refine LeO.ite ?_ ?_
   | refine LeO.bind ?_ (fun _ => ?_)
theorem impl_StartTasks.mono : ∀ a0 a1 a2 a3 k, LeO (impl_StartTasks.f k a0 a1 a2 a3) (impl_StartTasks.f (k + 1) a0 a1 a2 a3) := by
 intro a0 a1 a2 a3 k
 have ih0 := impl_StartTasks.mono_l k
 unfold impl_StartTasks.f
 repeat' first
   | (with_reducible exact ih0 _ _ _ _ _ _ _)
   | (with_reducible exact impl_Run_done.mono _ _ _ _ _ _)
   | (with_reducible exact impl_runningA.mono _ _ _ _ _)
   | (with_reducible exact impl_copyRun.mono _ _ _ _ _)
   | (with_reducible exact impl_runOk.mono _ _ _ _ _)
   | (with_reducible exact impl_count.mono _ _ _ _ _ _)
   | (with_reducible exact LeO.refl _)
   | (with_reducible exact LeO.none _)
   | (with_reducible refine LeO.ite ?_ ?_)
   | (with_reducible refine LeO.bind ?_ (fun _ => ?_))
   | exact ih0 _ _ _ _ _ _ _
   | exact impl_Run_done.mono _ _ _ _ _ _
   | exact impl_runningA.mono _ _ _ _ _
   | exact impl_copyRun.mono _ _ _ _ _
   | exact impl_runOk.mono _ _ _ _ _
   | exact impl_count.mono _ _ _ _ _ _
   | exact LeO.none _
   | refine LeO.ite ?_ ?_
   | refine LeO.bind ?_ (fun _ => ?_)
def impl_StartTasks.T11 : Bool × List (List Nat × List Nat) := (true, [([], []), ([0], [0]), ([1], [1]), ([2], [2]), ([3], [3]), ([4], [4]), ([5], [5]), ([5], [5]), ([6, 7, 5, 5], [5, 6, 7]), ([8, 5], [5, 8]), ([5, 9], [5, 9]), ([10, 8], [10]), ([11], [11]), ([11], [11]), ([12, 13, 11], [11, 12, 13]), ([11], [11]), ([15, 11], [11, 15]), ([16, 11], [11, 16]), ([11], [11]), ([18, 11], [11, 18]), ([17, 19, 11], [11, 17, 19]), ([20, 11], [11, 20]), ([14, 21, 11], [11, 14, 21]), ([11, 22], [11, 22])])
def impl_StartTasks.B11 : List Nat := [0, 1, 3, 7, 15, 31, 63, 63, 255, 511, 1023, 2047, 4095, 4095, 16383, 4095, 36863, 102399, 4095, 266239, 1019903, 2068479, 4194303, 8388607]
theorem impl_StartTasks.tab11 : rtab .any (opsOf Try.f17 11) = impl_StartTasks.T11 := by kernel_rfl
theorem impl_StartTasks.bits11 : waitsOk impl_StartTasks.T11.2 impl_StartTasks.B11 = true := by kernel_rfl
set_option maxHeartbeats 8000000 in
set_option maxRecDepth 100000 in
theorem impl_StartTasks.calls (k : Nat) (A0_0 : Option Addr) (c0_0 : Nat) (l0_0 : List (S39)) (A0_1 : Option Addr) (c0_1 : Nat) (l0_1 : List Int) (a0_2 : Int) (A0_3 : Option Addr) (c0_3 : Nat) (l0_3 : List (S43)) (r1 : List (S39)) (r2 : List Int) (r3 : Int) (r4 : List (S43)) (r5 : List Int) (w : World) (hr0_0 : Kd.C k39 w A0_0 l0_0.length l0_0) (hc0_0 : l0_0.length ≤ c0_0) (hr0_1 : Kd.C (Kd.int .i64) w A0_1 l0_1.length l0_1) (hc0_1 : l0_1.length ≤ c0_1) (hr0_3 : Kd.C k43 w A0_3 l0_3.length l0_3) (hc0_3 : l0_3.length ≤ c0_3) (h : impl_StartTasks.f k l0_0 l0_1 a0_2 l0_3 = some (r1, r2, r3, r4, r5)) :
  Calls Try.prog 17 #[.agg #[.slice A0_0 l0_0.length c0_0, .slice A0_1 l0_1.length c0_1, .int .i64 a0_2, .slice A0_3 l0_3.length c0_3]] w fun e w' => ∃ v0_ v1_ v3_ v4_ : Value, e = .returned (.tuple #[.agg #[v0_, v1_, .int .i64 r3, v3_], v4_]) ∧ Kd.S k39 39 w' w.heap.size (fun k_ => some k_ ≠ (v1_ : Value).ownBlock ∧ some k_ ≠ (v4_ : Value).ownBlock) v0_ r1 ∧ Kd.R (Kd.int .i64) 2 w' w.heap.size (fun k_ => some k_ ≠ (v4_ : Value).ownBlock) v1_ r2 ∧ Kd.R k43 43 w' w.heap.size (fun _ => True) v3_ r4 ∧ Kd.R (Kd.int .i64) 2 w' w.heap.size (fun k_ => some k_ ≠ (v1_ : Value).ownBlock) v4_ r5 ∧ Below w.heap.size w w' := by
 have hu31 := Try.underlying31; have HR0_0 := Aside0.mk hr0_0; have HC0_0 := Aside0.mk hc0_0; clear hr0_0 hc0_0; have HR0_1 := Aside0.mk hr0_1; have HC0_1 := Aside0.mk hc0_1; clear hr0_1 hc0_1; have HR0_3 := Aside0.mk hr0_3; have HC0_3 := Aside0.mk hc0_3; clear hr0_3 hc0_3
 have HB := Aside0.mk (Below.refl w.heap.size w)
 have H : ((impl_runOk.f k l0_0 l0_1 a0_2 l0_3).bind fun t188 => (if t188 = true then ((impl_copyRun.f k l0_0 l0_1 a0_2 l0_3).bind fun bt189 => ((impl_runningA.f k bt189.1 bt189.2.1 bt189.2.2.1 bt189.2.2.2).bind fun t200 => (impl_StartTasks.l0 k (([] : List Int)) (bt189.2.2.2.length : Int) 0 bt189.1 bt189.2.1 bt189.2.2.1 bt189.2.2.2))) else (some (([] : List (S39)), ([] : List Int), 0, ([] : List (S43)), ([] : List Int))))) = some (r1, r2, r3, r4, r5) := h
 clear h; replace H := Option.bind_eq_some_iff.mp H
 obtain ⟨t188, A20, H⟩ := H
 replace H : (if t188 = true then ((impl_copyRun.f k l0_0 l0_1 a0_2 l0_3).bind fun bt189 => ((impl_runningA.f k bt189.1 bt189.2.1 bt189.2.2.1 bt189.2.2.2).bind fun t200 => (impl_StartTasks.l0 k (([] : List Int)) (bt189.2.2.2.length : Int) 0 bt189.1 bt189.2.1 bt189.2.2.1 bt189.2.2.2))) else (some (([] : List (S39)), ([] : List Int), 0, ([] : List (S43)), ([] : List Int)))) = some (r1, r2, r3, r4, r5) := H
 have A2 := Aside0.mk A20; clear A20
 by_cases c3 : t188 = true
 ·subst c3
  replace H := ifT_ H; replace H := Option.bind_eq_some_iff.mp H
  obtain ⟨⟨t189, t192, t195, t196⟩, A40, H⟩ := H
  replace H : ((impl_runningA.f k t189 t192 t195 t196).bind fun t200 => (impl_StartTasks.l0 k (([] : List Int)) (t196.length : Int) 0 t189 t192 t195 t196)) = some (r1, r2, r3, r4, r5) := H
  have A4 := Aside0.mk A40; clear A40; replace H := Option.bind_eq_some_iff.mp H
  obtain ⟨t200, A50, H⟩ := H
  replace H : (impl_StartTasks.l0 k (([] : List Int)) (t196.length : Int) 0 t189 t192 t195 t196) = some (r1, r2, r3, r4, r5) := H
  have A5 := Aside0.mk A50; clear A50
  obtain ⟨y201, hy201⟩ : ∃ y_ : List Int, y_ = (([] : List Int)) := ⟨_, rfl⟩
  replace H : (impl_StartTasks.l0 k y201 (t196.length : Int) 0 t189 t192 t195 t196) = some (r1, r2, r3, r4, r5) := by first | (rw [hy201]; with_reducible exact H) | (have H2_ := (Option.bind_some _ _).symm.trans H; rw [hy201]; with_reducible exact H2_) | (have H2_ := (Option.bind_some _ _).symm.trans H; with_reducible exact H2_) | with_reducible exact H | (rw [hy201]; exact H) | exact H
  have Ny201 := Aside0.mk hy201; clear hy201; have H' := Aside0.mk H; clear H
  have HG := Aside0.mk (runningA_some A5.out).2
  have HL := Aside0.mk (runningA_some A5.out).1
  go_enter Try.func17, Try.ntmps17
  go_wp2_with (first | ((with_reducible refine gate_dst (N := 1) rfl ?_); refine box_event ?hg (N := 1) ?hd (cs := #[.slice A0_0 l0_0.length c0_0, .slice A0_1 l0_1.length c0_1, .int .i64 a0_2, .slice A0_3 l0_3.length c0_3]) (t := 31) ?hr ?_; (case hd => rfl); (case hg => rfl); (case hr => first | (go_simp; done) | (go_simp; rfl)); intro gb186 hg w6 hbox hb; have BK186 := Aside0.mk (hbox); have GW186 := gE_ HB hg; have GE186 := gE_ HB hg; replace HB := bS_ HB hb; clear hb hbox hg) | ((with_reducible refine gate_dst (N := 2) rfl ?_); refine box_event ?hg (N := 2) ?hd (cs := #[.slice none 0 0, .slice none 0 0, .int .i64 0, .slice none 0 0]) (t := 31) ?hr ?_; (case hd => rfl); (case hg => rfl); (case hr => first | (go_simp; done) | (go_simp; rfl)); intro gb187 hg w7 hbox hb; have BK187 := Aside0.mk (hbox); have GW187 := gE_ HB hg; have GE187 := gE_ HB hg; replace HB := bS_ HB hb; have NB186_187 := nL_ BK186 hg; have NB187_186 := nG_ BK186 hg; replace BK186 := bB_ BK186 hb; clear hb hbox hg; have hnb8 := NB186_187.out; have hnc8 := NB187_186.out; obtain ⟨hcz9_0, hcz9_1, hcz9_2, hcz9_3, hfz9_0, hfz9_1, hfz9_2, hfz9_3⟩ := cf4_ BK186) | ((with_reducible refine gate_callee (f := 48) rfl ?_); refine gL_ (some 11) Try.func48 #[.agg #[.slice A0_0 l0_0.length c0_0, .slice A0_1 l0_1.length c0_1, .int .i64 a0_2, .slice A0_3 l0_3.length c0_3]] ?_; (with_reducible refine (impl_runOk.calls k _ _ l0_0 _ _ l0_1 a0_2 _ _ l0_3 true _ ?side1 ?side2 ?side3 ?side4 ?side5 ?side6 A2.out).mono ?_); (case side1 => exact cB_ HR0_0 HB); (case side2 => exact HC0_0.out); (case side3 => exact cB_ HR0_1 HB); (case side4 => exact HC0_1.out); (case side5 => exact cB_ HR0_3 HB); (case side6 => exact HC0_3.out); rintro e w10 ⟨rfl, hb⟩; refine ⟨_, rfl, ?_⟩; replace BK186 := bB_ BK186 hb; replace BK187 := bB_ BK187 hb; replace HB := bS_ HB hb; (try clear hb); obtain ⟨hcz11_0, hcz11_1, hcz11_2, hcz11_3, hfz11_0, hfz11_1, hfz11_2, hfz11_3⟩ := cf4_ BK186) | ((with_reducible refine gate_callee (f := 49) rfl ?_); refine gL_ (some 15) Try.func49 #[.agg #[.slice A0_0 l0_0.length c0_0, .slice A0_1 l0_1.length c0_1, .int .i64 a0_2, .slice A0_3 l0_3.length c0_3]] ?_; (with_reducible refine (impl_copyRun.calls k _ _ l0_0 _ _ l0_1 a0_2 _ _ l0_3 t189 t192 t195 t196 _ ?side1 ?side2 ?side3 ?side4 ?side5 ?side6 A4.out).mono ?_); (case side1 => exact cB_ HR0_0 HB); (case side2 => exact HC0_0.out); (case side3 => exact cB_ HR0_1 HB); (case side4 => exact HC0_1.out); (case side5 => exact cB_ HR0_3 HB); (case side6 => exact HC0_3.out); rintro e w12 ⟨v190, v193, v197, rfl, ho0, ho1, ho2, hb⟩; refine ⟨_, rfl, ?_⟩; have HO191 := sL_ ho0 HB; have HO194 := rL_ ho1 HB; have HO198 := rL_ ho2 HB; replace BK186 := bB_ BK186 hb; replace BK187 := bB_ BK187 hb; replace HB := bS_ HB hb; (try clear hb); (try clear ho0); (try clear ho1); (try clear ho2)) | ((with_reducible refine gate_dst (N := 4) rfl ?_); refine box_event ?hg (N := 4) ?hd (cs := #[.slice none 0 0, .slice none 0 0, .int .i64 0, .slice none 0 0]) (t := 31) ?hr ?_; (case hd => rfl); (case hg => rfl); (case hr => first | (go_simp; done) | (go_simp; rfl)); intro gb199 hg w13 hbox hb; replace HO191 := sB_ HO191 hb; replace HO194 := rB_ HO194 hb; replace HO198 := rB_ HO198 hb; have BK199 := Aside0.mk (hbox); have GW199 := gE_ HB hg; have GE199 := gE_ HB hg; replace HB := bS_ HB hb; have NB186_199 := nL_ BK186 hg; have NB199_186 := nG_ BK186 hg; replace BK186 := bB_ BK186 hb; have NB187_199 := nL_ BK187 hg; have NB199_187 := nG_ BK187 hg; replace BK187 := bB_ BK187 hb; clear hb hbox hg; obtain ⟨Ao14, co14, eo14⟩ := Kd.S_slice HO191.out; subst eo14; have hnb15 := NB199_186.out; have hnc15 := NB186_199.out; have hnb16 := NB199_187.out; have hnc16 := NB187_199.out; obtain ⟨hcz17_0, hcz17_1, hcz17_2, hcz17_3, hfz17_0, hfz17_1, hfz17_2, hfz17_3⟩ := cf4_ BK199; obtain ⟨Ao18, co18, eo18⟩ := Kd.R_slice HO194.out; subst eo18; obtain ⟨Ao19, co19, eo19⟩ := Kd.R_slice HO198.out; subst eo19) | ((with_reducible refine gate_callee (f := 50) rfl ?_); refine gL_ (some 17) Try.func50 #[.agg #[.slice Ao14 t189.length co14, .slice Ao18 t192.length co18, .int .i64 t195, .slice Ao19 t196.length co19]] ?_; (with_reducible refine (impl_running.callsM (H := Unit) _ _ t189 _ _ t192.length t195 _ _ t196 _ ?side1 ?side5 HL.out.1 HL.out.2.1 (fun q hq _ => HG.out q hq)).mono ?_); (case side1 => exact sDF_ HO191 BK199); (case side5 => exact rDF_ HO198 BK199); rintro e w20 ⟨B, D0, rfl, hm_, hd_, hb, hs_⟩; refine ⟨_, rfl, ?_⟩; have HM := Aside0.mk hm_; have HD := Aside0.mk hd_; have HS := Aside0.mk (Nat.le_trans (below_size sABelo_8) hs_ : w.heap.size ≤ B); clear hm_ hd_ hs_; replace HO191 := sBF_ HO191 BK199 hb; replace HO194 := rBF_ HO194 BK199 hb; replace HO198 := rBF_ HO198 BK199 hb; replace BK186 := bBF_ BK186 NB186_199 hb; replace BK187 := bBF_ BK187 NB187_199 hb; replace BK199 := Aside0.mk (blk_below (g := gb199) (o := .cells #[.slice Ao14 t189.length co14, .slice Ao18 t192.length co18, .int .i64 t195, .slice Ao19 t196.length co19] 31 (0, 0)) (bP_ BK199) hb); replace HB := bSF_ HB GE199 hb; (try clear hb)) | ((with_reducible refine gate_dst (N := 18) rfl ?_); refine Kd.R_lit (Kd.int .i64) _ 2 ?hg (N := 18) ?hd (xs := ([] : List Int)) (inner := []) (ok := fun _ => True) (okp := fun _ => True) ?hr ?hp (fun _ hk => hk) trivial (Below.refl _ _) (Nat.le_refl _) (by simp) ?_; (case hd => rfl); (case hg => rfl); (case hr => first | (go_simp; done) | (go_simp; rfl)); (case hp => exact (Reps.none _ _)); intro v202 w21 ho22 hb hg_ hnew_; have hm_ := map_below (by first | exact HM.out | exact (HM.out).alloc _ | exact HM.out.drew) hb; clear HM; have HM := Aside0.mk hm_; clear hm_; clear hg_ hnew_; (first | rw [← Ny201.out] at ho22 | (simp only [Int.reduceToNat] at ho22; rw [← Ny201.out] at ho22)); replace HO191 := Aside0.mk (Kd.S_elder' (sT_ HO191) (Kd.R_base ho22) hb); replace HO198 := rB_ HO198 hb; have HO203 := rL_ (rN_ ho22 HO194) HB; replace HO194 := rE_ HO194 ho22 hb; replace BK186 := bB_ BK186 hb; replace BK187 := bB_ BK187 hb; replace BK199 := bB_ BK199 hb; replace HB := bS_ HB hb; clear hb ho22; obtain ⟨hcz23_0, hcz23_1, hcz23_2, hcz23_3, hfz23_0, hfz23_1, hfz23_2, hfz23_3⟩ := cf4_ BK199))
  go_loopg [6, 22] k (fun kq v6 v22 w' => ∃ (x6_1 : List Int) (x22_1 : Int) (x200003_1 : List (S43)) (u200003 : Value) (nm : Nat) (D : DataW Unit), v22 = .int .i64 x22_1 ∧ Aside0 (impl_StartTasks.l0 kq x6_1 (t196.length : Int) x22_1 t189 t192 t195 x200003_1 = some (r1, r2, r3, r4, r5)) ∧ Aside0 (kq ≤ k) ∧ Aside0 (Kd.R (Kd.int .i64) 2 w' w.heap.size (fun k_ => some k_ ≠ ((.slice Ao18 t192.length co18) : Value).ownBlock) v6 x6_1) ∧ Aside0 (Kd.S k39 39 w' w.heap.size (fun k_ => some k_ ≠ (v6 : Value).ownBlock ∧ some k_ ≠ ((.slice Ao18 t192.length co18) : Value).ownBlock) (.slice Ao14 t189.length co14) t189) ∧ Aside0 (Kd.R (Kd.int .i64) 2 w' w.heap.size (fun k_ => some k_ ≠ (v6 : Value).ownBlock) (.slice Ao18 t192.length co18) t192) ∧ Aside0 (Kd.R k43 43 w' w.heap.size (fun _ => True) u200003 x200003_1) ∧ Aside0 (w'.heap[gb186]? = some (.cells #[(.slice A0_0 l0_0.length c0_0), (.slice A0_1 l0_1.length c0_1), .int .i64 a0_2, (.slice A0_3 l0_3.length c0_3)] 31 (0, 0))) ∧ Aside0 (w'.heap[gb187]? = some (.cells #[(.slice none 0 0), (.slice none 0 0), .int .i64 0, (.slice none 0 0)] 31 (0, 0))) ∧ Aside0 (w'.heap[gb199]? = some (.cells #[(.slice Ao14 t189.length co14), (.slice Ao18 t192.length co18), .int .i64 t195, u200003] 31 (0, 0))) ∧ Aside0 (Below w.heap.size w w') ∧ Aside0 (w'.ownsMap Try.prog 2 (plainElem (H := Unit) Try.prog 2) B nm D) ∧ Aside0 (Holds D t189 x200003_1 x200003_1.length) ∧ Aside0 (x200003_1.length = t196.length) ∧ Aside0 (nm ≤ 1048576 + x22_1.toNat) ∧ Aside0 (0 ≤ x22_1))
  case atStart => exact ⟨(y201), (0), (t196), (.slice Ao19 t196.length co19), _, D0, (by first | rfl | (simp; done) | (simp [*]; done)), H', ⟨Nat.le_refl _⟩, ⟨rM2_ HO203⟩, ⟨sM2_ HO191⟩, ⟨rM2_ HO194⟩, ⟨rT_ HO198⟩, ⟨bT_ BK186⟩, ⟨bT_ BK187⟩, ⟨bT_ BK199⟩, ⟨sABelo_8⟩, HM, HD, ⟨rfl⟩, ⟨by have := HL.out.2.1; omega⟩, ⟨by decide⟩⟩
  case round =>
   clear H'; (try clear c3); (try clear hcz11_0); (try clear hcz11_1); (try clear hcz11_2); (try clear hcz11_3); (try clear hcz17_0); (try clear hcz17_1); (try clear hcz17_2); (try clear hcz17_3); (try clear hcz23_0); (try clear hcz23_1); (try clear hcz23_2); (try clear hcz23_3); (try clear hcz9_0); (try clear hcz9_1); (try clear hcz9_2); (try clear hcz9_3); (try clear hfz11_0); (try clear hfz11_1); (try clear hfz11_2); (try clear hfz11_3); (try clear hfz17_0); (try clear hfz17_1); (try clear hfz17_2); (try clear hfz17_3); (try clear hfz23_0); (try clear hfz23_1); (try clear hfz23_2); (try clear hfz23_3); (try clear hfz9_0); (try clear hfz9_1); (try clear hfz9_2); (try clear hfz9_3); clear HM HD
   obtain ⟨x6_1, x22_1, x200003_1, u200003, nm, D, rfl, HA, HK1, HO_6, HO_200000, HO_200001, HO_200003, BK186, BK187, BK199, HB, HM, HD, HLE, HNM, HX0⟩ := hrel
   cases gk with
   | zero => exact absurd HA.out (by simp [impl_StartTasks.l0])
   | succ k1 =>
    have H := HA.out; clear HA
    simp only [impl_StartTasks.l0] at H
    by_cases c24 : x22_1 < (t196.length : Int)
    ·rw [if_pos c24] at H
     have c24b0 := decide_eq_true c24
     clear c24
     obtain ⟨c25, H⟩ := ifS_ H
     have c25b0 : decide (0 ≤ x22_1) = true := decide_eq_true c25
     clear c25
     obtain ⟨c26, H⟩ := ifS_ H
     have c26b0 : decide (x22_1 < (t189.length : Int)) = true := decide_eq_true c26
     clear c26
     obtain ⟨c27, H⟩ := ifS_ H
     have c27b0 : decide (x22_1 < (x200003_1.length : Int)) = true := decide_eq_true c27
     clear c27
     by_cases c28 : ((rd_T43 x200003_1 x22_1).f0) = 0
     ·rw [if_pos c28] at H
      have c28b0 := beq_iff_eq.mpr c28
      have c28b1 := bne_eq_false_iff_eq.mpr c28
      clear c28; replace H := Option.bind_eq_some_iff.mp H
      obtain ⟨t206, A290, H⟩ := H
      replace H : (if t206 = true then ((impl_count.f k1 t189 t192 t195 x200003_1 ((rd_T39 t189 x22_1).f1)).bind fun t207 => (if 0 ≤ (wrap64 (((rd_T39 t189 x22_1).f1) - 1)) then (if (wrap64 (((rd_T39 t189 x22_1).f1) - 1)) < (t192.length : Int) then (if t207 ≥ (rd t192 (wrap64 (((rd_T39 t189 x22_1).f1) - 1))) then (impl_StartTasks.l0 k1 x6_1 (t196.length : Int) (wrap64 (x22_1 + 1)) t189 t192 t195 x200003_1) else ((some (x200003_1.set (x22_1 : Int).toNat (⟨1, (rd_T43 x200003_1 x22_1).f1⟩ : S43) : List (S43))).bind fun y209 => (if x6_1.length < 17592186044416 then (impl_StartTasks.l0 k1 (x6_1 ++ [wrap64 (x22_1 + 1)]) (t196.length : Int) (wrap64 (x22_1 + 1)) t189 t192 t195 (y209.set (x22_1 : Int).toNat (⟨(rd_T43 y209 x22_1).f0, wrap64 (((rd_T43 y209 x22_1).f1) + 1)⟩ : S43))) else (none)))) else (none)) else (none))) else (impl_StartTasks.l0 k1 x6_1 (t196.length : Int) (wrap64 (x22_1 + 1)) t189 t192 t195 x200003_1)) = some (r1, r2, r3, r4, r5) := H
      have A29 := Aside0.mk A290; clear A290
      by_cases c30 : t206 = true
      ·subst c30
       replace H := ifT_ H; replace H := Option.bind_eq_some_iff.mp H
       obtain ⟨t207, A310, H⟩ := H
       replace H : (if 0 ≤ (wrap64 (((rd_T39 t189 x22_1).f1) - 1)) then (if (wrap64 (((rd_T39 t189 x22_1).f1) - 1)) < (t192.length : Int) then (if t207 ≥ (rd t192 (wrap64 (((rd_T39 t189 x22_1).f1) - 1))) then (impl_StartTasks.l0 k1 x6_1 (t196.length : Int) (wrap64 (x22_1 + 1)) t189 t192 t195 x200003_1) else ((some (x200003_1.set (x22_1 : Int).toNat (⟨1, (rd_T43 x200003_1 x22_1).f1⟩ : S43) : List (S43))).bind fun y209 => (if x6_1.length < 17592186044416 then (impl_StartTasks.l0 k1 (x6_1 ++ [wrap64 (x22_1 + 1)]) (t196.length : Int) (wrap64 (x22_1 + 1)) t189 t192 t195 (y209.set (x22_1 : Int).toNat (⟨(rd_T43 y209 x22_1).f0, wrap64 (((rd_T43 y209 x22_1).f1) + 1)⟩ : S43))) else (none)))) else (none)) else (none)) = some (r1, r2, r3, r4, r5) := H
       have A31 := Aside0.mk A310; clear A310
       obtain ⟨ji32, hji32⟩ : ∃ j_ : Int, (wrap64 (((rd_T39 t189 x22_1).f1) - 1)) = j_ := ⟨_, rfl⟩
       replace H : (if 0 ≤ (ji32) then (if (ji32) < (t192.length : Int) then (if t207 ≥ (rd t192 (ji32)) then (impl_StartTasks.l0 k1 x6_1 (t196.length : Int) (wrap64 (x22_1 + 1)) t189 t192 t195 x200003_1) else ((some (x200003_1.set (x22_1 : Int).toNat (⟨1, (rd_T43 x200003_1 x22_1).f1⟩ : S43) : List (S43))).bind fun y209 => (if x6_1.length < 17592186044416 then (impl_StartTasks.l0 k1 (x6_1 ++ [wrap64 (x22_1 + 1)]) (t196.length : Int) (wrap64 (x22_1 + 1)) t189 t192 t195 (y209.set (x22_1 : Int).toNat (⟨(rd_T43 y209 x22_1).f0, wrap64 (((rd_T43 y209 x22_1).f1) + 1)⟩ : S43))) else (none)))) else (none)) else (none)) = some (r1, r2, r3, r4, r5) := by first | (rw [hji32] at H; exact H) | (simp only [hji32] at H ⊢; exact H)
       (try rw [hji32] at A29)
       (try rw [hji32] at A31)
       have hji32w : (IntKind.i64.wrap (((rd_T39 t189 x22_1).f1) - 1)) = ji32 := (i64_w _).trans hji32
       obtain ⟨c33, H⟩ := ifS_ H
       have c33b0 : decide (0 ≤ (ji32)) = true := decide_eq_true c33
       clear c33
       obtain ⟨c34, H⟩ := ifS_ H
       have c34b0 : decide ((ji32) < (t192.length : Int)) = true := decide_eq_true c34
       clear c34
       by_cases c35 : t207 ≥ (rd t192 (ji32))
       ·rw [if_pos c35] at H
        have c35b0 : decide ((rd t192 (ji32)) ≤ t207) = true := decide_eq_true c35
        clear c35; have H' := Aside0.mk H; clear H; have hnb36 := NB199_186.out; have hnc36 := NB186_199.out; have hnb37 := NB199_187.out; have hnc37 := NB187_199.out
        obtain ⟨hcz38_0, hcz38_1, hcz38_2, hcz38_3, hfz38_0, hfz38_1, hfz38_2, hfz38_3⟩ := cf4_ BK199
        have p204 : 0 ≤ (x22_1 : Int) := dA_
        have q204 : x22_1 < (t189.length : Int) := dA_
        obtain ⟨ad204, A204_0, c204_0, e204, hx204_0, hx204_1, hx204_2, hx204_3, hl204_0, hi204_0⟩ := at_T39 (Kd.S_reads' HO_200000.out).2.2 x22_1 p204 q204
        cases e204
        obtain ⟨ce204, hce204, hMe204, hcc204⟩ := Kd.S_get HO_200000.out z39 x22_1 p204 (by first | exact q204 | exact of_decide_eq_true (by first | (with_reducible assumption) | assumption) | (have e_ := (Kd.S_reads' HO_200000.out).1; omega))
        obtain ⟨ve204_0, rfl, ge204_0⟩ := k39_openM hMe204
        have hv204_0 := hcc204 0 _ rfl
        rw [Nat.add_zero] at hv204_0
        replace hv204_0 := Option.some.inj (hv204_0.symm.trans hx204_0)
        rw [hv204_0] at ge204_0
        have HL204_0 := Aside0.mk (show Kd.R (Kd.int .i64) 2 _ _ _ _ ((rd_T39 t189 x22_1).f0) from ge204_0)
        clear hv204_0 ge204_0 hcc204 hce204; have HR204_0 := Aside0.mk hi204_0; have HC204_0 := Aside0.mk hl204_0; clear hi204_0 hl204_0; replace p204 := eq_true p204; replace q204 := eq_true q204
        obtain ⟨Ao40, co40, eo40⟩ := Kd.R_slice HO_200003.out
        (first | subst eo40 | (injection eo40 with f1_ f2_ f3_; have f4_ := f1_.symm; have f5_ := f3_.symm; clear f1_ f2_ f3_; subst f4_; subst f5_))
        have p205 : 0 ≤ (x22_1 : Int) := dA_
        have q205 : x22_1 < (x200003_1.length : Int) := dA_
        obtain ⟨ad205, e205, hx205_0, hx205_1⟩ := at_T43 (Kd.R_reads' HO_200003.out).2.2 x22_1 p205 q205
        cases e205
        replace p205 := eq_true p205; replace q205 := eq_true q205
        try go_wp2
        replace HO_6 := Aside0.mk (Kd.R_drew HO_6.out)
        replace HO_200000 := Aside0.mk (Kd.S_drew HO_200000.out)
        replace HO_200001 := Aside0.mk (Kd.R_drew HO_200001.out)
        replace HO_200003 := Aside0.mk (Kd.R_drew HO_200003.out)
        replace HL204_0 := Aside0.mk (Kd.R_drew HL204_0.out)
        replace BK186 := Aside0.mk (blk_drew BK186.out)
        replace BK187 := Aside0.mk (blk_drew BK187.out)
        replace BK199 := Aside0.mk (blk_drew BK199.out)
        replace HR204_0 := Aside0.mk (Kd.C_drew HR204_0.out)
        replace HB := Aside0.mk (below_drew1 HB.out)
        have p208 : 0 ≤ ((ji32) : Int) := dA_
        have q208 : (ji32) < (t192.length : Int) := dA_
        obtain ⟨ad208, e208, hx208_0⟩ := Kd.at_int (Kd.R_reads' HO_200001.out).2.2 (ji32) p208 q208
        cases e208
        replace p208 := eq_true p208; replace q208 := eq_true q208
        have hx205_0' := (show (wr.drew).cell? _ = _ from hx205_0); have hx205_1' := (show (wr.drew).cell? _ = _ from hx205_1); clear hx205_0 hx205_1; have hx205_0 := hx205_0'; have hx205_1 := hx205_1'; clear hx205_0' hx205_1'
        have hm_ := HM.out.drew; clear HM; have HM := Aside0.mk hm_; clear hm_
        have HWF := Aside0.mk (wf_at HG.out x22_1 HX0.out (by rw [← HLE.out]; exact of_eq_true q205))
        have HAT := Aside0.mk (count_at HD.out A31.out)
        have HQX := Aside0.mk (of_eq_true q205 : x22_1 < (x200003_1.length : Int)); have HLM := Aside0.mk (by rw [HLE.out]; exact HL.out.2.1 : x200003_1.length ≤ 1048576)
        refine start_ (n := 24) (S := fun w' => w'.cell? ⟨gb199, 0, none⟩ = some (.slice (some ad204) t189.length co14) ∧ w'.cell? ⟨gb199, 1, none⟩ = some (.slice (some ad208) t192.length co18) ∧ w'.cell? ⟨gb199, 2, none⟩ = some (.int .i64 t195) ∧ w'.cell? ⟨gb199, 3, none⟩ = some (.slice (some ad205) x200003_1.length co40) ∧ w'.cell? (ad205.add ((x22_1).toNat * 2)) = some (.int .i64 ((rd_T43 x200003_1 x22_1).f0)) ∧ w'.cell? ⟨(ad205.add ((x22_1).toNat * 2)).block, (ad205.add ((x22_1).toNat * 2)).off + 1, none⟩ = some (.int .i64 ((rd_T43 x200003_1 x22_1).f1)) ∧ w'.cell? (ad208.add ((ji32)).toNat) = some (.int .i64 (rd t192 (ji32))) ∧ (Instr.lookup 78 (.map (some B)) (.int .i64 ((rd_T39 t189 x22_1).f1)) false).run Try.prog w' = .ok (.int .i64 t207) w') (ds := []) #[false, false, false, false, false, false, false, false, false, false, false, false, false, false, false, false, false, false, false, false, false, false, false, false] (by kernel_rfl) rfl rfl ⟨(blk_cell BK199.out 0).trans rfl, (blk_cell BK199.out 1).trans rfl, (blk_cell BK199.out 2).trans rfl, (blk_cell BK199.out 3).trans rfl, hx205_0, hx205_1, hx208_0, look_run HM.out HAT.out HWF.out⟩ (fun hHeld => ?_); refine with_tabW impl_StartTasks.tab11 impl_StartTasks.bits11 (fun HT_ HW_ => ?_)
        generalize wr.drew = w39 at HM HO_6 HO_200000 HO_200001 HO_200003 HL204_0 BK186 BK187 BK199 HR204_0 HB hx205_0 hx205_1 hx208_0 hHeld ⊢
        refine pT_ 0 (some 36) #[true, false, false, false, false, false, false, false, false, false, false, false, false, false, false, false, false, false, false, false, false, false, false, false] HT_ ?_
        refine pT_ 1 (some 37) #[true, true, false, false, false, false, false, false, false, false, false, false, false, false, false, false, false, false, false, false, false, false, false, false] HT_ ?_
        refine pT_ 2 (some 38) #[true, true, true, false, false, false, false, false, false, false, false, false, false, false, false, false, false, false, false, false, false, false, false, false] HT_ ?_
        refine tT_ 3 (some 39) #[true, true, true, true, false, false, false, false, false, false, false, false, false, false, false, false, false, false, false, false, false, false, false, false] HT_ HW_ hHeld ?_ (hy := by rintro w' ⟨s0, s1, s2, s3, s4, s5, s6, s7⟩; go_simp; with_reducible rfl)
        refine pT_ 4 (some 40) #[true, true, true, true, true, false, false, false, false, false, false, false, false, false, false, false, false, false, false, false, false, false, false, false] HT_ ?_
        refine pT_ 5 (some 41) #[true, true, true, true, true, true, false, false, false, false, false, false, false, false, false, false, false, false, false, false, false, false, false, false] HT_ ?_
        refine pT_ 7 (some 43) #[true, true, true, true, true, true, false, true, false, false, false, false, false, false, false, false, false, false, false, false, false, false, false, false] HT_ ?_
        refine tT_ 6 (some 42) #[true, true, true, true, true, true, true, true, false, false, false, false, false, false, false, false, false, false, false, false, false, false, false, false] HT_ HW_ hHeld ?_ (hy := by rintro w' ⟨s0, s1, s2, s3, s4, s5, s6, s7⟩; go_simp; with_reducible rfl)
        refine one_ (i := 8) (N := some 44) #[true, true, true, true, true, true, true, true, true, false, false, false, false, false, false, false, false, false, false, false, false, false, false, false] rfl rfl (one_of HT_.out (by kernel_rfl)) (by decide) (fun K hK => ?_)
        refine goes_ Try.func51 (by kernel_rfl) rfl #[.agg #[.slice (some ad204) t189.length co14, .slice (some ad208) t192.length co18, .int .i64 t195, .slice (some ad205) x200003_1.length co40], .int .i64 x22_1] (by rfl) rfl rfl (by (try simp only [List.map_toArray, List.map_cons, List.map_nil]); first | done | rfl | (simp only [List.length_drop, List.length_take]; rfl)) ?_
        with_reducible refine (impl_Run_done.calls k1 _ _ t189 _ _ t192 t195 _ _ x200003_1 x22_1 true _ ?side1 ?side2 ?side3 ?side4 ?side5 ?side6 A29.out).mono ?_
        (case side1 => exact sD_ HO_200000)
        (case side2 => exact (Kd.S_reads' HO_200000.out).2.1)
        (case side3 => exact rD_ HO_200001)
        (case side4 => exact (Kd.R_reads' HO_200001.out).2.1)
        (case side5 => exact rD_ HO_200003)
        (case side6 => exact (Kd.R_reads' HO_200003.out).2.1)
        rintro e w41 ⟨rfl, hb⟩
        have HS4_ := (hb.cell (World.block_lt_of_cell? _ _ (hHeld.2.2.2.2.1))).trans (hHeld.2.2.2.2.1)
        have HS5_ := (hb.cell (World.block_lt_of_cell? _ _ (hHeld.2.2.2.2.2.1))).trans (hHeld.2.2.2.2.2.1)
        have HS6_ := (hb.cell (World.block_lt_of_cell? _ _ (hHeld.2.2.2.2.2.2.1))).trans (hHeld.2.2.2.2.2.2.1)
        have hm_ := map_below HM.out hb; clear HM; have HM := Aside0.mk hm_; clear hm_
        refine ⟨_, rfl, ?_⟩
        replace HO_6 := rB_ HO_6 hb; replace HO_200000 := sB_ HO_200000 hb; replace HO_200001 := rB_ HO_200001 hb; replace HO_200003 := rB_ HO_200003 hb; replace HL204_0 := rB_ HL204_0 hb; replace BK186 := bB_ BK186 hb; replace BK187 := bB_ BK187 hb; replace BK199 := bB_ BK199 hb
        replace HR204_0 := Aside0.mk (Kd.C_below (by repeat (first | (with_reducible exact HR204_0.out) | (with_reducible refine Kd.C_alloc ?_ _) | (with_reducible refine Kd.C_drewN ?_ _) | (with_reducible refine Kd.C_drew ?_) | exact HR204_0.out)) hb)
        replace HB := bS_ HB hb; (try clear hb); (try clear hk)
        refine hK.out _ _ ⟨(blk_cell BK199.out 0).trans rfl, (blk_cell BK199.out 1).trans rfl, (blk_cell BK199.out 2).trans rfl, (blk_cell BK199.out 3).trans rfl, HS4_, HS5_, HS6_, look_run HM.out HAT.out HWF.out⟩ (fun hHeld => ?_)
        clear hK K
        refine nS_ (some 44) ?_
        refine pT_ 9 (some 45) #[true, true, true, true, true, true, true, true, true, true, false, false, false, false, false, false, false, false, false, false, false, false, false, false] HT_ ?_
        refine pT_ 10 (some 46) #[true, true, true, true, true, true, true, true, true, true, true, false, false, false, false, false, false, false, false, false, false, false, false, false] HT_ ?_
        refine pT_ 11 (some 47) #[true, true, true, true, true, true, true, true, true, true, true, true, false, false, false, false, false, false, false, false, false, false, false, false] HT_ ?_
        refine pT_ 13 (some 49) #[true, true, true, true, true, true, true, true, true, true, true, true, false, true, false, false, false, false, false, false, false, false, false, false] HT_ ?_
        refine pT_ 15 (some 51) #[true, true, true, true, true, true, true, true, true, true, true, true, false, true, false, true, false, false, false, false, false, false, false, false] HT_ ?_
        refine pT_ 16 (some 52) #[true, true, true, true, true, true, true, true, true, true, true, true, false, true, false, true, true, false, false, false, false, false, false, false] HT_ ?_
        refine pT_ 18 (some 54) #[true, true, true, true, true, true, true, true, true, true, true, true, false, true, false, true, true, false, true, false, false, false, false, false] HT_ ?_
        refine pT_ 19 (some 55) #[true, true, true, true, true, true, true, true, true, true, true, true, false, true, false, true, true, false, true, true, false, false, false, false] HT_ ?_
        refine pT_ 12 (some 48) #[true, true, true, true, true, true, true, true, true, true, true, true, true, true, false, true, true, false, true, true, false, false, false, false] HT_ ?_
        refine tT_ 17 (some 53) #[true, true, true, true, true, true, true, true, true, true, true, true, true, true, false, true, true, true, true, true, false, false, false, false] HT_ HW_ hHeld ?_ (hy := by rintro w' ⟨s0, s1, s2, s3, s4, s5, s6, s7⟩; go_simp; with_reducible rfl)
        refine pT_ 20 (some 56) #[true, true, true, true, true, true, true, true, true, true, true, true, true, true, false, true, true, true, true, true, true, false, false, false] HT_ ?_
        refine tT_ 21 (some 57) #[true, true, true, true, true, true, true, true, true, true, true, true, true, true, false, true, true, true, true, true, true, true, false, false] HT_ HW_ hHeld ?_ (hy := by rintro w' ⟨s0, s1, s2, s3, s4, s5, s6, s7⟩; go_simp; with_reducible rfl)
        refine tT_ 14 (some 50) #[true, true, true, true, true, true, true, true, true, true, true, true, true, true, true, true, true, true, true, true, true, true, false, false] HT_ HW_ hHeld ?_ (hy := by rintro w' ⟨s0, s1, s2, s3, s4, s5, s6, s7⟩; go_simp; with_reducible rfl)
        refine pT_ 22 (some 58) #[true, true, true, true, true, true, true, true, true, true, true, true, true, true, true, true, true, true, true, true, true, true, true, false] HT_ ?_
        refine pT_ 23 (some 59) #[true, true, true, true, true, true, true, true, true, true, true, true, true, true, true, true, true, true, true, true, true, true, true, true] HT_ ?_
        refine done_ (done_of HT_.out (by kernel_rfl)) ?_
        try go_wp2
        go_roundg k1
        case measure => have := HK1.out; omega
        case rel => exact ⟨(x6_1), (wrap64 (x22_1 + 1)), (x200003_1), (.slice (some ad205) x200003_1.length co40), nm, D, (by first | rfl | (simp; done) | (simp [*]; done)), H', ⟨by have := HK1.out; omega⟩, ⟨rT_ HO_6⟩, ⟨sT_ HO_200000⟩, ⟨rT_ HO_200001⟩, ⟨rT_ HO_200003⟩, ⟨bT_ BK186⟩, ⟨bT_ BK187⟩, ⟨bT_ BK199⟩, ⟨sABelo_8⟩, HM, HD, HLE, ⟨nm_stay HNM.out HX0.out HQX.out HLM.out⟩, ⟨x_more HX0.out HQX.out HLM.out⟩⟩
       ·rw [if_neg c35] at H
        have c35b0 : decide ((rd t192 (ji32)) ≤ t207) = false := decide_eq_false c35
        clear c35
        obtain ⟨y209, hy209⟩ : ∃ y_ : List (S43), y_ = (x200003_1.set (x22_1 : Int).toNat (⟨1, (rd_T43 x200003_1 x22_1).f1⟩ : S43)) := ⟨_, rfl⟩
        replace H : (if x6_1.length < 17592186044416 then (impl_StartTasks.l0 k1 (x6_1 ++ [wrap64 (x22_1 + 1)]) (t196.length : Int) (wrap64 (x22_1 + 1)) t189 t192 t195 (y209.set (x22_1 : Int).toNat (⟨(rd_T43 y209 x22_1).f0, wrap64 (((rd_T43 y209 x22_1).f1) + 1)⟩ : S43))) else (none)) = some (r1, r2, r3, r4, r5) := by first | (rw [hy209]; with_reducible exact H) | (have H2_ := (Option.bind_some _ _).symm.trans H; rw [hy209]; with_reducible exact H2_) | (have H2_ := (Option.bind_some _ _).symm.trans H; with_reducible exact H2_) | with_reducible exact H | (rw [hy209]; exact H) | exact H
        have Ny209 := Aside0.mk hy209; clear hy209
        obtain ⟨y210, hy210⟩ : ∃ y_ : List (S43), y_ = (y209.set (x22_1 : Int).toNat (⟨(rd_T43 y209 x22_1).f0, wrap64 (((rd_T43 y209 x22_1).f1) + 1)⟩ : S43)) := ⟨_, rfl⟩
        replace H : (if x6_1.length < 17592186044416 then (impl_StartTasks.l0 k1 (x6_1 ++ [wrap64 (x22_1 + 1)]) (t196.length : Int) (wrap64 (x22_1 + 1)) t189 t192 t195 y210) else (none)) = some (r1, r2, r3, r4, r5) := by first | (rw [hy210]; with_reducible exact H) | (have H2_ := (Option.bind_some _ _).symm.trans H; rw [hy210]; with_reducible exact H2_) | (have H2_ := (Option.bind_some _ _).symm.trans H; with_reducible exact H2_) | with_reducible exact H | (rw [hy210]; exact H) | exact H
        have Ny210 := Aside0.mk hy210; clear hy210
        obtain ⟨c45, H⟩ := ifS_ H
        have LMc45 := Aside0.mk c45; clear c45
        obtain ⟨y211, hy211⟩ : ∃ y_ : List Int, y_ = (x6_1 ++ [wrap64 (x22_1 + 1)]) := ⟨_, rfl⟩
        replace H : (impl_StartTasks.l0 k1 y211 (t196.length : Int) (wrap64 (x22_1 + 1)) t189 t192 t195 y210) = some (r1, r2, r3, r4, r5) := by first | (rw [hy211]; with_reducible exact H) | (have H2_ := (Option.bind_some _ _).symm.trans H; rw [hy211]; with_reducible exact H2_) | (have H2_ := (Option.bind_some _ _).symm.trans H; with_reducible exact H2_) | with_reducible exact H | (rw [hy211]; exact H) | exact H
        have Ny211 := Aside0.mk hy211; clear hy211; have H' := Aside0.mk H; clear H; have hnb46 := NB199_186.out; have hnc46 := NB186_199.out; have hnb47 := NB199_187.out; have hnc47 := NB187_199.out
        obtain ⟨hcz48_0, hcz48_1, hcz48_2, hcz48_3, hfz48_0, hfz48_1, hfz48_2, hfz48_3⟩ := cf4_ BK199
        have p204 : 0 ≤ (x22_1 : Int) := dA_
        have q204 : x22_1 < (t189.length : Int) := dA_
        obtain ⟨ad204, A204_0, c204_0, e204, hx204_0, hx204_1, hx204_2, hx204_3, hl204_0, hi204_0⟩ := at_T39 (Kd.S_reads' HO_200000.out).2.2 x22_1 p204 q204
        cases e204
        obtain ⟨ce204, hce204, hMe204, hcc204⟩ := Kd.S_get HO_200000.out z39 x22_1 p204 (by first | exact q204 | exact of_decide_eq_true (by first | (with_reducible assumption) | assumption) | (have e_ := (Kd.S_reads' HO_200000.out).1; omega))
        obtain ⟨ve204_0, rfl, ge204_0⟩ := k39_openM hMe204
        have hv204_0 := hcc204 0 _ rfl
        rw [Nat.add_zero] at hv204_0
        replace hv204_0 := Option.some.inj (hv204_0.symm.trans hx204_0)
        rw [hv204_0] at ge204_0
        have HL204_0 := Aside0.mk (show Kd.R (Kd.int .i64) 2 _ _ _ _ ((rd_T39 t189 x22_1).f0) from ge204_0)
        clear hv204_0 ge204_0 hcc204 hce204; have HR204_0 := Aside0.mk hi204_0; have HC204_0 := Aside0.mk hl204_0; clear hi204_0 hl204_0; replace p204 := eq_true p204; replace q204 := eq_true q204
        obtain ⟨Ao50, co50, eo50⟩ := Kd.R_slice HO_200003.out
        (first | subst eo50 | (injection eo50 with f1_ f2_ f3_; have f4_ := f1_.symm; have f5_ := f3_.symm; clear f1_ f2_ f3_; subst f4_; subst f5_))
        have p205 : 0 ≤ (x22_1 : Int) := dA_
        have q205 : x22_1 < (x200003_1.length : Int) := dA_
        obtain ⟨ad205, e205, hx205_0, hx205_1⟩ := at_T43 (Kd.R_reads' HO_200003.out).2.2 x22_1 p205 q205
        cases e205
        replace p205 := eq_true p205; replace q205 := eq_true q205
        try go_wp2
        replace HO_6 := Aside0.mk (Kd.R_drew HO_6.out)
        replace HO_200000 := Aside0.mk (Kd.S_drew HO_200000.out)
        replace HO_200001 := Aside0.mk (Kd.R_drew HO_200001.out)
        replace HO_200003 := Aside0.mk (Kd.R_drew HO_200003.out)
        replace HL204_0 := Aside0.mk (Kd.R_drew HL204_0.out)
        replace BK186 := Aside0.mk (blk_drew BK186.out)
        replace BK187 := Aside0.mk (blk_drew BK187.out)
        replace BK199 := Aside0.mk (blk_drew BK199.out)
        replace HR204_0 := Aside0.mk (Kd.C_drew HR204_0.out)
        replace HB := Aside0.mk (below_drew1 HB.out)
        have p208 : 0 ≤ ((ji32) : Int) := dA_
        have q208 : (ji32) < (t192.length : Int) := dA_
        obtain ⟨ad208, e208, hx208_0⟩ := Kd.at_int (Kd.R_reads' HO_200001.out).2.2 (ji32) p208 q208
        cases e208
        replace p208 := eq_true p208; replace q208 := eq_true q208
        have hx205_0' := (show (wr.drew).cell? _ = _ from hx205_0); have hx205_1' := (show (wr.drew).cell? _ = _ from hx205_1); clear hx205_0 hx205_1; have hx205_0 := hx205_0'; have hx205_1 := hx205_1'; clear hx205_0' hx205_1'
        have hm_ := HM.out.drew; clear HM; have HM := Aside0.mk hm_; clear hm_
        have HWF := Aside0.mk (wf_at HG.out x22_1 HX0.out (by rw [← HLE.out]; exact of_eq_true q205))
        have HAT := Aside0.mk (count_at HD.out A31.out)
        have HQX := Aside0.mk (of_eq_true q205 : x22_1 < (x200003_1.length : Int)); have HLM := Aside0.mk (by rw [HLE.out]; exact HL.out.2.1 : x200003_1.length ≤ 1048576)
        refine start_ (n := 24) (S := fun w' => w'.cell? ⟨gb199, 0, none⟩ = some (.slice (some ad204) t189.length co14) ∧ w'.cell? ⟨gb199, 1, none⟩ = some (.slice (some ad208) t192.length co18) ∧ w'.cell? ⟨gb199, 2, none⟩ = some (.int .i64 t195) ∧ w'.cell? ⟨gb199, 3, none⟩ = some (.slice (some ad205) x200003_1.length co50) ∧ w'.cell? (ad205.add ((x22_1).toNat * 2)) = some (.int .i64 ((rd_T43 x200003_1 x22_1).f0)) ∧ w'.cell? ⟨(ad205.add ((x22_1).toNat * 2)).block, (ad205.add ((x22_1).toNat * 2)).off + 1, none⟩ = some (.int .i64 ((rd_T43 x200003_1 x22_1).f1)) ∧ w'.cell? (ad208.add ((ji32)).toNat) = some (.int .i64 (rd t192 (ji32))) ∧ (Instr.lookup 78 (.map (some B)) (.int .i64 ((rd_T39 t189 x22_1).f1)) false).run Try.prog w' = .ok (.int .i64 t207) w') (ds := []) #[false, false, false, false, false, false, false, false, false, false, false, false, false, false, false, false, false, false, false, false, false, false, false, false] (by kernel_rfl) rfl rfl ⟨(blk_cell BK199.out 0).trans rfl, (blk_cell BK199.out 1).trans rfl, (blk_cell BK199.out 2).trans rfl, (blk_cell BK199.out 3).trans rfl, hx205_0, hx205_1, hx208_0, look_run HM.out HAT.out HWF.out⟩ (fun hHeld => ?_); refine with_tabW impl_StartTasks.tab11 impl_StartTasks.bits11 (fun HT_ HW_ => ?_)
        generalize wr.drew = w49 at HM HO_6 HO_200000 HO_200001 HO_200003 HL204_0 BK186 BK187 BK199 HR204_0 HB hx205_0 hx205_1 hx208_0 hHeld ⊢
        refine pT_ 0 (some 36) #[true, false, false, false, false, false, false, false, false, false, false, false, false, false, false, false, false, false, false, false, false, false, false, false] HT_ ?_
        refine pT_ 1 (some 37) #[true, true, false, false, false, false, false, false, false, false, false, false, false, false, false, false, false, false, false, false, false, false, false, false] HT_ ?_
        refine pT_ 2 (some 38) #[true, true, true, false, false, false, false, false, false, false, false, false, false, false, false, false, false, false, false, false, false, false, false, false] HT_ ?_
        refine tT_ 3 (some 39) #[true, true, true, true, false, false, false, false, false, false, false, false, false, false, false, false, false, false, false, false, false, false, false, false] HT_ HW_ hHeld ?_ (hy := by rintro w' ⟨s0, s1, s2, s3, s4, s5, s6, s7⟩; go_simp; with_reducible rfl)
        refine pT_ 4 (some 40) #[true, true, true, true, true, false, false, false, false, false, false, false, false, false, false, false, false, false, false, false, false, false, false, false] HT_ ?_
        refine pT_ 5 (some 41) #[true, true, true, true, true, true, false, false, false, false, false, false, false, false, false, false, false, false, false, false, false, false, false, false] HT_ ?_
        refine pT_ 7 (some 43) #[true, true, true, true, true, true, false, true, false, false, false, false, false, false, false, false, false, false, false, false, false, false, false, false] HT_ ?_
        refine tT_ 6 (some 42) #[true, true, true, true, true, true, true, true, false, false, false, false, false, false, false, false, false, false, false, false, false, false, false, false] HT_ HW_ hHeld ?_ (hy := by rintro w' ⟨s0, s1, s2, s3, s4, s5, s6, s7⟩; go_simp; with_reducible rfl)
        refine one_ (i := 8) (N := some 44) #[true, true, true, true, true, true, true, true, true, false, false, false, false, false, false, false, false, false, false, false, false, false, false, false] rfl rfl (one_of HT_.out (by kernel_rfl)) (by decide) (fun K hK => ?_)
        refine goes_ Try.func51 (by kernel_rfl) rfl #[.agg #[.slice (some ad204) t189.length co14, .slice (some ad208) t192.length co18, .int .i64 t195, .slice (some ad205) x200003_1.length co50], .int .i64 x22_1] (by rfl) rfl rfl (by (try simp only [List.map_toArray, List.map_cons, List.map_nil]); first | done | rfl | (simp only [List.length_drop, List.length_take]; rfl)) ?_
        with_reducible refine (impl_Run_done.calls k1 _ _ t189 _ _ t192 t195 _ _ x200003_1 x22_1 true _ ?side1 ?side2 ?side3 ?side4 ?side5 ?side6 A29.out).mono ?_
        (case side1 => exact sD_ HO_200000)
        (case side2 => exact (Kd.S_reads' HO_200000.out).2.1)
        (case side3 => exact rD_ HO_200001)
        (case side4 => exact (Kd.R_reads' HO_200001.out).2.1)
        (case side5 => exact rD_ HO_200003)
        (case side6 => exact (Kd.R_reads' HO_200003.out).2.1)
        rintro e w51 ⟨rfl, hb⟩
        have HS4_ := (hb.cell (World.block_lt_of_cell? _ _ (hHeld.2.2.2.2.1))).trans (hHeld.2.2.2.2.1)
        have HS5_ := (hb.cell (World.block_lt_of_cell? _ _ (hHeld.2.2.2.2.2.1))).trans (hHeld.2.2.2.2.2.1)
        have HS6_ := (hb.cell (World.block_lt_of_cell? _ _ (hHeld.2.2.2.2.2.2.1))).trans (hHeld.2.2.2.2.2.2.1)
        have hm_ := map_below HM.out hb; clear HM; have HM := Aside0.mk hm_; clear hm_
        refine ⟨_, rfl, ?_⟩
        replace HO_6 := rB_ HO_6 hb; replace HO_200000 := sB_ HO_200000 hb; replace HO_200001 := rB_ HO_200001 hb; replace HO_200003 := rB_ HO_200003 hb; replace HL204_0 := rB_ HL204_0 hb; replace BK186 := bB_ BK186 hb; replace BK187 := bB_ BK187 hb; replace BK199 := bB_ BK199 hb
        replace HR204_0 := Aside0.mk (Kd.C_below (by repeat (first | (with_reducible exact HR204_0.out) | (with_reducible refine Kd.C_alloc ?_ _) | (with_reducible refine Kd.C_drewN ?_ _) | (with_reducible refine Kd.C_drew ?_) | exact HR204_0.out)) hb)
        replace HB := bS_ HB hb; (try clear hb); (try clear hk)
        refine hK.out _ _ ⟨(blk_cell BK199.out 0).trans rfl, (blk_cell BK199.out 1).trans rfl, (blk_cell BK199.out 2).trans rfl, (blk_cell BK199.out 3).trans rfl, HS4_, HS5_, HS6_, look_run HM.out HAT.out HWF.out⟩ (fun hHeld => ?_)
        clear hK K
        refine nS_ (some 44) ?_
        refine pT_ 9 (some 45) #[true, true, true, true, true, true, true, true, true, true, false, false, false, false, false, false, false, false, false, false, false, false, false, false] HT_ ?_
        refine pT_ 10 (some 46) #[true, true, true, true, true, true, true, true, true, true, true, false, false, false, false, false, false, false, false, false, false, false, false, false] HT_ ?_
        refine pT_ 11 (some 47) #[true, true, true, true, true, true, true, true, true, true, true, true, false, false, false, false, false, false, false, false, false, false, false, false] HT_ ?_
        refine pT_ 13 (some 49) #[true, true, true, true, true, true, true, true, true, true, true, true, false, true, false, false, false, false, false, false, false, false, false, false] HT_ ?_
        refine pT_ 15 (some 51) #[true, true, true, true, true, true, true, true, true, true, true, true, false, true, false, true, false, false, false, false, false, false, false, false] HT_ ?_
        refine pT_ 16 (some 52) #[true, true, true, true, true, true, true, true, true, true, true, true, false, true, false, true, true, false, false, false, false, false, false, false] HT_ ?_
        refine pT_ 18 (some 54) #[true, true, true, true, true, true, true, true, true, true, true, true, false, true, false, true, true, false, true, false, false, false, false, false] HT_ ?_
        refine pT_ 19 (some 55) #[true, true, true, true, true, true, true, true, true, true, true, true, false, true, false, true, true, false, true, true, false, false, false, false] HT_ ?_
        refine pT_ 12 (some 48) #[true, true, true, true, true, true, true, true, true, true, true, true, true, true, false, true, true, false, true, true, false, false, false, false] HT_ ?_
        refine tT_ 17 (some 53) #[true, true, true, true, true, true, true, true, true, true, true, true, true, true, false, true, true, true, true, true, false, false, false, false] HT_ HW_ hHeld ?_ (hy := by rintro w' ⟨s0, s1, s2, s3, s4, s5, s6, s7⟩; go_simp; with_reducible rfl)
        refine pT_ 20 (some 56) #[true, true, true, true, true, true, true, true, true, true, true, true, true, true, false, true, true, true, true, true, true, false, false, false] HT_ ?_
        refine tT_ 21 (some 57) #[true, true, true, true, true, true, true, true, true, true, true, true, true, true, false, true, true, true, true, true, true, true, false, false] HT_ HW_ hHeld ?_ (hy := by rintro w' ⟨s0, s1, s2, s3, s4, s5, s6, s7⟩; go_simp; with_reducible rfl)
        refine tT_ 14 (some 50) #[true, true, true, true, true, true, true, true, true, true, true, true, true, true, true, true, true, true, true, true, true, true, false, false] HT_ HW_ hHeld ?_ (hy := by rintro w' ⟨s0, s1, s2, s3, s4, s5, s6, s7⟩; go_simp; with_reducible rfl)
        refine pT_ 22 (some 58) #[true, true, true, true, true, true, true, true, true, true, true, true, true, true, true, true, true, true, true, true, true, true, true, false] HT_ ?_
        refine pT_ 23 (some 59) #[true, true, true, true, true, true, true, true, true, true, true, true, true, true, true, true, true, true, true, true, true, true, true, true] HT_ ?_
        refine done_ (done_of HT_.out (by kernel_rfl)) ?_
        obtain ⟨hcz53_0, hcz53_1, hcz53_2, hcz53_3, hfz53_0, hfz53_1, hfz53_2, hfz53_3⟩ := cf4_ BK199
        have p43 : 0 ≤ (x22_1 : Int) := dA_
        have q43 : (x22_1 : Int) < ((x200003_1.length : Int) : Int) := dA_
        obtain ⟨go43, co43, eo43, gb43, gl43, cl43, HG43⟩ := Kd.R_form HO_200003.out (by omega)
        (first | cases eo43 | (injection eo43 with ea_ en_ ec_; (first | subst ea_ | (injection ea_ with ea_; subst ea_)); subst ec_; clear en_))
        have GB43 := Aside0.mk gb43; have GG43 := Aside0.mk HG43; clear gb43 gl43 HG43
        (first | simp only [add_plain] at hx205_0 | skip)
        (first | simp only [add_plain] at hx205_1 | skip)
        obtain ⟨ce43, hcl43, hM43, hcc43, hfr43⟩ := Kd.R_elem HO_200003.out z43 (x22_1 : Int) p43 q43
        obtain rfl := k43_openM hM43
        have hx43_0 : w51.cell? ⟨go43, (x22_1 : Int).toNat * 2, none⟩ = some (.int .i64 ((rd_T43 x200003_1 x22_1).f0)) := hcc43 0 _ rfl
        have hx43_1 : w51.cell? ⟨go43, (x22_1 : Int).toNat * 2 + 1, none⟩ = some (.int .i64 ((rd_T43 x200003_1 x22_1).f1)) := hcc43 1 _ rfl
        have hf43_0 : w51.frozen? ⟨go43, (x22_1 : Int).toNat * 2, none⟩ = false := hfr43 0
        have hf43_1 : w51.frozen? ⟨go43, (x22_1 : Int).toNat * 2 + 1, none⟩ = false := hfr43 1
        clear hcl43 hcc43 hfr43 hM43; replace p43 := eq_true p43; replace q43 := eq_true q43
        have HX54 := Aside0.mk (show Kd.R k43 43 w51 w.heap.size (fun _ => True) (.slice (some ⟨go43, 0, none⟩) x200003_1.length co50) x200003_1 from (rT_ HO_200003))
        obtain ⟨ce54, hcl54, hM54, hcc54, hfr54⟩ := Kd.R_elem HX54.out z43 (x22_1 : Int) dA_ (by have h_ : (x22_1 : Int) < ((x200003_1.length : Int) : Int) := dA_; first | exact h_ | (have e_ := (Kd.R_reads' HO_200003.out).1; omega) | simpa using h_)
        obtain rfl := k43_openM hM54
        have HP54 := Kd.R_seg HX54.out (x22_1 : Int) dA_ (by have h_ : (x22_1 : Int) < ((x200003_1.length : Int) : Int) := dA_; first | exact h_ | (have e_ := (Kd.R_reads' HO_200003.out).1; omega) | simpa using h_) (seg := [.int .i64 1]) (j := 0) hcl54 hcc54 (show 1 ≤ 2 from by decide) (x' := (⟨1, (rd_T43 x200003_1 x22_1).f1⟩ : S43)) (k43_mkM _ _ _ (⟨1, (rd_T43 x200003_1 x22_1).f1⟩ : S43) ) (fun _ hk => hk)
        have hx54_0 := hcc54 0 _ rfl
        (try simp only [show (k43).sz = 2 from rfl, Nat.mul_one, Nat.add_zero] at hx54_0)
        have hf54_0 := hfr54 0
        (try simp only [show (k43).sz = 2 from rfl, Nat.mul_one, Nat.add_zero] at hf54_0)
        clear hcl54 hcc54 hfr54 hM54
        try go_wp2_with (first | ((with_reducible refine gate_store (t := 2) (p := 62) rfl ?_); refine store_event (t := 2) (p := 62) (v := ?vo_w55) (w1 := (w51.setCell ⟨go43, (x22_1 : Int).toNat * 2, none⟩ (.int .i64 1))) ?hg ?ho ?hn ?hr ?_; (case ho => rfl); (case hg => rfl); (case hn => rfl); (case hr => first | (go_simp; done) | (go_simp; rfl)); intro w55 hw; have hg : w51.grownBy w55 (some go43) := (by rw [hw]; exact HP54.2); have hm_ := HM.out.kept hg (ne_row HM.out (Kd.R_typed HO_200003.out)); clear HM; have HM := Aside0.mk hm_; clear hm_; have hp_ : Kd.R k43 43 w55 w.heap.size (fun _ => True) (.slice (some ⟨go43, 0, none⟩) x200003_1.length co50) y209 := (by rw [hw, Ny209.out]; exact HP54.1); clear HP54; replace HO_6 := Aside0.mk (Kd.R_over' (v := (.slice (some ⟨go43, 0, none⟩) x200003_1.length co50)) (rT_ HO_6) (Kd.R_typed HO_200003.out) (by decide) hg); replace HO_200000 := Aside0.mk (Kd.S_over' (v := (.slice (some ⟨go43, 0, none⟩) x200003_1.length co50)) (sT_ HO_200000) (Kd.R_typed HO_200003.out) (by decide) hg); replace HO_200001 := Aside0.mk (Kd.R_over' (v := (.slice (some ⟨go43, 0, none⟩) x200003_1.length co50)) (rT_ HO_200001) (Kd.R_typed HO_200003.out) (by decide) hg); replace BK186 := Aside0.mk (blk_grown (g := gb186) (o := .cells #[.slice A0_0 l0_0.length c0_0, .slice A0_1 l0_1.length c0_1, .int .i64 a0_2, .slice A0_3 l0_3.length c0_3] 31 (0, 0)) (bT_ BK186) hg (Kd.R_ne HO_200003.out BK186.out (by decide))); replace BK187 := Aside0.mk (blk_grown (g := gb187) (o := .cells #[.slice none 0 0, .slice none 0 0, .int .i64 0, .slice none 0 0] 31 (0, 0)) (bT_ BK187) hg (Kd.R_ne HO_200003.out BK187.out (by decide))); replace BK199 := Aside0.mk (blk_grown (g := gb199) (o := .cells #[.slice (some ad204) t189.length co14, .slice (some ad208) t192.length co18, .int .i64 t195, .slice (some ⟨go43, 0, none⟩) x200003_1.length co50] 31 (0, 0)) (bT_ BK199) hg (Kd.R_ne HO_200003.out BK199.out (by decide))); replace HL204_0 := Aside0.mk (Kd.R_over' (v := (.slice (some ⟨go43, 0, none⟩) x200003_1.length co50)) (rT_ HL204_0) (Kd.R_typed HO_200003.out) (by decide) hg); replace HO_200003 := Aside0.mk (hp_); replace HB := Aside0.mk ((by rw [hw]; exact below_set (HB.out) GB43.out : Below w.heap.size w w55)); clear hg hw hp_; obtain ⟨hcz56_0, hcz56_1, hcz56_2, hcz56_3, hfz56_0, hfz56_1, hfz56_2, hfz56_3⟩ := cf4_ BK199; have p44 : 0 ≤ (x22_1 : Int) := dA_; have q44 : (x22_1 : Int) < ((x200003_1.length : Int) : Int) := dA_; obtain ⟨ce44, hcl44, hM44, hcc44, hfr44⟩ := Kd.R_elem HO_200003.out z43 (x22_1 : Int) p44 q44; obtain rfl := k43_openM hM44; have hx44_0 : w55.cell? ⟨go43, (x22_1 : Int).toNat * 2, none⟩ = some (.int .i64 ((rd_T43 y209 x22_1).f0)) := hcc44 0 _ rfl; have hx44_1 : w55.cell? ⟨go43, (x22_1 : Int).toNat * 2 + 1, none⟩ = some (.int .i64 ((rd_T43 y209 x22_1).f1)) := hcc44 1 _ rfl; have hf44_0 : w55.frozen? ⟨go43, (x22_1 : Int).toNat * 2, none⟩ = false := hfr44 0; have hf44_1 : w55.frozen? ⟨go43, (x22_1 : Int).toNat * 2 + 1, none⟩ = false := hfr44 1; clear hcl44 hcc44 hfr44 hM44; replace p44 := eq_true p44; replace q44 := eq_true q44; have HX57 := Aside0.mk (show Kd.R k43 43 w55 w.heap.size (fun _ => True) (.slice (some ⟨go43, 0, none⟩) x200003_1.length co50) y209 from (rT_ HO_200003)); obtain ⟨ce57, hcl57, hM57, hcc57, hfr57⟩ := Kd.R_elem HX57.out z43 (x22_1 : Int) dA_ (by have h_ : (x22_1 : Int) < ((x200003_1.length : Int) : Int) := dA_; first | exact h_ | (have e_ := (Kd.R_reads' HO_200003.out).1; omega) | simpa using h_); obtain rfl := k43_openM hM57; have HP57 := Kd.R_seg HX57.out (x22_1 : Int) dA_ (by have h_ : (x22_1 : Int) < ((x200003_1.length : Int) : Int) := dA_; first | exact h_ | (have e_ := (Kd.R_reads' HO_200003.out).1; omega) | simpa using h_) (seg := [.int .i64 (wrap64 (((rd_T43 y209 x22_1).f1) + 1))]) (j := 1) hcl57 hcc57 (show 2 ≤ 2 from by decide) (x' := (⟨(rd_T43 y209 x22_1).f0, wrap64 (((rd_T43 y209 x22_1).f1) + 1)⟩ : S43)) (k43_mkM _ _ _ (⟨(rd_T43 y209 x22_1).f0, wrap64 (((rd_T43 y209 x22_1).f1) + 1)⟩ : S43) ) (fun _ hk => hk); have hx57_1 := hcc57 1 _ rfl; (try simp only [show (k43).sz = 2 from rfl, Nat.mul_one, Nat.add_zero] at hx57_1); have hf57_1 := hfr57 1; (try simp only [show (k43).sz = 2 from rfl, Nat.mul_one, Nat.add_zero] at hf57_1); clear hcl57 hcc57 hfr57 hM57) | ((with_reducible refine gate_store (t := 2) (p := 69) rfl ?_); refine store_event (t := 2) (p := 69) (v := ?vo_w58) (w1 := (w55.setCell ⟨go43, (x22_1 : Int).toNat * 2 + 1, none⟩ (.int .i64 (wrap64 (((rd_T43 y209 x22_1).f1) + 1))))) ?hg ?ho ?hn ?hr ?_; (case ho => rfl); (case hg => rfl); (case hn => rfl); (case hr => first | (go_simp; done) | (go_simp; rfl)); intro w58 hw; have hg : w55.grownBy w58 (some go43) := (by rw [hw]; exact HP57.2); have hm_ := HM.out.kept hg (ne_row HM.out (Kd.R_typed HO_200003.out)); clear HM; have HM := Aside0.mk hm_; clear hm_; have hp_ : Kd.R k43 43 w58 w.heap.size (fun _ => True) (.slice (some ⟨go43, 0, none⟩) x200003_1.length co50) y210 := (by rw [hw, Ny210.out]; exact HP57.1); clear HP57; replace HO_6 := Aside0.mk (Kd.R_over' (v := (.slice (some ⟨go43, 0, none⟩) x200003_1.length co50)) (rT_ HO_6) (Kd.R_typed HO_200003.out) (by decide) hg); replace HO_200000 := Aside0.mk (Kd.S_over' (v := (.slice (some ⟨go43, 0, none⟩) x200003_1.length co50)) (sT_ HO_200000) (Kd.R_typed HO_200003.out) (by decide) hg); replace HO_200001 := Aside0.mk (Kd.R_over' (v := (.slice (some ⟨go43, 0, none⟩) x200003_1.length co50)) (rT_ HO_200001) (Kd.R_typed HO_200003.out) (by decide) hg); replace BK186 := Aside0.mk (blk_grown (g := gb186) (o := .cells #[.slice A0_0 l0_0.length c0_0, .slice A0_1 l0_1.length c0_1, .int .i64 a0_2, .slice A0_3 l0_3.length c0_3] 31 (0, 0)) (bT_ BK186) hg (Kd.R_ne HO_200003.out BK186.out (by decide))); replace BK187 := Aside0.mk (blk_grown (g := gb187) (o := .cells #[.slice none 0 0, .slice none 0 0, .int .i64 0, .slice none 0 0] 31 (0, 0)) (bT_ BK187) hg (Kd.R_ne HO_200003.out BK187.out (by decide))); replace BK199 := Aside0.mk (blk_grown (g := gb199) (o := .cells #[.slice (some ad204) t189.length co14, .slice (some ad208) t192.length co18, .int .i64 t195, .slice (some ⟨go43, 0, none⟩) x200003_1.length co50] 31 (0, 0)) (bT_ BK199) hg (Kd.R_ne HO_200003.out BK199.out (by decide))); replace HL204_0 := Aside0.mk (Kd.R_over' (v := (.slice (some ⟨go43, 0, none⟩) x200003_1.length co50)) (rT_ HL204_0) (Kd.R_typed HO_200003.out) (by decide) hg); replace HO_200003 := Aside0.mk (hp_); replace HB := Aside0.mk ((by rw [hw]; exact below_set (HB.out) GB43.out : Below w.heap.size w w58)); clear hg hw hp_) | (at_lookup; refine wpList_lookup_own_int _ rfl _ _ 78 rfl 2 2 .i64 lawI Try.underlying78 Try.underlying2 (zeroI _) B nm D rfl HM.out _ _ rfl (keyOf_int_mk Try.underlying2 HWF.out) ?_; intro cq hatq hwcq) | (at_mapUpdate; refine wpList_mapUpdate_own _ rfl _ _ _ 78 rfl 2 2 lawI Try.underlying78 _ B nm D rfl HM.out (nm_lt HNM.out HQX.out HLM.out) _ _ _ rfl rfl (keyOf_int_mk Try.underlying2 HWF.out) _ [] (plainElem_int Try.underlying2 (wrap64_wf _)) ?_; intro wm hown7 hgrow7; replace HO_6 := Aside0.mk (R_overM HO_6.out HM.out hgrow7); replace HO_200000 := Aside0.mk (S_overM HO_200000.out HM.out hgrow7); replace HO_200001 := Aside0.mk (R_overM HO_200001.out HM.out hgrow7); replace HO_200003 := Aside0.mk (R_overM HO_200003.out HM.out hgrow7); replace BK186 := Aside0.mk (blk_overM BK186.out HM.out hgrow7); replace BK187 := Aside0.mk (blk_overM BK187.out HM.out hgrow7); replace BK199 := Aside0.mk (blk_overM BK199.out HM.out hgrow7); replace HL204_0 := Aside0.mk (R_overM HL204_0.out HM.out hgrow7); replace HB := Aside0.mk (HB.out.grown hgrow7 HB.out.size (fun k_ e_ => by cases e_; exact HS.out)); replace HM := Aside0.mk hown7; have HAQ := Aside0.mk hatq; clear hatq hwcq hown7 hgrow7) | ((with_reducible refine gate_builtin (b := .append) (xs := #[.tmp 74, .tmp 77]) rfl ?_); at_builtin; refine Kd.R_append (Kd.int .i64) (w0 := w) w.heap.size rfl (.tmp 74) (.tmp 77) 25 2 (.int .i64 0) 8 rfl Try.underlying25 info2 rfl (by decide) (by omega) u6 x6_1 (wrap64 (x22_1 + 1)) [.int .i64 (wrap64 (x22_1 + 1))] (fun k_ => some k_ ≠ (.slice (some ad208) t192.length co18 : Value).ownBlock) (fun _ => False) rfl rfl ?aP (fun _ hk => hk.elim) ?aF ?aO ?aB ?aS ?aL ?_; (case aP => exact rfl); (case aB => exact sABelo_8); (case aF => exact (fun k_ hk => Kd.fresh' (rLt_ HO_200001) k_ hk)); (case aO => exact (rT_ HO_6)); (case aS => exact (below_size sABelo_8)); (case aL => have := LMc45.out; omega); intro v212 w59 ho hb hg hat; have hm_ := HM.out.kept hg (ne_row HM.out (Kd.R_typed HO_6.out)); clear HM; have HM := Aside0.mk hm_; clear hm_; rw [← Ny211.out] at ho; replace HO_200000 := Aside0.mk (Kd.S_after (ok := (fun k_ => some k_ ≠ (.slice (some ad208) t192.length co18 : Value).ownBlock)) (by (with_reducible repeat (first | apply Kd.S_alloc | apply Kd.S_drewN | apply Kd.S_drew)); exact Kd.S_mono HO_200000.out (fun _ hk => ⟨hk.2, hk.1⟩)) hg hat); replace HO_200001 := Aside0.mk (Kd.R_after (ok := (fun _ => True)) (rM_ HO_200001 (fun _ hk => ⟨trivial, hk⟩)) hg hat); replace HO_200003 := Aside0.mk (Kd.R_over' (rT_ HO_200003) (Kd.R_typed (rT_ HO_6)) (by decide) hg); replace BK186 := Aside0.mk (blk_grown (g := gb186) (o := .cells #[.slice A0_0 l0_0.length c0_0, .slice A0_1 l0_1.length c0_1, .int .i64 a0_2, .slice A0_3 l0_3.length c0_3] 31 (0, 0)) (bT_ BK186) hg (Kd.R_ne HO_6.out BK186.out (by decide))); replace BK187 := Aside0.mk (blk_grown (g := gb187) (o := .cells #[.slice none 0 0, .slice none 0 0, .int .i64 0, .slice none 0 0] 31 (0, 0)) (bT_ BK187) hg (Kd.R_ne HO_6.out BK187.out (by decide))); replace BK199 := Aside0.mk (blk_grown (g := gb199) (o := .cells #[.slice (some ad204) t189.length co14, .slice (some ad208) t192.length co18, .int .i64 t195, .slice (some ⟨go43, 0, none⟩) x200003_1.length co50] 31 (0, 0)) (bT_ BK199) hg (Kd.R_ne HO_6.out BK199.out (by decide))); replace HL204_0 := Aside0.mk (Kd.R_after (ok := (fun k_ => some k_ ≠ (.slice (some ad204) t189.length co14 : Value).ownBlock ∧ some k_ ≠ (.slice (some ad208) t192.length co18 : Value).ownBlock)) (rM_ HL204_0) hg hat); replace HB := Aside0.mk (hb); have HO213 := Aside0.mk (ho); clear HO_6; clear ho hb hg hat))
        go_roundg k1
        case measure => have := HK1.out; omega
        case rel => exact ⟨(y211), (wrap64 (x22_1 + 1)), (y210), (.slice (some ⟨go43, 0, none⟩) x200003_1.length co50), nm + 1, _, (by first | rfl | (simp; done) | (simp [*]; done)), H', ⟨by have := HK1.out; omega⟩, ⟨rT_ HO213⟩, ⟨sM2_ HO_200000⟩, ⟨rM2_ HO_200001⟩, ⟨rT_ HO_200003⟩, ⟨bT_ BK186⟩, ⟨bT_ BK187⟩, ⟨bT_ BK199⟩, ⟨sABelo_8⟩, HM, ⟨holds_begin HD.out x22_1 HX0.out HQX.out (beq_iff_eq.mp c28b0) ⟨1, wrap64 ((rd_T43 x200003_1 x22_1).f1 + 1)⟩ rfl (set_two HX0.out HQX.out Ny209.out Ny210.out) HAQ.out HLM.out⟩, ⟨by rw [(set_two HX0.out HQX.out Ny209.out Ny210.out), List.length_set]; exact HLE.out⟩, ⟨nm_more HNM.out HX0.out HQX.out HLM.out⟩, ⟨x_more HX0.out HQX.out HLM.out⟩⟩
      ·replace c30 := Bool.eq_false_iff.mpr c30
       subst c30
       replace H := ifF_ H; have H' := Aside0.mk H; clear H; have hnb60 := NB199_186.out; have hnc60 := NB186_199.out; have hnb61 := NB199_187.out; have hnc61 := NB187_199.out
       obtain ⟨hcz62_0, hcz62_1, hcz62_2, hcz62_3, hfz62_0, hfz62_1, hfz62_2, hfz62_3⟩ := cf4_ BK199
       have p204 : 0 ≤ (x22_1 : Int) := dA_
       have q204 : x22_1 < (t189.length : Int) := dA_
       obtain ⟨ad204, A204_0, c204_0, e204, hx204_0, hx204_1, hx204_2, hx204_3, hl204_0, hi204_0⟩ := at_T39 (Kd.S_reads' HO_200000.out).2.2 x22_1 p204 q204
       cases e204
       obtain ⟨ce204, hce204, hMe204, hcc204⟩ := Kd.S_get HO_200000.out z39 x22_1 p204 (by first | exact q204 | exact of_decide_eq_true (by first | (with_reducible assumption) | assumption) | (have e_ := (Kd.S_reads' HO_200000.out).1; omega))
       obtain ⟨ve204_0, rfl, ge204_0⟩ := k39_openM hMe204
       have hv204_0 := hcc204 0 _ rfl
       rw [Nat.add_zero] at hv204_0
       replace hv204_0 := Option.some.inj (hv204_0.symm.trans hx204_0)
       rw [hv204_0] at ge204_0
       have HL204_0 := Aside0.mk (show Kd.R (Kd.int .i64) 2 _ _ _ _ ((rd_T39 t189 x22_1).f0) from ge204_0)
       clear hv204_0 ge204_0 hcc204 hce204; have HR204_0 := Aside0.mk hi204_0; have HC204_0 := Aside0.mk hl204_0; clear hi204_0 hl204_0; replace p204 := eq_true p204; replace q204 := eq_true q204
       obtain ⟨Ao64, co64, eo64⟩ := Kd.R_slice HO_200003.out
       (first | subst eo64 | (injection eo64 with f1_ f2_ f3_; have f4_ := f1_.symm; have f5_ := f3_.symm; clear f1_ f2_ f3_; subst f4_; subst f5_))
       have p205 : 0 ≤ (x22_1 : Int) := dA_
       have q205 : x22_1 < (x200003_1.length : Int) := dA_
       obtain ⟨ad205, e205, hx205_0, hx205_1⟩ := at_T43 (Kd.R_reads' HO_200003.out).2.2 x22_1 p205 q205
       cases e205
       replace p205 := eq_true p205; replace q205 := eq_true q205
       try go_wp2
       replace HO_6 := Aside0.mk (Kd.R_drew HO_6.out)
       replace HO_200000 := Aside0.mk (Kd.S_drew HO_200000.out)
       replace HO_200001 := Aside0.mk (Kd.R_drew HO_200001.out)
       replace HO_200003 := Aside0.mk (Kd.R_drew HO_200003.out)
       replace HL204_0 := Aside0.mk (Kd.R_drew HL204_0.out)
       replace BK186 := Aside0.mk (blk_drew BK186.out)
       replace BK187 := Aside0.mk (blk_drew BK187.out)
       replace BK199 := Aside0.mk (blk_drew BK199.out)
       replace HR204_0 := Aside0.mk (Kd.C_drew HR204_0.out)
       replace HB := Aside0.mk (below_drew1 HB.out)
       have hx205_0' := (show (wr.drew).cell? _ = _ from hx205_0); have hx205_1' := (show (wr.drew).cell? _ = _ from hx205_1); clear hx205_0 hx205_1; have hx205_0 := hx205_0'; have hx205_1 := hx205_1'; clear hx205_0' hx205_1'
       have hm_ := HM.out.drew; clear HM; have HM := Aside0.mk hm_; clear hm_
       have HQX := Aside0.mk (of_eq_true q205 : x22_1 < (x200003_1.length : Int)); have HLM := Aside0.mk (by rw [HLE.out]; exact HL.out.2.1 : x200003_1.length ≤ 1048576)
       refine start_ (n := 24) (S := fun w' => w'.cell? ⟨gb199, 0, none⟩ = some (.slice (some ad204) t189.length co14) ∧ w'.cell? ⟨gb199, 1, none⟩ = some (.slice Ao18 t192.length co18) ∧ w'.cell? ⟨gb199, 2, none⟩ = some (.int .i64 t195) ∧ w'.cell? ⟨gb199, 3, none⟩ = some (.slice (some ad205) x200003_1.length co64) ∧ w'.cell? (ad205.add ((x22_1).toNat * 2)) = some (.int .i64 ((rd_T43 x200003_1 x22_1).f0)) ∧ w'.cell? ⟨(ad205.add ((x22_1).toNat * 2)).block, (ad205.add ((x22_1).toNat * 2)).off + 1, none⟩ = some (.int .i64 ((rd_T43 x200003_1 x22_1).f1))) (ds := []) #[false, false, false, false, false, false, false, false, false, false, false, false, false, false, false, false, false, false, false, false, false, false, false, false] (by kernel_rfl) rfl rfl ⟨(blk_cell BK199.out 0).trans rfl, (blk_cell BK199.out 1).trans rfl, (blk_cell BK199.out 2).trans rfl, (blk_cell BK199.out 3).trans rfl, hx205_0, hx205_1⟩ (fun hHeld => ?_); refine with_tabW impl_StartTasks.tab11 impl_StartTasks.bits11 (fun HT_ HW_ => ?_)
       generalize wr.drew = w63 at HM HO_6 HO_200000 HO_200001 HO_200003 HL204_0 BK186 BK187 BK199 HR204_0 HB hx205_0 hx205_1 hHeld ⊢
       refine pT_ 0 (some 36) #[true, false, false, false, false, false, false, false, false, false, false, false, false, false, false, false, false, false, false, false, false, false, false, false] HT_ ?_
       refine pT_ 1 (some 37) #[true, true, false, false, false, false, false, false, false, false, false, false, false, false, false, false, false, false, false, false, false, false, false, false] HT_ ?_
       refine pT_ 2 (some 38) #[true, true, true, false, false, false, false, false, false, false, false, false, false, false, false, false, false, false, false, false, false, false, false, false] HT_ ?_
       refine tT_ 3 (some 39) #[true, true, true, true, false, false, false, false, false, false, false, false, false, false, false, false, false, false, false, false, false, false, false, false] HT_ HW_ hHeld ?_ (hy := by rintro w' ⟨s0, s1, s2, s3, s4, s5⟩; go_simp; with_reducible rfl)
       refine pT_ 4 (some 40) #[true, true, true, true, true, false, false, false, false, false, false, false, false, false, false, false, false, false, false, false, false, false, false, false] HT_ ?_
       refine pT_ 5 (some 41) #[true, true, true, true, true, true, false, false, false, false, false, false, false, false, false, false, false, false, false, false, false, false, false, false] HT_ ?_
       refine pT_ 7 (some 43) #[true, true, true, true, true, true, false, true, false, false, false, false, false, false, false, false, false, false, false, false, false, false, false, false] HT_ ?_
       refine tT_ 6 (some 42) #[true, true, true, true, true, true, true, true, false, false, false, false, false, false, false, false, false, false, false, false, false, false, false, false] HT_ HW_ hHeld ?_ (hy := by rintro w' ⟨s0, s1, s2, s3, s4, s5⟩; go_simp; with_reducible rfl)
       refine one_ (i := 8) (N := some 44) #[true, true, true, true, true, true, true, true, true, false, false, false, false, false, false, false, false, false, false, false, false, false, false, false] rfl rfl (one_of HT_.out (by kernel_rfl)) (by decide) (fun K hK => ?_)
       refine goes_ Try.func51 (by kernel_rfl) rfl #[.agg #[.slice (some ad204) t189.length co14, .slice Ao18 t192.length co18, .int .i64 t195, .slice (some ad205) x200003_1.length co64], .int .i64 x22_1] (by rfl) rfl rfl (by (try simp only [List.map_toArray, List.map_cons, List.map_nil]); first | done | rfl | (simp only [List.length_drop, List.length_take]; rfl)) ?_
       with_reducible refine (impl_Run_done.calls k1 _ _ t189 _ _ t192 t195 _ _ x200003_1 x22_1 false _ ?side1 ?side2 ?side3 ?side4 ?side5 ?side6 A29.out).mono ?_
       (case side1 => exact sD_ HO_200000)
       (case side2 => exact (Kd.S_reads' HO_200000.out).2.1)
       (case side3 => exact rD_ HO_200001)
       (case side4 => exact (Kd.R_reads' HO_200001.out).2.1)
       (case side5 => exact rD_ HO_200003)
       (case side6 => exact (Kd.R_reads' HO_200003.out).2.1)
       rintro e w65 ⟨rfl, hb⟩
       have HS4_ := (hb.cell (World.block_lt_of_cell? _ _ (hHeld.2.2.2.2.1))).trans (hHeld.2.2.2.2.1)
       have HS5_ := (hb.cell (World.block_lt_of_cell? _ _ (hHeld.2.2.2.2.2))).trans (hHeld.2.2.2.2.2)
       have hm_ := map_below HM.out hb; clear HM; have HM := Aside0.mk hm_; clear hm_
       refine ⟨_, rfl, ?_⟩
       replace HO_6 := rB_ HO_6 hb; replace HO_200000 := sB_ HO_200000 hb; replace HO_200001 := rB_ HO_200001 hb; replace HO_200003 := rB_ HO_200003 hb; replace HL204_0 := rB_ HL204_0 hb; replace BK186 := bB_ BK186 hb; replace BK187 := bB_ BK187 hb; replace BK199 := bB_ BK199 hb
       replace HR204_0 := Aside0.mk (Kd.C_below (by repeat (first | (with_reducible exact HR204_0.out) | (with_reducible refine Kd.C_alloc ?_ _) | (with_reducible refine Kd.C_drewN ?_ _) | (with_reducible refine Kd.C_drew ?_) | exact HR204_0.out)) hb)
       replace HB := bS_ HB hb; (try clear hb); (try clear hk)
       refine hK.out _ _ ⟨(blk_cell BK199.out 0).trans rfl, (blk_cell BK199.out 1).trans rfl, (blk_cell BK199.out 2).trans rfl, (blk_cell BK199.out 3).trans rfl, HS4_, HS5_⟩ (fun hHeld => ?_)
       clear hK K
       refine nS_ (some 44) ?_
       refine pT_ 9 (some 45) #[true, true, true, true, true, true, true, true, true, true, false, false, false, false, false, false, false, false, false, false, false, false, false, false] HT_ ?_
       refine pT_ 10 (some 46) #[true, true, true, true, true, true, true, true, true, true, true, false, false, false, false, false, false, false, false, false, false, false, false, false] HT_ ?_
       refine pT_ 11 (some 47) #[true, true, true, true, true, true, true, true, true, true, true, true, false, false, false, false, false, false, false, false, false, false, false, false] HT_ ?_
       refine pU_ 12 (some 48) #[true, true, true, true, true, true, true, true, true, true, true, true, true, false, false, false, false, false, false, false, false, false, false, false] HT_ ?_
       refine pU_ 13 (some 49) #[true, true, true, true, true, true, true, true, true, true, true, true, true, true, false, false, false, false, false, false, false, false, false, false] HT_ ?_
       refine pU_ 14 (some 50) #[true, true, true, true, true, true, true, true, true, true, true, true, true, true, true, false, false, false, false, false, false, false, false, false] HT_ ?_
       refine pU_ 15 (some 51) #[true, true, true, true, true, true, true, true, true, true, true, true, true, true, true, true, false, false, false, false, false, false, false, false] HT_ ?_
       refine pU_ 16 (some 52) #[true, true, true, true, true, true, true, true, true, true, true, true, true, true, true, true, true, false, false, false, false, false, false, false] HT_ ?_
       refine pU_ 17 (some 53) #[true, true, true, true, true, true, true, true, true, true, true, true, true, true, true, true, true, true, false, false, false, false, false, false] HT_ ?_
       refine pU_ 18 (some 54) #[true, true, true, true, true, true, true, true, true, true, true, true, true, true, true, true, true, true, true, false, false, false, false, false] HT_ ?_
       refine pU_ 19 (some 55) #[true, true, true, true, true, true, true, true, true, true, true, true, true, true, true, true, true, true, true, true, false, false, false, false] HT_ ?_
       refine pU_ 20 (some 56) #[true, true, true, true, true, true, true, true, true, true, true, true, true, true, true, true, true, true, true, true, true, false, false, false] HT_ ?_
       refine pU_ 21 (some 57) #[true, true, true, true, true, true, true, true, true, true, true, true, true, true, true, true, true, true, true, true, true, true, false, false] HT_ ?_
       refine pU_ 22 (some 58) #[true, true, true, true, true, true, true, true, true, true, true, true, true, true, true, true, true, true, true, true, true, true, true, false] HT_ ?_
       refine pT_ 23 (some 59) #[true, true, true, true, true, true, true, true, true, true, true, true, true, true, true, true, true, true, true, true, true, true, true, true] HT_ ?_
       refine done_ (done_of HT_.out (by kernel_rfl)) ?_
       try go_wp2
       go_roundg k1
       case measure => have := HK1.out; omega
       case rel => exact ⟨(x6_1), (wrap64 (x22_1 + 1)), (x200003_1), (.slice (some ad205) x200003_1.length co64), nm, D, (by first | rfl | (simp; done) | (simp [*]; done)), H', ⟨by have := HK1.out; omega⟩, ⟨rT_ HO_6⟩, ⟨sT_ HO_200000⟩, ⟨rT_ HO_200001⟩, ⟨rT_ HO_200003⟩, ⟨bT_ BK186⟩, ⟨bT_ BK187⟩, ⟨bT_ BK199⟩, ⟨sABelo_8⟩, HM, HD, HLE, ⟨nm_stay HNM.out HX0.out HQX.out HLM.out⟩, ⟨x_more HX0.out HQX.out HLM.out⟩⟩
     ·rw [if_neg c28] at H
      have c28b0 := beq_eq_false_iff_ne.mpr c28
      have c28b1 := bne_iff_ne.mpr c28
      have H' := Aside0.mk H; clear H; have hnb66 := NB199_186.out; have hnc66 := NB186_199.out; have hnb67 := NB199_187.out; have hnc67 := NB187_199.out
      obtain ⟨hcz68_0, hcz68_1, hcz68_2, hcz68_3, hfz68_0, hfz68_1, hfz68_2, hfz68_3⟩ := cf4_ BK199
      have p204 : 0 ≤ (x22_1 : Int) := dA_
      have q204 : x22_1 < (t189.length : Int) := dA_
      obtain ⟨ad204, A204_0, c204_0, e204, hx204_0, hx204_1, hx204_2, hx204_3, hl204_0, hi204_0⟩ := at_T39 (Kd.S_reads' HO_200000.out).2.2 x22_1 p204 q204
      cases e204
      obtain ⟨ce204, hce204, hMe204, hcc204⟩ := Kd.S_get HO_200000.out z39 x22_1 p204 (by first | exact q204 | exact of_decide_eq_true (by first | (with_reducible assumption) | assumption) | (have e_ := (Kd.S_reads' HO_200000.out).1; omega))
      obtain ⟨ve204_0, rfl, ge204_0⟩ := k39_openM hMe204
      have hv204_0 := hcc204 0 _ rfl
      rw [Nat.add_zero] at hv204_0
      replace hv204_0 := Option.some.inj (hv204_0.symm.trans hx204_0)
      rw [hv204_0] at ge204_0
      have HL204_0 := Aside0.mk (show Kd.R (Kd.int .i64) 2 _ _ _ _ ((rd_T39 t189 x22_1).f0) from ge204_0)
      clear hv204_0 ge204_0 hcc204 hce204; have HR204_0 := Aside0.mk hi204_0; have HC204_0 := Aside0.mk hl204_0; clear hi204_0 hl204_0; replace p204 := eq_true p204; replace q204 := eq_true q204
      obtain ⟨Ao70, co70, eo70⟩ := Kd.R_slice HO_200003.out
      (first | subst eo70 | (injection eo70 with f1_ f2_ f3_; have f4_ := f1_.symm; have f5_ := f3_.symm; clear f1_ f2_ f3_; subst f4_; subst f5_))
      have p205 : 0 ≤ (x22_1 : Int) := dA_
      have q205 : x22_1 < (x200003_1.length : Int) := dA_
      obtain ⟨ad205, e205, hx205_0, hx205_1⟩ := at_T43 (Kd.R_reads' HO_200003.out).2.2 x22_1 p205 q205
      cases e205
      replace p205 := eq_true p205; replace q205 := eq_true q205
      try go_wp2
      replace HO_6 := Aside0.mk (Kd.R_drew HO_6.out)
      replace HO_200000 := Aside0.mk (Kd.S_drew HO_200000.out)
      replace HO_200001 := Aside0.mk (Kd.R_drew HO_200001.out)
      replace HO_200003 := Aside0.mk (Kd.R_drew HO_200003.out)
      replace HL204_0 := Aside0.mk (Kd.R_drew HL204_0.out)
      replace BK186 := Aside0.mk (blk_drew BK186.out)
      replace BK187 := Aside0.mk (blk_drew BK187.out)
      replace BK199 := Aside0.mk (blk_drew BK199.out)
      replace HR204_0 := Aside0.mk (Kd.C_drew HR204_0.out)
      replace HB := Aside0.mk (below_drew1 HB.out)
      have hx205_0' := (show (wr.drew).cell? _ = _ from hx205_0); have hx205_1' := (show (wr.drew).cell? _ = _ from hx205_1); clear hx205_0 hx205_1; have hx205_0 := hx205_0'; have hx205_1 := hx205_1'; clear hx205_0' hx205_1'
      have hm_ := HM.out.drew; clear HM; have HM := Aside0.mk hm_; clear hm_
      have HQX := Aside0.mk (of_eq_true q205 : x22_1 < (x200003_1.length : Int)); have HLM := Aside0.mk (by rw [HLE.out]; exact HL.out.2.1 : x200003_1.length ≤ 1048576)
      refine start_ (n := 24) (S := fun w' => w'.cell? ⟨gb199, 0, none⟩ = some (.slice (some ad204) t189.length co14) ∧ w'.cell? ⟨gb199, 1, none⟩ = some (.slice Ao18 t192.length co18) ∧ w'.cell? ⟨gb199, 2, none⟩ = some (.int .i64 t195) ∧ w'.cell? ⟨gb199, 3, none⟩ = some (.slice (some ad205) x200003_1.length co70) ∧ w'.cell? (ad205.add ((x22_1).toNat * 2)) = some (.int .i64 ((rd_T43 x200003_1 x22_1).f0)) ∧ w'.cell? ⟨(ad205.add ((x22_1).toNat * 2)).block, (ad205.add ((x22_1).toNat * 2)).off + 1, none⟩ = some (.int .i64 ((rd_T43 x200003_1 x22_1).f1))) (ds := []) #[false, false, false, false, false, false, false, false, false, false, false, false, false, false, false, false, false, false, false, false, false, false, false, false] (by kernel_rfl) rfl rfl ⟨(blk_cell BK199.out 0).trans rfl, (blk_cell BK199.out 1).trans rfl, (blk_cell BK199.out 2).trans rfl, (blk_cell BK199.out 3).trans rfl, hx205_0, hx205_1⟩ (fun hHeld => ?_); refine with_tabW impl_StartTasks.tab11 impl_StartTasks.bits11 (fun HT_ HW_ => ?_)
      generalize wr.drew = w69 at HM HO_6 HO_200000 HO_200001 HO_200003 HL204_0 BK186 BK187 BK199 HR204_0 HB hx205_0 hx205_1 hHeld ⊢
      refine pT_ 0 (some 36) #[true, false, false, false, false, false, false, false, false, false, false, false, false, false, false, false, false, false, false, false, false, false, false, false] HT_ ?_
      refine pT_ 1 (some 37) #[true, true, false, false, false, false, false, false, false, false, false, false, false, false, false, false, false, false, false, false, false, false, false, false] HT_ ?_
      refine pT_ 2 (some 38) #[true, true, true, false, false, false, false, false, false, false, false, false, false, false, false, false, false, false, false, false, false, false, false, false] HT_ ?_
      refine tT_ 3 (some 39) #[true, true, true, true, false, false, false, false, false, false, false, false, false, false, false, false, false, false, false, false, false, false, false, false] HT_ HW_ hHeld ?_ (hy := by rintro w' ⟨s0, s1, s2, s3, s4, s5⟩; go_simp; with_reducible rfl)
      refine pT_ 4 (some 40) #[true, true, true, true, true, false, false, false, false, false, false, false, false, false, false, false, false, false, false, false, false, false, false, false] HT_ ?_
      refine pT_ 5 (some 41) #[true, true, true, true, true, true, false, false, false, false, false, false, false, false, false, false, false, false, false, false, false, false, false, false] HT_ ?_
      refine pU_ 6 (some 42) #[true, true, true, true, true, true, true, false, false, false, false, false, false, false, false, false, false, false, false, false, false, false, false, false] HT_ ?_
      refine pU_ 7 (some 43) #[true, true, true, true, true, true, true, true, false, false, false, false, false, false, false, false, false, false, false, false, false, false, false, false] HT_ ?_
      refine pU_ 8 (some 44) #[true, true, true, true, true, true, true, true, true, false, false, false, false, false, false, false, false, false, false, false, false, false, false, false] HT_ ?_
      refine pU_ 9 (some 45) #[true, true, true, true, true, true, true, true, true, true, false, false, false, false, false, false, false, false, false, false, false, false, false, false] HT_ ?_
      refine pT_ 10 (some 46) #[true, true, true, true, true, true, true, true, true, true, true, false, false, false, false, false, false, false, false, false, false, false, false, false] HT_ ?_
      refine pT_ 11 (some 47) #[true, true, true, true, true, true, true, true, true, true, true, true, false, false, false, false, false, false, false, false, false, false, false, false] HT_ ?_
      refine pU_ 12 (some 48) #[true, true, true, true, true, true, true, true, true, true, true, true, true, false, false, false, false, false, false, false, false, false, false, false] HT_ ?_
      refine pU_ 13 (some 49) #[true, true, true, true, true, true, true, true, true, true, true, true, true, true, false, false, false, false, false, false, false, false, false, false] HT_ ?_
      refine pU_ 14 (some 50) #[true, true, true, true, true, true, true, true, true, true, true, true, true, true, true, false, false, false, false, false, false, false, false, false] HT_ ?_
      refine pU_ 15 (some 51) #[true, true, true, true, true, true, true, true, true, true, true, true, true, true, true, true, false, false, false, false, false, false, false, false] HT_ ?_
      refine pU_ 16 (some 52) #[true, true, true, true, true, true, true, true, true, true, true, true, true, true, true, true, true, false, false, false, false, false, false, false] HT_ ?_
      refine pU_ 17 (some 53) #[true, true, true, true, true, true, true, true, true, true, true, true, true, true, true, true, true, true, false, false, false, false, false, false] HT_ ?_
      refine pU_ 18 (some 54) #[true, true, true, true, true, true, true, true, true, true, true, true, true, true, true, true, true, true, true, false, false, false, false, false] HT_ ?_
      refine pU_ 19 (some 55) #[true, true, true, true, true, true, true, true, true, true, true, true, true, true, true, true, true, true, true, true, false, false, false, false] HT_ ?_
      refine pU_ 20 (some 56) #[true, true, true, true, true, true, true, true, true, true, true, true, true, true, true, true, true, true, true, true, true, false, false, false] HT_ ?_
      refine pU_ 21 (some 57) #[true, true, true, true, true, true, true, true, true, true, true, true, true, true, true, true, true, true, true, true, true, true, false, false] HT_ ?_
      refine pU_ 22 (some 58) #[true, true, true, true, true, true, true, true, true, true, true, true, true, true, true, true, true, true, true, true, true, true, true, false] HT_ ?_
      refine pT_ 23 (some 59) #[true, true, true, true, true, true, true, true, true, true, true, true, true, true, true, true, true, true, true, true, true, true, true, true] HT_ ?_
      refine done_ (done_of HT_.out (by kernel_rfl)) ?_
      try go_wp2
      go_roundg k1
      case measure => have := HK1.out; omega
      case rel => exact ⟨(x6_1), (wrap64 (x22_1 + 1)), (x200003_1), (.slice (some ad205) x200003_1.length co70), nm, D, (by first | rfl | (simp; done) | (simp [*]; done)), H', ⟨by have := HK1.out; omega⟩, ⟨rT_ HO_6⟩, ⟨sT_ HO_200000⟩, ⟨rT_ HO_200001⟩, ⟨rT_ HO_200003⟩, ⟨bT_ BK186⟩, ⟨bT_ BK187⟩, ⟨bT_ BK199⟩, ⟨sABelo_8⟩, HM, HD, HLE, ⟨nm_stay HNM.out HX0.out HQX.out HLM.out⟩, ⟨x_more HX0.out HQX.out HLM.out⟩⟩
    ·rw [if_neg c24] at H
     have c24b0 := decide_eq_false c24
     clear c24
     simp only [Option.some.injEq, Prod.mk.injEq] at H
     obtain ⟨rfl, rfl, rfl, rfl, rfl⟩ := H
     have hnb71 := NB199_186.out; have hnc71 := NB186_199.out; have hnb72 := NB199_187.out; have hnc72 := NB187_199.out
     obtain ⟨hcz73_0, hcz73_1, hcz73_2, hcz73_3, hfz73_0, hfz73_1, hfz73_2, hfz73_3⟩ := cf4_ BK199; have hnb74 := NB187_186.out; have hnc74 := NB186_187.out
     obtain ⟨hcz75_0, hcz75_1, hcz75_2, hcz75_3, hfz75_0, hfz75_1, hfz75_2, hfz75_3⟩ := cf4_ BK187
     obtain ⟨Ao76, co76, eo76⟩ := Kd.R_slice HO_200003.out
     subst eo76
     go_wp2
     refine bodyPost_ret (results_ct rfl _ _ gb187 31 #[.slice Ao14 t189.length co14, .slice Ao18 t192.length co18, .int .i64 t195, .slice Ao76 x200003_1.length co76] (0, 0) _ rfl (bP_ BK187) Try.underlying31 rfl (by kernel_rfl)) rfl ?_
     exact ⟨_, _, _, _, by first | rfl | (simp [errW_none, errW_some] <;> rfl) | (simp [*, errW_none, errW_some] <;> rfl), by (with_reducible repeat (first | apply Kd.S_alloc | apply Kd.S_drewN | apply Kd.S_drew)); exact Kd.S_mono (Kd.S_far (p := ⟨gb187, 3, none⟩) (Kd.S_far (p := ⟨gb187, 2, none⟩) (Kd.S_far (p := ⟨gb187, 1, none⟩) (Kd.S_far (p := ⟨gb187, 0, none⟩) (Kd.S_types HO_200000.out BK187.out (by decide)) (fun _ hk => hk.2) (.slice Ao14 t189.length co14)) (fun _ hk => hk.2) (.slice Ao18 t192.length co18)) (fun _ hk => hk.2) (.int .i64 t195)) (fun _ hk => hk.2) (.slice Ao76 x200003_1.length co76)) (fun _ hk => ⟨hk.1.2, hk.1.1⟩), by (with_reducible repeat (first | apply Kd.R_alloc | apply Kd.R_drewN | apply Kd.R_drew)); exact Kd.R_mono (Kd.R_far (p := ⟨gb187, 3, none⟩) (Kd.R_far (p := ⟨gb187, 2, none⟩) (Kd.R_far (p := ⟨gb187, 1, none⟩) (Kd.R_far (p := ⟨gb187, 0, none⟩) (Kd.R_types HO_200001.out BK187.out (by decide)) (fun _ hk => hk.2) (.slice Ao14 t189.length co14)) (fun _ hk => hk.2) (.slice Ao18 t192.length co18)) (fun _ hk => hk.2) (.int .i64 t195)) (fun _ hk => hk.2) (.slice Ao76 x200003_1.length co76)) (fun _ hk => hk.1), by (with_reducible repeat (first | apply Kd.R_alloc | apply Kd.R_drewN | apply Kd.R_drew)); exact Kd.R_mono (Kd.R_far (p := ⟨gb187, 3, none⟩) (Kd.R_far (p := ⟨gb187, 2, none⟩) (Kd.R_far (p := ⟨gb187, 1, none⟩) (Kd.R_far (p := ⟨gb187, 0, none⟩) (Kd.R_types HO_200003.out BK187.out (by decide)) (fun _ hk => hk.2) (.slice Ao14 t189.length co14)) (fun _ hk => hk.2) (.slice Ao18 t192.length co18)) (fun _ hk => hk.2) (.int .i64 t195)) (fun _ hk => hk.2) (.slice Ao76 x200003_1.length co76)) (fun _ hk => trivial), by (with_reducible repeat (first | apply Kd.R_alloc | apply Kd.R_drewN | apply Kd.R_drew)); exact Kd.R_mono (Kd.R_far (p := ⟨gb187, 3, none⟩) (Kd.R_far (p := ⟨gb187, 2, none⟩) (Kd.R_far (p := ⟨gb187, 1, none⟩) (Kd.R_far (p := ⟨gb187, 0, none⟩) (Kd.R_types HO_6.out BK187.out (by decide)) (fun _ hk => hk.2) (.slice Ao14 t189.length co14)) (fun _ hk => hk.2) (.slice Ao18 t192.length co18)) (fun _ hk => hk.2) (.int .i64 t195)) (fun _ hk => hk.2) (.slice Ao76 x200003_1.length co76)) (fun _ hk => hk.1), sABelo_8⟩
 ·replace c3 := Bool.eq_false_iff.mpr c3
  subst c3
  replace H := ifF_ H
  simp only [Option.some.injEq, Prod.mk.injEq] at H
  obtain ⟨rfl, rfl, rfl, rfl, rfl⟩ := H
  go_enter Try.func17, Try.ntmps17
  go_wp2_with (first | ((with_reducible refine gate_dst (N := 1) rfl ?_); refine box_event ?hg (N := 1) ?hd (cs := #[.slice A0_0 l0_0.length c0_0, .slice A0_1 l0_1.length c0_1, .int .i64 a0_2, .slice A0_3 l0_3.length c0_3]) (t := 31) ?hr ?_; (case hd => rfl); (case hg => rfl); (case hr => first | (go_simp; done) | (go_simp; rfl)); intro gb186 hg w77 hbox hb; have BK186 := Aside0.mk (hbox); have GW186 := gE_ HB hg; have GE186 := gE_ HB hg; replace HB := bS_ HB hb; clear hb hbox hg) | ((with_reducible refine gate_dst (N := 2) rfl ?_); refine box_event ?hg (N := 2) ?hd (cs := #[.slice none 0 0, .slice none 0 0, .int .i64 0, .slice none 0 0]) (t := 31) ?hr ?_; (case hd => rfl); (case hg => rfl); (case hr => first | (go_simp; done) | (go_simp; rfl)); intro gb187 hg w78 hbox hb; have BK187 := Aside0.mk (hbox); have GW187 := gE_ HB hg; have GE187 := gE_ HB hg; replace HB := bS_ HB hb; have NB186_187 := nL_ BK186 hg; have NB187_186 := nG_ BK186 hg; replace BK186 := bB_ BK186 hb; clear hb hbox hg; have hnb79 := NB186_187.out; have hnc79 := NB187_186.out; obtain ⟨hcz80_0, hcz80_1, hcz80_2, hcz80_3, hfz80_0, hfz80_1, hfz80_2, hfz80_3⟩ := cf4_ BK186) | ((with_reducible refine gate_callee (f := 48) rfl ?_); refine gL_ (some 11) Try.func48 #[.agg #[.slice A0_0 l0_0.length c0_0, .slice A0_1 l0_1.length c0_1, .int .i64 a0_2, .slice A0_3 l0_3.length c0_3]] ?_; (with_reducible refine (impl_runOk.calls k _ _ l0_0 _ _ l0_1 a0_2 _ _ l0_3 false _ ?side1 ?side2 ?side3 ?side4 ?side5 ?side6 A2.out).mono ?_); (case side1 => exact cB_ HR0_0 HB); (case side2 => exact HC0_0.out); (case side3 => exact cB_ HR0_1 HB); (case side4 => exact HC0_1.out); (case side5 => exact cB_ HR0_3 HB); (case side6 => exact HC0_3.out); rintro e w81 ⟨rfl, hb⟩; refine ⟨_, rfl, ?_⟩; replace BK186 := bB_ BK186 hb; replace BK187 := bB_ BK187 hb; replace HB := bS_ HB hb; (try clear hb); obtain ⟨hcz82_0, hcz82_1, hcz82_2, hcz82_3, hfz82_0, hfz82_1, hfz82_2, hfz82_3⟩ := cf4_ BK187))
  refine bodyPost_ret (results_ct rfl _ _ gb187 31 #[.slice none 0 0, .slice none 0 0, .int .i64 0, .slice none 0 0] (0, 0) _ rfl (bP_ BK187) Try.underlying31 rfl (by kernel_rfl)) rfl ?_
  exact ⟨_, _, _, _, by first | rfl | (simp [errW_none, errW_some] <;> rfl) | (simp [*, errW_none, errW_some] <;> rfl), by first | exact Kd.S_nil _ _ _ _ _ | exact Kd.N_nil _ _ _ _ _ | exact Kd.V_nil _ _ _ _ _ | exact Kd.Q_nil _ _ _ _ _ | exact Kd.R_nil _ _ _ _ _, by first | exact Kd.R_nil _ _ _ _ _ | exact Kd.N_nil _ _ _ _ _ | exact Kd.V_nil _ _ _ _ _ | exact Kd.Q_nil _ _ _ _ _ | exact Kd.S_nil _ _ _ _ _, by first | exact Kd.R_nil _ _ _ _ _ | exact Kd.N_nil _ _ _ _ _ | exact Kd.V_nil _ _ _ _ _ | exact Kd.Q_nil _ _ _ _ _ | exact Kd.S_nil _ _ _ _ _, by first | exact Kd.R_nil _ _ _ _ _ | exact Kd.N_nil _ _ _ _ _ | exact Kd.V_nil _ _ _ _ _ | exact Kd.Q_nil _ _ _ _ _ | exact Kd.S_nil _ _ _ _ _, sABelo_8⟩

end Go.Proofs.Ytjoghfehmhapbaa.QFnExactStartTasks
