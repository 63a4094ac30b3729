-- Written by a program of this session out of the printer's texts and contracts of its own.
import Derived.Test.YtopfdmodbhopiaaSq
import Derived.Test.YtopfdmodbhopiaaQFnExactDrainx0
import Derived.Test.YtopfdmodbhopiaaQFnExactDrainx1
import Derived.Test.YtopfdmodbhopiaaQFnExactDrainx2
namespace Go.Proofs.Ytopfdmodbhopiaa.QFnExactDrain
open Go.RowKit Go.Proofs.YtopfdmodbhopiaaW.PrintWords Go.Proofs.YtopfdmodbhopiaaW.PrintLast Go.Proofs.YtopfdmodbhopiaaW.PrintMore Go.Proofs.Ytopfdmodbhopiaa.Sq
attribute [local go_sem] max2_int min2_int max_two min_two max_three min_three max_four min_four   -- for this text's walks alone
set_option linter.unusedVariables false
set_option linter.unusedSimpArgs false

/-! ### spec_Drain: function 36 -/
mutual
def spec_Drain.l0 : Nat → List Int → List Int → List Int → Int → Int → Int → List Int → Option (List Int × List Int)
 | 0, _, _, _, _, _, _, _ => none
 | k + 1, x4, x5, x6, x7, x132000, x132001, x132002 => if x7 < (wrap64 (x132000 * x132001)) then (if 0 ≤ x7 then (if x7 < (x132002.length : Int) then (if x4.length < 17592186044416 then ((some (x4 ++ [rd x132002 x7] : List Int)).bind fun y143 => (if x5.length < 17592186044416 then ((some (x5 ++ [(-1)] : List Int)).bind fun y146 => (if x6.length < 17592186044416 then ((some (x6 ++ [0] : List Int)).bind fun y149 => ((spec_l13Edge.f x132000 x132001 x132002 x7).bind fun t152 => (if t152 = true then (if x7 < (y149.length : Int) then (spec_Drain.l0 k y143 y146 (y149.set (x7 : Int).toNat 1) (wrap64 (x7 + 1)) x132000 x132001 x132002) else (none)) else (spec_Drain.l0 k y143 y146 y149 (wrap64 (x7 + 1)) x132000 x132001 x132002)))) else (none))) else (none))) else (none)) else (none)) else (none)) else (spec_Drain.l1 k x4 x5 x6 x132000 x132001 x132002)
def spec_Drain.l1 : Nat → List Int → List Int → List Int → Int → Int → List Int → Option (List Int × List Int)
 | 0, _, _, _, _, _, _ => none
 | k + 1, x4, x5, x6, x132000, x132001, x132002 => spec_Drain.l2 k x4 x5 x6 (-1) 0 x132000 x132001 x132002
def spec_Drain.l2 : Nat → List Int → List Int → List Int → Int → Int → Int → Int → List Int → Option (List Int × List Int)
 | 0, _, _, _, _, _, _, _, _ => none
 | k + 1, x4, x5, x6, x8, x9, x132000, x132001, x132002 => if x9 < (x6.length : Int) then (if 0 ≤ x9 then (if (rd x6 x9) = 1 then (if x8 < 0 then (spec_Drain.l2 k x4 x5 x6 x9 (wrap64 (x9 + 1)) x132000 x132001 x132002) else (if x9 < (x4.length : Int) then (if 0 ≤ x8 then (if x8 < (x4.length : Int) then (if (rd x4 x9) < (rd x4 x8) then (spec_Drain.l2 k x4 x5 x6 x9 (wrap64 (x9 + 1)) x132000 x132001 x132002) else (spec_Drain.l2 k x4 x5 x6 x8 (wrap64 (x9 + 1)) x132000 x132001 x132002)) else (none)) else (none)) else (none))) else (spec_Drain.l2 k x4 x5 x6 x8 (wrap64 (x9 + 1)) x132000 x132001 x132002)) else (none)) else (if x8 < 0 then (some (x4, x5)) else (if 0 ≤ x8 then (if x8 < (x6.length : Int) then ((spec_l13Sides.f k x132000 x132001 x132002 x8).bind fun t158 => (spec_Drain.l3 k x4 x5 (x6.set (x8 : Int).toNat 2) x8 t158 0 x132000 x132001 x132002)) else (none)) else (none)))
def spec_Drain.l3 : Nat → List Int → List Int → List Int → Int → List Int → Int → Int → Int → List Int → Option (List Int × List Int)
 | 0, _, _, _, _, _, _, _, _, _ => none
 | k + 1, x4, x5, x6, x8, x10, x11, x132000, x132001, x132002 => if x11 < (x10.length : Int) then (if 0 ≤ x11 then (if 0 ≤ (rd x10 x11) then (if (rd x10 x11) < (x6.length : Int) then (if (rd x6 (rd x10 x11)) = 0 then (if (rd x10 x11) < (x5.length : Int) then (if (rd x10 x11) < (x132002.length : Int) then (if 0 ≤ x8 then (if x8 < (x4.length : Int) then (if (rd x10 x11) < (x4.length : Int) then (spec_Drain.l3 k (x4.set ((rd x10 x11) : Int).toNat (mx (rd x132002 (rd x10 x11)) (rd x4 x8))) (x5.set ((rd x10 x11) : Int).toNat x8) (x6.set ((rd x10 x11) : Int).toNat 1) x8 x10 (wrap64 (x11 + 1)) x132000 x132001 x132002) else (none)) else (none)) else (none)) else (none)) else (none)) else (spec_Drain.l3 k x4 x5 x6 x8 x10 (wrap64 (x11 + 1)) x132000 x132001 x132002)) else (none)) else (none)) else (none)) else (spec_Drain.l1 k x4 x5 x6 x132000 x132001 x132002)
end
def spec_Drain.f (k : Nat) (a0_0 : Int) (a0_1 : Int) (l0_2 : List Int) : Option (List Int × List Int) := (some (([] : List Int) : List Int)).bind fun y132 => ((some (([] : List Int) : List Int)).bind fun y135 => ((spec_BoxOk.f k a0_0 a0_1 l0_2).bind fun t138 => (if t138 = true then (spec_Drain.l0 k y132 y135 (([] : List Int)) 0 a0_0 a0_1 l0_2) else (some (y132, y135)))))
theorem spec_Drain.mono_l : ∀ k, (∀ y0 y1 y2 y3 y4 y5 y6, LeO (spec_Drain.l0 k y0 y1 y2 y3 y4 y5 y6) (spec_Drain.l0 (k + 1) y0 y1 y2 y3 y4 y5 y6)) ∧ (∀ y0 y1 y2 y3 y4 y5, LeO (spec_Drain.l1 k y0 y1 y2 y3 y4 y5) (spec_Drain.l1 (k + 1) y0 y1 y2 y3 y4 y5)) ∧ (∀ y0 y1 y2 y3 y4 y5 y6 y7, LeO (spec_Drain.l2 k y0 y1 y2 y3 y4 y5 y6 y7) (spec_Drain.l2 (k + 1) y0 y1 y2 y3 y4 y5 y6 y7)) ∧ (∀ y0 y1 y2 y3 y4 y5 y6 y7 y8, LeO (spec_Drain.l3 k y0 y1 y2 y3 y4 y5 y6 y7 y8) (spec_Drain.l3 (k + 1) y0 y1 y2 y3 y4 y5 y6 y7 y8))
 | 0 => ⟨fun _ _ _ _ _ _ _ r h => by simp [spec_Drain.l0] at h, fun _ _ _ _ _ _ r h => by simp [spec_Drain.l1] at h, fun _ _ _ _ _ _ _ _ r h => by simp [spec_Drain.l2] at h, fun _ _ _ _ _ _ _ _ _ r h => by simp [spec_Drain.l3] at h⟩
 | k + 1 => by
  obtain ⟨ih0, ih1, ih2, ih3⟩ := spec_Drain.mono_l k
  refine ⟨?_, ?_, ?_, ?_⟩
  intro y0 y1 y2 y3 y4 y5 y6; unfold spec_Drain.l0; rotate_left
  intro y0 y1 y2 y3 y4 y5; unfold spec_Drain.l1; rotate_left
  intro y0 y1 y2 y3 y4 y5 y6 y7; unfold spec_Drain.l2; rotate_left
  intro y0 y1 y2 y3 y4 y5 y6 y7 y8; unfold spec_Drain.l3; rotate_left
  all_goals repeat' first
  | (with_reducible exact ih0 _ _ _ _ _ _ _)
  | (with_reducible exact ih1 _ _ _ _ _ _)
  | (with_reducible exact ih2 _ _ _ _ _ _ _ _)
  | (with_reducible exact ih3 _ _ _ _ _ _ _ _ _)
  | (with_reducible exact spec_BoxOk.mono _ _ _ _)
  | (with_reducible exact spec_l13Sides.mono _ _ _ _ _)
  | (with_reducible exact LeO.refl _)
  | (with_reducible exact LeO.none _)
  | (with_reducible refine LeO.ite ?_ ?_)
  | (with_reducible refine LeO.bind ?_ (fun _ => ?_))
  | exact ih0 _ _ _ _ _ _ _
  | exact ih1 _ _ _ _ _ _
  | exact ih2 _ _ _ _ _ _ _ _
  | exact ih3 _ _ _ _ _ _ _ _ _
  | exact spec_BoxOk.mono _ _ _ _
  | exact spec_l13Sides.mono _ _ _ _ _
  | exact LeO.none _
  | refine LeO.ite ?_ ?_
  | refine LeO.bind ?_ (fun _ => ?_)
theorem spec_Drain.mono : ∀ a0 a1 a2 k, LeO (spec_Drain.f k a0 a1 a2) (spec_Drain.f (k + 1) a0 a1 a2) := by
 intro a0 a1 a2 k
 obtain ⟨ih0, ih1, ih2, ih3⟩ := spec_Drain.mono_l k
 unfold spec_Drain.f
 repeat' first
   | (with_reducible exact ih0 _ _ _ _ _ _ _)
   | (with_reducible exact ih1 _ _ _ _ _ _)
   | (with_reducible exact ih2 _ _ _ _ _ _ _ _)
   | (with_reducible exact ih3 _ _ _ _ _ _ _ _ _)
   | (with_reducible exact spec_BoxOk.mono _ _ _ _)
   | (with_reducible exact spec_l13Sides.mono _ _ _ _ _)
   | (with_reducible exact LeO.refl _)
   | (with_reducible exact LeO.none _)
   | (with_reducible refine LeO.ite ?_ ?_)
   | (with_reducible refine LeO.bind ?_ (fun _ => ?_))
   | exact ih0 _ _ _ _ _ _ _
   | exact ih1 _ _ _ _ _ _
   | exact ih2 _ _ _ _ _ _ _ _
   | exact ih3 _ _ _ _ _ _ _ _ _
   | exact spec_BoxOk.mono _ _ _ _
   | exact spec_l13Sides.mono _ _ _ _ _
   | exact LeO.none _
   | refine LeO.ite ?_ ?_
   | refine LeO.bind ?_ (fun _ => ?_)
def spec_Drain.T18 : Bool × List (List Nat × List Nat) := (true, [([], []), ([], []), ([0, 1], [0, 1]), ([2], [2]), ([3], [3]), ([4], [4]), ([5], [5]), ([6, 5], [5, 6]), ([7, 5, 5], [5, 7]), ([8], [8]), ([8], [8]), ([9, 10, 8], [8, 9, 10]), ([11, 8], [8, 11]), ([8], [8]), ([8], [8]), ([13, 14, 8], [8, 13, 14]), ([15, 8], [8, 15]), ([12, 16, 8], [8, 12, 16]), ([8, 17, 5], [5, 8, 17]), ([5, 18], [5, 18])])
def spec_Drain.B18 : List Nat := [0, 0, 3, 7, 15, 31, 63, 127, 255, 511, 511, 2047, 4095, 511, 511, 25087, 57855, 131071, 262143, 524287]
theorem spec_Drain.tab18 : rtab .any (opsOf Try.f36 18) = spec_Drain.T18 := by kernel_rfl
theorem spec_Drain.bits18 : waitsOk spec_Drain.T18.2 spec_Drain.B18 = true := by kernel_rfl
def spec_Drain.T31 : Bool × List (List Nat × List Nat) := (true, [([], []), ([], []), ([], []), ([2], [2]), ([], []), ([3, 4], [3, 4]), ([5], [5]), ([], []), ([], []), ([7, 8], [7, 8]), ([9], [9]), ([6, 10], [6, 10]), ([0, 1, 0, 1, 2, 3, 4, 5, 6, 7, 8, 9, 10, 11], [0, 1]), ([12, 11, 0, 1, 2, 3, 4, 5, 6, 7, 8, 9, 10, 11], [11, 12])])
def spec_Drain.B31 : List Nat := [0, 0, 0, 4, 0, 28, 60, 0, 0, 384, 896, 2044, 4095, 8191]
theorem spec_Drain.tab31 : rtab .any (opsOf Try.f36 31) = spec_Drain.T31 := by kernel_rfl
theorem spec_Drain.bits31 : waitsOk spec_Drain.T31.2 spec_Drain.B31 = true := by kernel_rfl
set_option maxHeartbeats 8000000 in
set_option maxRecDepth 100000 in
theorem spec_Drain.calls (k : Nat) (a0_0 : Int) (a0_1 : Int) (A0_2 : Option Addr) (c0_2 : Nat) (l0_2 : List Int) (r1 : List Int) (r2 : List Int) (w : World) (hr0_2 : Kd.C (Kd.int .i64) w A0_2 l0_2.length l0_2) (hc0_2 : l0_2.length ≤ c0_2) (h : spec_Drain.f k a0_0 a0_1 l0_2 = some (r1, r2)) :
  Calls Try.prog 36 #[.agg #[.int .i64 a0_0, .int .i64 a0_1, .slice A0_2 l0_2.length c0_2]] w fun e w' => ∃ v0_ v1_ : Value, e = .returned (.tuple #[v0_, v1_]) ∧ Kd.R (Kd.int .i64) 2 w' w.heap.size (fun k_ => some k_ ≠ (v1_ : Value).ownBlock) v0_ r1 ∧ Kd.R (Kd.int .i64) 2 w' w.heap.size (fun k_ => some k_ ≠ (v0_ : Value).ownBlock) v1_ r2 ∧ Below w.heap.size w w' := by
 have hu62 := Try.underlying62; have HR0_2 := Aside0.mk hr0_2; have HC0_2 := Aside0.mk hc0_2; clear hr0_2 hc0_2
 have HB := Aside0.mk (Below.refl w.heap.size w)
 have H : ((some (([] : List Int) : List Int)).bind fun y132 => ((some (([] : List Int) : List Int)).bind fun y135 => ((spec_BoxOk.f k a0_0 a0_1 l0_2).bind fun t138 => (if t138 = true then (spec_Drain.l0 k y132 y135 (([] : List Int)) 0 a0_0 a0_1 l0_2) else (some (y132, y135)))))) = some (r1, r2) := h
 clear h
 obtain ⟨y132, hy132⟩ : ∃ y_ : List Int, y_ = (([] : List Int)) := ⟨_, rfl⟩
 replace H : ((some (([] : List Int) : List Int)).bind fun y135 => ((spec_BoxOk.f k a0_0 a0_1 l0_2).bind fun t138 => (if t138 = true then (spec_Drain.l0 k y132 y135 (([] : List Int)) 0 a0_0 a0_1 l0_2) else (some (y132, y135))))) = some (r1, r2) := by first | (rw [hy132]; with_reducible exact H) | (have H2_ := (Option.bind_some _ _).symm.trans H; rw [hy132]; with_reducible exact H2_) | (have H2_ := (Option.bind_some _ _).symm.trans H; with_reducible exact H2_) | with_reducible exact H | (rw [hy132]; exact H) | exact H
 have Ny132 := Aside0.mk hy132; clear hy132
 obtain ⟨y135, hy135⟩ : ∃ y_ : List Int, y_ = (([] : List Int)) := ⟨_, rfl⟩
 replace H : ((spec_BoxOk.f k a0_0 a0_1 l0_2).bind fun t138 => (if t138 = true then (spec_Drain.l0 k y132 y135 (([] : List Int)) 0 a0_0 a0_1 l0_2) else (some (y132, y135)))) = some (r1, r2) := by first | (rw [hy135]; with_reducible exact H) | (have H2_ := (Option.bind_some _ _).symm.trans H; rw [hy135]; with_reducible exact H2_) | (have H2_ := (Option.bind_some _ _).symm.trans H; with_reducible exact H2_) | with_reducible exact H | (rw [hy135]; exact H) | exact H
 have Ny135 := Aside0.mk hy135; clear hy135; replace H := Option.bind_eq_some_iff.mp H
 obtain ⟨t138, A20, H⟩ := H
 replace H : (if t138 = true then (spec_Drain.l0 k y132 y135 (([] : List Int)) 0 a0_0 a0_1 l0_2) else (some (y132, y135))) = some (r1, r2) := H
 have A2 := Aside0.mk A20; clear A20
 by_cases c3 : t138 = true
 ·subst c3
  have H1 : (spec_Drain.l0 k y132 y135 (([] : List Int)) 0 a0_0 a0_1 l0_2) = some (r1, r2) := by rw [if_pos rfl] at H; exact H
  clear H; have H := H1; clear H1
  obtain ⟨y139, hy139⟩ : ∃ y_ : List Int, y_ = (([] : List Int)) := ⟨_, rfl⟩
  replace H : (spec_Drain.l0 k y132 y135 y139 0 a0_0 a0_1 l0_2) = some (r1, r2) := by first | (rw [hy139]; with_reducible exact H) | (have H2_ := (Option.bind_some _ _).symm.trans H; rw [hy139]; with_reducible exact H2_) | (have H2_ := (Option.bind_some _ _).symm.trans H; with_reducible exact H2_) | with_reducible exact H | (rw [hy139]; exact H) | exact H
  have Ny139 := Aside0.mk hy139; clear hy139; have H' := Aside0.mk H; clear H
  go_enter Try.func36, Try.ntmps36
  go_wp2_with (first | ((with_reducible refine gate_dst (N := 1) rfl ?_); refine box_event ?hg (N := 1) ?hd (cs := #[.int .i64 a0_0, .int .i64 a0_1, .slice A0_2 l0_2.length c0_2]) (t := 62) ?hr ?_; (case hd => rfl); (case hg => rfl); (case hr => first | (go_simp; done) | (go_simp; rfl)); intro gb131 hg w4 hbox hb; have BK131 := Aside0.mk (hbox); have GW131 := gE_ HB hg; have GE131 := gE_ HB hg; replace HB := bS_ HB hb; clear hb hbox hg) | ((with_reducible refine gate_dst (N := 13) rfl ?_); refine Kd.R_lit (Kd.int .i64) _ 2 ?hg (N := 13) ?hd (xs := ([] : List Int)) (inner := []) (ok := fun _ => True) (okp := fun _ => True) ?hr ?hp (fun _ hk => hk) trivial (Below.refl _ _) (Nat.le_refl _) (by simp) ?_; (case hd => rfl); (case hg => rfl); (case hr => first | (go_simp; done) | (go_simp; rfl)); (case hp => exact (Reps.none _ _)); intro v133 w5 ho6 hb hg_ hnew_; clear hg_ hnew_; (first | rw [← Ny132.out] at ho6 | (simp only [Int.reduceToNat] at ho6; rw [← Ny132.out] at ho6)); have HO134 := rL_ ho6 HB; replace BK131 := bB_ BK131 hb; replace HB := bS_ HB hb; clear hb ho6) | ((with_reducible refine gate_dst (N := 14) rfl ?_); refine Kd.R_lit (Kd.int .i64) _ 2 ?hg (N := 14) ?hd (xs := ([] : List Int)) (inner := []) (ok := fun _ => True) (okp := fun _ => True) ?hr ?hp (fun _ hk => hk) trivial (Below.refl _ _) (Nat.le_refl _) (by simp) ?_; (case hd => rfl); (case hg => rfl); (case hr => first | (go_simp; done) | (go_simp; rfl)); (case hp => exact (Reps.none _ _)); intro v136 w7 ho8 hb hg_ hnew_; clear hg_ hnew_; (first | rw [← Ny135.out] at ho8 | (simp only [Int.reduceToNat] at ho8; rw [← Ny135.out] at ho8)); have HO137 := rL_ (rN_ ho8 HO134) HB; replace HO134 := rE_ HO134 ho8 hb; replace BK131 := bB_ BK131 hb; replace HB := bS_ HB hb; clear hb ho8; have hcz9_0 : w7.cell? ⟨gb131, 0, none⟩ = some (.int .i64 a0_0) := (blk_cell BK131.out 0).trans rfl; have hcz9_1 : w7.cell? ⟨gb131, 1, none⟩ = some (.int .i64 a0_1) := (blk_cell BK131.out 1).trans rfl; have hcz9_2 : w7.cell? ⟨gb131, 2, none⟩ = some (.slice A0_2 l0_2.length c0_2) := (blk_cell BK131.out 2).trans rfl; have hfz9_0 := blk_frozen BK131.out 0; have hfz9_1 := blk_frozen BK131.out 1; have hfz9_2 := blk_frozen BK131.out 2) | ((with_reducible refine gate_callee (f := 60) rfl ?_); refine gL_ (some 16) Try.func60 #[.agg #[.int .i64 a0_0, .int .i64 a0_1, .slice A0_2 l0_2.length c0_2]] ?_; (with_reducible refine (spec_BoxOk.calls k a0_0 a0_1 _ _ l0_2 true _ ?side1 ?side2 A2.out).mono ?_); (case side1 => exact cB_ HR0_2 HB); (case side2 => exact HC0_2.out); rintro e w10 ⟨rfl, hb⟩; refine ⟨_, rfl, ?_⟩; replace HO134 := rB_ HO134 hb; replace HO137 := rB_ HO137 hb; replace BK131 := bB_ BK131 hb; replace HB := bS_ HB hb; (try clear hb); (try clear hb2); (try clear hk); (try clear hi)) | ((with_reducible refine gate_dst (N := 20) rfl ?_); refine Kd.R_lit (Kd.int .i64) _ 2 ?hg (N := 20) ?hd (xs := ([] : List Int)) (inner := []) (ok := fun _ => True) (okp := fun _ => True) ?hr ?hp (fun _ hk => hk) trivial (Below.refl _ _) (Nat.le_refl _) (by simp) ?_; (case hd => rfl); (case hg => rfl); (case hr => first | (go_simp; done) | (go_simp; rfl)); (case hp => exact (Reps.none _ _)); intro v140 w11 ho12 hb hg_ hnew_; clear hg_ hnew_; (first | rw [← Ny139.out] at ho12 | (simp only [Int.reduceToNat] at ho12; rw [← Ny139.out] at ho12)); have HO141 := rL_ (rN_ (rN_ ho12 HO134) HO137) HB; replace HO134 := rE_ HO134 ho12 hb; replace HO137 := rE_ HO137 ho12 hb; replace BK131 := bB_ BK131 hb; replace HB := bS_ HB hb; clear hb ho12))
  go_loopg [4, 5, 6, 7] k (fun kq v4 v5 v6 v7 w' => ∃ (x4_1 : List Int) (x5_1 : List Int) (x6_1 : List Int) (x7_1 : Int), v7 = .int .i64 x7_1 ∧ Aside0 (spec_Drain.l0 kq x4_1 x5_1 x6_1 x7_1 a0_0 a0_1 l0_2 = some (r1, r2)) ∧ Aside0 (kq ≤ k) ∧ Aside0 (Kd.R (Kd.int .i64) 2 w' w.heap.size (fun k_ => some k_ ≠ (v5 : Value).ownBlock ∧ some k_ ≠ (v6 : Value).ownBlock) v4 x4_1) ∧ Aside0 (Kd.R (Kd.int .i64) 2 w' w.heap.size (fun k_ => some k_ ≠ (v4 : Value).ownBlock ∧ some k_ ≠ (v6 : Value).ownBlock) v5 x5_1) ∧ Aside0 (Kd.R (Kd.int .i64) 2 w' w.heap.size (fun k_ => some k_ ≠ (v4 : Value).ownBlock ∧ some k_ ≠ (v5 : Value).ownBlock) v6 x6_1) ∧ Aside0 (w'.heap[gb131]? = some (.cells #[.int .i64 a0_0, .int .i64 a0_1, (.slice A0_2 l0_2.length c0_2)] 62 (0, 0))) ∧ Aside0 (Below w.heap.size w w'))
  case atStart => exact ⟨(y132), (y135), (y139), (0), (by first | rfl | (simp; done) | (simp [*]; done)), H', ⟨Nat.le_refl _⟩, ⟨by (with_reducible repeat (first | apply Kd.R_alloc | apply Kd.R_drewN | apply Kd.R_drew)); exact Kd.R_mono HO134.out (fun _ hk => ⟨hk.1.2, hk.2⟩)⟩, ⟨by (with_reducible repeat (first | apply Kd.R_alloc | apply Kd.R_drewN | apply Kd.R_drew)); exact Kd.R_mono HO137.out (fun _ hk => ⟨hk.1.2, hk.2⟩)⟩, ⟨by (with_reducible repeat (first | apply Kd.R_alloc | apply Kd.R_drewN | apply Kd.R_drew)); exact Kd.R_mono HO141.out (fun _ hk => ⟨hk.1.2, hk.2⟩)⟩, ⟨by exact bT_ BK131⟩, ⟨by repeat (first | (with_reducible first | exact HB.out | apply below_alloc | apply pw_below_drewN | apply below_drew1 | refine below_set ?_ GE131.out) | exact HB.out)⟩⟩
  case round =>
   clear H'; (try clear p2); (try clear c3); (try clear c6); (try clear hcz9_0); (try clear hcz9_1); (try clear hcz9_2); (try clear hfz9_0); (try clear hfz9_1); (try clear hfz9_2)
   obtain ⟨x4_1, x5_1, x6_1, x7_1, rfl, HA, HK1, HO_4, HO_5, HO_6, BK131, HB⟩ := hrel
   cases gk with
   | zero => exact absurd HA.out (by simp [spec_Drain.l0])
   | succ k1 =>
    have H := HA.out; clear HA
    simp only [spec_Drain.l0] at H
    by_cases c13 : x7_1 < (wrap64 (a0_0 * a0_1))
    ·rw [if_pos c13] at H
     have c13b0 : decide (x7_1 < (wrap64 (a0_0 * a0_1))) = true := decide_eq_true c13
     clear c13
     by_cases c14 : 0 ≤ x7_1
     ·rw [if_pos c14] at H
      have c14b0 : decide (0 ≤ x7_1) = true := decide_eq_true c14
      clear c14
      by_cases c15 : x7_1 < (l0_2.length : Int)
      ·rw [if_pos c15] at H
       have c15b0 : decide (x7_1 < (l0_2.length : Int)) = true := decide_eq_true c15
       clear c15
       by_cases c16 : x4_1.length < 17592186044416
       ·rw [if_pos c16] at H
        have LMc16 := Aside0.mk c16; clear c16
        obtain ⟨y143, hy143⟩ : ∃ y_ : List Int, y_ = (x4_1 ++ [rd l0_2 x7_1]) := ⟨_, rfl⟩
        replace H : (if x5_1.length < 17592186044416 then ((some (x5_1 ++ [(-1)] : List Int)).bind fun y146 => (if x6_1.length < 17592186044416 then ((some (x6_1 ++ [0] : List Int)).bind fun y149 => ((spec_l13Edge.f a0_0 a0_1 l0_2 x7_1).bind fun t152 => (if t152 = true then (if x7_1 < (y149.length : Int) then (spec_Drain.l0 k1 y143 y146 (y149.set (x7_1 : Int).toNat 1) (wrap64 (x7_1 + 1)) a0_0 a0_1 l0_2) else (none)) else (spec_Drain.l0 k1 y143 y146 y149 (wrap64 (x7_1 + 1)) a0_0 a0_1 l0_2)))) else (none))) else (none)) = some (r1, r2) := by first | (rw [hy143]; with_reducible exact H) | (have H2_ := (Option.bind_some _ _).symm.trans H; rw [hy143]; with_reducible exact H2_) | (have H2_ := (Option.bind_some _ _).symm.trans H; with_reducible exact H2_) | with_reducible exact H | (rw [hy143]; exact H) | exact H
        have Ny143 := Aside0.mk hy143; clear hy143
        by_cases c17 : x5_1.length < 17592186044416
        ·rw [if_pos c17] at H
         have LMc17 := Aside0.mk c17; clear c17
         obtain ⟨y146, hy146⟩ : ∃ y_ : List Int, y_ = (x5_1 ++ [(-1)]) := ⟨_, rfl⟩
         replace H : (if x6_1.length < 17592186044416 then ((some (x6_1 ++ [0] : List Int)).bind fun y149 => ((spec_l13Edge.f a0_0 a0_1 l0_2 x7_1).bind fun t152 => (if t152 = true then (if x7_1 < (y149.length : Int) then (spec_Drain.l0 k1 y143 y146 (y149.set (x7_1 : Int).toNat 1) (wrap64 (x7_1 + 1)) a0_0 a0_1 l0_2) else (none)) else (spec_Drain.l0 k1 y143 y146 y149 (wrap64 (x7_1 + 1)) a0_0 a0_1 l0_2)))) else (none)) = some (r1, r2) := by first | (rw [hy146]; with_reducible exact H) | (have H2_ := (Option.bind_some _ _).symm.trans H; rw [hy146]; with_reducible exact H2_) | (have H2_ := (Option.bind_some _ _).symm.trans H; with_reducible exact H2_) | with_reducible exact H | (rw [hy146]; exact H) | exact H
         have Ny146 := Aside0.mk hy146; clear hy146
         by_cases c18 : x6_1.length < 17592186044416
         ·rw [if_pos c18] at H
          have LMc18 := Aside0.mk c18; clear c18
          obtain ⟨y149, hy149⟩ : ∃ y_ : List Int, y_ = (x6_1 ++ [0]) := ⟨_, rfl⟩
          replace H : ((spec_l13Edge.f a0_0 a0_1 l0_2 x7_1).bind fun t152 => (if t152 = true then (if x7_1 < (y149.length : Int) then (spec_Drain.l0 k1 y143 y146 (y149.set (x7_1 : Int).toNat 1) (wrap64 (x7_1 + 1)) a0_0 a0_1 l0_2) else (none)) else (spec_Drain.l0 k1 y143 y146 y149 (wrap64 (x7_1 + 1)) a0_0 a0_1 l0_2))) = some (r1, r2) := by first | (rw [hy149]; with_reducible exact H) | (have H2_ := (Option.bind_some _ _).symm.trans H; rw [hy149]; with_reducible exact H2_) | (have H2_ := (Option.bind_some _ _).symm.trans H; with_reducible exact H2_) | with_reducible exact H | (rw [hy149]; exact H) | exact H
          have Ny149 := Aside0.mk hy149; clear hy149; replace H := Option.bind_eq_some_iff.mp H
          obtain ⟨t152, A190, H⟩ := H
          replace H : (if t152 = true then (if x7_1 < (y149.length : Int) then (spec_Drain.l0 k1 y143 y146 (y149.set (x7_1 : Int).toNat 1) (wrap64 (x7_1 + 1)) a0_0 a0_1 l0_2) else (none)) else (spec_Drain.l0 k1 y143 y146 y149 (wrap64 (x7_1 + 1)) a0_0 a0_1 l0_2)) = some (r1, r2) := H
          have A19 := Aside0.mk A190; clear A190
          by_cases c20 : t152 = true
          ·subst c20
           have H1 : (if x7_1 < (y149.length : Int) then (spec_Drain.l0 k1 y143 y146 (y149.set (x7_1 : Int).toNat 1) (wrap64 (x7_1 + 1)) a0_0 a0_1 l0_2) else (none)) = some (r1, r2) := by rw [if_pos rfl] at H; exact H
           clear H; have H := H1; clear H1
           by_cases c21 : x7_1 < (y149.length : Int)
           ·rw [if_pos c21] at H
            have c21b0 : decide (x7_1 < (y149.length : Int)) = true := decide_eq_true c21
            clear c21
            obtain ⟨y153, hy153⟩ : ∃ y_ : List Int, y_ = (y149.set (x7_1 : Int).toNat 1) := ⟨_, rfl⟩
            replace H : (spec_Drain.l0 k1 y143 y146 y153 (wrap64 (x7_1 + 1)) a0_0 a0_1 l0_2) = some (r1, r2) := by first | (rw [hy153]; with_reducible exact H) | (have H2_ := (Option.bind_some _ _).symm.trans H; rw [hy153]; with_reducible exact H2_) | (have H2_ := (Option.bind_some _ _).symm.trans H; with_reducible exact H2_) | with_reducible exact H | (rw [hy153]; exact H) | exact H
            have Ny153 := Aside0.mk hy153; clear hy153; have H' := Aside0.mk H; clear H
            have hcz23_0 : wr.cell? ⟨gb131, 0, none⟩ = some (.int .i64 a0_0) := (blk_cell BK131.out 0).trans rfl
            have hcz23_1 : wr.cell? ⟨gb131, 1, none⟩ = some (.int .i64 a0_1) := (blk_cell BK131.out 1).trans rfl
            have hcz23_2 : wr.cell? ⟨gb131, 2, none⟩ = some (.slice A0_2 l0_2.length c0_2) := (blk_cell BK131.out 2).trans rfl
            have hfz23_0 := blk_frozen BK131.out 0; have hfz23_1 := blk_frozen BK131.out 1; have hfz23_2 := blk_frozen BK131.out 2
            have p142 : 0 ≤ (x7_1 : Int) := of_decide_eq_true (by first | (with_reducible assumption) | assumption)
            have q142 : x7_1 < (l0_2.length : Int) := of_decide_eq_true (by first | (with_reducible assumption) | assumption)
            obtain ⟨ad142, e142, hx142_0⟩ := Kd.at_int HR0_2.out x7_1 p142 q142
            cases e142
            replace hx142_0 := (HB.out.cell (World.block_lt_of_cell? w _ hx142_0)).trans hx142_0
            replace p142 := eq_true p142; replace q142 := eq_true q142
            go_wp2_with (first | ((with_reducible refine gate_builtin (b := .append) (xs := #[.tmp 30, .tmp 36]) rfl ?_); at_builtin; refine Kd.R_append (Kd.int .i64) (w0 := w) w.heap.size rfl (.tmp 30) (.tmp 36) 22 2 (.int .i64 0) 8 rfl Try.underlying22 info2 rfl (by decide) (by omega) u4 x4_1 (rd l0_2 x7_1) [.int .i64 (rd l0_2 x7_1)] (fun k_ => some k_ ≠ (u5 : Value).ownBlock ∧ some k_ ≠ (u6 : Value).ownBlock) (fun _ => False) rfl rfl ?aP (fun _ hk => hk.elim) ?aF ?aO ?aB ?aS ?aL ?_; (case aP => exact rfl); (case aB => exact (by repeat (first | (with_reducible first | exact HB.out | apply below_alloc | apply pw_below_drewN | apply below_drew1 | refine below_set ?_ GE131.out) | exact HB.out))); (case aF => exact (fun k_ hk => ⟨Kd.fresh' (rLt_ HO_5) k_ hk, Kd.fresh' (rLt_ HO_6) k_ hk⟩)); (case aO => exact (rT_ HO_4)); (case aS => exact (below_size (by repeat (first | (with_reducible first | exact HB.out | apply below_alloc | apply pw_below_drewN | apply below_drew1 | refine below_set ?_ GE131.out) | exact HB.out)))); (case aL => have := LMc16.out; omega); intro v144 w24 ho hb hg hat; rw [← Ny143.out] at ho; replace HO_5 := Aside0.mk (Kd.R_after (ok := (fun k_ => some k_ ≠ (u6 : Value).ownBlock)) (rM_ HO_5) hg hat); replace HO_6 := Aside0.mk (Kd.R_after (ok := (fun k_ => some k_ ≠ (u5 : Value).ownBlock)) (rM_ HO_6) hg hat); replace BK131 := Aside0.mk (blk_grown (g := gb131) (o := .cells #[.int .i64 a0_0, .int .i64 a0_1, .slice (some ad142) l0_2.length c0_2] 62 (0, 0)) (bT_ BK131) hg (Kd.R_ne HO_4.out BK131.out (by decide))); replace HB := Aside0.mk (hb); have HO145 := Aside0.mk (ho); clear HO_4; clear ho hb hg hat) | ((with_reducible refine gate_builtin (b := .append) (xs := #[.tmp 38, .tmp 39]) rfl ?_); at_builtin; refine Kd.R_append (Kd.int .i64) (w0 := w) w.heap.size rfl (.tmp 38) (.tmp 39) 22 2 (.int .i64 0) 8 rfl Try.underlying22 info2 rfl (by decide) (by omega) u5 x5_1 (-1) [.int .i64 (-1)] (fun k_ => some k_ ≠ (u6 : Value).ownBlock ∧ some k_ ≠ (v144 : Value).ownBlock) (fun _ => False) rfl rfl ?aP (fun _ hk => hk.elim) ?aF ?aO ?aB ?aS ?aL ?_; (case aP => exact rfl); (case aB => exact (by repeat (first | (with_reducible first | exact HB.out | apply below_alloc | apply pw_below_drewN | apply below_drew1 | refine below_set ?_ GE131.out) | exact HB.out))); (case aF => exact (fun k_ hk => ⟨Kd.fresh' (rLt_ HO_6) k_ hk, Kd.fresh' (rLt_ HO145) k_ hk⟩)); (case aO => exact (rT_ HO_5)); (case aS => exact (below_size (by repeat (first | (with_reducible first | exact HB.out | apply below_alloc | apply pw_below_drewN | apply below_drew1 | refine below_set ?_ GE131.out) | exact HB.out)))); (case aL => have := LMc17.out; omega); intro v147 w25 ho hb hg hat; rw [← Ny146.out] at ho; replace HO_6 := Aside0.mk (Kd.R_after (ok := (fun k_ => some k_ ≠ (v144 : Value).ownBlock)) (rM_ HO_6) hg hat); replace BK131 := Aside0.mk (blk_grown (g := gb131) (o := .cells #[.int .i64 a0_0, .int .i64 a0_1, .slice (some ad142) l0_2.length c0_2] 62 (0, 0)) (bT_ BK131) hg (Kd.R_ne HO_5.out BK131.out (by decide))); replace HO145 := Aside0.mk (Kd.R_after (ok := (fun k_ => some k_ ≠ (u6 : Value).ownBlock)) (rM_ HO145) hg hat); replace HB := Aside0.mk (hb); have HO148 := Aside0.mk (ho); clear HO_5; clear ho hb hg hat) | ((with_reducible refine gate_builtin (b := .append) (xs := #[.tmp 41, .tmp 42]) rfl ?_); at_builtin; refine Kd.R_append (Kd.int .i64) (w0 := w) w.heap.size rfl (.tmp 41) (.tmp 42) 22 2 (.int .i64 0) 8 rfl Try.underlying22 info2 rfl (by decide) (by omega) u6 x6_1 0 [.int .i64 0] (fun k_ => some k_ ≠ (v144 : Value).ownBlock ∧ some k_ ≠ (v147 : Value).ownBlock) (fun _ => False) rfl rfl ?aP (fun _ hk => hk.elim) ?aF ?aO ?aB ?aS ?aL ?_; (case aP => exact rfl); (case aB => exact (by repeat (first | (with_reducible first | exact HB.out | apply below_alloc | apply pw_below_drewN | apply below_drew1 | refine below_set ?_ GE131.out) | exact HB.out))); (case aF => exact (fun k_ hk => ⟨Kd.fresh' (rLt_ HO145) k_ hk, Kd.fresh' (rLt_ HO148) k_ hk⟩)); (case aO => exact (rT_ HO_6)); (case aS => exact (below_size (by repeat (first | (with_reducible first | exact HB.out | apply below_alloc | apply pw_below_drewN | apply below_drew1 | refine below_set ?_ GE131.out) | exact HB.out)))); (case aL => have := LMc18.out; omega); intro v150 w26 ho hb hg hat; rw [← Ny149.out] at ho; replace BK131 := Aside0.mk (blk_grown (g := gb131) (o := .cells #[.int .i64 a0_0, .int .i64 a0_1, .slice (some ad142) l0_2.length c0_2] 62 (0, 0)) (bT_ BK131) hg (Kd.R_ne HO_6.out BK131.out (by decide))); replace HO145 := Aside0.mk (Kd.R_after (ok := (fun k_ => some k_ ≠ (v147 : Value).ownBlock)) (rM_ HO145) hg hat); replace HO148 := Aside0.mk (Kd.R_after (ok := (fun k_ => some k_ ≠ (v144 : Value).ownBlock)) (rM_ HO148) hg hat); replace HB := Aside0.mk (hb); have HO151 := Aside0.mk (ho); clear HO_6; clear ho hb hg hat; have hcz27_0 : w26.cell? ⟨gb131, 0, none⟩ = some (.int .i64 a0_0) := (blk_cell BK131.out 0).trans rfl; have hcz27_1 : w26.cell? ⟨gb131, 1, none⟩ = some (.int .i64 a0_1) := (blk_cell BK131.out 1).trans rfl; have hcz27_2 : w26.cell? ⟨gb131, 2, none⟩ = some (.slice (some ad142) l0_2.length c0_2) := (blk_cell BK131.out 2).trans rfl; have hfz27_0 := blk_frozen BK131.out 0; have hfz27_1 := blk_frozen BK131.out 1; have hfz27_2 := blk_frozen BK131.out 2) | ((with_reducible refine gate_callee (f := 61) rfl ?_); refine gL_ (some 46) Try.func61 #[.agg #[.int .i64 a0_0, .int .i64 a0_1, .slice (some ad142) l0_2.length c0_2], .int .i64 x7_1] ?_; (with_reducible refine (spec_l13Edge.calls a0_0 a0_1 _ _ l0_2 x7_1 true _ ?side1 ?side2 A19.out).mono ?_); (case side1 => exact cB_ HR0_2 HB); (case side2 => exact HC0_2.out); rintro e w28 ⟨rfl, hb⟩; refine ⟨_, rfl, ?_⟩; replace HO145 := rB_ HO145 hb; replace HO148 := rB_ HO148 hb; replace HO151 := rB_ HO151 hb; replace BK131 := bB_ BK131 hb; replace HB := bS_ HB hb; (try clear hb); (try clear hb2); (try clear hk); (try clear hi); have p22 : 0 ≤ (x7_1 : Int) := of_decide_eq_true (by first | (with_reducible assumption) | assumption); have q22 : (x7_1 : Int) < ((y149.length : Int) : Int) := of_decide_eq_true (by first | (with_reducible assumption) | assumption); obtain ⟨go22, co22, eo22, gb22, gl22, cl22, HG22⟩ := Kd.R_form HO151.out (by omega); (first | cases eo22 | (injection eo22 with ea_ en_ ec_; (first | subst ea_ | (injection ea_ with ea_; subst ea_)); subst ec_; clear en_)); have GB22 := Aside0.mk gb22; have GG22 := Aside0.mk HG22; clear gb22 gl22 HG22; obtain ⟨hx22_0, hf22_0⟩ := Kd.R_celln 0 HO151.out (x7_1 : Int) p22 q22; replace p22 := eq_true p22; replace q22 := eq_true q22; obtain ⟨hy29_, hz29_⟩ := Kd.R_celln 0 HO151.out (x7_1 : Int) (of_decide_eq_true (by first | (with_reducible assumption) | assumption)) (of_decide_eq_true (by first | (with_reducible assumption) | assumption)); have HP29 := Kd.R_putg HO151.out (x7_1 : Int) 1) | ((with_reducible refine gate_store (t := 2) (p := 49) rfl ?_); refine store_event (t := 2) (p := 49) (v := ?vo_w30) (w1 := (w28.setCell ⟨go22, (x7_1 : Int).toNat, none⟩ (.int .i64 1))) ?hg ?ho ?hn ?hr ?_; (case ho => rfl); (case hg => rfl); (case hn => rfl); (case hr => first | (go_simp; done) | (go_simp; rfl)); intro w30 hw; have hg : w28.grownBy w30 (some go22) := (by rw [hw]; exact HP29.2); have hp_ : Kd.R (Kd.int .i64) 2 w30 w.heap.size (fun k_ => some k_ ≠ (v144 : Value).ownBlock ∧ some k_ ≠ (v147 : Value).ownBlock) (.slice (some ⟨go22, 0, none⟩) y149.length co22) y153 := (by rw [hw, Ny153.out]; exact HP29.1); clear HP29; replace BK131 := Aside0.mk (blk_grown (g := gb131) (o := .cells #[.int .i64 a0_0, .int .i64 a0_1, .slice (some ad142) l0_2.length c0_2] 62 (0, 0)) (bT_ BK131) hg (Kd.R_ne HO151.out BK131.out (by decide))); replace HO145 := Aside0.mk (Kd.R_after (v := (.slice (some ⟨go22, 0, none⟩) y149.length co22)) (v1 := (.slice (some ⟨go22, 0, none⟩) y149.length co22)) (ok := (fun k_ => some k_ ≠ (v147 : Value).ownBlock)) (rT_ HO145) hg (.inl rfl)); replace HO148 := Aside0.mk (Kd.R_after (v := (.slice (some ⟨go22, 0, none⟩) y149.length co22)) (v1 := (.slice (some ⟨go22, 0, none⟩) y149.length co22)) (ok := (fun k_ => some k_ ≠ (v144 : Value).ownBlock)) (rT_ HO148) hg (.inl rfl)); replace HO151 := Aside0.mk (hp_); replace HB := Aside0.mk ((by rw [hw]; exact below_set (HB.out) GB22.out : Below w.heap.size w w30)); clear hg hw hp_))
            go_roundg k1
            case measure => have := HK1.out; omega
            case rel => exact ⟨(y143), (y146), (y153), (wrap64 (x7_1 + 1)), (by first | rfl | (simp; done) | (simp [*]; done)), H', ⟨by have := HK1.out; omega⟩, ⟨by (with_reducible repeat (first | apply Kd.R_alloc | apply Kd.R_drewN | apply Kd.R_drew)); exact HO145.out⟩, ⟨by (with_reducible repeat (first | apply Kd.R_alloc | apply Kd.R_drewN | apply Kd.R_drew)); exact HO148.out⟩, ⟨by (with_reducible repeat (first | apply Kd.R_alloc | apply Kd.R_drewN | apply Kd.R_drew)); exact HO151.out⟩, ⟨by exact bT_ BK131⟩, ⟨by repeat (first | (with_reducible first | exact HB.out | apply below_alloc | apply pw_below_drewN | apply below_drew1 | refine below_set ?_ GE131.out) | exact HB.out)⟩⟩
           ·rw [if_neg c21] at H
            exact absurd H (by simp)
          ·replace c20 := Bool.eq_false_iff.mpr c20
           subst c20
           have H1 : (spec_Drain.l0 k1 y143 y146 y149 (wrap64 (x7_1 + 1)) a0_0 a0_1 l0_2) = some (r1, r2) := by rw [if_neg (show ¬ (false = true) by decide)] at H; exact H
           clear H; have H := H1; clear H1; have H' := Aside0.mk H; clear H
           have hcz31_0 : wr.cell? ⟨gb131, 0, none⟩ = some (.int .i64 a0_0) := (blk_cell BK131.out 0).trans rfl
           have hcz31_1 : wr.cell? ⟨gb131, 1, none⟩ = some (.int .i64 a0_1) := (blk_cell BK131.out 1).trans rfl
           have hcz31_2 : wr.cell? ⟨gb131, 2, none⟩ = some (.slice A0_2 l0_2.length c0_2) := (blk_cell BK131.out 2).trans rfl
           have hfz31_0 := blk_frozen BK131.out 0; have hfz31_1 := blk_frozen BK131.out 1; have hfz31_2 := blk_frozen BK131.out 2
           have p142 : 0 ≤ (x7_1 : Int) := of_decide_eq_true (by first | (with_reducible assumption) | assumption)
           have q142 : x7_1 < (l0_2.length : Int) := of_decide_eq_true (by first | (with_reducible assumption) | assumption)
           obtain ⟨ad142, e142, hx142_0⟩ := Kd.at_int HR0_2.out x7_1 p142 q142
           cases e142
           replace hx142_0 := (HB.out.cell (World.block_lt_of_cell? w _ hx142_0)).trans hx142_0
           replace p142 := eq_true p142; replace q142 := eq_true q142
           go_wp2_with (first | ((with_reducible refine gate_builtin (b := .append) (xs := #[.tmp 30, .tmp 36]) rfl ?_); at_builtin; refine Kd.R_append (Kd.int .i64) (w0 := w) w.heap.size rfl (.tmp 30) (.tmp 36) 22 2 (.int .i64 0) 8 rfl Try.underlying22 info2 rfl (by decide) (by omega) u4 x4_1 (rd l0_2 x7_1) [.int .i64 (rd l0_2 x7_1)] (fun k_ => some k_ ≠ (u5 : Value).ownBlock ∧ some k_ ≠ (u6 : Value).ownBlock) (fun _ => False) rfl rfl ?aP (fun _ hk => hk.elim) ?aF ?aO ?aB ?aS ?aL ?_; (case aP => exact rfl); (case aB => exact (by repeat (first | (with_reducible first | exact HB.out | apply below_alloc | apply pw_below_drewN | apply below_drew1 | refine below_set ?_ GE131.out) | exact HB.out))); (case aF => exact (fun k_ hk => ⟨Kd.fresh' (rLt_ HO_5) k_ hk, Kd.fresh' (rLt_ HO_6) k_ hk⟩)); (case aO => exact (rT_ HO_4)); (case aS => exact (below_size (by repeat (first | (with_reducible first | exact HB.out | apply below_alloc | apply pw_below_drewN | apply below_drew1 | refine below_set ?_ GE131.out) | exact HB.out)))); (case aL => have := LMc16.out; omega); intro v144 w32 ho hb hg hat; rw [← Ny143.out] at ho; replace HO_5 := Aside0.mk (Kd.R_after (ok := (fun k_ => some k_ ≠ (u6 : Value).ownBlock)) (rM_ HO_5) hg hat); replace HO_6 := Aside0.mk (Kd.R_after (ok := (fun k_ => some k_ ≠ (u5 : Value).ownBlock)) (rM_ HO_6) hg hat); replace BK131 := Aside0.mk (blk_grown (g := gb131) (o := .cells #[.int .i64 a0_0, .int .i64 a0_1, .slice (some ad142) l0_2.length c0_2] 62 (0, 0)) (bT_ BK131) hg (Kd.R_ne HO_4.out BK131.out (by decide))); replace HB := Aside0.mk (hb); have HO145 := Aside0.mk (ho); clear HO_4; clear ho hb hg hat) | ((with_reducible refine gate_builtin (b := .append) (xs := #[.tmp 38, .tmp 39]) rfl ?_); at_builtin; refine Kd.R_append (Kd.int .i64) (w0 := w) w.heap.size rfl (.tmp 38) (.tmp 39) 22 2 (.int .i64 0) 8 rfl Try.underlying22 info2 rfl (by decide) (by omega) u5 x5_1 (-1) [.int .i64 (-1)] (fun k_ => some k_ ≠ (u6 : Value).ownBlock ∧ some k_ ≠ (v144 : Value).ownBlock) (fun _ => False) rfl rfl ?aP (fun _ hk => hk.elim) ?aF ?aO ?aB ?aS ?aL ?_; (case aP => exact rfl); (case aB => exact (by repeat (first | (with_reducible first | exact HB.out | apply below_alloc | apply pw_below_drewN | apply below_drew1 | refine below_set ?_ GE131.out) | exact HB.out))); (case aF => exact (fun k_ hk => ⟨Kd.fresh' (rLt_ HO_6) k_ hk, Kd.fresh' (rLt_ HO145) k_ hk⟩)); (case aO => exact (rT_ HO_5)); (case aS => exact (below_size (by repeat (first | (with_reducible first | exact HB.out | apply below_alloc | apply pw_below_drewN | apply below_drew1 | refine below_set ?_ GE131.out) | exact HB.out)))); (case aL => have := LMc17.out; omega); intro v147 w33 ho hb hg hat; rw [← Ny146.out] at ho; replace HO_6 := Aside0.mk (Kd.R_after (ok := (fun k_ => some k_ ≠ (v144 : Value).ownBlock)) (rM_ HO_6) hg hat); replace BK131 := Aside0.mk (blk_grown (g := gb131) (o := .cells #[.int .i64 a0_0, .int .i64 a0_1, .slice (some ad142) l0_2.length c0_2] 62 (0, 0)) (bT_ BK131) hg (Kd.R_ne HO_5.out BK131.out (by decide))); replace HO145 := Aside0.mk (Kd.R_after (ok := (fun k_ => some k_ ≠ (u6 : Value).ownBlock)) (rM_ HO145) hg hat); replace HB := Aside0.mk (hb); have HO148 := Aside0.mk (ho); clear HO_5; clear ho hb hg hat) | ((with_reducible refine gate_builtin (b := .append) (xs := #[.tmp 41, .tmp 42]) rfl ?_); at_builtin; refine Kd.R_append (Kd.int .i64) (w0 := w) w.heap.size rfl (.tmp 41) (.tmp 42) 22 2 (.int .i64 0) 8 rfl Try.underlying22 info2 rfl (by decide) (by omega) u6 x6_1 0 [.int .i64 0] (fun k_ => some k_ ≠ (v144 : Value).ownBlock ∧ some k_ ≠ (v147 : Value).ownBlock) (fun _ => False) rfl rfl ?aP (fun _ hk => hk.elim) ?aF ?aO ?aB ?aS ?aL ?_; (case aP => exact rfl); (case aB => exact (by repeat (first | (with_reducible first | exact HB.out | apply below_alloc | apply pw_below_drewN | apply below_drew1 | refine below_set ?_ GE131.out) | exact HB.out))); (case aF => exact (fun k_ hk => ⟨Kd.fresh' (rLt_ HO145) k_ hk, Kd.fresh' (rLt_ HO148) k_ hk⟩)); (case aO => exact (rT_ HO_6)); (case aS => exact (below_size (by repeat (first | (with_reducible first | exact HB.out | apply below_alloc | apply pw_below_drewN | apply below_drew1 | refine below_set ?_ GE131.out) | exact HB.out)))); (case aL => have := LMc18.out; omega); intro v150 w34 ho hb hg hat; rw [← Ny149.out] at ho; replace BK131 := Aside0.mk (blk_grown (g := gb131) (o := .cells #[.int .i64 a0_0, .int .i64 a0_1, .slice (some ad142) l0_2.length c0_2] 62 (0, 0)) (bT_ BK131) hg (Kd.R_ne HO_6.out BK131.out (by decide))); replace HO145 := Aside0.mk (Kd.R_after (ok := (fun k_ => some k_ ≠ (v147 : Value).ownBlock)) (rM_ HO145) hg hat); replace HO148 := Aside0.mk (Kd.R_after (ok := (fun k_ => some k_ ≠ (v144 : Value).ownBlock)) (rM_ HO148) hg hat); replace HB := Aside0.mk (hb); have HO151 := Aside0.mk (ho); clear HO_6; clear ho hb hg hat; have hcz35_0 : w34.cell? ⟨gb131, 0, none⟩ = some (.int .i64 a0_0) := (blk_cell BK131.out 0).trans rfl; have hcz35_1 : w34.cell? ⟨gb131, 1, none⟩ = some (.int .i64 a0_1) := (blk_cell BK131.out 1).trans rfl; have hcz35_2 : w34.cell? ⟨gb131, 2, none⟩ = some (.slice (some ad142) l0_2.length c0_2) := (blk_cell BK131.out 2).trans rfl; have hfz35_0 := blk_frozen BK131.out 0; have hfz35_1 := blk_frozen BK131.out 1; have hfz35_2 := blk_frozen BK131.out 2) | ((with_reducible refine gate_callee (f := 61) rfl ?_); refine gL_ (some 46) Try.func61 #[.agg #[.int .i64 a0_0, .int .i64 a0_1, .slice (some ad142) l0_2.length c0_2], .int .i64 x7_1] ?_; (with_reducible refine (spec_l13Edge.calls a0_0 a0_1 _ _ l0_2 x7_1 false _ ?side1 ?side2 A19.out).mono ?_); (case side1 => exact cB_ HR0_2 HB); (case side2 => exact HC0_2.out); rintro e w36 ⟨rfl, hb⟩; refine ⟨_, rfl, ?_⟩; replace HO145 := rB_ HO145 hb; replace HO148 := rB_ HO148 hb; replace HO151 := rB_ HO151 hb; replace BK131 := bB_ BK131 hb; replace HB := bS_ HB hb; (try clear hb); (try clear hb2); (try clear hk); (try clear hi)))
           go_roundg k1
           case measure => have := HK1.out; omega
           case rel => exact ⟨(y143), (y146), (y149), (wrap64 (x7_1 + 1)), (by first | rfl | (simp; done) | (simp [*]; done)), H', ⟨by have := HK1.out; omega⟩, ⟨by (with_reducible repeat (first | apply Kd.R_alloc | apply Kd.R_drewN | apply Kd.R_drew)); exact HO145.out⟩, ⟨by (with_reducible repeat (first | apply Kd.R_alloc | apply Kd.R_drewN | apply Kd.R_drew)); exact HO148.out⟩, ⟨by (with_reducible repeat (first | apply Kd.R_alloc | apply Kd.R_drewN | apply Kd.R_drew)); exact HO151.out⟩, ⟨by exact bT_ BK131⟩, ⟨by repeat (first | (with_reducible first | exact HB.out | apply below_alloc | apply pw_below_drewN | apply below_drew1 | refine below_set ?_ GE131.out) | exact HB.out)⟩⟩
         ·rw [if_neg c18] at H
          exact absurd H (by simp)
        ·rw [if_neg c17] at H
         exact absurd H (by simp)
       ·rw [if_neg c16] at H
        exact absurd H (by simp)
      ·rw [if_neg c15] at H
       exact absurd H (by simp)
     ·rw [if_neg c14] at H
      exact absurd H (by simp)
    ·rw [if_neg c13] at H
     have c13b0 : decide (x7_1 < (wrap64 (a0_0 * a0_1))) = false := decide_eq_false c13
     clear c13; have H' := Aside0.mk H; clear H
     have hcz37_0 : wr.cell? ⟨gb131, 0, none⟩ = some (.int .i64 a0_0) := (blk_cell BK131.out 0).trans rfl
     have hcz37_1 : wr.cell? ⟨gb131, 1, none⟩ = some (.int .i64 a0_1) := (blk_cell BK131.out 1).trans rfl
     have hcz37_2 : wr.cell? ⟨gb131, 2, none⟩ = some (.slice A0_2 l0_2.length c0_2) := (blk_cell BK131.out 2).trans rfl
     have hfz37_0 := blk_frozen BK131.out 0; have hfz37_1 := blk_frozen BK131.out 1; have hfz37_2 := blk_frozen BK131.out 2
     go_wp2
     go_loopg [] k1 (fun kq w' => ∃ (x4_2 : List Int) (x5_2 : List Int) (x6_2 : List Int), Aside0 (spec_Drain.l1 kq x4_2 x5_2 x6_2 a0_0 a0_1 l0_2 = some (r1, r2)) ∧ Aside0 (kq ≤ k1) ∧ Aside0 (Kd.R (Kd.int .i64) 2 w' w.heap.size (fun k_ => some k_ ≠ (u5 : Value).ownBlock ∧ some k_ ≠ (u6 : Value).ownBlock) u4 x4_2) ∧ Aside0 (Kd.R (Kd.int .i64) 2 w' w.heap.size (fun k_ => some k_ ≠ (u4 : Value).ownBlock ∧ some k_ ≠ (u6 : Value).ownBlock) u5 x5_2) ∧ Aside0 (Kd.R (Kd.int .i64) 2 w' w.heap.size (fun k_ => some k_ ≠ (u4 : Value).ownBlock ∧ some k_ ≠ (u5 : Value).ownBlock) u6 x6_2) ∧ Aside0 (w'.heap[gb131]? = some (.cells #[.int .i64 a0_0, .int .i64 a0_1, (.slice A0_2 l0_2.length c0_2)] 62 (0, 0))) ∧ Aside0 (Below w.heap.size w w'))
     case atStart => exact ⟨(x4_1), (x5_1), (x6_1), H', ⟨Nat.le_refl _⟩, ⟨by (with_reducible repeat (first | apply Kd.R_alloc | apply Kd.R_drewN | apply Kd.R_drew)); exact HO_4.out⟩, ⟨by (with_reducible repeat (first | apply Kd.R_alloc | apply Kd.R_drewN | apply Kd.R_drew)); exact HO_5.out⟩, ⟨by (with_reducible repeat (first | apply Kd.R_alloc | apply Kd.R_drewN | apply Kd.R_drew)); exact HO_6.out⟩, ⟨by exact bT_ BK131⟩, ⟨by repeat (first | (with_reducible first | exact HB.out | apply below_alloc | apply pw_below_drewN | apply below_drew1 | refine below_set ?_ GE131.out) | exact HB.out)⟩⟩
     case round =>
      clear H'; (try clear c1); (try clear p1); (try clear q1); (try clear hx1); (try clear c2); (try clear p2); (try clear q2); (try clear hx2); (try clear hf2); (try clear c3); (try clear c6); (try clear p6); (try clear c13); (try clear c13b0); (try clear c14); (try clear c14b0); (try clear p14); (try clear q14); (try clear hx14); (try clear c15); (try clear c15b0); (try clear c16); (try clear c17); (try clear c18); (try clear c20); (try clear c21); (try clear c21b0); (try clear p22); (try clear q22); (try clear hx22); (try clear hf22); (try clear c36); (try clear hcz23_0); (try clear hcz23_1); (try clear hcz23_2); (try clear hcz27_0); (try clear hcz27_1); (try clear hcz27_2); (try clear hcz31_0); (try clear hcz31_1); (try clear hcz31_2); (try clear hcz35_0); (try clear hcz35_1); (try clear hcz35_2); (try clear hcz37_0); (try clear hcz37_1); (try clear hcz37_2); (try clear hcz9_0); (try clear hcz9_1); (try clear hcz9_2); (try clear hfz23_0); (try clear hfz23_1); (try clear hfz23_2); (try clear hfz27_0); (try clear hfz27_1); (try clear hfz27_2); (try clear hfz31_0); (try clear hfz31_1); (try clear hfz31_2); (try clear hfz35_0); (try clear hfz35_1); (try clear hfz35_2); (try clear hfz37_0); (try clear hfz37_1); (try clear hfz37_2); (try clear hfz9_0); (try clear hfz9_1); (try clear hfz9_2); (try clear hx142_0); (try clear hx22_0); (try clear p142); (try clear p2); (try clear p22); (try clear q142); (try clear q22)
      obtain ⟨x4_2, x5_2, x6_2, HA, HK2, HO_4, HO_5, HO_6, BK131, HB⟩ := hrel
      cases gk with
      | zero => exact absurd HA.out (by simp [spec_Drain.l1])
      | succ k2 =>
       have H := HA.out; clear HA
       simp only [spec_Drain.l1] at H
       have H' := Aside0.mk H; clear H
       go_wp2
       go_loopg [8, 9] k2 (fun kq v8 v9 w' => ∃ (x8_3 : Int) (x9_3 : Int), v8 = .int .i64 x8_3 ∧ v9 = .int .i64 x9_3 ∧ Aside0 (spec_Drain.l2 kq x4_2 x5_2 x6_2 x8_3 x9_3 a0_0 a0_1 l0_2 = some (r1, r2)) ∧ Aside0 (kq ≤ k2) ∧ Aside0 (Kd.R (Kd.int .i64) 2 w' w.heap.size (fun k_ => some k_ ≠ (u5 : Value).ownBlock ∧ some k_ ≠ (u6 : Value).ownBlock) u4 x4_2) ∧ Aside0 (Kd.R (Kd.int .i64) 2 w' w.heap.size (fun k_ => some k_ ≠ (u4 : Value).ownBlock ∧ some k_ ≠ (u6 : Value).ownBlock) u5 x5_2) ∧ Aside0 (Kd.R (Kd.int .i64) 2 w' w.heap.size (fun k_ => some k_ ≠ (u4 : Value).ownBlock ∧ some k_ ≠ (u5 : Value).ownBlock) u6 x6_2) ∧ Aside0 (w'.heap[gb131]? = some (.cells #[.int .i64 a0_0, .int .i64 a0_1, (.slice A0_2 l0_2.length c0_2)] 62 (0, 0))) ∧ Aside0 (Below w.heap.size w w'))
       case atStart => exact ⟨((-1)), (0), (by first | rfl | (simp; done) | (simp [*]; done)), (by first | rfl | (simp; done) | (simp [*]; done)), H', ⟨Nat.le_refl _⟩, ⟨by (with_reducible repeat (first | apply Kd.R_alloc | apply Kd.R_drewN | apply Kd.R_drew)); exact HO_4.out⟩, ⟨by (with_reducible repeat (first | apply Kd.R_alloc | apply Kd.R_drewN | apply Kd.R_drew)); exact HO_5.out⟩, ⟨by (with_reducible repeat (first | apply Kd.R_alloc | apply Kd.R_drewN | apply Kd.R_drew)); exact HO_6.out⟩, ⟨by exact bT_ BK131⟩, ⟨by repeat (first | (with_reducible first | exact HB.out | apply below_alloc | apply pw_below_drewN | apply below_drew1 | refine below_set ?_ GE131.out) | exact HB.out)⟩⟩
       case round =>
        clear H'; (try clear c1); (try clear p1); (try clear q1); (try clear hx1); (try clear c2); (try clear p2); (try clear q2); (try clear hx2); (try clear hf2); (try clear c3); (try clear c6); (try clear p6); (try clear c13); (try clear c13b0); (try clear c14); (try clear c14b0); (try clear p14); (try clear q14); (try clear hx14); (try clear c15); (try clear c15b0); (try clear c16); (try clear c17); (try clear c18); (try clear c20); (try clear c21); (try clear c21b0); (try clear p22); (try clear q22); (try clear hx22); (try clear hf22); (try clear c36); (try clear hcz23_0); (try clear hcz23_1); (try clear hcz23_2); (try clear hcz27_0); (try clear hcz27_1); (try clear hcz27_2); (try clear hcz31_0); (try clear hcz31_1); (try clear hcz31_2); (try clear hcz35_0); (try clear hcz35_1); (try clear hcz35_2); (try clear hcz37_0); (try clear hcz37_1); (try clear hcz37_2); (try clear hcz9_0); (try clear hcz9_1); (try clear hcz9_2); (try clear hfz23_0); (try clear hfz23_1); (try clear hfz23_2); (try clear hfz27_0); (try clear hfz27_1); (try clear hfz27_2); (try clear hfz31_0); (try clear hfz31_1); (try clear hfz31_2); (try clear hfz35_0); (try clear hfz35_1); (try clear hfz35_2); (try clear hfz37_0); (try clear hfz37_1); (try clear hfz37_2); (try clear hfz9_0); (try clear hfz9_1); (try clear hfz9_2); (try clear hx142_0); (try clear hx22_0); (try clear p1); (try clear p14); (try clear p142); (try clear p2); (try clear p22); (try clear p6); (try clear q1); (try clear q14); (try clear q142); (try clear q2); (try clear q22)
        obtain ⟨x8_3, x9_3, rfl, rfl, HA, HK3, HO_4, HO_5, HO_6, BK131, HB⟩ := hrel
        cases gk with
        | zero => exact absurd HA.out (by simp [spec_Drain.l2])
        | succ k3 =>
         have H := HA.out; clear HA
         simp only [spec_Drain.l2] at H
         by_cases c38 : x9_3 < (x6_2.length : Int)
         ·rw [if_pos c38] at H
          have c38b0 : decide (x9_3 < (x6_2.length : Int)) = true := decide_eq_true c38
          clear c38
          by_cases c39 : 0 ≤ x9_3
          ·rw [if_pos c39] at H
           have c39b0 : decide (0 ≤ x9_3) = true := decide_eq_true c39
           clear c39
           by_cases c40 : (rd x6_2 x9_3) = 1
           ·rw [if_pos c40] at H
            have c40b0 : ((rd x6_2 x9_3) == 1) = true := beq_iff_eq.mpr c40
            have c40b1 : ((rd x6_2 x9_3) != 1) = false := bne_eq_false_iff_eq.mpr c40
            clear c40
            by_cases c41 : x8_3 < 0
            ·rw [if_pos c41] at H
             have c41b0 : decide (x8_3 < 0) = true := decide_eq_true c41
             clear c41; have H' := Aside0.mk H; clear H
             obtain ⟨Ao42, co42, eo42⟩ := Kd.R_slice HO_6.out
             subst eo42
             try go_wp2
             replace HO_4 := Aside0.mk (Kd.R_drew HO_4.out)
             replace HO_5 := Aside0.mk (Kd.R_drew HO_5.out)
             replace HO_6 := Aside0.mk (Kd.R_drew HO_6.out)
             replace BK131 := Aside0.mk (blk_drew BK131.out)
             replace HB := Aside0.mk (below_drew1 HB.out)
             have p154 : 0 ≤ (x9_3 : Int) := of_decide_eq_true (by first | (with_reducible assumption) | assumption)
             have q154 : x9_3 < (x6_2.length : Int) := of_decide_eq_true (by first | (with_reducible assumption) | assumption)
             obtain ⟨ad154, e154, hx154_0⟩ := Kd.at_int (Kd.R_reads' HO_6.out).2.2 x9_3 p154 q154
             cases e154
             replace p154 := eq_true p154; replace q154 := eq_true q154
             refine start_ (n := 20) (S := fun w' => w'.cell? (ad154.add (x9_3).toNat) = some (.int .i64 (rd x6_2 x9_3))) (ds := []) #[false, false, false, false, false, false, false, false, false, false, false, false, false, false, false, false, false, false, false, false] (by kernel_rfl) rfl rfl (hx154_0) (fun hHeld => ?_); refine with_tabW spec_Drain.tab18 spec_Drain.bits18 (fun HT_ HW_ => ?_)
             generalize wr.drew = w43 at HO_4 HO_5 HO_6 BK131 HB hx154_0 hHeld ⊢
             refine pT_ 0 (some 56) #[true, false, false, false, false, false, false, false, false, false, false, false, false, false, false, false, false, false, false, false] HT_ ?_
             refine pT_ 1 (some 57) #[true, true, false, false, false, false, false, false, false, false, false, false, false, false, false, false, false, false, false, false] HT_ ?_
             refine pT_ 2 (some 58) #[true, true, true, false, false, false, false, false, false, false, false, false, false, false, false, false, false, false, false, false] HT_ ?_
             refine tT_ 3 (some 59) #[true, true, true, true, false, false, false, false, false, false, false, false, false, false, false, false, false, false, false, false] HT_ HW_ hHeld ?_
             refine pT_ 4 (some 60) #[true, true, true, true, true, false, false, false, false, false, false, false, false, false, false, false, false, false, false, false] HT_ ?_
             refine pT_ 5 (some 61) #[true, true, true, true, true, true, false, false, false, false, false, false, false, false, false, false, false, false, false, false] HT_ ?_
             refine pT_ 6 (some 62) #[true, true, true, true, true, true, true, false, false, false, false, false, false, false, false, false, false, false, false, false] HT_ ?_
             refine pT_ 7 (some 63) #[true, true, true, true, true, true, true, true, false, false, false, false, false, false, false, false, false, false, false, false] HT_ ?_
             refine pT_ 8 (some 64) #[true, true, true, true, true, true, true, true, true, false, false, false, false, false, false, false, false, false, false, false] HT_ ?_
             refine pU_ 9 (some 65) #[true, true, true, true, true, true, true, true, true, true, false, false, false, false, false, false, false, false, false, false] HT_ ?_
             refine pU_ 10 (some 66) #[true, true, true, true, true, true, true, true, true, true, true, false, false, false, false, false, false, false, false, false] HT_ ?_
             refine pU_ 11 (some 67) #[true, true, true, true, true, true, true, true, true, true, true, true, false, false, false, false, false, false, false, false] HT_ ?_
             refine pU_ 12 (some 68) #[true, true, true, true, true, true, true, true, true, true, true, true, true, false, false, false, false, false, false, false] HT_ ?_
             refine pU_ 13 (some 69) #[true, true, true, true, true, true, true, true, true, true, true, true, true, true, false, false, false, false, false, false] HT_ ?_
             refine pU_ 14 (some 70) #[true, true, true, true, true, true, true, true, true, true, true, true, true, true, true, false, false, false, false, false] HT_ ?_
             refine pU_ 15 (some 71) #[true, true, true, true, true, true, true, true, true, true, true, true, true, true, true, true, false, false, false, false] HT_ ?_
             refine pU_ 16 (some 72) #[true, true, true, true, true, true, true, true, true, true, true, true, true, true, true, true, true, false, false, false] HT_ ?_
             refine pU_ 17 (some 73) #[true, true, true, true, true, true, true, true, true, true, true, true, true, true, true, true, true, true, false, false] HT_ ?_
             refine pT_ 18 (some 74) #[true, true, true, true, true, true, true, true, true, true, true, true, true, true, true, true, true, true, true, false] HT_ ?_
             refine pT_ 19 (some 75) #[true, true, true, true, true, true, true, true, true, true, true, true, true, true, true, true, true, true, true, true] HT_ ?_
             refine done_ (done_of HT_.out (by kernel_rfl)) ?_
             try go_wp2
             go_roundg k3
             case measure => have := HK1.out; have := HK2.out; have := HK3.out; omega
             case rel => exact ⟨(x9_3), (wrap64 (x9_3 + 1)), (by first | rfl | (simp; done) | (simp [*]; done)), (by first | rfl | (simp; done) | (simp [*]; done)), H', ⟨by have := HK1.out; have := HK2.out; have := HK3.out; omega⟩, ⟨by (with_reducible repeat (first | apply Kd.R_alloc | apply Kd.R_drewN | apply Kd.R_drew)); exact HO_4.out⟩, ⟨by (with_reducible repeat (first | apply Kd.R_alloc | apply Kd.R_drewN | apply Kd.R_drew)); exact HO_5.out⟩, ⟨by (with_reducible repeat (first | apply Kd.R_alloc | apply Kd.R_drewN | apply Kd.R_drew)); exact HO_6.out⟩, ⟨by exact bT_ BK131⟩, ⟨by repeat (first | (with_reducible first | exact HB.out | apply below_alloc | apply pw_below_drewN | apply below_drew1 | refine below_set ?_ GE131.out) | exact HB.out)⟩⟩
            ·rw [if_neg c41] at H
             have c41b0 : decide (x8_3 < 0) = false := decide_eq_false c41
             clear c41
             by_cases c44 : x9_3 < (x4_2.length : Int)
             ·rw [if_pos c44] at H
              have c44b0 : decide (x9_3 < (x4_2.length : Int)) = true := decide_eq_true c44
              clear c44
              by_cases c45 : 0 ≤ x8_3
              ·rw [if_pos c45] at H
               have c45b0 : decide (0 ≤ x8_3) = true := decide_eq_true c45
               clear c45
               by_cases c46 : x8_3 < (x4_2.length : Int)
               ·rw [if_pos c46] at H
                have c46b0 : decide (x8_3 < (x4_2.length : Int)) = true := decide_eq_true c46
                clear c46
                by_cases c47 : (rd x4_2 x9_3) < (rd x4_2 x8_3)
                ·rw [if_pos c47] at H
                 have c47b0 : decide ((rd x4_2 x9_3) < (rd x4_2 x8_3)) = true := decide_eq_true c47
                 clear c47; have H' := Aside0.mk H; clear H
                 obtain ⟨Ao48, co48, eo48⟩ := Kd.R_slice HO_6.out
                 subst eo48
                 try go_wp2
                 replace HO_4 := Aside0.mk (Kd.R_drew HO_4.out)
                 replace HO_5 := Aside0.mk (Kd.R_drew HO_5.out)
                 replace HO_6 := Aside0.mk (Kd.R_drew HO_6.out)
                 replace BK131 := Aside0.mk (blk_drew BK131.out)
                 replace HB := Aside0.mk (below_drew1 HB.out)
                 have p154 : 0 ≤ (x9_3 : Int) := of_decide_eq_true (by first | (with_reducible assumption) | assumption)
                 have q154 : x9_3 < (x6_2.length : Int) := of_decide_eq_true (by first | (with_reducible assumption) | assumption)
                 obtain ⟨ad154, e154, hx154_0⟩ := Kd.at_int (Kd.R_reads' HO_6.out).2.2 x9_3 p154 q154
                 cases e154
                 replace p154 := eq_true p154; replace q154 := eq_true q154
                 obtain ⟨Ao50, co50, eo50⟩ := Kd.R_slice HO_4.out
                 (first | subst eo50 | (injection eo50 with f1_ f2_ f3_; have f4_ := f1_.symm; have f5_ := f3_.symm; clear f1_ f2_ f3_; subst f4_; subst f5_))
                 have p155 : 0 ≤ (x9_3 : Int) := of_decide_eq_true (by first | (with_reducible assumption) | assumption)
                 have q155 : x9_3 < (x4_2.length : Int) := of_decide_eq_true (by first | (with_reducible assumption) | assumption)
                 obtain ⟨ad155, e155, hx155_0⟩ := Kd.at_int (Kd.R_reads' HO_4.out).2.2 x9_3 p155 q155
                 cases e155
                 replace p155 := eq_true p155; replace q155 := eq_true q155
                 have p156 : 0 ≤ (x8_3 : Int) := of_decide_eq_true (by first | (with_reducible assumption) | assumption)
                 have q156 : x8_3 < (x4_2.length : Int) := of_decide_eq_true (by first | (with_reducible assumption) | assumption)
                 obtain ⟨ad156, e156, hx156_0⟩ := Kd.at_int (Kd.R_reads' HO_4.out).2.2 x8_3 p156 q156
                 obtain rfl : ad155 = ad156 := (by injection e156)
                 replace p156 := eq_true p156; replace q156 := eq_true q156
                 refine start_ (n := 20) (S := fun w' => w'.cell? (ad154.add (x9_3).toNat) = some (.int .i64 (rd x6_2 x9_3)) ∧ w'.cell? (ad155.add (x9_3).toNat) = some (.int .i64 (rd x4_2 x9_3)) ∧ w'.cell? (ad155.add (x8_3).toNat) = some (.int .i64 (rd x4_2 x8_3))) (ds := []) #[false, false, false, false, false, false, false, false, false, false, false, false, false, false, false, false, false, false, false, false] (by kernel_rfl) rfl rfl ⟨hx154_0, hx155_0, hx156_0⟩ (fun hHeld => ?_); refine with_tabW spec_Drain.tab18 spec_Drain.bits18 (fun HT_ HW_ => ?_)
                 generalize wr.drew = w49 at HO_4 HO_5 HO_6 BK131 HB hx154_0 hx155_0 hx156_0 hHeld ⊢
                 refine pT_ 0 (some 56) #[true, false, false, false, false, false, false, false, false, false, false, false, false, false, false, false, false, false, false, false] HT_ ?_
                 refine pT_ 1 (some 57) #[true, true, false, false, false, false, false, false, false, false, false, false, false, false, false, false, false, false, false, false] HT_ ?_
                 refine pT_ 2 (some 58) #[true, true, true, false, false, false, false, false, false, false, false, false, false, false, false, false, false, false, false, false] HT_ ?_
                 refine tT_ 3 (some 59) #[true, true, true, true, false, false, false, false, false, false, false, false, false, false, false, false, false, false, false, false] HT_ HW_ hHeld ?_ (hy := by rintro w' ⟨s0, s1, s2⟩; go_simp; with_reducible rfl)
                 refine pT_ 4 (some 60) #[true, true, true, true, true, false, false, false, false, false, false, false, false, false, false, false, false, false, false, false] HT_ ?_
                 refine pT_ 5 (some 61) #[true, true, true, true, true, true, false, false, false, false, false, false, false, false, false, false, false, false, false, false] HT_ ?_
                 refine pT_ 6 (some 62) #[true, true, true, true, true, true, true, false, false, false, false, false, false, false, false, false, false, false, false, false] HT_ ?_
                 refine pT_ 7 (some 63) #[true, true, true, true, true, true, true, true, false, false, false, false, false, false, false, false, false, false, false, false] HT_ ?_
                 refine pT_ 8 (some 64) #[true, true, true, true, true, true, true, true, true, false, false, false, false, false, false, false, false, false, false, false] HT_ ?_
                 refine pT_ 9 (some 65) #[true, true, true, true, true, true, true, true, true, true, false, false, false, false, false, false, false, false, false, false] HT_ ?_
                 refine pT_ 10 (some 66) #[true, true, true, true, true, true, true, true, true, true, true, false, false, false, false, false, false, false, false, false] HT_ ?_
                 refine pT_ 11 (some 67) #[true, true, true, true, true, true, true, true, true, true, true, true, false, false, false, false, false, false, false, false] HT_ ?_
                 refine pT_ 13 (some 69) #[true, true, true, true, true, true, true, true, true, true, true, true, false, true, false, false, false, false, false, false] HT_ ?_
                 refine pT_ 14 (some 70) #[true, true, true, true, true, true, true, true, true, true, true, true, false, true, true, false, false, false, false, false] HT_ ?_
                 refine pT_ 15 (some 71) #[true, true, true, true, true, true, true, true, true, true, true, true, false, true, true, true, false, false, false, false] HT_ ?_
                 refine tT_ 12 (some 68) #[true, true, true, true, true, true, true, true, true, true, true, true, true, true, true, true, false, false, false, false] HT_ HW_ hHeld ?_ (hy := by rintro w' ⟨s0, s1, s2⟩; go_simp; with_reducible rfl)
                 refine tT_ 16 (some 72) #[true, true, true, true, true, true, true, true, true, true, true, true, true, true, true, true, true, false, false, false] HT_ HW_ hHeld ?_ (hy := by rintro w' ⟨s0, s1, s2⟩; go_simp; with_reducible rfl)
                 refine pT_ 17 (some 73) #[true, true, true, true, true, true, true, true, true, true, true, true, true, true, true, true, true, true, false, false] HT_ ?_
                 refine pT_ 18 (some 74) #[true, true, true, true, true, true, true, true, true, true, true, true, true, true, true, true, true, true, true, false] HT_ ?_
                 refine pT_ 19 (some 75) #[true, true, true, true, true, true, true, true, true, true, true, true, true, true, true, true, true, true, true, true] HT_ ?_
                 refine done_ (done_of HT_.out (by kernel_rfl)) ?_
                 try go_wp2
                 go_roundg k3
                 case measure => have := HK1.out; have := HK2.out; have := HK3.out; omega
                 case rel => exact ⟨(x9_3), (wrap64 (x9_3 + 1)), (by first | rfl | (simp; done) | (simp [*]; done)), (by first | rfl | (simp; done) | (simp [*]; done)), H', ⟨by have := HK1.out; have := HK2.out; have := HK3.out; omega⟩, ⟨by (with_reducible repeat (first | apply Kd.R_alloc | apply Kd.R_drewN | apply Kd.R_drew)); exact HO_4.out⟩, ⟨by (with_reducible repeat (first | apply Kd.R_alloc | apply Kd.R_drewN | apply Kd.R_drew)); exact HO_5.out⟩, ⟨by (with_reducible repeat (first | apply Kd.R_alloc | apply Kd.R_drewN | apply Kd.R_drew)); exact HO_6.out⟩, ⟨by exact bT_ BK131⟩, ⟨by repeat (first | (with_reducible first | exact HB.out | apply below_alloc | apply pw_below_drewN | apply below_drew1 | refine below_set ?_ GE131.out) | exact HB.out)⟩⟩
                ·rw [if_neg c47] at H
                 have c47b0 : decide ((rd x4_2 x9_3) < (rd x4_2 x8_3)) = false := decide_eq_false c47
                 clear c47; have H' := Aside0.mk H; clear H
                 obtain ⟨Ao51, co51, eo51⟩ := Kd.R_slice HO_6.out
                 subst eo51
                 try go_wp2
                 replace HO_4 := Aside0.mk (Kd.R_drew HO_4.out)
                 replace HO_5 := Aside0.mk (Kd.R_drew HO_5.out)
                 replace HO_6 := Aside0.mk (Kd.R_drew HO_6.out)
                 replace BK131 := Aside0.mk (blk_drew BK131.out)
                 replace HB := Aside0.mk (below_drew1 HB.out)
                 have p154 : 0 ≤ (x9_3 : Int) := of_decide_eq_true (by first | (with_reducible assumption) | assumption)
                 have q154 : x9_3 < (x6_2.length : Int) := of_decide_eq_true (by first | (with_reducible assumption) | assumption)
                 obtain ⟨ad154, e154, hx154_0⟩ := Kd.at_int (Kd.R_reads' HO_6.out).2.2 x9_3 p154 q154
                 cases e154
                 replace p154 := eq_true p154; replace q154 := eq_true q154
                 obtain ⟨Ao53, co53, eo53⟩ := Kd.R_slice HO_4.out
                 (first | subst eo53 | (injection eo53 with f1_ f2_ f3_; have f4_ := f1_.symm; have f5_ := f3_.symm; clear f1_ f2_ f3_; subst f4_; subst f5_))
                 have p155 : 0 ≤ (x9_3 : Int) := of_decide_eq_true (by first | (with_reducible assumption) | assumption)
                 have q155 : x9_3 < (x4_2.length : Int) := of_decide_eq_true (by first | (with_reducible assumption) | assumption)
                 obtain ⟨ad155, e155, hx155_0⟩ := Kd.at_int (Kd.R_reads' HO_4.out).2.2 x9_3 p155 q155
                 cases e155
                 replace p155 := eq_true p155; replace q155 := eq_true q155
                 have p156 : 0 ≤ (x8_3 : Int) := of_decide_eq_true (by first | (with_reducible assumption) | assumption)
                 have q156 : x8_3 < (x4_2.length : Int) := of_decide_eq_true (by first | (with_reducible assumption) | assumption)
                 obtain ⟨ad156, e156, hx156_0⟩ := Kd.at_int (Kd.R_reads' HO_4.out).2.2 x8_3 p156 q156
                 obtain rfl : ad155 = ad156 := (by injection e156)
                 replace p156 := eq_true p156; replace q156 := eq_true q156
                 refine start_ (n := 20) (S := fun w' => w'.cell? (ad154.add (x9_3).toNat) = some (.int .i64 (rd x6_2 x9_3)) ∧ w'.cell? (ad155.add (x9_3).toNat) = some (.int .i64 (rd x4_2 x9_3)) ∧ w'.cell? (ad155.add (x8_3).toNat) = some (.int .i64 (rd x4_2 x8_3))) (ds := []) #[false, false, false, false, false, false, false, false, false, false, false, false, false, false, false, false, false, false, false, false] (by kernel_rfl) rfl rfl ⟨hx154_0, hx155_0, hx156_0⟩ (fun hHeld => ?_); refine with_tabW spec_Drain.tab18 spec_Drain.bits18 (fun HT_ HW_ => ?_)
                 generalize wr.drew = w52 at HO_4 HO_5 HO_6 BK131 HB hx154_0 hx155_0 hx156_0 hHeld ⊢
                 refine pT_ 0 (some 56) #[true, false, false, false, false, false, false, false, false, false, false, false, false, false, false, false, false, false, false, false] HT_ ?_
                 refine pT_ 1 (some 57) #[true, true, false, false, false, false, false, false, false, false, false, false, false, false, false, false, false, false, false, false] HT_ ?_
                 refine pT_ 2 (some 58) #[true, true, true, false, false, false, false, false, false, false, false, false, false, false, false, false, false, false, false, false] HT_ ?_
                 refine tT_ 3 (some 59) #[true, true, true, true, false, false, false, false, false, false, false, false, false, false, false, false, false, false, false, false] HT_ HW_ hHeld ?_ (hy := by rintro w' ⟨s0, s1, s2⟩; go_simp; with_reducible rfl)
                 refine pT_ 4 (some 60) #[true, true, true, true, true, false, false, false, false, false, false, false, false, false, false, false, false, false, false, false] HT_ ?_
                 refine pT_ 5 (some 61) #[true, true, true, true, true, true, false, false, false, false, false, false, false, false, false, false, false, false, false, false] HT_ ?_
                 refine pT_ 6 (some 62) #[true, true, true, true, true, true, true, false, false, false, false, false, false, false, false, false, false, false, false, false] HT_ ?_
                 refine pT_ 7 (some 63) #[true, true, true, true, true, true, true, true, false, false, false, false, false, false, false, false, false, false, false, false] HT_ ?_
                 refine pT_ 8 (some 64) #[true, true, true, true, true, true, true, true, true, false, false, false, false, false, false, false, false, false, false, false] HT_ ?_
                 refine pT_ 9 (some 65) #[true, true, true, true, true, true, true, true, true, true, false, false, false, false, false, false, false, false, false, false] HT_ ?_
                 refine pT_ 10 (some 66) #[true, true, true, true, true, true, true, true, true, true, true, false, false, false, false, false, false, false, false, false] HT_ ?_
                 refine pT_ 11 (some 67) #[true, true, true, true, true, true, true, true, true, true, true, true, false, false, false, false, false, false, false, false] HT_ ?_
                 refine pT_ 13 (some 69) #[true, true, true, true, true, true, true, true, true, true, true, true, false, true, false, false, false, false, false, false] HT_ ?_
                 refine pT_ 14 (some 70) #[true, true, true, true, true, true, true, true, true, true, true, true, false, true, true, false, false, false, false, false] HT_ ?_
                 refine pT_ 15 (some 71) #[true, true, true, true, true, true, true, true, true, true, true, true, false, true, true, true, false, false, false, false] HT_ ?_
                 refine tT_ 12 (some 68) #[true, true, true, true, true, true, true, true, true, true, true, true, true, true, true, true, false, false, false, false] HT_ HW_ hHeld ?_ (hy := by rintro w' ⟨s0, s1, s2⟩; go_simp; with_reducible rfl)
                 refine tT_ 16 (some 72) #[true, true, true, true, true, true, true, true, true, true, true, true, true, true, true, true, true, false, false, false] HT_ HW_ hHeld ?_ (hy := by rintro w' ⟨s0, s1, s2⟩; go_simp; with_reducible rfl)
                 refine pT_ 17 (some 73) #[true, true, true, true, true, true, true, true, true, true, true, true, true, true, true, true, true, true, false, false] HT_ ?_
                 refine pT_ 18 (some 74) #[true, true, true, true, true, true, true, true, true, true, true, true, true, true, true, true, true, true, true, false] HT_ ?_
                 refine pT_ 19 (some 75) #[true, true, true, true, true, true, true, true, true, true, true, true, true, true, true, true, true, true, true, true] HT_ ?_
                 refine done_ (done_of HT_.out (by kernel_rfl)) ?_
                 try go_wp2
                 go_roundg k3
                 case measure => have := HK1.out; have := HK2.out; have := HK3.out; omega
                 case rel => exact ⟨(x8_3), (wrap64 (x9_3 + 1)), (by first | rfl | (simp; done) | (simp [*]; done)), (by first | rfl | (simp; done) | (simp [*]; done)), H', ⟨by have := HK1.out; have := HK2.out; have := HK3.out; omega⟩, ⟨by (with_reducible repeat (first | apply Kd.R_alloc | apply Kd.R_drewN | apply Kd.R_drew)); exact HO_4.out⟩, ⟨by (with_reducible repeat (first | apply Kd.R_alloc | apply Kd.R_drewN | apply Kd.R_drew)); exact HO_5.out⟩, ⟨by (with_reducible repeat (first | apply Kd.R_alloc | apply Kd.R_drewN | apply Kd.R_drew)); exact HO_6.out⟩, ⟨by exact bT_ BK131⟩, ⟨by repeat (first | (with_reducible first | exact HB.out | apply below_alloc | apply pw_below_drewN | apply below_drew1 | refine below_set ?_ GE131.out) | exact HB.out)⟩⟩
               ·rw [if_neg c46] at H
                exact absurd H (by simp)
              ·rw [if_neg c45] at H
               exact absurd H (by simp)
             ·rw [if_neg c44] at H
              exact absurd H (by simp)
           ·rw [if_neg c40] at H
            have c40b0 : ((rd x6_2 x9_3) == 1) = false := beq_eq_false_iff_ne.mpr c40
            have c40b1 : ((rd x6_2 x9_3) != 1) = true := bne_iff_ne.mpr c40
            have H' := Aside0.mk H; clear H
            obtain ⟨Ao54, co54, eo54⟩ := Kd.R_slice HO_6.out
            subst eo54
            try go_wp2
            replace HO_4 := Aside0.mk (Kd.R_drew HO_4.out)
            replace HO_5 := Aside0.mk (Kd.R_drew HO_5.out)
            replace HO_6 := Aside0.mk (Kd.R_drew HO_6.out)
            replace BK131 := Aside0.mk (blk_drew BK131.out)
            replace HB := Aside0.mk (below_drew1 HB.out)
            have p154 : 0 ≤ (x9_3 : Int) := of_decide_eq_true (by first | (with_reducible assumption) | assumption)
            have q154 : x9_3 < (x6_2.length : Int) := of_decide_eq_true (by first | (with_reducible assumption) | assumption)
            obtain ⟨ad154, e154, hx154_0⟩ := Kd.at_int (Kd.R_reads' HO_6.out).2.2 x9_3 p154 q154
            cases e154
            replace p154 := eq_true p154; replace q154 := eq_true q154
            refine start_ (n := 20) (S := fun w' => w'.cell? (ad154.add (x9_3).toNat) = some (.int .i64 (rd x6_2 x9_3))) (ds := []) #[false, false, false, false, false, false, false, false, false, false, false, false, false, false, false, false, false, false, false, false] (by kernel_rfl) rfl rfl (hx154_0) (fun hHeld => ?_); refine with_tabW spec_Drain.tab18 spec_Drain.bits18 (fun HT_ HW_ => ?_)
            generalize wr.drew = w55 at HO_4 HO_5 HO_6 BK131 HB hx154_0 hHeld ⊢
            refine pT_ 0 (some 56) #[true, false, false, false, false, false, false, false, false, false, false, false, false, false, false, false, false, false, false, false] HT_ ?_
            refine pT_ 1 (some 57) #[true, true, false, false, false, false, false, false, false, false, false, false, false, false, false, false, false, false, false, false] HT_ ?_
            refine pT_ 2 (some 58) #[true, true, true, false, false, false, false, false, false, false, false, false, false, false, false, false, false, false, false, false] HT_ ?_
            refine tT_ 3 (some 59) #[true, true, true, true, false, false, false, false, false, false, false, false, false, false, false, false, false, false, false, false] HT_ HW_ hHeld ?_
            refine pT_ 4 (some 60) #[true, true, true, true, true, false, false, false, false, false, false, false, false, false, false, false, false, false, false, false] HT_ ?_
            refine pT_ 5 (some 61) #[true, true, true, true, true, true, false, false, false, false, false, false, false, false, false, false, false, false, false, false] HT_ ?_
            refine pU_ 6 (some 62) #[true, true, true, true, true, true, true, false, false, false, false, false, false, false, false, false, false, false, false, false] HT_ ?_
            refine pU_ 7 (some 63) #[true, true, true, true, true, true, true, true, false, false, false, false, false, false, false, false, false, false, false, false] HT_ ?_
            refine pU_ 8 (some 64) #[true, true, true, true, true, true, true, true, true, false, false, false, false, false, false, false, false, false, false, false] HT_ ?_
            refine pU_ 9 (some 65) #[true, true, true, true, true, true, true, true, true, true, false, false, false, false, false, false, false, false, false, false] HT_ ?_
            refine pU_ 10 (some 66) #[true, true, true, true, true, true, true, true, true, true, true, false, false, false, false, false, false, false, false, false] HT_ ?_
            refine pU_ 11 (some 67) #[true, true, true, true, true, true, true, true, true, true, true, true, false, false, false, false, false, false, false, false] HT_ ?_
            refine pU_ 12 (some 68) #[true, true, true, true, true, true, true, true, true, true, true, true, true, false, false, false, false, false, false, false] HT_ ?_
            refine pU_ 13 (some 69) #[true, true, true, true, true, true, true, true, true, true, true, true, true, true, false, false, false, false, false, false] HT_ ?_
            refine pU_ 14 (some 70) #[true, true, true, true, true, true, true, true, true, true, true, true, true, true, true, false, false, false, false, false] HT_ ?_
            refine pU_ 15 (some 71) #[true, true, true, true, true, true, true, true, true, true, true, true, true, true, true, true, false, false, false, false] HT_ ?_
            refine pU_ 16 (some 72) #[true, true, true, true, true, true, true, true, true, true, true, true, true, true, true, true, true, false, false, false] HT_ ?_
            refine pU_ 17 (some 73) #[true, true, true, true, true, true, true, true, true, true, true, true, true, true, true, true, true, true, false, false] HT_ ?_
            refine pU_ 18 (some 74) #[true, true, true, true, true, true, true, true, true, true, true, true, true, true, true, true, true, true, true, false] HT_ ?_
            refine pT_ 19 (some 75) #[true, true, true, true, true, true, true, true, true, true, true, true, true, true, true, true, true, true, true, true] HT_ ?_
            refine done_ (done_of HT_.out (by kernel_rfl)) ?_
            try go_wp2
            go_roundg k3
            case measure => have := HK1.out; have := HK2.out; have := HK3.out; omega
            case rel => exact ⟨(x8_3), (wrap64 (x9_3 + 1)), (by first | rfl | (simp; done) | (simp [*]; done)), (by first | rfl | (simp; done) | (simp [*]; done)), H', ⟨by have := HK1.out; have := HK2.out; have := HK3.out; omega⟩, ⟨by (with_reducible repeat (first | apply Kd.R_alloc | apply Kd.R_drewN | apply Kd.R_drew)); exact HO_4.out⟩, ⟨by (with_reducible repeat (first | apply Kd.R_alloc | apply Kd.R_drewN | apply Kd.R_drew)); exact HO_5.out⟩, ⟨by (with_reducible repeat (first | apply Kd.R_alloc | apply Kd.R_drewN | apply Kd.R_drew)); exact HO_6.out⟩, ⟨by exact bT_ BK131⟩, ⟨by repeat (first | (with_reducible first | exact HB.out | apply below_alloc | apply pw_below_drewN | apply below_drew1 | refine below_set ?_ GE131.out) | exact HB.out)⟩⟩
          ·rw [if_neg c39] at H
           exact absurd H (by simp)
         ·rw [if_neg c38] at H
          have c38b0 : decide (x9_3 < (x6_2.length : Int)) = false := decide_eq_false c38
          clear c38
          by_cases c56 : x8_3 < 0
          ·rw [if_pos c56] at H
           have c56b0 : decide (x8_3 < 0) = true := decide_eq_true c56
           clear c56
           simp only [Option.some.injEq, Prod.mk.injEq] at H
           obtain ⟨rfl, rfl⟩ := H
           obtain ⟨Ao57, co57, eo57⟩ := Kd.R_slice HO_6.out
           subst eo57
           go_wp2
           go_ret2
           exact ⟨_, _, by first | rfl | (simp [errW_none, errW_some] <;> rfl) | (simp [*, errW_none, errW_some] <;> rfl), by (with_reducible repeat (first | apply Kd.R_alloc | apply Kd.R_drewN | apply Kd.R_drew)); exact Kd.R_mono HO_4.out (fun _ hk => hk.1), by (with_reducible repeat (first | apply Kd.R_alloc | apply Kd.R_drewN | apply Kd.R_drew)); exact Kd.R_mono HO_5.out (fun _ hk => hk.1), by repeat (first | (with_reducible first | exact HB.out | apply below_alloc | apply pw_below_drewN | apply below_drew1 | refine below_set ?_ GE131.out) | exact HB.out)⟩
          ·rw [if_neg c56] at H
           have c56b0 : decide (x8_3 < 0) = false := decide_eq_false c56
           clear c56
           by_cases c58 : 0 ≤ x8_3
           ·rw [if_pos c58] at H
            have c58b0 : decide (0 ≤ x8_3) = true := decide_eq_true c58
            clear c58
            by_cases c59 : x8_3 < (x6_2.length : Int)
            ·rw [if_pos c59] at H
             have c59b0 : decide (x8_3 < (x6_2.length : Int)) = true := decide_eq_true c59
             clear c59
             obtain ⟨y157, hy157⟩ : ∃ y_ : List Int, y_ = (x6_2.set (x8_3 : Int).toNat 2) := ⟨_, rfl⟩
             replace H : ((spec_l13Sides.f k3 a0_0 a0_1 l0_2 x8_3).bind fun t158 => (spec_Drain.l3 k3 x4_2 x5_2 y157 x8_3 t158 0 a0_0 a0_1 l0_2)) = some (r1, r2) := by first | (rw [hy157]; with_reducible exact H) | (have H2_ := (Option.bind_some _ _).symm.trans H; rw [hy157]; with_reducible exact H2_) | (have H2_ := (Option.bind_some _ _).symm.trans H; with_reducible exact H2_) | with_reducible exact H | (rw [hy157]; exact H) | exact H
             have Ny157 := Aside0.mk hy157; clear hy157; replace H := Option.bind_eq_some_iff.mp H
             obtain ⟨t158, A610, H⟩ := H
             replace H : (spec_Drain.l3 k3 x4_2 x5_2 y157 x8_3 t158 0 a0_0 a0_1 l0_2) = some (r1, r2) := H
             have A61 := Aside0.mk A610; clear A610; have H' := Aside0.mk H; clear H
             obtain ⟨Ao62, co62, eo62⟩ := Kd.R_slice HO_6.out
             subst eo62
             have p60 : 0 ≤ (x8_3 : Int) := of_decide_eq_true (by first | (with_reducible assumption) | assumption)
             have q60 : (x8_3 : Int) < ((x6_2.length : Int) : Int) := of_decide_eq_true (by first | (with_reducible assumption) | assumption)
             obtain ⟨go60, co60, eo60, gb60, gl60, cl60, HG60⟩ := Kd.R_form HO_6.out (by omega)
             (first | cases eo60 | (injection eo60 with ea_ en_ ec_; (first | subst ea_ | (injection ea_ with ea_; subst ea_)); subst ec_; clear en_))
             have GB60 := Aside0.mk gb60; have GG60 := Aside0.mk HG60; clear gb60 gl60 HG60
             obtain ⟨hx60_0, hf60_0⟩ := Kd.R_celln 0 HO_6.out (x8_3 : Int) p60 q60
             replace p60 := eq_true p60; replace q60 := eq_true q60
             have HP63 := Kd.R_putg HO_6.out (x8_3 : Int) 2
             go_wp2_with (first | ((with_reducible refine gate_store (t := 2) (p := 83) rfl ?_); refine store_event (t := 2) (p := 83) (v := ?vo_w64) (w1 := (wr.setCell ⟨go60, (x8_3 : Int).toNat, none⟩ (.int .i64 2))) ?hg ?ho ?hn ?hr ?_; (case ho => rfl); (case hg => rfl); (case hn => rfl); (case hr => first | (go_simp; done) | (go_simp; rfl)); intro w64 hw; have hg : wr.grownBy w64 (some go60) := (by rw [hw]; exact HP63.2); have hp_ : Kd.R (Kd.int .i64) 2 w64 w.heap.size (fun k_ => some k_ ≠ (u4 : Value).ownBlock ∧ some k_ ≠ (u5 : Value).ownBlock) (.slice (some ⟨go60, 0, none⟩) x6_2.length co62) y157 := (by rw [hw, Ny157.out]; exact HP63.1); clear HP63; replace HO_4 := Aside0.mk (Kd.R_after (v := (.slice (some ⟨go60, 0, none⟩) x6_2.length co62)) (v1 := (.slice (some ⟨go60, 0, none⟩) x6_2.length co62)) (ok := (fun k_ => some k_ ≠ (u5 : Value).ownBlock)) (rT_ HO_4) hg (.inl rfl)); replace HO_5 := Aside0.mk (Kd.R_after (v := (.slice (some ⟨go60, 0, none⟩) x6_2.length co62)) (v1 := (.slice (some ⟨go60, 0, none⟩) x6_2.length co62)) (ok := (fun k_ => some k_ ≠ (u4 : Value).ownBlock)) (rT_ HO_5) hg (.inl rfl)); replace BK131 := Aside0.mk (blk_grown (g := gb131) (o := .cells #[.int .i64 a0_0, .int .i64 a0_1, .slice A0_2 l0_2.length c0_2] 62 (0, 0)) (bT_ BK131) hg (Kd.R_ne HO_6.out BK131.out (by decide))); replace HO_6 := Aside0.mk (hp_); replace HB := Aside0.mk ((by rw [hw]; exact below_set (HB.out) GB60.out : Below w.heap.size w w64)); clear hg hw hp_; have hcz65_0 : w64.cell? ⟨gb131, 0, none⟩ = some (.int .i64 a0_0) := (blk_cell BK131.out 0).trans rfl; have hcz65_1 : w64.cell? ⟨gb131, 1, none⟩ = some (.int .i64 a0_1) := (blk_cell BK131.out 1).trans rfl; have hcz65_2 : w64.cell? ⟨gb131, 2, none⟩ = some (.slice A0_2 l0_2.length c0_2) := (blk_cell BK131.out 2).trans rfl; have hfz65_0 := blk_frozen BK131.out 0; have hfz65_1 := blk_frozen BK131.out 1; have hfz65_2 := blk_frozen BK131.out 2) | ((with_reducible refine gate_callee (f := 62) rfl ?_); refine gL_ (some 86) Try.func62 #[.agg #[.int .i64 a0_0, .int .i64 a0_1, .slice A0_2 l0_2.length c0_2], .int .i64 x8_3] ?_; (with_reducible refine (spec_l13Sides.calls k3 a0_0 a0_1 _ _ l0_2 x8_3 t158 _ ?side1 ?side2 A61.out).mono ?_); (case side1 => exact cB_ HR0_2 HB); (case side2 => exact HC0_2.out); rintro e w66 ⟨v159, rfl, ho0, hb⟩; refine ⟨_, rfl, ?_⟩; have HO160 := rL_ (rN_ (rN_ (rN_ ho0 HO_4) HO_5) HO_6) HB; replace HO_4 := rE_ HO_4 ho0 hb; replace HO_5 := rE_ HO_5 ho0 hb; replace HO_6 := rE_ HO_6 ho0 hb; replace BK131 := bB_ BK131 hb; replace HB := bS_ HB hb; (try clear hb); (try clear hb2); (try clear hk); (try clear hi); (try clear ho0)))
             go_loopg [11] k3 (fun kq v11 w' => ∃ (x4_4 : List Int) (x5_4 : List Int) (x6_4 : List Int) (x11_4 : Int), v11 = .int .i64 x11_4 ∧ Aside0 (spec_Drain.l3 kq x4_4 x5_4 x6_4 x8_3 t158 x11_4 a0_0 a0_1 l0_2 = some (r1, r2)) ∧ Aside0 (kq ≤ k3) ∧ Aside0 (Kd.R (Kd.int .i64) 2 w' w.heap.size (fun k_ => some k_ ≠ (u5 : Value).ownBlock ∧ some k_ ≠ ((.slice (some ⟨go60, 0, none⟩) x6_2.length co62) : Value).ownBlock ∧ some k_ ≠ (v159 : Value).ownBlock) u4 x4_4) ∧ Aside0 (Kd.R (Kd.int .i64) 2 w' w.heap.size (fun k_ => some k_ ≠ (u4 : Value).ownBlock ∧ some k_ ≠ ((.slice (some ⟨go60, 0, none⟩) x6_2.length co62) : Value).ownBlock ∧ some k_ ≠ (v159 : Value).ownBlock) u5 x5_4) ∧ Aside0 (Kd.R (Kd.int .i64) 2 w' w.heap.size (fun k_ => some k_ ≠ (u4 : Value).ownBlock ∧ some k_ ≠ (u5 : Value).ownBlock ∧ some k_ ≠ (v159 : Value).ownBlock) (.slice (some ⟨go60, 0, none⟩) x6_2.length co62) x6_4) ∧ Aside0 (Kd.R (Kd.int .i64) 2 w' w.heap.size (fun k_ => some k_ ≠ (u4 : Value).ownBlock ∧ some k_ ≠ (u5 : Value).ownBlock ∧ some k_ ≠ ((.slice (some ⟨go60, 0, none⟩) x6_2.length co62) : Value).ownBlock) v159 t158) ∧ Aside0 (w'.heap[gb131]? = some (.cells #[.int .i64 a0_0, .int .i64 a0_1, (.slice A0_2 l0_2.length c0_2)] 62 (0, 0))) ∧ Aside0 (Below w.heap.size w w'))
             case atStart => exact ⟨(x4_2), (x5_2), (y157), (0), (by first | rfl | (simp; done) | (simp [*]; done)), H', ⟨Nat.le_refl _⟩, ⟨by (with_reducible repeat (first | apply Kd.R_alloc | apply Kd.R_drewN | apply Kd.R_drew)); exact Kd.R_mono HO_4.out (fun _ hk => ⟨hk.1.1, ⟨hk.1.2, hk.2⟩⟩)⟩, ⟨by (with_reducible repeat (first | apply Kd.R_alloc | apply Kd.R_drewN | apply Kd.R_drew)); exact Kd.R_mono HO_5.out (fun _ hk => ⟨hk.1.1, ⟨hk.1.2, hk.2⟩⟩)⟩, ⟨by (with_reducible repeat (first | apply Kd.R_alloc | apply Kd.R_drewN | apply Kd.R_drew)); exact Kd.R_mono HO_6.out (fun _ hk => ⟨hk.1.1, ⟨hk.1.2, hk.2⟩⟩)⟩, ⟨by (with_reducible repeat (first | apply Kd.R_alloc | apply Kd.R_drewN | apply Kd.R_drew)); exact Kd.R_mono HO160.out (fun _ hk => ⟨hk.1.1.2, ⟨hk.1.2, hk.2⟩⟩)⟩, ⟨by exact bT_ BK131⟩, ⟨by repeat (first | (with_reducible first | exact HB.out | apply below_alloc | apply pw_below_drewN | apply below_drew1 | refine below_set ?_ GE131.out) | exact HB.out)⟩⟩
             case round =>
              clear H'; (try clear p1); (try clear q1); (try clear hx1); (try clear p2); (try clear c3); (try clear c4); (try clear c5); (try clear c6); (try clear p6); (try clear q6); (try clear hx6); (try clear hf6); (try clear p15); (try clear q15); (try clear hx15); (try clear c38); (try clear c38b0); (try clear c39); (try clear c40); (try clear c40b0); (try clear c40b1); (try clear c44); (try clear c45); (try clear c46); (try clear c47); (try clear c47b0); (try clear c56); (try clear c56b0); (try clear c58); (try clear c58b0); (try clear c59); (try clear c59b0); (try clear p60); (try clear q60); (try clear hx60); (try clear hf60); (try clear c62); (try clear p64); (try clear hcz65_0); (try clear hcz65_1); (try clear hcz65_2); (try clear hfz65_0); (try clear hfz65_1); (try clear hfz65_2); (try clear hx154_0); (try clear hx155_0); (try clear hx156_0); (try clear hx60_0); (try clear p154); (try clear p155); (try clear p156); (try clear p60); (try clear q154); (try clear q155); (try clear q156); (try clear q60)
              obtain ⟨x4_4, x5_4, x6_4, x11_4, rfl, HA, HK4, HO_4, HO_5, HO_6, HO_10, BK131, HB⟩ := hrel
              have hl6_4 := (Kd.R_reads' HO_6.out).1
              rw [hl6_4] at HO_6
              (try simp only [hl6_4])
              (try simp only [hl6_4] at BK131)
              (try simp only [hl6_4] at HO_4)
              (try simp only [hl6_4] at HO_5)
              (try simp only [hl6_4] at HO_10)
              cases gk with
              | zero => exact absurd HA.out (by simp [spec_Drain.l3])
              | succ k4 =>
               have H := HA.out; clear HA
               simp only [spec_Drain.l3] at H
               by_cases c67 : x11_4 < (t158.length : Int)
               ·rw [if_pos c67] at H
                have c67b0 : decide (x11_4 < (t158.length : Int)) = true := decide_eq_true c67
                have c67b0q := c67b0
                (try simp only [hl6_4] at c67b0q)
                clear c67
                by_cases c68 : 0 ≤ x11_4
                ·rw [if_pos c68] at H
                 have c68b0 : decide (0 ≤ x11_4) = true := decide_eq_true c68
                 clear c68
                 by_cases c69 : 0 ≤ (rd t158 x11_4)
                 ·rw [if_pos c69] at H
                  have c69b0 : decide (0 ≤ (rd t158 x11_4)) = true := decide_eq_true c69
                  clear c69
                  by_cases c70 : (rd t158 x11_4) < (x6_4.length : Int)
                  ·rw [if_pos c70] at H
                   have c70b0 : decide ((rd t158 x11_4) < (x6_4.length : Int)) = true := decide_eq_true c70
                   have c70b0q := c70b0
                   (try simp only [hl6_4] at c70b0q)
                   clear c70
                   by_cases c71 : (rd x6_4 (rd t158 x11_4)) = 0
                   ·rw [if_pos c71] at H
                    have c71b0 : ((rd x6_4 (rd t158 x11_4)) == 0) = true := beq_iff_eq.mpr c71
                    have c71b1 : ((rd x6_4 (rd t158 x11_4)) != 0) = false := bne_eq_false_iff_eq.mpr c71
                    clear c71
                    obtain ⟨y163, hy163⟩ : ∃ y_ : List Int, y_ = (x6_4.set ((rd t158 x11_4) : Int).toNat 1) := ⟨_, rfl⟩
                    replace H : (if (rd t158 x11_4) < (x5_4.length : Int) then (if (rd t158 x11_4) < (l0_2.length : Int) then (if 0 ≤ x8_3 then (if x8_3 < (x4_4.length : Int) then (if (rd t158 x11_4) < (x4_4.length : Int) then (spec_Drain.l3 k4 (x4_4.set ((rd t158 x11_4) : Int).toNat (mx (rd l0_2 (rd t158 x11_4)) (rd x4_4 x8_3))) (x5_4.set ((rd t158 x11_4) : Int).toNat x8_3) y163 x8_3 t158 (wrap64 (x11_4 + 1)) a0_0 a0_1 l0_2) else (none)) else (none)) else (none)) else (none)) else (none)) = some (r1, r2) := by first | (rw [hy163]; with_reducible exact H) | (have H2_ := (Option.bind_some _ _).symm.trans H; rw [hy163]; with_reducible exact H2_) | (have H2_ := (Option.bind_some _ _).symm.trans H; with_reducible exact H2_) | with_reducible exact H | (rw [hy163]; exact H) | exact H
                    have Ny163 := Aside0.mk hy163; clear hy163
                    by_cases c73 : (rd t158 x11_4) < (x5_4.length : Int)
                    ·rw [if_pos c73] at H
                     have c73b0 : decide ((rd t158 x11_4) < (x5_4.length : Int)) = true := decide_eq_true c73
                     have c73b0q := c73b0
                     (try simp only [hl6_4] at c73b0q)
                     clear c73
                     obtain ⟨y164, hy164⟩ : ∃ y_ : List Int, y_ = (x5_4.set ((rd t158 x11_4) : Int).toNat x8_3) := ⟨_, rfl⟩
                     replace H : (if (rd t158 x11_4) < (l0_2.length : Int) then (if 0 ≤ x8_3 then (if x8_3 < (x4_4.length : Int) then (if (rd t158 x11_4) < (x4_4.length : Int) then (spec_Drain.l3 k4 (x4_4.set ((rd t158 x11_4) : Int).toNat (mx (rd l0_2 (rd t158 x11_4)) (rd x4_4 x8_3))) y164 y163 x8_3 t158 (wrap64 (x11_4 + 1)) a0_0 a0_1 l0_2) else (none)) else (none)) else (none)) else (none)) = some (r1, r2) := by first | (rw [hy164]; with_reducible exact H) | (have H2_ := (Option.bind_some _ _).symm.trans H; rw [hy164]; with_reducible exact H2_) | (have H2_ := (Option.bind_some _ _).symm.trans H; with_reducible exact H2_) | with_reducible exact H | (rw [hy164]; exact H) | exact H
                     have Ny164 := Aside0.mk hy164; clear hy164
                     by_cases c75 : (rd t158 x11_4) < (l0_2.length : Int)
                     ·rw [if_pos c75] at H
                      have c75b0 : decide ((rd t158 x11_4) < (l0_2.length : Int)) = true := decide_eq_true c75
                      have c75b0q := c75b0
                      (try simp only [hl6_4] at c75b0q)
                      clear c75
                      by_cases c76 : 0 ≤ x8_3
                      ·rw [if_pos c76] at H
                       have c76b0 : decide (0 ≤ x8_3) = true := decide_eq_true c76
                       clear c76
                       by_cases c77 : x8_3 < (x4_4.length : Int)
                       ·rw [if_pos c77] at H
                        have c77b0 : decide (x8_3 < (x4_4.length : Int)) = true := decide_eq_true c77
                        have c77b0q := c77b0
                        (try simp only [hl6_4] at c77b0q)
                        clear c77
                        obtain ⟨ji78, hji78⟩ : ∃ j_ : Int, (mx (rd l0_2 (rd t158 x11_4)) (rd x4_4 x8_3)) = j_ := ⟨_, rfl⟩
                        replace H : (if (rd t158 x11_4) < (x4_4.length : Int) then (spec_Drain.l3 k4 (x4_4.set ((rd t158 x11_4) : Int).toNat (ji78)) y164 y163 x8_3 t158 (wrap64 (x11_4 + 1)) a0_0 a0_1 l0_2) else (none)) = some (r1, r2) := by first | (rw [hji78] at H; exact H) | (simp only [hji78] at H ⊢; exact H)
                        have hji78_ : (if (rd l0_2 (rd t158 x11_4)) < (rd x4_4 x8_3) then (rd x4_4 x8_3) else (rd l0_2 (rd t158 x11_4))) = ji78 := hji78
                        by_cases c79 : (rd t158 x11_4) < (x4_4.length : Int)
                        ·rw [if_pos c79] at H
                         have c79b0 : decide ((rd t158 x11_4) < (x4_4.length : Int)) = true := decide_eq_true c79
                         have c79b0q := c79b0
                         (try simp only [hl6_4] at c79b0q)
                         clear c79
                         obtain ⟨y167, hy167⟩ : ∃ y_ : List Int, y_ = (x4_4.set ((rd t158 x11_4) : Int).toNat (ji78)) := ⟨_, rfl⟩
                         replace H : (spec_Drain.l3 k4 y167 y164 y163 x8_3 t158 (wrap64 (x11_4 + 1)) a0_0 a0_1 l0_2) = some (r1, r2) := by first | (rw [hy167]; with_reducible exact H) | (have H2_ := (Option.bind_some _ _).symm.trans H; rw [hy167]; with_reducible exact H2_) | (have H2_ := (Option.bind_some _ _).symm.trans H; with_reducible exact H2_) | with_reducible exact H | (rw [hy167]; exact H) | exact H
                         have Ny167 := Aside0.mk hy167; clear hy167; have H' := Aside0.mk H; clear H
                         obtain ⟨Ao81, co81, eo81⟩ := Kd.R_slice HO_10.out
                         subst eo81
                         have p161 : 0 ≤ (x11_4 : Int) := of_decide_eq_true (by first | (with_reducible assumption) | assumption)
                         have q161 : x11_4 < (t158.length : Int) := of_decide_eq_true (by first | (with_reducible assumption) | assumption)
                         obtain ⟨ad161, e161, hx161_0⟩ := Kd.at_int (Kd.R_reads' HO_10.out).2.2 x11_4 p161 q161
                         cases e161
                         replace p161 := eq_true p161; replace q161 := eq_true q161
                         have p162 : 0 ≤ ((rd t158 x11_4) : Int) := of_decide_eq_true (by first | (with_reducible assumption) | assumption)
                         have q162 : (rd t158 x11_4) < (x6_4.length : Int) := of_decide_eq_true (by first | (with_reducible assumption) | assumption)
                         obtain ⟨ad162, e162, hx162_0⟩ := Kd.at_int (Kd.R_reads' HO_6.out).2.2 (rd t158 x11_4) p162 q162
                         obtain rfl : (⟨go60, 0, none⟩ : Addr) = ad162 := (by injection e162)
                         (first | simp only [add_plain] at hx162_0 | simp only [add_at] at hx162_0 | simp only [Addr.add, Nat.zero_add] at hx162_0 | skip)
                         replace p162 := eq_true p162; replace q162 := eq_true q162
                         have p72 : 0 ≤ ((rd t158 x11_4) : Int) := of_decide_eq_true (by first | (with_reducible assumption) | assumption)
                         have q72 : ((rd t158 x11_4) : Int) < ((x6_4.length : Int) : Int) := of_decide_eq_true (by first | (with_reducible assumption) | assumption)
                         obtain ⟨hx72_0, hf72_0⟩ := Kd.R_celln 0 HO_6.out ((rd t158 x11_4) : Int) p72 q72
                         replace p72 := eq_true p72; replace q72 := eq_true q72
                         have HP82 := Kd.R_putg HO_6.out ((rd t158 x11_4) : Int) 1
                         try go_wp2_with (first | ((with_reducible refine gate_store (t := 2) (p := 104) rfl ?_); refine store_event (t := 2) (p := 104) (v := ?vo_w83) (w1 := (wr.setCell ⟨go60, ((rd t158 x11_4) : Int).toNat, none⟩ (.int .i64 1))) ?hg ?ho ?hn ?hr ?_; (case ho => rfl); (case hg => rfl); (case hn => rfl); (case hr => first | (go_simp; done) | (go_simp; rfl)); intro w83 hw; have hg : wr.grownBy w83 (some go60) := (by rw [hw]; exact HP82.2); have hp_ : Kd.R (Kd.int .i64) 2 w83 w.heap.size (fun k_ => some k_ ≠ (u4 : Value).ownBlock ∧ some k_ ≠ (u5 : Value).ownBlock ∧ some k_ ≠ (.slice (some ad161) t158.length co81 : Value).ownBlock) (.slice (some ⟨go60, 0, none⟩) x6_4.length co62) y163 := (by rw [hw, Ny163.out]; exact HP82.1); clear HP82; replace HO_4 := Aside0.mk (Kd.R_after (v := (.slice (some ⟨go60, 0, none⟩) x6_4.length co62)) (v1 := (.slice (some ⟨go60, 0, none⟩) x6_4.length co62)) (ok := (fun k_ => some k_ ≠ (u5 : Value).ownBlock ∧ some k_ ≠ (.slice (some ad161) t158.length co81 : Value).ownBlock)) (rM_ HO_4) hg (.inl rfl)); replace HO_5 := Aside0.mk (Kd.R_after (v := (.slice (some ⟨go60, 0, none⟩) x6_4.length co62)) (v1 := (.slice (some ⟨go60, 0, none⟩) x6_4.length co62)) (ok := (fun k_ => some k_ ≠ (u4 : Value).ownBlock ∧ some k_ ≠ (.slice (some ad161) t158.length co81 : Value).ownBlock)) (rM_ HO_5) hg (.inl rfl)); replace HO_10 := Aside0.mk (Kd.R_after (v := (.slice (some ⟨go60, 0, none⟩) x6_4.length co62)) (v1 := (.slice (some ⟨go60, 0, none⟩) x6_4.length co62)) (ok := (fun k_ => some k_ ≠ (u4 : Value).ownBlock ∧ some k_ ≠ (u5 : Value).ownBlock)) (rM_ HO_10) hg (.inl rfl)); replace BK131 := Aside0.mk (blk_grown (g := gb131) (o := .cells #[.int .i64 a0_0, .int .i64 a0_1, .slice A0_2 l0_2.length c0_2] 62 (0, 0)) (bT_ BK131) hg (Kd.R_ne HO_6.out BK131.out (by decide))); replace HO_6 := Aside0.mk (hp_); replace HB := Aside0.mk ((by rw [hw]; exact below_set (HB.out) GB60.out : Below w.heap.size w w83)); clear hg hw hp_; have p74 : 0 ≤ ((rd t158 x11_4) : Int) := of_decide_eq_true (by first | (with_reducible assumption) | assumption); have q74 : ((rd t158 x11_4) : Int) < ((x5_4.length : Int) : Int) := of_decide_eq_true (by first | (with_reducible assumption) | assumption); obtain ⟨go74, co74, eo74, gb74, gl74, cl74, HG74⟩ := Kd.R_form HO_5.out (by omega); (first | cases eo74 | (injection eo74 with ea_ en_ ec_; (first | subst ea_ | (injection ea_ with ea_; subst ea_)); subst ec_; clear en_)); have GB74 := Aside0.mk gb74; have GG74 := Aside0.mk HG74; clear gb74 gl74 HG74; obtain ⟨hx74_0, hf74_0⟩ := Kd.R_celln 0 HO_5.out ((rd t158 x11_4) : Int) p74 q74; replace p74 := eq_true p74; replace q74 := eq_true q74; have n_ := Aside0.mk (Kd.R_mono (ok' := (fun k_ => some k_ ≠ (u4 : Value).ownBlock ∧ some k_ ≠ (.slice (some ⟨go60, 0, none⟩) x6_4.length co62 : Value).ownBlock ∧ some k_ ≠ (.slice (some ad161) t158.length co81 : Value).ownBlock)) HO_5.out (fun k_ hk => ⟨hk.1.1, ⟨hk.2, hk.1.2⟩⟩)); clear HO_5; have HO_5 := n_; clear n_; obtain ⟨hy84_, hz84_⟩ := Kd.R_celln 0 HO_5.out ((rd t158 x11_4) : Int) (of_decide_eq_true (by first | (with_reducible assumption) | assumption)) (of_decide_eq_true (by first | (with_reducible assumption) | assumption)); have HP84 := Kd.R_putg HO_5.out ((rd t158 x11_4) : Int) x8_3) | ((with_reducible refine gate_store (t := 2) (p := 108) rfl ?_); refine store_event (t := 2) (p := 108) (v := ?vo_w85) (w1 := (w83.setCell ⟨go74, ((rd t158 x11_4) : Int).toNat, none⟩ (.int .i64 x8_3))) ?hg ?ho ?hn ?hr ?_; (case ho => rfl); (case hg => rfl); (case hn => rfl); (case hr => first | (go_simp; done) | (go_simp; rfl)); intro w85 hw; have hg : w83.grownBy w85 (some go74) := (by rw [hw]; exact HP84.2); have hp_ : Kd.R (Kd.int .i64) 2 w85 w.heap.size (fun k_ => some k_ ≠ (u4 : Value).ownBlock ∧ some k_ ≠ (.slice (some ⟨go60, 0, none⟩) x6_4.length co62 : Value).ownBlock ∧ some k_ ≠ (.slice (some ad161) t158.length co81 : Value).ownBlock) (.slice (some ⟨go74, 0, none⟩) x5_4.length co74) y164 := (by rw [hw, Ny164.out]; exact HP84.1); clear HP84; replace HO_4 := Aside0.mk (Kd.R_after (v := (.slice (some ⟨go74, 0, none⟩) x5_4.length co74)) (v1 := (.slice (some ⟨go74, 0, none⟩) x5_4.length co74)) (ok := (fun k_ => some k_ ≠ (.slice (some ⟨go60, 0, none⟩) x6_4.length co62 : Value).ownBlock ∧ some k_ ≠ (.slice (some ad161) t158.length co81 : Value).ownBlock)) (rM_ HO_4) hg (.inl rfl)); replace HO_6 := Aside0.mk (Kd.R_after (v := (.slice (some ⟨go74, 0, none⟩) x5_4.length co74)) (v1 := (.slice (some ⟨go74, 0, none⟩) x5_4.length co74)) (ok := (fun k_ => some k_ ≠ (u4 : Value).ownBlock ∧ some k_ ≠ (.slice (some ad161) t158.length co81 : Value).ownBlock)) (rM_ HO_6) hg (.inl rfl)); replace HO_10 := Aside0.mk (Kd.R_after (v := (.slice (some ⟨go74, 0, none⟩) x5_4.length co74)) (v1 := (.slice (some ⟨go74, 0, none⟩) x5_4.length co74)) (ok := (fun k_ => some k_ ≠ (u4 : Value).ownBlock ∧ some k_ ≠ (.slice (some ⟨go60, 0, none⟩) x6_4.length co62 : Value).ownBlock)) (rM_ HO_10) hg (.inl rfl)); replace BK131 := Aside0.mk (blk_grown (g := gb131) (o := .cells #[.int .i64 a0_0, .int .i64 a0_1, .slice A0_2 l0_2.length c0_2] 62 (0, 0)) (bT_ BK131) hg (Kd.R_ne HO_5.out BK131.out (by decide))); replace HO_5 := Aside0.mk (hp_); replace HB := Aside0.mk ((by rw [hw]; exact below_set (HB.out) GB74.out : Below w.heap.size w w85)); clear hg hw hp_))
                         replace HO_4 := Aside0.mk (Kd.R_drew HO_4.out)
                         replace HO_5 := Aside0.mk (Kd.R_drew HO_5.out)
                         replace HO_6 := Aside0.mk (Kd.R_drew HO_6.out)
                         replace HO_10 := Aside0.mk (Kd.R_drew HO_10.out)
                         replace BK131 := Aside0.mk (blk_drew BK131.out)
                         replace HB := Aside0.mk (below_drew1 HB.out)
                         have p165 : 0 ≤ ((rd t158 x11_4) : Int) := of_decide_eq_true (by first | (with_reducible assumption) | assumption)
                         have q165 : (rd t158 x11_4) < (l0_2.length : Int) := of_decide_eq_true (by first | (with_reducible assumption) | assumption)
                         obtain ⟨ad165, e165, hx165_0⟩ := Kd.at_int HR0_2.out (rd t158 x11_4) p165 q165
                         have hw165_0 := hx165_0
                         cases e165
                         replace hx165_0 := (HB.out.cell (World.block_lt_of_cell? w _ hx165_0)).trans hx165_0
                         replace p165 := eq_true p165; replace q165 := eq_true q165
                         obtain ⟨Ao87, co87, eo87⟩ := Kd.R_slice HO_4.out
                         (first | subst eo87 | (injection eo87 with f1_ f2_ f3_; have f4_ := f1_.symm; have f5_ := f3_.symm; clear f1_ f2_ f3_; subst f4_; subst f5_))
                         have p166 : 0 ≤ (x8_3 : Int) := of_decide_eq_true (by first | (with_reducible assumption) | assumption)
                         have q166 : x8_3 < (x4_4.length : Int) := of_decide_eq_true (by first | (with_reducible assumption) | assumption)
                         obtain ⟨ad166, e166, hx166_0⟩ := Kd.at_int (Kd.R_reads' HO_4.out).2.2 x8_3 p166 q166
                         cases e166
                         replace p166 := eq_true p166; replace q166 := eq_true q166
                         have p80 : 0 ≤ ((rd t158 x11_4) : Int) := of_decide_eq_true (by first | (with_reducible assumption) | assumption)
                         have q80 : ((rd t158 x11_4) : Int) < ((x4_4.length : Int) : Int) := of_decide_eq_true (by first | (with_reducible assumption) | assumption)
                         obtain ⟨go80, co80, eo80, gb80, gl80, cl80, HG80⟩ := Kd.R_form HO_4.out (by omega)
                         (first | cases eo80 | (injection eo80 with ea_ en_ ec_; (first | subst ea_ | (injection ea_ with ea_; subst ea_)); subst ec_; clear en_))
                         have GB80 := Aside0.mk gb80; have GG80 := Aside0.mk HG80; clear gb80 gl80 HG80
                         (first | simp only [add_plain] at hx166_0 | skip)
                         obtain ⟨hx80_0, hf80_0⟩ := Kd.R_celln 0 HO_4.out ((rd t158 x11_4) : Int) p80 q80
                         replace p80 := eq_true p80; replace q80 := eq_true q80
                         have HP88 := Kd.R_putn HO_4.out ((rd t158 x11_4) : Int) ji78
                         rw [← Ny167.out] at HP88
                         have HQ88 := Aside0.mk HP88; clear HP88
                         refine start_ (n := 14) (S := fun w' => w'.cell? ⟨gb131, 0, none⟩ = some (.int .i64 a0_0) ∧ w'.cell? ⟨gb131, 1, none⟩ = some (.int .i64 a0_1) ∧ w'.cell? ⟨gb131, 2, none⟩ = some (.slice (some ad165) l0_2.length c0_2) ∧ w'.cell? (ad165.add ((rd t158 x11_4)).toNat) = some (.int .i64 (rd l0_2 (rd t158 x11_4))) ∧ w'.cell? ⟨go80, (x8_3).toNat, none⟩ = some (.int .i64 (rd x4_4 x8_3))) (ds := [13]) #[false, false, false, false, false, false, false, false, false, false, false, false, false, false] (by kernel_rfl) rfl rfl ⟨(blk_cell BK131.out 0).trans rfl, (blk_cell BK131.out 1).trans rfl, (blk_cell BK131.out 2).trans rfl, ((HB.out.cell (World.block_lt_of_cell? w _ hw165_0)).trans hw165_0), hx166_0⟩ (fun hHeld => ?_); refine with_tabW spec_Drain.tab31 spec_Drain.bits31 (fun HT_ HW_ => ?_)
                         generalize w85.drew = w86 at HO_4 HO_5 HO_6 HO_10 BK131 HB GG80 HQ88 hf80_0 hx165_0 hx166_0 hx80_0 hHeld ⊢
                         refine pT_ 0 (some 109) #[true, false, false, false, false, false, false, false, false, false, false, false, false, false] HT_ ?_
                         refine pT_ 1 (some 110) #[true, true, false, false, false, false, false, false, false, false, false, false, false, false] HT_ ?_
                         refine pT_ 2 (some 111) #[true, true, true, false, false, false, false, false, false, false, false, false, false, false] HT_ ?_
                         refine pT_ 4 (some 113) #[true, true, true, false, true, false, false, false, false, false, false, false, false, false] HT_ ?_
                         refine pT_ 7 (some 116) #[true, true, true, false, true, false, false, true, false, false, false, false, false, false] HT_ ?_
                         refine pT_ 8 (some 117) #[true, true, true, false, true, false, false, true, true, false, false, false, false, false] HT_ ?_
                         refine pT_ 9 (some 118) #[true, true, true, false, true, false, false, true, true, true, false, false, false, false] HT_ ?_
                         refine tT_ 3 (some 112) #[true, true, true, true, true, false, false, true, true, true, false, false, false, false] HT_ HW_ hHeld ?_ (hy := by rintro w' ⟨s0, s1, s2, s3, s4⟩; go_simp; with_reducible rfl)
                         refine pT_ 5 (some 114) #[true, true, true, true, true, true, false, true, true, true, false, false, false, false] HT_ ?_
                         refine tT_ 6 (some 115) #[true, true, true, true, true, true, true, true, true, true, false, false, false, false] HT_ HW_ hHeld ?_ (hy := by rintro w' ⟨s0, s1, s2, s3, s4⟩; go_simp; with_reducible rfl)
                         refine tT_ 10 (some 119) #[true, true, true, true, true, true, true, true, true, true, true, false, false, false] HT_ HW_ hHeld ?_ (hy := by rintro w' ⟨s0, s1, s2, s3, s4⟩; go_simp; with_reducible rfl)
                         refine pT_ 11 (some 120) #[true, true, true, true, true, true, true, true, true, true, true, true, false, false] HT_ ?_
                         refine pT_ 12 (some 121) #[true, true, true, true, true, true, true, true, true, true, true, true, true, false] HT_ ?_
                         refine last_ (i := 13) (N := none) #[true, true, true, true, true, true, true, true, true, true, true, true, true, true] rfl rfl (one_of HT_.out (by kernel_rfl)) (by decide) (fun K hK => ?_)
                         refine skip_ (w1 := ?_) (by rfl) rfl ?_ ?_
                         rotate_left
                         ·go_simp
                          rfl
                         refine hK.out _ _ ?_
                         clear hK K
                         refine done_ (done_of HT_.out (by kernel_rfl)) ?_
                         try go_wp2
                         (try simp only [← hl6_4])
                         go_roundg k4
                         case measure => have := HK1.out; have := HK2.out; have := HK3.out; have := HK4.out; omega
                         case rel => exact ⟨(y167), (y164), (y163), (wrap64 (x11_4 + 1)), (by first | rfl | (simp; done) | (simp [*]; done)), H', ⟨by have := HK1.out; have := HK2.out; have := HK3.out; have := HK4.out; omega⟩, ⟨by (try simp only [hl6_4]); (with_reducible repeat (first | apply Kd.R_alloc | apply Kd.R_drewN | apply Kd.R_drew)); exact Kd.R_mono HQ88.out (fun _ hk => ⟨hk.2, ⟨hk.1.1, hk.1.2⟩⟩)⟩, ⟨by (try simp only [hl6_4]); (with_reducible repeat (first | apply Kd.R_alloc | apply Kd.R_drewN | apply Kd.R_drew)); exact Kd.R_mono (Kd.R_far (p := ⟨go80, ((rd t158 x11_4) : Int).toNat, none⟩) (Kd.R_mono HO_5.out (fun k_ hk => (⟨hk, fun e_ => hk.1 (by rw [e_]; rfl)⟩ : _ ∧ k_ ≠ go80))) (fun _ hk => hk.2) (.int .i64 ji78)) (fun _ hk => ⟨hk.1.1, ⟨hk.1.2.1, hk.1.2.2⟩⟩)⟩, ⟨by (try simp only [hl6_4]); (with_reducible repeat (first | apply Kd.R_alloc | apply Kd.R_drewN | apply Kd.R_drew)); exact Kd.R_mono (Kd.R_far (p := ⟨go80, ((rd t158 x11_4) : Int).toNat, none⟩) (Kd.R_mono HO_6.out (fun k_ hk => (⟨hk, fun e_ => hk.1.1 (by rw [e_]; rfl)⟩ : _ ∧ k_ ≠ go80))) (fun _ hk => hk.2) (.int .i64 ji78)) (fun _ hk => ⟨hk.1.1.1, ⟨hk.1.2, hk.1.1.2⟩⟩)⟩, ⟨by (try simp only [hl6_4]); (with_reducible repeat (first | apply Kd.R_alloc | apply Kd.R_drewN | apply Kd.R_drew)); exact Kd.R_mono (Kd.R_far (p := ⟨go80, ((rd t158 x11_4) : Int).toNat, none⟩) (Kd.R_mono HO_10.out (fun k_ hk => (⟨hk, fun e_ => hk.1.1 (by rw [e_]; rfl)⟩ : _ ∧ k_ ≠ go80))) (fun _ hk => hk.2) (.int .i64 ji78)) (fun _ hk => ⟨hk.1.1.1, ⟨hk.1.2, hk.1.1.2⟩⟩)⟩, ⟨by (try simp only [hl6_4]); (with_reducible repeat (first | refine blk_drewN ?_ _ | refine blk_drew ?_ | refine blk_alloc ?_ _)); refine blk_far ?_ (by have h_ := Kd.R_ne HO_4.out BK131.out (by decide); intro e_; exact h_ (by rw [e_]; rfl)) _; exact bT_ BK131⟩, ⟨by repeat (first | (with_reducible first | exact HB.out | apply below_alloc | apply pw_below_drewN | apply below_drew1 | refine below_set ?_ GB80.out | refine below_set ?_ GE131.out) | exact HB.out)⟩⟩
                        ·rw [if_neg c79] at H
                         exact absurd H (by simp)
                       ·rw [if_neg c77] at H
                        exact absurd H (by simp)
                      ·rw [if_neg c76] at H
                       exact absurd H (by simp)
                     ·rw [if_neg c75] at H
                      exact absurd H (by simp)
                    ·rw [if_neg c73] at H
                     exact absurd H (by simp)
                   ·rw [if_neg c71] at H
                    have c71b0 : ((rd x6_4 (rd t158 x11_4)) == 0) = false := beq_eq_false_iff_ne.mpr c71
                    have c71b1 : ((rd x6_4 (rd t158 x11_4)) != 0) = true := bne_iff_ne.mpr c71
                    have H' := Aside0.mk H; clear H
                    obtain ⟨Ao89, co89, eo89⟩ := Kd.R_slice HO_10.out
                    subst eo89
                    have p161 : 0 ≤ (x11_4 : Int) := of_decide_eq_true (by first | (with_reducible assumption) | assumption)
                    have q161 : x11_4 < (t158.length : Int) := of_decide_eq_true (by first | (with_reducible assumption) | assumption)
                    obtain ⟨ad161, e161, hx161_0⟩ := Kd.at_int (Kd.R_reads' HO_10.out).2.2 x11_4 p161 q161
                    cases e161
                    replace p161 := eq_true p161; replace q161 := eq_true q161
                    have p162 : 0 ≤ ((rd t158 x11_4) : Int) := of_decide_eq_true (by first | (with_reducible assumption) | assumption)
                    have q162 : (rd t158 x11_4) < (x6_4.length : Int) := of_decide_eq_true (by first | (with_reducible assumption) | assumption)
                    obtain ⟨ad162, e162, hx162_0⟩ := Kd.at_int (Kd.R_reads' HO_6.out).2.2 (rd t158 x11_4) p162 q162
                    obtain rfl : (⟨go60, 0, none⟩ : Addr) = ad162 := (by injection e162)
                    (first | simp only [add_plain] at hx162_0 | simp only [add_at] at hx162_0 | simp only [Addr.add, Nat.zero_add] at hx162_0 | skip)
                    replace p162 := eq_true p162; replace q162 := eq_true q162
                    go_wp2
                    (try simp only [← hl6_4])
                    go_roundg k4
                    case measure => have := HK1.out; have := HK2.out; have := HK3.out; have := HK4.out; omega
                    case rel => exact ⟨(x4_4), (x5_4), (x6_4), (wrap64 (x11_4 + 1)), (by first | rfl | (simp; done) | (simp [*]; done)), H', ⟨by have := HK1.out; have := HK2.out; have := HK3.out; have := HK4.out; omega⟩, ⟨by (try simp only [hl6_4]); (with_reducible repeat (first | apply Kd.R_alloc | apply Kd.R_drewN | apply Kd.R_drew)); exact HO_4.out⟩, ⟨by (try simp only [hl6_4]); (with_reducible repeat (first | apply Kd.R_alloc | apply Kd.R_drewN | apply Kd.R_drew)); exact HO_5.out⟩, ⟨by (try simp only [hl6_4]); (with_reducible repeat (first | apply Kd.R_alloc | apply Kd.R_drewN | apply Kd.R_drew)); exact HO_6.out⟩, ⟨by (try simp only [hl6_4]); (with_reducible repeat (first | apply Kd.R_alloc | apply Kd.R_drewN | apply Kd.R_drew)); exact HO_10.out⟩, ⟨by (try simp only [hl6_4]); exact bT_ BK131⟩, ⟨by repeat (first | (with_reducible first | exact HB.out | apply below_alloc | apply pw_below_drewN | apply below_drew1 | refine below_set ?_ GE131.out) | exact HB.out)⟩⟩
                  ·rw [if_neg c70] at H
                   exact absurd H (by simp)
                 ·rw [if_neg c69] at H
                  exact absurd H (by simp)
                ·rw [if_neg c68] at H
                 exact absurd H (by simp)
               ·rw [if_neg c67] at H
                have c67b0 : decide (x11_4 < (t158.length : Int)) = false := decide_eq_false c67
                have c67b0q := c67b0
                (try simp only [hl6_4] at c67b0q)
                clear c67; have H' := Aside0.mk H; clear H
                obtain ⟨Ao90, co90, eo90⟩ := Kd.R_slice HO_10.out
                subst eo90
                go_wp2
                (try simp only [← hl6_4])
                go_roundg k4
                case measure => have := HK1.out; have := HK2.out; have := HK3.out; have := HK4.out; omega
                case rel => exact ⟨(x4_4), (x5_4), (x6_4), H', ⟨by have := HK1.out; have := HK2.out; have := HK3.out; have := HK4.out; omega⟩, ⟨by (try simp only [hl6_4]); (with_reducible repeat (first | apply Kd.R_alloc | apply Kd.R_drewN | apply Kd.R_drew)); exact Kd.R_mono HO_4.out (fun _ hk => ⟨hk.1, hk.2.1⟩)⟩, ⟨by (try simp only [hl6_4]); (with_reducible repeat (first | apply Kd.R_alloc | apply Kd.R_drewN | apply Kd.R_drew)); exact Kd.R_mono HO_5.out (fun _ hk => ⟨hk.1, hk.2.1⟩)⟩, ⟨by (try simp only [hl6_4]); (with_reducible repeat (first | apply Kd.R_alloc | apply Kd.R_drewN | apply Kd.R_drew)); exact Kd.R_mono HO_6.out (fun _ hk => ⟨hk.1, hk.2.1⟩)⟩, ⟨by (try simp only [hl6_4]); exact bT_ BK131⟩, ⟨by repeat (first | (with_reducible first | exact HB.out | apply below_alloc | apply pw_below_drewN | apply below_drew1 | refine below_set ?_ GE131.out) | exact HB.out)⟩⟩
            ·rw [if_neg c59] at H
             exact absurd H (by simp)
           ·rw [if_neg c58] at H
            exact absurd H (by simp)
 ·replace c3 := Bool.eq_false_iff.mpr c3
  subst c3
  have H1 : (some (y132, y135)) = some (r1, r2) := by rw [if_neg (show ¬ (false = true) by decide)] at H; exact H
  clear H; have H := H1; clear H1
  simp only [Option.some.injEq, Prod.mk.injEq] at H
  obtain ⟨rfl, rfl⟩ := H
  go_enter Try.func36, Try.ntmps36
  go_wp2_with (first | ((with_reducible refine gate_dst (N := 1) rfl ?_); refine box_event ?hg (N := 1) ?hd (cs := #[.int .i64 a0_0, .int .i64 a0_1, .slice A0_2 l0_2.length c0_2]) (t := 62) ?hr ?_; (case hd => rfl); (case hg => rfl); (case hr => first | (go_simp; done) | (go_simp; rfl)); intro gb131 hg w91 hbox hb; have BK131 := Aside0.mk (hbox); have GW131 := gE_ HB hg; have GE131 := gE_ HB hg; replace HB := bS_ HB hb; clear hb hbox hg) | ((with_reducible refine gate_dst (N := 13) rfl ?_); refine Kd.R_lit (Kd.int .i64) _ 2 ?hg (N := 13) ?hd (xs := ([] : List Int)) (inner := []) (ok := fun _ => True) (okp := fun _ => True) ?hr ?hp (fun _ hk => hk) trivial (Below.refl _ _) (Nat.le_refl _) (by simp) ?_; (case hd => rfl); (case hg => rfl); (case hr => first | (go_simp; done) | (go_simp; rfl)); (case hp => exact (Reps.none _ _)); intro v133 w92 ho93 hb hg_ hnew_; clear hg_ hnew_; (first | rw [← Ny132.out] at ho93 | (simp only [Int.reduceToNat] at ho93; rw [← Ny132.out] at ho93)); have HO134 := rL_ ho93 HB; replace BK131 := bB_ BK131 hb; replace HB := bS_ HB hb; clear hb ho93) | ((with_reducible refine gate_dst (N := 14) rfl ?_); refine Kd.R_lit (Kd.int .i64) _ 2 ?hg (N := 14) ?hd (xs := ([] : List Int)) (inner := []) (ok := fun _ => True) (okp := fun _ => True) ?hr ?hp (fun _ hk => hk) trivial (Below.refl _ _) (Nat.le_refl _) (by simp) ?_; (case hd => rfl); (case hg => rfl); (case hr => first | (go_simp; done) | (go_simp; rfl)); (case hp => exact (Reps.none _ _)); intro v136 w94 ho95 hb hg_ hnew_; clear hg_ hnew_; (first | rw [← Ny135.out] at ho95 | (simp only [Int.reduceToNat] at ho95; rw [← Ny135.out] at ho95)); have HO137 := rL_ (rN_ ho95 HO134) HB; replace HO134 := rE_ HO134 ho95 hb; replace BK131 := bB_ BK131 hb; replace HB := bS_ HB hb; clear hb ho95; have hcz96_0 : w94.cell? ⟨gb131, 0, none⟩ = some (.int .i64 a0_0) := (blk_cell BK131.out 0).trans rfl; have hcz96_1 : w94.cell? ⟨gb131, 1, none⟩ = some (.int .i64 a0_1) := (blk_cell BK131.out 1).trans rfl; have hcz96_2 : w94.cell? ⟨gb131, 2, none⟩ = some (.slice A0_2 l0_2.length c0_2) := (blk_cell BK131.out 2).trans rfl; have hfz96_0 := blk_frozen BK131.out 0; have hfz96_1 := blk_frozen BK131.out 1; have hfz96_2 := blk_frozen BK131.out 2) | ((with_reducible refine gate_callee (f := 60) rfl ?_); refine gL_ (some 16) Try.func60 #[.agg #[.int .i64 a0_0, .int .i64 a0_1, .slice A0_2 l0_2.length c0_2]] ?_; (with_reducible refine (spec_BoxOk.calls k a0_0 a0_1 _ _ l0_2 false _ ?side1 ?side2 A2.out).mono ?_); (case side1 => exact cB_ HR0_2 HB); (case side2 => exact HC0_2.out); rintro e w97 ⟨rfl, hb⟩; refine ⟨_, rfl, ?_⟩; replace HO134 := rB_ HO134 hb; replace HO137 := rB_ HO137 hb; replace BK131 := bB_ BK131 hb; replace HB := bS_ HB hb; (try clear hb); (try clear hb2); (try clear hk); (try clear hi)))
  go_ret2
  exact ⟨_, _, by first | rfl | (simp [errW_none, errW_some] <;> rfl) | (simp [*, errW_none, errW_some] <;> rfl), by (with_reducible repeat (first | apply Kd.R_alloc | apply Kd.R_drewN | apply Kd.R_drew)); exact Kd.R_mono HO134.out (fun _ hk => hk.2), by (with_reducible repeat (first | apply Kd.R_alloc | apply Kd.R_drewN | apply Kd.R_drew)); exact Kd.R_mono HO137.out (fun _ hk => hk.2), by repeat (first | (with_reducible first | exact HB.out | apply below_alloc | apply pw_below_drewN | apply below_drew1 | refine below_set ?_ GE131.out) | exact HB.out)⟩

end Go.Proofs.Ytopfdmodbhopiaa.QFnExactDrain
