-- Written by a program of this session out of the printer's texts and contracts of its own.
import Derived.Test.YtopfdmodbhopiaaSq
import Derived.Test.YtopfdmodbhopiaaDelCall
import Derived.Test.YtopfdmodbhopiaaQFnExactDrainx0
import Derived.Test.YtopfdmodbhopiaaQFnExactDrainx4
namespace Go.Proofs.Ytopfdmodbhopiaa.QFnExactDrain
open Go.RowKit Go.Proofs.YtopfdmodbhopiaaW.PrintWords Go.Proofs.YtopfdmodbhopiaaW.PrintLast Go.Proofs.YtopfdmodbhopiaaW.PrintMore Go.Proofs.Ytopfdmodbhopiaa.Sq
attribute [local go_sem] max2_int min2_int max_two min_two max_three min_three max_four min_four   -- for this text's walks alone
set_option linter.unusedVariables false
set_option linter.unusedSimpArgs false

/-! ### impl_Drain: function 38 -/
mutual
def impl_Drain.l0 : Nat → Int → List Int → List Int → List Bool → List Int → Int → Int → Int → List Int → Option (List Int × List Int)
 | 0, _, _, _, _, _, _, _, _, _ => none
 | k + 1, x4, x5, x6, x7, x8, x9, x185000, x185001, x185002 => if x9 < x4 then (if x185001 = 0 then (none) else (if (wrap64 (Int.tdiv x9 x185001)) = 0 then (if x8.length < 17592186044416 then (if 0 ≤ x9 then (if x9 < (x185002.length : Int) then (if x9 < (x7.length : Int) then (if x9 < (x5.length : Int) then (if x9 < (x6.length : Int) then (impl_Drain.l0 k x4 (x5.set (x9 : Int).toNat (rd x185002 x9)) (x6.set (x9 : Int).toNat (-1)) (x7.set (x9 : Int).toNat true) (x8 ++ [x9]) (wrap64 (x9 + 1)) x185000 x185001 x185002) else (none)) else (none)) else (none)) else (none)) else (none)) else (none)) else (if (Int.tmod x9 x185001) = 0 then (if x8.length < 17592186044416 then (if 0 ≤ x9 then (if x9 < (x185002.length : Int) then (if x9 < (x7.length : Int) then (if x9 < (x5.length : Int) then (if x9 < (x6.length : Int) then (impl_Drain.l0 k x4 (x5.set (x9 : Int).toNat (rd x185002 x9)) (x6.set (x9 : Int).toNat (-1)) (x7.set (x9 : Int).toNat true) (x8 ++ [x9]) (wrap64 (x9 + 1)) x185000 x185001 x185002) else (none)) else (none)) else (none)) else (none)) else (none)) else (none)) else (if (wrap64 (Int.tdiv x9 x185001)) = (wrap64 (x185000 - 1)) then (if x8.length < 17592186044416 then (if 0 ≤ x9 then (if x9 < (x185002.length : Int) then (if x9 < (x7.length : Int) then (if x9 < (x5.length : Int) then (if x9 < (x6.length : Int) then (impl_Drain.l0 k x4 (x5.set (x9 : Int).toNat (rd x185002 x9)) (x6.set (x9 : Int).toNat (-1)) (x7.set (x9 : Int).toNat true) (x8 ++ [x9]) (wrap64 (x9 + 1)) x185000 x185001 x185002) else (none)) else (none)) else (none)) else (none)) else (none)) else (none)) else (if (Int.tmod x9 x185001) = (wrap64 (x185001 - 1)) then (if x8.length < 17592186044416 then (if 0 ≤ x9 then (if x9 < (x185002.length : Int) then (if x9 < (x7.length : Int) then (if x9 < (x5.length : Int) then (if x9 < (x6.length : Int) then (impl_Drain.l0 k x4 (x5.set (x9 : Int).toNat (rd x185002 x9)) (x6.set (x9 : Int).toNat (-1)) (x7.set (x9 : Int).toNat true) (x8 ++ [x9]) (wrap64 (x9 + 1)) x185000 x185001 x185002) else (none)) else (none)) else (none)) else (none)) else (none)) else (none)) else (impl_Drain.l0 k x4 x5 x6 x7 x8 (wrap64 (x9 + 1)) x185000 x185001 x185002)))))) else (impl_Drain.l1 k x5 x6 x7 x8 x185000 x185001 x185002)
def impl_Drain.l1 : Nat → List Int → List Int → List Bool → List Int → Int → Int → List Int → Option (List Int × List Int)
 | 0, _, _, _, _, _, _, _ => none
 | k + 1, x5, x6, x7, x8, x185000, x185001, x185002 => if (x8.length : Int) > 0 then (impl_Drain.l2 k x5 x6 x7 x8 0 x8 (x8.length : Int) 0 x185000 x185001 x185002) else (some (x5, x6))
def impl_Drain.l2 : Nat → List Int → List Int → List Bool → List Int → Int → List Int → Int → Int → Int → Int → List Int → Option (List Int × List Int)
 | 0, _, _, _, _, _, _, _, _, _, _, _ => none
 | k + 1, x5, x6, x7, x8, x12, x93, x94, x95, x185000, x185001, x185002 => if x95 < x94 then (if 0 ≤ x95 then (if x95 < (x93.length : Int) then (if 0 ≤ x12 then (if x12 < (x8.length : Int) then (if 0 ≤ (rd x93 x95) then (if (rd x93 x95) < (x5.length : Int) then (if 0 ≤ (rd x8 x12) then (if (rd x8 x12) < (x5.length : Int) then (if (rd x5 (rd x93 x95)) < (rd x5 (rd x8 x12)) then (impl_Drain.l2 k x5 x6 x7 x8 x95 x93 x94 (wrap64 (x95 + 1)) x185000 x185001 x185002) else (if (rd x5 (rd x93 x95)) = (rd x5 (rd x8 x12)) then (if (rd x93 x95) < (rd x8 x12) then (impl_Drain.l2 k x5 x6 x7 x8 x95 x93 x94 (wrap64 (x95 + 1)) x185000 x185001 x185002) else (impl_Drain.l2 k x5 x6 x7 x8 x12 x93 x94 (wrap64 (x95 + 1)) x185000 x185001 x185002)) else (impl_Drain.l2 k x5 x6 x7 x8 x12 x93 x94 (wrap64 (x95 + 1)) x185000 x185001 x185002))) else (none)) else (none)) else (none)) else (none)) else (none)) else (none)) else (none)) else (none)) else (if 0 ≤ x12 then (if x12 < (x8.length : Int) then (if x12 ≤ (x8.length : Int) then (if 0 ≤ (wrap64 (x12 + 1)) then (if (wrap64 (x12 + 1)) ≤ (x8.length : Int) then (if x185001 = 0 then (none) else ((some (([(⟨1, 0⟩ : S88), (⟨0, 1⟩ : S88), (⟨(-1), 0⟩ : S88), (⟨0, (-1)⟩ : S88)] : List (S88)) : List (S88))).bind fun y244 => (impl_Drain.l3 k x5 x6 x7 (x8.eraseIdx (x12 : Int).toNat) (rd x8 x12) (wrap64 (Int.tdiv (rd x8 x12) x185001)) (Int.tmod (rd x8 x12) x185001) y244 (y244.length : Int) 0 x185000 x185001 x185002))) else (none)) else (none)) else (none)) else (none)) else (none))
def impl_Drain.l3 : Nat → List Int → List Int → List Bool → List Int → Int → Int → Int → List (S88) → Int → Int → Int → Int → List Int → Option (List Int × List Int)
 | 0, _, _, _, _, _, _, _, _, _, _, _, _, _ => none
 | k + 1, x5, x6, x7, x8, x16, x17, x18, x152, x153, x154, x185000, x185001, x185002 => if x154 < x153 then (if 0 ≤ x154 then (if x154 < (x152.length : Int) then ((impl_in.f (wrap64 (x17 + ((rd_T88 x152 x154).f0))) 0 (wrap64 (x185000 - 1))).bind fun t249 => (if t249 = true then ((impl_in.f (wrap64 (x18 + ((rd_T88 x152 x154).f1))) 0 (wrap64 (x185001 - 1))).bind fun t250 => (impl_Drain.j4 k x5 x6 x7 x8 x16 x17 x18 (wrap64 (x17 + ((rd_T88 x152 x154).f0))) (wrap64 (x18 + ((rd_T88 x152 x154).f1))) x152 x153 x154 (!t250) x185000 x185001 x185002)) else (impl_Drain.j4 k x5 x6 x7 x8 x16 x17 x18 (wrap64 (x17 + ((rd_T88 x152 x154).f0))) (wrap64 (x18 + ((rd_T88 x152 x154).f1))) x152 x153 x154 true x185000 x185001 x185002))) else (none)) else (none)) else (impl_Drain.l1 k x5 x6 x7 x8 x185000 x185001 x185002)
def impl_Drain.j4 : Nat → List Int → List Int → List Bool → List Int → Int → Int → Int → Int → Int → List (S88) → Int → Int → Bool → Int → Int → List Int → Option (List Int × List Int)
 | 0, _, _, _, _, _, _, _, _, _, _, _, _, _, _, _, _ => none
 | k + 1, x5, x6, x7, x8, x16, x17, x18, x21, x22, x152, x153, x154, x179, x185000, x185001, x185002 => if x179 = true then (impl_Drain.l3 k x5 x6 x7 x8 x16 x17 x18 x152 x153 (wrap64 (x154 + 1)) x185000 x185001 x185002) else (if 0 ≤ (wrap64 ((wrap64 (x21 * x185001)) + x22)) then (if (wrap64 ((wrap64 (x21 * x185001)) + x22)) < (x7.length : Int) then (if rdOf false x7 (wrap64 ((wrap64 (x21 * x185001)) + x22)) = true then (impl_Drain.l3 k x5 x6 x7 x8 x16 x17 x18 x152 x153 (wrap64 (x154 + 1)) x185000 x185001 x185002) else (if (wrap64 ((wrap64 (x21 * x185001)) + x22)) < (x185002.length : Int) then (if 0 ≤ x16 then (if x16 < (x5.length : Int) then (if (wrap64 ((wrap64 (x21 * x185001)) + x22)) < (x5.length : Int) then (if (wrap64 ((wrap64 (x21 * x185001)) + x22)) < (x6.length : Int) then (if x8.length < 17592186044416 then (impl_Drain.l3 k (x5.set ((wrap64 ((wrap64 (x21 * x185001)) + x22)) : Int).toNat (mx (rd x185002 (wrap64 ((wrap64 (x21 * x185001)) + x22))) (rd x5 x16))) (x6.set ((wrap64 ((wrap64 (x21 * x185001)) + x22)) : Int).toNat x16) (x7.set ((wrap64 ((wrap64 (x21 * x185001)) + x22)) : Int).toNat true) (x8 ++ [wrap64 ((wrap64 (x21 * x185001)) + x22)]) x16 x17 x18 x152 x153 (wrap64 (x154 + 1)) x185000 x185001 x185002) else (none)) else (none)) else (none)) else (none)) else (none)) else (none))) else (none)) else (none))
end
def impl_Drain.f (k : Nat) (a0_0 : Int) (a0_1 : Int) (l0_2 : List Int) : Option (List Int × List Int) := (impl_BoxOk.f k a0_0 a0_1 l0_2).bind fun t185 => (if t185 = true then (if 0 ≤ (wrap64 (a0_0 * a0_1)) then (if (wrap64 (a0_0 * a0_1) : Int).toNat ≤ 35184372088832 then (if (wrap64 (a0_0 * a0_1) : Int).toNat ≤ 281474976710656 then (impl_Drain.l0 k (wrap64 (a0_0 * a0_1)) (List.replicate (wrap64 (a0_0 * a0_1) : Int).toNat 0) (List.replicate (wrap64 (a0_0 * a0_1) : Int).toNat 0) (List.replicate (wrap64 (a0_0 * a0_1) : Int).toNat false) (([] : List Int)) 0 a0_0 a0_1 l0_2) else (none)) else (none)) else (none)) else (some (([] : List Int), ([] : List Int))))
theorem impl_Drain.mono_l : ∀ k, (∀ y0 y1 y2 y3 y4 y5 y6 y7 y8, LeO (impl_Drain.l0 k y0 y1 y2 y3 y4 y5 y6 y7 y8) (impl_Drain.l0 (k + 1) y0 y1 y2 y3 y4 y5 y6 y7 y8)) ∧ (∀ y0 y1 y2 y3 y4 y5 y6, LeO (impl_Drain.l1 k y0 y1 y2 y3 y4 y5 y6) (impl_Drain.l1 (k + 1) y0 y1 y2 y3 y4 y5 y6)) ∧ (∀ y0 y1 y2 y3 y4 y5 y6 y7 y8 y9 y10, LeO (impl_Drain.l2 k y0 y1 y2 y3 y4 y5 y6 y7 y8 y9 y10) (impl_Drain.l2 (k + 1) y0 y1 y2 y3 y4 y5 y6 y7 y8 y9 y10)) ∧ (∀ y0 y1 y2 y3 y4 y5 y6 y7 y8 y9 y10 y11 y12, LeO (impl_Drain.l3 k y0 y1 y2 y3 y4 y5 y6 y7 y8 y9 y10 y11 y12) (impl_Drain.l3 (k + 1) y0 y1 y2 y3 y4 y5 y6 y7 y8 y9 y10 y11 y12)) ∧ (∀ y0 y1 y2 y3 y4 y5 y6 y7 y8 y9 y10 y11 y12 y13 y14 y15, LeO (impl_Drain.j4 k y0 y1 y2 y3 y4 y5 y6 y7 y8 y9 y10 y11 y12 y13 y14 y15) (impl_Drain.j4 (k + 1) y0 y1 y2 y3 y4 y5 y6 y7 y8 y9 y10 y11 y12 y13 y14 y15))
 | 0 => ⟨fun _ _ _ _ _ _ _ _ _ r h => by simp [impl_Drain.l0] at h, fun _ _ _ _ _ _ _ r h => by simp [impl_Drain.l1] at h, fun _ _ _ _ _ _ _ _ _ _ _ r h => by simp [impl_Drain.l2] at h, fun _ _ _ _ _ _ _ _ _ _ _ _ _ r h => by simp [impl_Drain.l3] at h, fun _ _ _ _ _ _ _ _ _ _ _ _ _ _ _ _ r h => by simp [impl_Drain.j4] at h⟩
 | k + 1 => by
  obtain ⟨ih0, ih1, ih2, ih3, ih4⟩ := impl_Drain.mono_l k
  refine ⟨?_, ?_, ?_, ?_, ?_⟩
  intro y0 y1 y2 y3 y4 y5 y6 y7 y8; unfold impl_Drain.l0; rotate_left
  intro y0 y1 y2 y3 y4 y5 y6; unfold impl_Drain.l1; rotate_left
  intro y0 y1 y2 y3 y4 y5 y6 y7 y8 y9 y10; unfold impl_Drain.l2; rotate_left
  intro y0 y1 y2 y3 y4 y5 y6 y7 y8 y9 y10 y11 y12; unfold impl_Drain.l3; rotate_left
  intro y0 y1 y2 y3 y4 y5 y6 y7 y8 y9 y10 y11 y12 y13 y14 y15; unfold impl_Drain.j4; rotate_left
  all_goals repeat' first
  | (with_reducible exact ih0 _ _ _ _ _ _ _ _ _)
  | (with_reducible exact ih1 _ _ _ _ _ _ _)
  | (with_reducible exact ih2 _ _ _ _ _ _ _ _ _ _ _)
  | (with_reducible exact ih3 _ _ _ _ _ _ _ _ _ _ _ _ _)
  | (with_reducible exact ih4 _ _ _ _ _ _ _ _ _ _ _ _ _ _ _ _)
  | (with_reducible exact impl_BoxOk.mono _ _ _ _)
  | (with_reducible exact LeO.refl _)
  | (with_reducible exact LeO.none _)
  | (with_reducible refine LeO.ite ?_ ?_)
  | (with_reducible refine LeO.bind ?_ (fun _ => ?_))
  | exact ih0 _ _ _ _ _ _ _ _ _
  | exact ih1 _ _ _ _ _ _ _
  | exact ih2 _ _ _ _ _ _ _ _ _ _ _
  | exact ih3 _ _ _ _ _ _ _ _ _ _ _ _ _
  | exact ih4 _ _ _ _ _ _ _ _ _ _ _ _ _ _ _ _
  | exact impl_BoxOk.mono _ _ _ _
  | exact LeO.none _
  | refine LeO.ite ?_ ?_
  | refine LeO.bind ?_ (fun _ => ?_)
theorem impl_Drain.mono : ∀ a0 a1 a2 k, LeO (impl_Drain.f k a0 a1 a2) (impl_Drain.f (k + 1) a0 a1 a2) := by
 intro a0 a1 a2 k
 obtain ⟨ih0, ih1, ih2, ih3, ih4⟩ := impl_Drain.mono_l k
 unfold impl_Drain.f
 repeat' first
   | (with_reducible exact ih0 _ _ _ _ _ _ _ _ _)
   | (with_reducible exact ih1 _ _ _ _ _ _ _)
   | (with_reducible exact ih2 _ _ _ _ _ _ _ _ _ _ _)
   | (with_reducible exact ih3 _ _ _ _ _ _ _ _ _ _ _ _ _)
   | (with_reducible exact ih4 _ _ _ _ _ _ _ _ _ _ _ _ _ _ _ _)
   | (with_reducible exact impl_BoxOk.mono _ _ _ _)
   | (with_reducible exact LeO.refl _)
   | (with_reducible exact LeO.none _)
   | (with_reducible refine LeO.ite ?_ ?_)
   | (with_reducible refine LeO.bind ?_ (fun _ => ?_))
   | exact ih0 _ _ _ _ _ _ _ _ _
   | exact ih1 _ _ _ _ _ _ _
   | exact ih2 _ _ _ _ _ _ _ _ _ _ _
   | exact ih3 _ _ _ _ _ _ _ _ _ _ _ _ _
   | exact ih4 _ _ _ _ _ _ _ _ _ _ _ _ _ _ _ _
   | exact impl_BoxOk.mono _ _ _ _
   | exact LeO.none _
   | refine LeO.ite ?_ ?_
   | refine LeO.bind ?_ (fun _ => ?_)
def impl_Drain.T10 : Bool × List (List Nat × List Nat) := (true, [([], []), ([], []), ([1], [1]), ([0, 2], [0, 2]), ([], []), ([], []), ([5], [5]), ([4, 6], [4, 6]), ([3, 0, 1, 2, 3], [3]), ([7, 8, 0, 1, 2, 3, 4, 5, 6, 7, 8], [7])])
def impl_Drain.B10 : List Nat := [0, 0, 2, 7, 0, 0, 32, 112, 15, 511]
theorem impl_Drain.tab10 : rtab .any (opsOf Try.f38 10) = impl_Drain.T10 := by kernel_rfl
theorem impl_Drain.bits10 : waitsOk impl_Drain.T10.2 impl_Drain.B10 = true := by kernel_rfl
def impl_Drain.T20 : Bool × List (List Nat × List Nat) := (true, [([], []), ([], []), ([0, 1], [0, 1]), ([2], [2]), ([], []), ([], []), ([4, 5], [4, 5]), ([6], [6]), ([3, 7], [3, 7]), ([8], [8]), ([9], [9]), ([9], [9]), ([10, 11, 9], [9, 10, 11]), ([12, 9], [9, 12]), ([9], [9]), ([9], [9]), ([14, 15, 9], [9, 14, 15]), ([16, 9], [9, 16]), ([13, 17, 9], [9, 13, 17]), ([18, 9, 9], [9, 18]), ([19], [19]), ([19], [19]), ([20, 21, 19], [19, 20, 21]), ([19, 22, 9], [9, 19, 22]), ([9, 23], [9, 23])])
def impl_Drain.B20 : List Nat := [0, 0, 3, 7, 0, 0, 48, 112, 255, 511, 1023, 1023, 4095, 8191, 1023, 1023, 50175, 115711, 262143, 524287, 1048575, 1048575, 4194303, 8388607, 16777215]
theorem impl_Drain.tab20 : rtab .any (opsOf Try.f38 20) = impl_Drain.T20 := by kernel_rfl
theorem impl_Drain.bits20 : waitsOk impl_Drain.T20.2 impl_Drain.B20 = true := by kernel_rfl
def impl_Drain.T25 : Bool × List (List Nat × List Nat) := (true, [([], []), ([], []), ([1], [1]), ([0, 2], [0, 2]), ([], []), ([], []), ([5], [5]), ([4, 6], [4, 6]), ([3, 0, 1, 2, 3], [3]), ([7, 8, 0, 1, 2, 3, 4, 5, 6, 7, 8], [7])])
def impl_Drain.B25 : List Nat := [0, 0, 2, 7, 0, 0, 32, 112, 15, 511]
theorem impl_Drain.tab25 : rtab .any (opsOf Try.f38 25) = impl_Drain.T25 := by kernel_rfl
theorem impl_Drain.bits25 : waitsOk impl_Drain.T25.2 impl_Drain.B25 = true := by kernel_rfl
def impl_Drain.T29 : Bool × List (List Nat × List Nat) := (true, [([], []), ([], []), ([1], [1]), ([0, 2], [0, 2]), ([], []), ([], []), ([5], [5]), ([4, 6], [4, 6]), ([3, 0, 1, 2, 3], [3]), ([7, 8, 0, 1, 2, 3, 4, 5, 6, 7, 8], [7])])
def impl_Drain.B29 : List Nat := [0, 0, 2, 7, 0, 0, 32, 112, 15, 511]
theorem impl_Drain.tab29 : rtab .any (opsOf Try.f38 29) = impl_Drain.T29 := by kernel_rfl
theorem impl_Drain.bits29 : waitsOk impl_Drain.T29.2 impl_Drain.B29 = true := by kernel_rfl
set_option maxHeartbeats 8000000 in
set_option maxRecDepth 100000 in
theorem impl_Drain.calls (k : Nat) (a0_0 : Int) (a0_1 : Int) (A0_2 : Option Addr) (c0_2 : Nat) (l0_2 : List Int) (r1 : List Int) (r2 : List Int) (w : World) (hr0_2 : Kd.C (Kd.int .i64) w A0_2 l0_2.length l0_2) (hc0_2 : l0_2.length ≤ c0_2) (h : impl_Drain.f k a0_0 a0_1 l0_2 = some (r1, r2)) :
  Calls Try.prog 38 #[.agg #[.int .i64 a0_0, .int .i64 a0_1, .slice A0_2 l0_2.length c0_2]] w fun e w' => ∃ v0_ v1_ : Value, e = .returned (.tuple #[v0_, v1_]) ∧ Kd.R (Kd.int .i64) 2 w' w.heap.size (fun k_ => some k_ ≠ (v1_ : Value).ownBlock) v0_ r1 ∧ Kd.R (Kd.int .i64) 2 w' w.heap.size (fun k_ => some k_ ≠ (v0_ : Value).ownBlock) v1_ r2 ∧ Below w.heap.size w w' := by
 have hu62 := Try.underlying62; have hu88 := Try.underlying88; have HR0_2 := Aside0.mk hr0_2; have HC0_2 := Aside0.mk hc0_2; clear hr0_2 hc0_2
 have HB := Aside0.mk (Below.refl w.heap.size w)
 have H : ((impl_BoxOk.f k a0_0 a0_1 l0_2).bind fun t185 => (if t185 = true then (if 0 ≤ (wrap64 (a0_0 * a0_1)) then (if (wrap64 (a0_0 * a0_1) : Int).toNat ≤ 35184372088832 then (if (wrap64 (a0_0 * a0_1) : Int).toNat ≤ 281474976710656 then (impl_Drain.l0 k (wrap64 (a0_0 * a0_1)) (List.replicate (wrap64 (a0_0 * a0_1) : Int).toNat 0) (List.replicate (wrap64 (a0_0 * a0_1) : Int).toNat 0) (List.replicate (wrap64 (a0_0 * a0_1) : Int).toNat false) (([] : List Int)) 0 a0_0 a0_1 l0_2) else (none)) else (none)) else (none)) else (some (([] : List Int), ([] : List Int))))) = some (r1, r2) := h
 clear h; replace H := Option.bind_eq_some_iff.mp H
 obtain ⟨t185, A20, H⟩ := H
 replace H : (if t185 = true then (if 0 ≤ (wrap64 (a0_0 * a0_1)) then (if (wrap64 (a0_0 * a0_1) : Int).toNat ≤ 35184372088832 then (if (wrap64 (a0_0 * a0_1) : Int).toNat ≤ 281474976710656 then (impl_Drain.l0 k (wrap64 (a0_0 * a0_1)) (List.replicate (wrap64 (a0_0 * a0_1) : Int).toNat 0) (List.replicate (wrap64 (a0_0 * a0_1) : Int).toNat 0) (List.replicate (wrap64 (a0_0 * a0_1) : Int).toNat false) (([] : List Int)) 0 a0_0 a0_1 l0_2) else (none)) else (none)) else (none)) else (some (([] : List Int), ([] : List Int)))) = some (r1, r2) := H
 have A2 := Aside0.mk A20; clear A20
 by_cases c3 : t185 = true
 ·subst c3
  have H1 : (if 0 ≤ (wrap64 (a0_0 * a0_1)) then (if (wrap64 (a0_0 * a0_1) : Int).toNat ≤ 35184372088832 then (if (wrap64 (a0_0 * a0_1) : Int).toNat ≤ 281474976710656 then (impl_Drain.l0 k (wrap64 (a0_0 * a0_1)) (List.replicate (wrap64 (a0_0 * a0_1) : Int).toNat 0) (List.replicate (wrap64 (a0_0 * a0_1) : Int).toNat 0) (List.replicate (wrap64 (a0_0 * a0_1) : Int).toNat false) (([] : List Int)) 0 a0_0 a0_1 l0_2) else (none)) else (none)) else (none)) = some (r1, r2) := by rw [if_pos rfl] at H; exact H
  clear H; have H := H1; clear H1
  obtain ⟨ji4, hji4⟩ : ∃ j_ : Int, (wrap64 (a0_0 * a0_1)) = j_ := ⟨_, rfl⟩
  replace H : (if 0 ≤ (ji4) then (if (ji4 : Int).toNat ≤ 35184372088832 then (if (ji4 : Int).toNat ≤ 281474976710656 then (impl_Drain.l0 k ji4 (List.replicate (ji4 : Int).toNat 0) (List.replicate (ji4 : Int).toNat 0) (List.replicate (ji4 : Int).toNat false) (([] : List Int)) 0 a0_0 a0_1 l0_2) else (none)) else (none)) else (none)) = some (r1, r2) := by first | (rw [hji4] at H; exact H) | (simp only [hji4] at H ⊢; exact H)
  (try rw [hji4] at A2)
  have hji4w : (IntKind.i64.wrap (a0_0 * a0_1)) = ji4 := (i64_w _).trans hji4
  by_cases c5 : 0 ≤ (ji4)
  ·rw [if_pos c5] at H
   have c5b0 := eq_true c5
   have c5b1 : decide (0 ≤ (ji4)) = true := decide_eq_true c5
   clear c5
   by_cases c6 : (ji4 : Int).toNat ≤ 35184372088832
   ·rw [if_pos c6] at H
    have c6b0 := eq_true c6
    have c6b1 : decide ((ji4 : Int).toNat ≤ 35184372088832) = true := decide_eq_true c6
    clear c6
    obtain ⟨y186, hy186⟩ : ∃ y_ : List Int, y_ = (List.replicate (ji4 : Int).toNat 0) := ⟨_, rfl⟩
    replace H : (if (ji4 : Int).toNat ≤ 281474976710656 then (impl_Drain.l0 k ji4 y186 (List.replicate (ji4 : Int).toNat 0) (List.replicate (ji4 : Int).toNat false) (([] : List Int)) 0 a0_0 a0_1 l0_2) else (none)) = some (r1, r2) := by first | (rw [hy186]; with_reducible exact H) | (have H2_ := (Option.bind_some _ _).symm.trans H; rw [hy186]; with_reducible exact H2_) | (have H2_ := (Option.bind_some _ _).symm.trans H; with_reducible exact H2_) | with_reducible exact H | (rw [hy186]; exact H) | exact H
    have Ny186 := Aside0.mk hy186; clear hy186
    obtain ⟨y189, hy189⟩ : ∃ y_ : List Int, y_ = (List.replicate (ji4 : Int).toNat 0) := ⟨_, rfl⟩
    replace H : (if (ji4 : Int).toNat ≤ 281474976710656 then (impl_Drain.l0 k ji4 y186 y189 (List.replicate (ji4 : Int).toNat false) (([] : List Int)) 0 a0_0 a0_1 l0_2) else (none)) = some (r1, r2) := by first | (rw [hy189]; with_reducible exact H) | (have H2_ := (Option.bind_some _ _).symm.trans H; rw [hy189]; with_reducible exact H2_) | (have H2_ := (Option.bind_some _ _).symm.trans H; with_reducible exact H2_) | with_reducible exact H | (rw [hy189]; exact H) | exact H
    have Ny189 := Aside0.mk hy189; clear hy189
    by_cases c7 : (ji4 : Int).toNat ≤ 281474976710656
    ·rw [if_pos c7] at H
     have c7b0 := eq_true c7
     have c7b1 : decide ((ji4 : Int).toNat ≤ 281474976710656) = true := decide_eq_true c7
     clear c7
     obtain ⟨y192, hy192⟩ : ∃ y_ : List Bool, y_ = (List.replicate (ji4 : Int).toNat false) := ⟨_, rfl⟩
     replace H : (impl_Drain.l0 k ji4 y186 y189 y192 (([] : List Int)) 0 a0_0 a0_1 l0_2) = some (r1, r2) := by first | (rw [hy192]; with_reducible exact H) | (have H2_ := (Option.bind_some _ _).symm.trans H; rw [hy192]; with_reducible exact H2_) | (have H2_ := (Option.bind_some _ _).symm.trans H; with_reducible exact H2_) | with_reducible exact H | (rw [hy192]; exact H) | exact H
     have Ny192 := Aside0.mk hy192; clear hy192
     obtain ⟨y195, hy195⟩ : ∃ y_ : List Int, y_ = (([] : List Int)) := ⟨_, rfl⟩
     replace H : (impl_Drain.l0 k ji4 y186 y189 y192 y195 0 a0_0 a0_1 l0_2) = some (r1, r2) := by first | (rw [hy195]; with_reducible exact H) | (have H2_ := (Option.bind_some _ _).symm.trans H; rw [hy195]; with_reducible exact H2_) | (have H2_ := (Option.bind_some _ _).symm.trans H; with_reducible exact H2_) | with_reducible exact H | (rw [hy195]; exact H) | exact H
     have Ny195 := Aside0.mk hy195; clear hy195; have H' := Aside0.mk H; clear H
     go_enter Try.func38, Try.ntmps38
     try go_wp2_with (first | ((with_reducible refine gate_dst (N := 1) rfl ?_); refine box_event ?hg (N := 1) ?hd (cs := #[.int .i64 a0_0, .int .i64 a0_1, .slice A0_2 l0_2.length c0_2]) (t := 62) ?hr ?_; (case hd => rfl); (case hg => rfl); (case hr => first | (go_simp; done) | (go_simp; rfl)); intro gb184 hg w8 hbox hb; have BK184 := Aside0.mk (hbox); have GW184 := gE_ HB hg; have GE184 := gE_ HB hg; replace HB := bS_ HB hb; clear hb hbox hg; have hcz9_0 : w8.cell? ⟨gb184, 0, none⟩ = some (.int .i64 a0_0) := (blk_cell BK184.out 0).trans rfl; have hcz9_1 : w8.cell? ⟨gb184, 1, none⟩ = some (.int .i64 a0_1) := (blk_cell BK184.out 1).trans rfl; have hcz9_2 : w8.cell? ⟨gb184, 2, none⟩ = some (.slice A0_2 l0_2.length c0_2) := (blk_cell BK184.out 2).trans rfl; have hfz9_0 := blk_frozen BK184.out 0; have hfz9_1 := blk_frozen BK184.out 1; have hfz9_2 := blk_frozen BK184.out 2) | ((with_reducible refine gate_callee (f := 63) rfl ?_); refine gL_ (some 25) Try.func63 #[.agg #[.int .i64 a0_0, .int .i64 a0_1, .slice A0_2 l0_2.length c0_2]] ?_; (with_reducible refine (impl_BoxOk.calls k a0_0 a0_1 _ _ l0_2 true _ ?side1 ?side2 A2.out).mono ?_); (case side1 => exact cB_ HR0_2 HB); (case side2 => exact HC0_2.out); rintro e w10 ⟨rfl, hb⟩; refine ⟨_, rfl, ?_⟩; replace BK184 := bB_ BK184 hb; replace HB := bS_ HB hb; (try clear hb); (try clear hb2); (try clear hk); (try clear hi); have hcz11_0 : w10.cell? ⟨gb184, 0, none⟩ = some (.int .i64 a0_0) := (blk_cell BK184.out 0).trans rfl; have hcz11_1 : w10.cell? ⟨gb184, 1, none⟩ = some (.int .i64 a0_1) := (blk_cell BK184.out 1).trans rfl; have hcz11_2 : w10.cell? ⟨gb184, 2, none⟩ = some (.slice A0_2 l0_2.length c0_2) := (blk_cell BK184.out 2).trans rfl; have hfz11_0 := blk_frozen BK184.out 0; have hfz11_1 := blk_frozen BK184.out 1; have hfz11_2 := blk_frozen BK184.out 2))
     replace BK184 := Aside0.mk (blk_drew BK184.out)
     replace HB := Aside0.mk (below_drew1 HB.out)
     refine start_ (n := 6) (S := fun w' => True) (ds := []) #[false, false, false, false, false, false] (by kernel_rfl) rfl rfl trivial (fun hHeld => ?_)
     generalize w10.drew = w12 at BK184 HB hHeld ⊢
     refine pB_ 0 (some 32) #[true, false, false, false, false, false] ?_
     refine pB_ 2 (some 34) #[true, false, true, false, false, false] ?_
     refine join_ (σ := Value × Value) 1 #[true, true, true, true, true, false] (fun s_ => [(33, s_.1), (35, s_.2), (5, s_.1)]) (fun s_ w' => (Kd.R (Kd.int .i64) 2 w' w.heap.size (fun k_ => some k_ ≠ (s_.2 : Value).ownBlock) s_.1 y186) ∧ (Kd.R (Kd.int .i64) 2 w' w.heap.size (fun k_ => some k_ ≠ (s_.1 : Value).ownBlock) s_.2 y189) ∧ (w'.heap[gb184]? = some (.cells #[.int .i64 a0_0, .int .i64 a0_1, .slice A0_2 l0_2.length c0_2] 62 (0, 0))) ∧ (Below w.heap.size w w')) ?_ ?_
     rotate_left
     ·intro hCont
      refine two_ (i := 1) (j := 3) (Ni := some 33) (Nj := some 35) #[true, true, true, false, false, false] #[true, false, true, true, false, false] rfl rfl rfl rfl (by kernel_rfl) (by decide) (by decide) (fun K hK => ?_) (fun K hK => ?_)
      ·skip
       refine Kd.R_make_step (Kd.int .i64) _ 2 (by rfl) (N := 33) rfl 22 _ _ rfl ji4 rfl rfl Try.underlying22 (.int .i64 0) 8 info2 rfl (by decide) (by omega) 0 (ok := fun _ => True) (okp := fun _ => True) rfl (fun _ hk => hk) trivial (of_decide_eq_true (by first | (with_reducible assumption) | assumption)) (Nat.le_trans (Nat.mul_le_mul_right _ (of_decide_eq_true (by first | (with_reducible assumption) | assumption) : ji4.toNat ≤ 35184372088832)) (by omega)) (Below.refl _ _) (Nat.le_refl _) ?_
       intro v187 w13 ho14 hb hg_ hnew_
       clear hg_ hnew_
       (first | rw [← Ny186.out] at ho14 | (simp only [Int.reduceToNat] at ho14; rw [← Ny186.out] at ho14))
       have HO188 := rL_ ho14 HB; replace BK184 := bB_ BK184 hb; replace HB := bS_ HB hb; clear hb ho14
       refine hK.out _ _ trivial (fun hHeld => ?_)
       clear hK K
       refine nS_ (some 33) ?_
       refine pB_ 4 (some 5) #[true, true, true, false, true, false] ?_
       refine one_ (i := 3) (N := some 35) #[true, true, true, true, true, false] rfl rfl (by kernel_rfl) (by decide) (fun K hK => ?_)
       refine Kd.R_make_step (Kd.int .i64) _ 2 (by rfl) (N := 35) rfl 22 _ _ rfl ji4 rfl rfl Try.underlying22 (.int .i64 0) 8 info2 rfl (by decide) (by omega) 0 (ok := fun _ => True) (okp := fun _ => True) rfl (fun _ hk => hk) trivial (of_decide_eq_true (by first | (with_reducible assumption) | assumption)) (Nat.le_trans (Nat.mul_le_mul_right _ (of_decide_eq_true (by first | (with_reducible assumption) | assumption) : ji4.toNat ≤ 35184372088832)) (by omega)) (Below.refl _ _) (Nat.le_refl _) ?_
       intro v190 w15 ho16 hb hg_ hnew_
       clear hg_ hnew_
       (first | rw [← Ny189.out] at ho16 | (simp only [Int.reduceToNat] at ho16; rw [← Ny189.out] at ho16))
       have HO191 := rL_ (rN_ ho16 HO188) HB
       replace HO188 := rE_ HO188 ho16 hb; replace BK184 := bB_ BK184 hb; replace HB := bS_ HB hb; clear hb ho16
       refine hK.out _ _ trivial (fun hHeld => ?_)
       clear hK K
       refine nS_ (some 35) ?_
       exact norm_ (by simp only [putAll, Act.put, List.setIfInBounds_toArray, List.set_cons_zero, List.set_cons_succ]) (hCont (v187, v190) _ ⟨(rM_ HO188), (rM_ HO191), (bT_ BK184), (by repeat (first | (with_reducible first | exact HB.out | apply below_alloc | apply pw_below_drewN | apply below_drew1 | refine below_set ?_ GE184.out) | exact HB.out))⟩)
      ·skip
       refine Kd.R_make_step (Kd.int .i64) _ 2 (by rfl) (N := 35) rfl 22 _ _ rfl ji4 rfl rfl Try.underlying22 (.int .i64 0) 8 info2 rfl (by decide) (by omega) 0 (ok := fun _ => True) (okp := fun _ => True) rfl (fun _ hk => hk) trivial (of_decide_eq_true (by first | (with_reducible assumption) | assumption)) (Nat.le_trans (Nat.mul_le_mul_right _ (of_decide_eq_true (by first | (with_reducible assumption) | assumption) : ji4.toNat ≤ 35184372088832)) (by omega)) (Below.refl _ _) (Nat.le_refl _) ?_
       intro v190 w13 ho14 hb hg_ hnew_
       clear hg_ hnew_
       (first | rw [← Ny189.out] at ho14 | (simp only [Int.reduceToNat] at ho14; rw [← Ny189.out] at ho14))
       have HO191 := rL_ ho14 HB; replace BK184 := bB_ BK184 hb; replace HB := bS_ HB hb; clear hb ho14
       refine hK.out _ _ trivial (fun hHeld => ?_)
       clear hK K
       refine nS_ (some 35) ?_
       refine one_ (i := 1) (N := some 33) #[true, true, true, true, false, false] rfl rfl (by kernel_rfl) (by decide) (fun K hK => ?_)
       refine Kd.R_make_step (Kd.int .i64) _ 2 (by rfl) (N := 33) rfl 22 _ _ rfl ji4 rfl rfl Try.underlying22 (.int .i64 0) 8 info2 rfl (by decide) (by omega) 0 (ok := fun _ => True) (okp := fun _ => True) rfl (fun _ hk => hk) trivial (of_decide_eq_true (by first | (with_reducible assumption) | assumption)) (Nat.le_trans (Nat.mul_le_mul_right _ (of_decide_eq_true (by first | (with_reducible assumption) | assumption) : ji4.toNat ≤ 35184372088832)) (by omega)) (Below.refl _ _) (Nat.le_refl _) ?_
       intro v187 w15 ho16 hb hg_ hnew_
       clear hg_ hnew_
       (first | rw [← Ny186.out] at ho16 | (simp only [Int.reduceToNat] at ho16; rw [← Ny186.out] at ho16))
       have HO188 := rL_ (rN_ ho16 HO191) HB
       replace HO191 := rE_ HO191 ho16 hb; replace BK184 := bB_ BK184 hb; replace HB := bS_ HB hb; clear hb ho16
       refine hK.out _ _ trivial (fun hHeld => ?_)
       clear hK K
       refine nS_ (some 33) ?_
       refine pB_ 4 (some 5) #[true, true, true, true, true, false] ?_
       exact norm_ (by simp only [putAll, Act.put, List.setIfInBounds_toArray, List.set_cons_zero, List.set_cons_succ]) (hCont (v187, v190) _ ⟨(rM_ HO188), (rM_ HO191), (bT_ BK184), (by repeat (first | (with_reducible first | exact HB.out | apply below_alloc | apply pw_below_drewN | apply below_drew1 | refine below_set ?_ GE184.out) | exact HB.out))⟩)
     rintro ⟨v187, v190⟩ w17 ⟨h0_, h1_, h2_, h3_⟩
     try dsimp only at h0_ h1_ h2_ h3_
     have HO188 := Aside0.mk h0_; have HO191 := Aside0.mk h1_; replace BK184 := Aside0.mk h2_; replace HB := Aside0.mk h3_; clear h0_ h1_ h2_ h3_; have hHeld := trivial
     refine norm_ (a' := ?_) ?_ ?_
     rotate_left
     ·simp only [putAll, Act.put, List.setIfInBounds_toArray, List.set_cons_zero, List.set_cons_succ]
      rfl
     refine pB_ 5 (some 6) #[true, true, true, true, true, true] ?_
     refine done_ (by kernel_rfl) ?_
     try go_wp2_with (first | ((with_reducible refine gate_dst (N := 37) rfl ?_); refine Kd.R_make Kd.bool _ 4 rfl (N := 37) rfl 86 _ _ rfl ji4 rfl rfl Try.underlying86 (.bool false) 1 info4 rfl (by decide) (by omega) false (ok := fun _ => True) (okp := fun _ => True) rfl (fun _ hk => hk) trivial (of_decide_eq_true (by first | (with_reducible assumption) | assumption)) (Nat.le_trans (Nat.mul_le_mul_right _ (of_decide_eq_true (by first | (with_reducible assumption) | assumption) : ji4.toNat ≤ 281474976710656)) (by omega)) (Below.refl _ _) (Nat.le_refl _) ?_; intro v193 w18 ho19 hb hg_ hnew_; clear hg_ hnew_; (first | rw [← Ny192.out] at ho19 | (simp only [Int.reduceToNat] at ho19; rw [← Ny192.out] at ho19)); replace HO188 := rB_ HO188 hb; replace HO191 := rB_ HO191 hb; have HO194 := rL_ ho19 HB; replace BK184 := bB_ BK184 hb; replace HB := bS_ HB hb; clear hb ho19) | ((with_reducible refine gate_dst (N := 38) rfl ?_); refine Kd.R_lit (Kd.int .i64) _ 2 ?hg (N := 38) ?hd (xs := ([] : List Int)) (inner := []) (ok := fun _ => True) (okp := fun _ => True) ?hr ?hp (fun _ hk => hk) trivial (Below.refl _ _) (Nat.le_refl _) (by simp) ?_; (case hd => rfl); (case hg => rfl); (case hr => first | (go_simp; done) | (go_simp; rfl)); (case hp => exact (Reps.none _ _)); intro v196 w20 ho21 hb hg_ hnew_; clear hg_ hnew_; (first | rw [← Ny195.out] at ho21 | (simp only [Int.reduceToNat] at ho21; rw [← Ny195.out] at ho21)); replace HO194 := rB_ HO194 hb; have HO197 := rL_ (rN_ (rN_ ho21 HO188) HO191) HB; replace HO188 := rE_ HO188 ho21 hb; replace HO191 := rE_ HO191 ho21 hb; replace BK184 := bB_ BK184 hb; replace HB := bS_ HB hb; clear hb ho21))
     go_loopg [8, 9] k (fun kq v8 v9 w' => ∃ (x5_1 : List Int) (x6_1 : List Int) (x7_1 : List Bool) (x8_1 : List Int) (x9_1 : Int), v9 = .int .i64 x9_1 ∧ Aside0 (impl_Drain.l0 kq ji4 x5_1 x6_1 x7_1 x8_1 x9_1 a0_0 a0_1 l0_2 = some (r1, r2)) ∧ Aside0 (kq ≤ k) ∧ Aside0 (Kd.R (Kd.int .i64) 2 w' w.heap.size (fun k_ => some k_ ≠ (v190 : Value).ownBlock ∧ some k_ ≠ (v8 : Value).ownBlock) v187 x5_1) ∧ Aside0 (Kd.R (Kd.int .i64) 2 w' w.heap.size (fun k_ => some k_ ≠ (v187 : Value).ownBlock ∧ some k_ ≠ (v8 : Value).ownBlock) v190 x6_1) ∧ Aside0 (Kd.R Kd.bool 4 w' w.heap.size (fun _ => True) v193 x7_1) ∧ Aside0 (Kd.R (Kd.int .i64) 2 w' w.heap.size (fun k_ => some k_ ≠ (v187 : Value).ownBlock ∧ some k_ ≠ (v190 : Value).ownBlock) v8 x8_1) ∧ Aside0 (w'.heap[gb184]? = some (.cells #[.int .i64 a0_0, .int .i64 a0_1, (.slice A0_2 l0_2.length c0_2)] 62 (0, 0))) ∧ Aside0 (Below w.heap.size w w'))
     case atStart => exact ⟨(y186), (y189), (y192), (y195), (0), (by first | rfl | (simp; done) | (simp [*]; done)), H', ⟨Nat.le_refl _⟩, ⟨by (with_reducible repeat (first | apply Kd.R_alloc | apply Kd.R_drewN | apply Kd.R_drew)); exact HO188.out⟩, ⟨by (with_reducible repeat (first | apply Kd.R_alloc | apply Kd.R_drewN | apply Kd.R_drew)); exact HO191.out⟩, ⟨by (with_reducible repeat (first | apply Kd.R_alloc | apply Kd.R_drewN | apply Kd.R_drew)); exact HO194.out⟩, ⟨by (with_reducible repeat (first | apply Kd.R_alloc | apply Kd.R_drewN | apply Kd.R_drew)); exact Kd.R_mono HO197.out (fun _ hk => ⟨hk.1.2, hk.2⟩)⟩, ⟨by exact bT_ BK184⟩, ⟨by repeat (first | (with_reducible first | exact HB.out | apply below_alloc | apply pw_below_drewN | apply below_drew1 | refine below_set ?_ GE184.out) | exact HB.out)⟩⟩
     case round =>
      clear H'; (try clear p2); (try clear c3); (try clear c5); (try clear c5b0); (try clear c5b1); (try clear c6); (try clear c6b0); (try clear c6b1); (try clear p6); (try clear c7); (try clear c7b0); (try clear c7b1); (try clear hcz11_0); (try clear hcz11_1); (try clear hcz11_2); (try clear hcz9_0); (try clear hcz9_1); (try clear hcz9_2); (try clear hfz11_0); (try clear hfz11_1); (try clear hfz11_2); (try clear hfz9_0); (try clear hfz9_1); (try clear hfz9_2)
      obtain ⟨x5_1, x6_1, x7_1, x8_1, x9_1, rfl, HA, HK1, HO_5, HO_6, HO_7, HO_8, BK184, HB⟩ := hrel
      cases gk with
      | zero => exact absurd HA.out (by simp [impl_Drain.l0])
      | succ k1 =>
       have H := HA.out; clear HA
       simp only [impl_Drain.l0] at H
       by_cases c22 : x9_1 < ji4
       ·rw [if_pos c22] at H
        have c22b0 : decide (x9_1 < ji4) = true := decide_eq_true c22
        clear c22
        by_cases c23 : a0_1 = 0
        ·rw [if_pos c23] at H
         exact absurd H (by simp)
        ·rw [if_neg c23] at H
         have c23b0 : (a0_1 == 0) = false := beq_eq_false_iff_ne.mpr c23
         have c23b1 : (a0_1 != 0) = true := bne_iff_ne.mpr c23
         by_cases c24 : (wrap64 (Int.tdiv x9_1 a0_1)) = 0
         ·rw [if_pos c24] at H
          have c24b0 : ((wrap64 (Int.tdiv x9_1 a0_1)) == 0) = true := beq_iff_eq.mpr c24
          have c24b1 : ((wrap64 (Int.tdiv x9_1 a0_1)) != 0) = false := bne_eq_false_iff_eq.mpr c24
          clear c24
          by_cases c25 : x8_1.length < 17592186044416
          ·rw [if_pos c25] at H
           have LMc25 := Aside0.mk c25; clear c25
           obtain ⟨y198, hy198⟩ : ∃ y_ : List Int, y_ = (x8_1 ++ [x9_1]) := ⟨_, rfl⟩
           replace H : (if 0 ≤ x9_1 then (if x9_1 < (l0_2.length : Int) then (if x9_1 < (x7_1.length : Int) then (if x9_1 < (x5_1.length : Int) then (if x9_1 < (x6_1.length : Int) then (impl_Drain.l0 k1 ji4 (x5_1.set (x9_1 : Int).toNat (rd l0_2 x9_1)) (x6_1.set (x9_1 : Int).toNat (-1)) (x7_1.set (x9_1 : Int).toNat true) y198 (wrap64 (x9_1 + 1)) a0_0 a0_1 l0_2) else (none)) else (none)) else (none)) else (none)) else (none)) = some (r1, r2) := by first | (rw [hy198]; with_reducible exact H) | (have H2_ := (Option.bind_some _ _).symm.trans H; rw [hy198]; with_reducible exact H2_) | (have H2_ := (Option.bind_some _ _).symm.trans H; with_reducible exact H2_) | with_reducible exact H | (rw [hy198]; exact H) | exact H
           have Ny198 := Aside0.mk hy198; clear hy198
           by_cases c26 : 0 ≤ x9_1
           ·rw [if_pos c26] at H
            have c26b0 : decide (0 ≤ x9_1) = true := decide_eq_true c26
            clear c26
            by_cases c27 : x9_1 < (l0_2.length : Int)
            ·rw [if_pos c27] at H
             have c27b0 : decide (x9_1 < (l0_2.length : Int)) = true := decide_eq_true c27
             clear c27
             by_cases c28 : x9_1 < (x7_1.length : Int)
             ·rw [if_pos c28] at H
              have c28b0 : decide (x9_1 < (x7_1.length : Int)) = true := decide_eq_true c28
              clear c28
              obtain ⟨y202, hy202⟩ : ∃ y_ : List Bool, y_ = (x7_1.set (x9_1 : Int).toNat true) := ⟨_, rfl⟩
              replace H : (if x9_1 < (x5_1.length : Int) then (if x9_1 < (x6_1.length : Int) then (impl_Drain.l0 k1 ji4 (x5_1.set (x9_1 : Int).toNat (rd l0_2 x9_1)) (x6_1.set (x9_1 : Int).toNat (-1)) y202 y198 (wrap64 (x9_1 + 1)) a0_0 a0_1 l0_2) else (none)) else (none)) = some (r1, r2) := by first | (rw [hy202]; with_reducible exact H) | (have H2_ := (Option.bind_some _ _).symm.trans H; rw [hy202]; with_reducible exact H2_) | (have H2_ := (Option.bind_some _ _).symm.trans H; with_reducible exact H2_) | with_reducible exact H | (rw [hy202]; exact H) | exact H
              have Ny202 := Aside0.mk hy202; clear hy202
              by_cases c30 : x9_1 < (x5_1.length : Int)
              ·rw [if_pos c30] at H
               have c30b0 : decide (x9_1 < (x5_1.length : Int)) = true := decide_eq_true c30
               clear c30
               obtain ⟨y203, hy203⟩ : ∃ y_ : List Int, y_ = (x5_1.set (x9_1 : Int).toNat (rd l0_2 x9_1)) := ⟨_, rfl⟩
               replace H : (if x9_1 < (x6_1.length : Int) then (impl_Drain.l0 k1 ji4 y203 (x6_1.set (x9_1 : Int).toNat (-1)) y202 y198 (wrap64 (x9_1 + 1)) a0_0 a0_1 l0_2) else (none)) = some (r1, r2) := by first | (rw [hy203]; with_reducible exact H) | (have H2_ := (Option.bind_some _ _).symm.trans H; rw [hy203]; with_reducible exact H2_) | (have H2_ := (Option.bind_some _ _).symm.trans H; with_reducible exact H2_) | with_reducible exact H | (rw [hy203]; exact H) | exact H
               have Ny203 := Aside0.mk hy203; clear hy203
               by_cases c32 : x9_1 < (x6_1.length : Int)
               ·rw [if_pos c32] at H
                have c32b0 : decide (x9_1 < (x6_1.length : Int)) = true := decide_eq_true c32
                clear c32
                obtain ⟨y204, hy204⟩ : ∃ y_ : List Int, y_ = (x6_1.set (x9_1 : Int).toNat (-1)) := ⟨_, rfl⟩
                replace H : (impl_Drain.l0 k1 ji4 y203 y204 y202 y198 (wrap64 (x9_1 + 1)) a0_0 a0_1 l0_2) = some (r1, r2) := by first | (rw [hy204]; with_reducible exact H) | (have H2_ := (Option.bind_some _ _).symm.trans H; rw [hy204]; with_reducible exact H2_) | (have H2_ := (Option.bind_some _ _).symm.trans H; with_reducible exact H2_) | with_reducible exact H | (rw [hy204]; exact H) | exact H
                have Ny204 := Aside0.mk hy204; clear hy204; have H' := Aside0.mk H; clear H
                try go_wp2
                replace HO_5 := Aside0.mk (Kd.R_drew HO_5.out)
                replace HO_6 := Aside0.mk (Kd.R_drew HO_6.out)
                replace HO_7 := Aside0.mk (Kd.R_drew HO_7.out)
                replace HO_8 := Aside0.mk (Kd.R_drew HO_8.out)
                replace BK184 := Aside0.mk (blk_drew BK184.out)
                replace HB := Aside0.mk (below_drew1 HB.out)
                refine start_ (n := 10) (S := fun w' => w'.cell? ⟨gb184, 0, none⟩ = some (.int .i64 a0_0) ∧ w'.cell? ⟨gb184, 1, none⟩ = some (.int .i64 a0_1) ∧ w'.cell? ⟨gb184, 2, none⟩ = some (.slice A0_2 l0_2.length c0_2)) (ds := []) #[false, false, false, false, false, false, false, false, false, false] (by kernel_rfl) rfl rfl ⟨(blk_cell BK184.out 0).trans rfl, (blk_cell BK184.out 1).trans rfl, (blk_cell BK184.out 2).trans rfl⟩ (fun hHeld => ?_); refine with_tabW impl_Drain.tab10 impl_Drain.bits10 (fun HT_ HW_ => ?_)
                generalize wr.drew = w34 at HO_5 HO_6 HO_7 HO_8 BK184 HB hHeld ⊢
                refine pT_ 0 (some 44) #[true, false, false, false, false, false, false, false, false, false] HT_ ?_
                refine pT_ 1 (some 45) #[true, true, false, false, false, false, false, false, false, false] HT_ ?_
                refine pT_ 4 (some 48) #[true, true, false, false, true, false, false, false, false, false] HT_ ?_
                refine pT_ 5 (some 49) #[true, true, false, false, true, true, false, false, false, false] HT_ ?_
                refine tT_ 2 (some 46) #[true, true, true, false, true, true, false, false, false, false] HT_ HW_ hHeld ?_ (hy := by rintro w' ⟨s0, s1, s2⟩; go_simp; with_reducible rfl)
                refine pT_ 3 (some 47) #[true, true, true, true, true, true, false, false, false, false] HT_ ?_
                refine pT_ 8 (some 10) #[true, true, true, true, true, true, false, false, true, false] HT_ ?_
                refine tT_ 6 (some 50) #[true, true, true, true, true, true, true, false, true, false] HT_ HW_ hHeld ?_ (hy := by rintro w' ⟨s0, s1, s2⟩; go_simp; with_reducible rfl)
                refine pT_ 7 (some 51) #[true, true, true, true, true, true, true, true, true, false] HT_ ?_
                refine pT_ 9 (some 11) #[true, true, true, true, true, true, true, true, true, true] HT_ ?_
                refine done_ (done_of HT_.out (by kernel_rfl)) ?_
                try go_wp2_with (first | ((with_reducible refine gate_builtin (b := .append) (xs := #[.tmp 72, .tmp 74]) rfl ?_); at_builtin; refine Kd.R_append (Kd.int .i64) (w0 := w) w.heap.size rfl (.tmp 72) (.tmp 74) 22 2 (.int .i64 0) 8 rfl Try.underlying22 info2 rfl (by decide) (by omega) u8 x8_1 x9_1 [.int .i64 x9_1] (fun k_ => some k_ ≠ (v187 : Value).ownBlock ∧ some k_ ≠ (v190 : Value).ownBlock) (fun _ => False) rfl rfl ?aP (fun _ hk => hk.elim) ?aF ?aO ?aB ?aS ?aL ?_; (case aP => exact rfl); (case aB => exact (by repeat (first | (with_reducible first | exact HB.out | apply below_alloc | apply pw_below_drewN | apply below_drew1 | refine below_set ?_ GE184.out) | exact HB.out))); (case aF => exact (fun k_ hk => ⟨Kd.fresh' (rLt_ HO_5) k_ hk, Kd.fresh' (rLt_ HO_6) k_ hk⟩)); (case aO => exact (rT_ HO_8)); (case aS => exact (below_size (by repeat (first | (with_reducible first | exact HB.out | apply below_alloc | apply pw_below_drewN | apply below_drew1 | refine below_set ?_ GE184.out) | exact HB.out)))); (case aL => have := LMc25.out; omega); intro v199 w35 ho hb hg hat; rw [← Ny198.out] at ho; replace HO_5 := Aside0.mk (Kd.R_after (ok := (fun k_ => some k_ ≠ (v190 : Value).ownBlock)) (rT_ HO_5) hg hat); replace HO_6 := Aside0.mk (Kd.R_after (ok := (fun k_ => some k_ ≠ (v187 : Value).ownBlock)) (rT_ HO_6) hg hat); replace HO_7 := Aside0.mk (Kd.R_over' (rT_ HO_7) (Kd.R_typed (rT_ HO_8)) (by decide) hg); replace BK184 := Aside0.mk (blk_grown (g := gb184) (o := .cells #[.int .i64 a0_0, .int .i64 a0_1, .slice A0_2 l0_2.length c0_2] 62 (0, 0)) (bT_ BK184) hg (Kd.R_ne HO_8.out BK184.out (by decide))); replace HB := Aside0.mk (hb); have HO200 := Aside0.mk (ho); clear HO_8; clear ho hb hg hat; have hcz36_0 : w35.cell? ⟨gb184, 0, none⟩ = some (.int .i64 a0_0) := (blk_cell BK184.out 0).trans rfl; have hcz36_1 : w35.cell? ⟨gb184, 1, none⟩ = some (.int .i64 a0_1) := (blk_cell BK184.out 1).trans rfl; have hcz36_2 : w35.cell? ⟨gb184, 2, none⟩ = some (.slice A0_2 l0_2.length c0_2) := (blk_cell BK184.out 2).trans rfl; have hfz36_0 := blk_frozen BK184.out 0; have hfz36_1 := blk_frozen BK184.out 1; have hfz36_2 := blk_frozen BK184.out 2; have p201 : 0 ≤ (x9_1 : Int) := of_decide_eq_true (by first | (with_reducible assumption) | assumption); have q201 : x9_1 < (l0_2.length : Int) := of_decide_eq_true (by first | (with_reducible assumption) | assumption); obtain ⟨ad201, e201, hx201_0⟩ := Kd.at_int HR0_2.out x9_1 p201 q201; cases e201; replace hx201_0 := (HB.out.cell (World.block_lt_of_cell? w _ hx201_0)).trans hx201_0; replace p201 := eq_true p201; replace q201 := eq_true q201; have p29 : 0 ≤ (x9_1 : Int) := of_decide_eq_true (by first | (with_reducible assumption) | assumption); have q29 : (x9_1 : Int) < ((x7_1.length : Int) : Int) := of_decide_eq_true (by first | (with_reducible assumption) | assumption); obtain ⟨go29, co29, eo29, gb29, gl29, cl29, HG29⟩ := Kd.R_form HO_7.out (by omega); (first | cases eo29 | (injection eo29 with ea_ en_ ec_; (first | subst ea_ | (injection ea_ with ea_; subst ea_)); subst ec_; clear en_)); have GB29 := Aside0.mk gb29; have GG29 := Aside0.mk HG29; clear gb29 gl29 HG29; obtain ⟨hx29_0, hf29_0⟩ := Kd.R_celln false HO_7.out (x9_1 : Int) p29 q29; replace p29 := eq_true p29; replace q29 := eq_true q29; obtain ⟨hy37_, hz37_⟩ := Kd.R_celln false HO_7.out (x9_1 : Int) (of_decide_eq_true (by first | (with_reducible assumption) | assumption)) (of_decide_eq_true (by first | (with_reducible assumption) | assumption)); have HP37 := Kd.R_putg HO_7.out (x9_1 : Int) true) | ((with_reducible refine gate_store (t := 4) (p := 87) rfl ?_); refine store_event (t := 4) (p := 87) (v := ?vo_w38) (w1 := (w35.setCell ⟨go29, (x9_1 : Int).toNat, none⟩ (.bool true))) ?hg ?ho ?hn ?hr ?_; (case ho => rfl); (case hg => rfl); (case hn => rfl); (case hr => first | (go_simp; done) | (go_simp; rfl)); intro w38 hw; have hg : w35.grownBy w38 (some go29) := (by rw [hw]; exact HP37.2); have hp_ : Kd.R Kd.bool 4 w38 w.heap.size (fun _ => True) (.slice (some ⟨go29, 0, none⟩) x7_1.length co29) y202 := (by rw [hw, Ny202.out]; exact HP37.1); clear HP37; replace HO_5 := Aside0.mk (Kd.R_over' (v := (.slice (some ⟨go29, 0, none⟩) x7_1.length co29)) (rT_ HO_5) (Kd.R_typed HO_7.out) (by decide) hg); replace HO_6 := Aside0.mk (Kd.R_over' (v := (.slice (some ⟨go29, 0, none⟩) x7_1.length co29)) (rT_ HO_6) (Kd.R_typed HO_7.out) (by decide) hg); replace BK184 := Aside0.mk (blk_grown (g := gb184) (o := .cells #[.int .i64 a0_0, .int .i64 a0_1, .slice (some ad201) l0_2.length c0_2] 62 (0, 0)) (bT_ BK184) hg (Kd.R_ne HO_7.out BK184.out (by decide))); replace HO200 := Aside0.mk (Kd.R_over' (v := (.slice (some ⟨go29, 0, none⟩) x7_1.length co29)) (rT_ HO200) (Kd.R_typed HO_7.out) (by decide) hg); replace HO_7 := Aside0.mk (hp_); replace HB := Aside0.mk ((by rw [hw]; exact below_set (HB.out) GB29.out : Below w.heap.size w w38)); clear hg hw hp_; have p31 : 0 ≤ (x9_1 : Int) := of_decide_eq_true (by first | (with_reducible assumption) | assumption); have q31 : (x9_1 : Int) < ((x5_1.length : Int) : Int) := of_decide_eq_true (by first | (with_reducible assumption) | assumption); obtain ⟨go31, co31, eo31, gb31, gl31, cl31, HG31⟩ := Kd.R_form HO_5.out (by omega); (first | cases eo31 | (injection eo31 with ea_ en_ ec_; (first | subst ea_ | (injection ea_ with ea_; subst ea_)); subst ec_; clear en_)); have GB31 := Aside0.mk gb31; have GG31 := Aside0.mk HG31; clear gb31 gl31 HG31; obtain ⟨hx31_0, hf31_0⟩ := Kd.R_celln 0 HO_5.out (x9_1 : Int) p31 q31; replace p31 := eq_true p31; replace q31 := eq_true q31; obtain ⟨hy39_, hz39_⟩ := Kd.R_celln 0 HO_5.out (x9_1 : Int) (of_decide_eq_true (by first | (with_reducible assumption) | assumption)) (of_decide_eq_true (by first | (with_reducible assumption) | assumption)); have HP39 := Kd.R_putg HO_5.out (x9_1 : Int) (rd l0_2 x9_1)) | ((with_reducible refine gate_store (t := 2) (p := 88) rfl ?_); refine store_event (t := 2) (p := 88) (v := ?vo_w40) (w1 := (w38.setCell ⟨go31, (x9_1 : Int).toNat, none⟩ (.int .i64 (rd l0_2 x9_1)))) ?hg ?ho ?hn ?hr ?_; (case ho => rfl); (case hg => rfl); (case hn => rfl); (case hr => first | (go_simp; done) | (go_simp; rfl)); intro w40 hw; have hg : w38.grownBy w40 (some go31) := (by rw [hw]; exact HP39.2); have hp_ : Kd.R (Kd.int .i64) 2 w40 w.heap.size (fun k_ => some k_ ≠ (v190 : Value).ownBlock ∧ some k_ ≠ (v199 : Value).ownBlock) (.slice (some ⟨go31, 0, none⟩) x5_1.length co31) y203 := (by rw [hw, Ny203.out]; exact HP39.1); clear HP39; replace HO_6 := Aside0.mk (Kd.R_after (v := (.slice (some ⟨go31, 0, none⟩) x5_1.length co31)) (v1 := (.slice (some ⟨go31, 0, none⟩) x5_1.length co31)) (ok := (fun k_ => some k_ ≠ (v199 : Value).ownBlock)) (rM_ HO_6) hg (.inl rfl)); replace HO_7 := Aside0.mk (Kd.R_over' (v := (.slice (some ⟨go31, 0, none⟩) x5_1.length co31)) (rT_ HO_7) (Kd.R_typed HO_5.out) (by decide) hg); replace BK184 := Aside0.mk (blk_grown (g := gb184) (o := .cells #[.int .i64 a0_0, .int .i64 a0_1, .slice (some ad201) l0_2.length c0_2] 62 (0, 0)) (bT_ BK184) hg (Kd.R_ne HO_5.out BK184.out (by decide))); replace HO_5 := Aside0.mk (hp_); replace HO200 := Aside0.mk (Kd.R_after (v := (.slice (some ⟨go31, 0, none⟩) x5_1.length co31)) (v1 := (.slice (some ⟨go31, 0, none⟩) x5_1.length co31)) (ok := (fun k_ => some k_ ≠ (v190 : Value).ownBlock)) (rM_ HO200) hg (.inl rfl)); replace HB := Aside0.mk ((by rw [hw]; exact below_set (HB.out) GB31.out : Below w.heap.size w w40)); clear hg hw hp_; have p33 : 0 ≤ (x9_1 : Int) := of_decide_eq_true (by first | (with_reducible assumption) | assumption); have q33 : (x9_1 : Int) < ((x6_1.length : Int) : Int) := of_decide_eq_true (by first | (with_reducible assumption) | assumption); obtain ⟨go33, co33, eo33, gb33, gl33, cl33, HG33⟩ := Kd.R_form HO_6.out (by omega); (first | cases eo33 | (injection eo33 with ea_ en_ ec_; (first | subst ea_ | (injection ea_ with ea_; subst ea_)); subst ec_; clear en_)); have GB33 := Aside0.mk gb33; have GG33 := Aside0.mk HG33; clear gb33 gl33 HG33; obtain ⟨hx33_0, hf33_0⟩ := Kd.R_celln 0 HO_6.out (x9_1 : Int) p33 q33; replace p33 := eq_true p33; replace q33 := eq_true q33; obtain ⟨hy41_, hz41_⟩ := Kd.R_celln 0 HO_6.out (x9_1 : Int) (of_decide_eq_true (by first | (with_reducible assumption) | assumption)) (of_decide_eq_true (by first | (with_reducible assumption) | assumption)); have HP41 := Kd.R_putg HO_6.out (x9_1 : Int) (-1)) | ((with_reducible refine gate_store (t := 2) (p := 89) rfl ?_); refine store_event (t := 2) (p := 89) (v := ?vo_w42) (w1 := (w40.setCell ⟨go33, (x9_1 : Int).toNat, none⟩ (.int .i64 (-1)))) ?hg ?ho ?hn ?hr ?_; (case ho => rfl); (case hg => rfl); (case hn => rfl); (case hr => first | (go_simp; done) | (go_simp; rfl)); intro w42 hw; have hg : w40.grownBy w42 (some go33) := (by rw [hw]; exact HP41.2); have hp_ : Kd.R (Kd.int .i64) 2 w42 w.heap.size (fun k_ => some k_ ≠ (v199 : Value).ownBlock ∧ some k_ ≠ (.slice (some ⟨go31, 0, none⟩) x5_1.length co31 : Value).ownBlock) (.slice (some ⟨go33, 0, none⟩) x6_1.length co33) y204 := (by rw [hw, Ny204.out]; exact HP41.1); clear HP41; replace HO_5 := Aside0.mk (Kd.R_after (v := (.slice (some ⟨go33, 0, none⟩) x6_1.length co33)) (v1 := (.slice (some ⟨go33, 0, none⟩) x6_1.length co33)) (ok := (fun k_ => some k_ ≠ (v199 : Value).ownBlock)) (rM_ HO_5) hg (.inl rfl)); replace HO_7 := Aside0.mk (Kd.R_over' (v := (.slice (some ⟨go33, 0, none⟩) x6_1.length co33)) (rT_ HO_7) (Kd.R_typed HO_6.out) (by decide) hg); replace BK184 := Aside0.mk (blk_grown (g := gb184) (o := .cells #[.int .i64 a0_0, .int .i64 a0_1, .slice (some ad201) l0_2.length c0_2] 62 (0, 0)) (bT_ BK184) hg (Kd.R_ne HO_6.out BK184.out (by decide))); replace HO_6 := Aside0.mk (hp_); replace HO200 := Aside0.mk (Kd.R_after (v := (.slice (some ⟨go33, 0, none⟩) x6_1.length co33)) (v1 := (.slice (some ⟨go33, 0, none⟩) x6_1.length co33)) (ok := (fun k_ => some k_ ≠ (.slice (some ⟨go31, 0, none⟩) x5_1.length co31 : Value).ownBlock)) (rM_ HO200) hg (.inl rfl)); replace HB := Aside0.mk ((by rw [hw]; exact below_set (HB.out) GB33.out : Below w.heap.size w w42)); clear hg hw hp_))
                go_roundg k1
                case measure => have := HK1.out; omega
                case rel => exact ⟨(y203), (y204), (y202), (y198), (wrap64 (x9_1 + 1)), (by first | rfl | (simp; done) | (simp [*]; done)), H', ⟨by have := HK1.out; omega⟩, ⟨by (with_reducible repeat (first | apply Kd.R_alloc | apply Kd.R_drewN | apply Kd.R_drew)); exact Kd.R_mono HO_5.out (fun _ hk => ⟨hk.2, hk.1⟩)⟩, ⟨by (with_reducible repeat (first | apply Kd.R_alloc | apply Kd.R_drewN | apply Kd.R_drew)); exact Kd.R_mono HO_6.out (fun _ hk => ⟨hk.2, hk.1⟩)⟩, ⟨by (with_reducible repeat (first | apply Kd.R_alloc | apply Kd.R_drewN | apply Kd.R_drew)); exact HO_7.out⟩, ⟨by (with_reducible repeat (first | apply Kd.R_alloc | apply Kd.R_drewN | apply Kd.R_drew)); exact HO200.out⟩, ⟨by exact bT_ BK184⟩, ⟨by repeat (first | (with_reducible first | exact HB.out | apply below_alloc | apply pw_below_drewN | apply below_drew1 | refine below_set ?_ GE184.out) | exact HB.out)⟩⟩
               ·rw [if_neg c32] at H
                exact absurd H (by simp)
              ·rw [if_neg c30] at H
               exact absurd H (by simp)
             ·rw [if_neg c28] at H
              exact absurd H (by simp)
            ·rw [if_neg c27] at H
             exact absurd H (by simp)
           ·rw [if_neg c26] at H
            exact absurd H (by simp)
          ·rw [if_neg c25] at H
           exact absurd H (by simp)
         ·rw [if_neg c24] at H
          have c24b0 : ((wrap64 (Int.tdiv x9_1 a0_1)) == 0) = false := beq_eq_false_iff_ne.mpr c24
          have c24b1 : ((wrap64 (Int.tdiv x9_1 a0_1)) != 0) = true := bne_iff_ne.mpr c24
          by_cases c43 : (Int.tmod x9_1 a0_1) = 0
          ·rw [if_pos c43] at H
           have c43b0 : ((Int.tmod x9_1 a0_1) == 0) = true := beq_iff_eq.mpr c43
           have c43b1 : ((Int.tmod x9_1 a0_1) != 0) = false := bne_eq_false_iff_eq.mpr c43
           clear c43
           by_cases c44 : x8_1.length < 17592186044416
           ·rw [if_pos c44] at H
            have LMc44 := Aside0.mk c44; clear c44
            obtain ⟨y205, hy205⟩ : ∃ y_ : List Int, y_ = (x8_1 ++ [x9_1]) := ⟨_, rfl⟩
            replace H : (if 0 ≤ x9_1 then (if x9_1 < (l0_2.length : Int) then (if x9_1 < (x7_1.length : Int) then (if x9_1 < (x5_1.length : Int) then (if x9_1 < (x6_1.length : Int) then (impl_Drain.l0 k1 ji4 (x5_1.set (x9_1 : Int).toNat (rd l0_2 x9_1)) (x6_1.set (x9_1 : Int).toNat (-1)) (x7_1.set (x9_1 : Int).toNat true) y205 (wrap64 (x9_1 + 1)) a0_0 a0_1 l0_2) else (none)) else (none)) else (none)) else (none)) else (none)) = some (r1, r2) := by first | (rw [hy205]; with_reducible exact H) | (have H2_ := (Option.bind_some _ _).symm.trans H; rw [hy205]; with_reducible exact H2_) | (have H2_ := (Option.bind_some _ _).symm.trans H; with_reducible exact H2_) | with_reducible exact H | (rw [hy205]; exact H) | exact H
            have Ny205 := Aside0.mk hy205; clear hy205
            by_cases c45 : 0 ≤ x9_1
            ·rw [if_pos c45] at H
             have c45b0 : decide (0 ≤ x9_1) = true := decide_eq_true c45
             clear c45
             by_cases c46 : x9_1 < (l0_2.length : Int)
             ·rw [if_pos c46] at H
              have c46b0 : decide (x9_1 < (l0_2.length : Int)) = true := decide_eq_true c46
              clear c46
              by_cases c47 : x9_1 < (x7_1.length : Int)
              ·rw [if_pos c47] at H
               have c47b0 : decide (x9_1 < (x7_1.length : Int)) = true := decide_eq_true c47
               clear c47
               obtain ⟨y209, hy209⟩ : ∃ y_ : List Bool, y_ = (x7_1.set (x9_1 : Int).toNat true) := ⟨_, rfl⟩
               replace H : (if x9_1 < (x5_1.length : Int) then (if x9_1 < (x6_1.length : Int) then (impl_Drain.l0 k1 ji4 (x5_1.set (x9_1 : Int).toNat (rd l0_2 x9_1)) (x6_1.set (x9_1 : Int).toNat (-1)) y209 y205 (wrap64 (x9_1 + 1)) a0_0 a0_1 l0_2) else (none)) else (none)) = some (r1, r2) := by first | (rw [hy209]; with_reducible exact H) | (have H2_ := (Option.bind_some _ _).symm.trans H; rw [hy209]; with_reducible exact H2_) | (have H2_ := (Option.bind_some _ _).symm.trans H; with_reducible exact H2_) | with_reducible exact H | (rw [hy209]; exact H) | exact H
               have Ny209 := Aside0.mk hy209; clear hy209
               by_cases c49 : x9_1 < (x5_1.length : Int)
               ·rw [if_pos c49] at H
                have c49b0 : decide (x9_1 < (x5_1.length : Int)) = true := decide_eq_true c49
                clear c49
                obtain ⟨y210, hy210⟩ : ∃ y_ : List Int, y_ = (x5_1.set (x9_1 : Int).toNat (rd l0_2 x9_1)) := ⟨_, rfl⟩
                replace H : (if x9_1 < (x6_1.length : Int) then (impl_Drain.l0 k1 ji4 y210 (x6_1.set (x9_1 : Int).toNat (-1)) y209 y205 (wrap64 (x9_1 + 1)) a0_0 a0_1 l0_2) else (none)) = some (r1, r2) := by first | (rw [hy210]; with_reducible exact H) | (have H2_ := (Option.bind_some _ _).symm.trans H; rw [hy210]; with_reducible exact H2_) | (have H2_ := (Option.bind_some _ _).symm.trans H; with_reducible exact H2_) | with_reducible exact H | (rw [hy210]; exact H) | exact H
                have Ny210 := Aside0.mk hy210; clear hy210
                by_cases c51 : x9_1 < (x6_1.length : Int)
                ·rw [if_pos c51] at H
                 have c51b0 : decide (x9_1 < (x6_1.length : Int)) = true := decide_eq_true c51
                 clear c51
                 obtain ⟨y211, hy211⟩ : ∃ y_ : List Int, y_ = (x6_1.set (x9_1 : Int).toNat (-1)) := ⟨_, rfl⟩
                 replace H : (impl_Drain.l0 k1 ji4 y210 y211 y209 y205 (wrap64 (x9_1 + 1)) a0_0 a0_1 l0_2) = some (r1, r2) := by first | (rw [hy211]; with_reducible exact H) | (have H2_ := (Option.bind_some _ _).symm.trans H; rw [hy211]; with_reducible exact H2_) | (have H2_ := (Option.bind_some _ _).symm.trans H; with_reducible exact H2_) | with_reducible exact H | (rw [hy211]; exact H) | exact H
                 have Ny211 := Aside0.mk hy211; clear hy211; have H' := Aside0.mk H; clear H
                 try go_wp2
                 replace HO_5 := Aside0.mk (Kd.R_drew HO_5.out)
                 replace HO_6 := Aside0.mk (Kd.R_drew HO_6.out)
                 replace HO_7 := Aside0.mk (Kd.R_drew HO_7.out)
                 replace HO_8 := Aside0.mk (Kd.R_drew HO_8.out)
                 replace BK184 := Aside0.mk (blk_drew BK184.out)
                 replace HB := Aside0.mk (below_drew1 HB.out)
                 refine start_ (n := 10) (S := fun w' => w'.cell? ⟨gb184, 0, none⟩ = some (.int .i64 a0_0) ∧ w'.cell? ⟨gb184, 1, none⟩ = some (.int .i64 a0_1) ∧ w'.cell? ⟨gb184, 2, none⟩ = some (.slice A0_2 l0_2.length c0_2)) (ds := []) #[false, false, false, false, false, false, false, false, false, false] (by kernel_rfl) rfl rfl ⟨(blk_cell BK184.out 0).trans rfl, (blk_cell BK184.out 1).trans rfl, (blk_cell BK184.out 2).trans rfl⟩ (fun hHeld => ?_); refine with_tabW impl_Drain.tab10 impl_Drain.bits10 (fun HT_ HW_ => ?_)
                 generalize wr.drew = w53 at HO_5 HO_6 HO_7 HO_8 BK184 HB hHeld ⊢
                 refine pT_ 0 (some 44) #[true, false, false, false, false, false, false, false, false, false] HT_ ?_
                 refine pT_ 1 (some 45) #[true, true, false, false, false, false, false, false, false, false] HT_ ?_
                 refine pT_ 4 (some 48) #[true, true, false, false, true, false, false, false, false, false] HT_ ?_
                 refine pT_ 5 (some 49) #[true, true, false, false, true, true, false, false, false, false] HT_ ?_
                 refine tT_ 2 (some 46) #[true, true, true, false, true, true, false, false, false, false] HT_ HW_ hHeld ?_ (hy := by rintro w' ⟨s0, s1, s2⟩; go_simp; with_reducible rfl)
                 refine pT_ 3 (some 47) #[true, true, true, true, true, true, false, false, false, false] HT_ ?_
                 refine pT_ 8 (some 10) #[true, true, true, true, true, true, false, false, true, false] HT_ ?_
                 refine tT_ 6 (some 50) #[true, true, true, true, true, true, true, false, true, false] HT_ HW_ hHeld ?_ (hy := by rintro w' ⟨s0, s1, s2⟩; go_simp; with_reducible rfl)
                 refine pT_ 7 (some 51) #[true, true, true, true, true, true, true, true, true, false] HT_ ?_
                 refine pT_ 9 (some 11) #[true, true, true, true, true, true, true, true, true, true] HT_ ?_
                 refine done_ (done_of HT_.out (by kernel_rfl)) ?_
                 try go_wp2_with (first | ((with_reducible refine gate_builtin (b := .append) (xs := #[.tmp 72, .tmp 74]) rfl ?_); at_builtin; refine Kd.R_append (Kd.int .i64) (w0 := w) w.heap.size rfl (.tmp 72) (.tmp 74) 22 2 (.int .i64 0) 8 rfl Try.underlying22 info2 rfl (by decide) (by omega) u8 x8_1 x9_1 [.int .i64 x9_1] (fun k_ => some k_ ≠ (v187 : Value).ownBlock ∧ some k_ ≠ (v190 : Value).ownBlock) (fun _ => False) rfl rfl ?aP (fun _ hk => hk.elim) ?aF ?aO ?aB ?aS ?aL ?_; (case aP => exact rfl); (case aB => exact (by repeat (first | (with_reducible first | exact HB.out | apply below_alloc | apply pw_below_drewN | apply below_drew1 | refine below_set ?_ GE184.out) | exact HB.out))); (case aF => exact (fun k_ hk => ⟨Kd.fresh' (rLt_ HO_5) k_ hk, Kd.fresh' (rLt_ HO_6) k_ hk⟩)); (case aO => exact (rT_ HO_8)); (case aS => exact (below_size (by repeat (first | (with_reducible first | exact HB.out | apply below_alloc | apply pw_below_drewN | apply below_drew1 | refine below_set ?_ GE184.out) | exact HB.out)))); (case aL => have := LMc44.out; omega); intro v206 w54 ho hb hg hat; rw [← Ny205.out] at ho; replace HO_5 := Aside0.mk (Kd.R_after (ok := (fun k_ => some k_ ≠ (v190 : Value).ownBlock)) (rT_ HO_5) hg hat); replace HO_6 := Aside0.mk (Kd.R_after (ok := (fun k_ => some k_ ≠ (v187 : Value).ownBlock)) (rT_ HO_6) hg hat); replace HO_7 := Aside0.mk (Kd.R_over' (rT_ HO_7) (Kd.R_typed (rT_ HO_8)) (by decide) hg); replace BK184 := Aside0.mk (blk_grown (g := gb184) (o := .cells #[.int .i64 a0_0, .int .i64 a0_1, .slice A0_2 l0_2.length c0_2] 62 (0, 0)) (bT_ BK184) hg (Kd.R_ne HO_8.out BK184.out (by decide))); replace HB := Aside0.mk (hb); have HO207 := Aside0.mk (ho); clear HO_8; clear ho hb hg hat; have hcz55_0 : w54.cell? ⟨gb184, 0, none⟩ = some (.int .i64 a0_0) := (blk_cell BK184.out 0).trans rfl; have hcz55_1 : w54.cell? ⟨gb184, 1, none⟩ = some (.int .i64 a0_1) := (blk_cell BK184.out 1).trans rfl; have hcz55_2 : w54.cell? ⟨gb184, 2, none⟩ = some (.slice A0_2 l0_2.length c0_2) := (blk_cell BK184.out 2).trans rfl; have hfz55_0 := blk_frozen BK184.out 0; have hfz55_1 := blk_frozen BK184.out 1; have hfz55_2 := blk_frozen BK184.out 2; have p208 : 0 ≤ (x9_1 : Int) := of_decide_eq_true (by first | (with_reducible assumption) | assumption); have q208 : x9_1 < (l0_2.length : Int) := of_decide_eq_true (by first | (with_reducible assumption) | assumption); obtain ⟨ad208, e208, hx208_0⟩ := Kd.at_int HR0_2.out x9_1 p208 q208; cases e208; replace hx208_0 := (HB.out.cell (World.block_lt_of_cell? w _ hx208_0)).trans hx208_0; replace p208 := eq_true p208; replace q208 := eq_true q208; have p48 : 0 ≤ (x9_1 : Int) := of_decide_eq_true (by first | (with_reducible assumption) | assumption); have q48 : (x9_1 : Int) < ((x7_1.length : Int) : Int) := of_decide_eq_true (by first | (with_reducible assumption) | assumption); obtain ⟨go48, co48, eo48, gb48, gl48, cl48, HG48⟩ := Kd.R_form HO_7.out (by omega); (first | cases eo48 | (injection eo48 with ea_ en_ ec_; (first | subst ea_ | (injection ea_ with ea_; subst ea_)); subst ec_; clear en_)); have GB48 := Aside0.mk gb48; have GG48 := Aside0.mk HG48; clear gb48 gl48 HG48; obtain ⟨hx48_0, hf48_0⟩ := Kd.R_celln false HO_7.out (x9_1 : Int) p48 q48; replace p48 := eq_true p48; replace q48 := eq_true q48; obtain ⟨hy56_, hz56_⟩ := Kd.R_celln false HO_7.out (x9_1 : Int) (of_decide_eq_true (by first | (with_reducible assumption) | assumption)) (of_decide_eq_true (by first | (with_reducible assumption) | assumption)); have HP56 := Kd.R_putg HO_7.out (x9_1 : Int) true) | ((with_reducible refine gate_store (t := 4) (p := 87) rfl ?_); refine store_event (t := 4) (p := 87) (v := ?vo_w57) (w1 := (w54.setCell ⟨go48, (x9_1 : Int).toNat, none⟩ (.bool true))) ?hg ?ho ?hn ?hr ?_; (case ho => rfl); (case hg => rfl); (case hn => rfl); (case hr => first | (go_simp; done) | (go_simp; rfl)); intro w57 hw; have hg : w54.grownBy w57 (some go48) := (by rw [hw]; exact HP56.2); have hp_ : Kd.R Kd.bool 4 w57 w.heap.size (fun _ => True) (.slice (some ⟨go48, 0, none⟩) x7_1.length co48) y209 := (by rw [hw, Ny209.out]; exact HP56.1); clear HP56; replace HO_5 := Aside0.mk (Kd.R_over' (v := (.slice (some ⟨go48, 0, none⟩) x7_1.length co48)) (rT_ HO_5) (Kd.R_typed HO_7.out) (by decide) hg); replace HO_6 := Aside0.mk (Kd.R_over' (v := (.slice (some ⟨go48, 0, none⟩) x7_1.length co48)) (rT_ HO_6) (Kd.R_typed HO_7.out) (by decide) hg); replace BK184 := Aside0.mk (blk_grown (g := gb184) (o := .cells #[.int .i64 a0_0, .int .i64 a0_1, .slice (some ad208) l0_2.length c0_2] 62 (0, 0)) (bT_ BK184) hg (Kd.R_ne HO_7.out BK184.out (by decide))); replace HO207 := Aside0.mk (Kd.R_over' (v := (.slice (some ⟨go48, 0, none⟩) x7_1.length co48)) (rT_ HO207) (Kd.R_typed HO_7.out) (by decide) hg); replace HO_7 := Aside0.mk (hp_); replace HB := Aside0.mk ((by rw [hw]; exact below_set (HB.out) GB48.out : Below w.heap.size w w57)); clear hg hw hp_; have p50 : 0 ≤ (x9_1 : Int) := of_decide_eq_true (by first | (with_reducible assumption) | assumption); have q50 : (x9_1 : Int) < ((x5_1.length : Int) : Int) := of_decide_eq_true (by first | (with_reducible assumption) | assumption); obtain ⟨go50, co50, eo50, gb50, gl50, cl50, HG50⟩ := Kd.R_form HO_5.out (by omega); (first | cases eo50 | (injection eo50 with ea_ en_ ec_; (first | subst ea_ | (injection ea_ with ea_; subst ea_)); subst ec_; clear en_)); have GB50 := Aside0.mk gb50; have GG50 := Aside0.mk HG50; clear gb50 gl50 HG50; obtain ⟨hx50_0, hf50_0⟩ := Kd.R_celln 0 HO_5.out (x9_1 : Int) p50 q50; replace p50 := eq_true p50; replace q50 := eq_true q50; obtain ⟨hy58_, hz58_⟩ := Kd.R_celln 0 HO_5.out (x9_1 : Int) (of_decide_eq_true (by first | (with_reducible assumption) | assumption)) (of_decide_eq_true (by first | (with_reducible assumption) | assumption)); have HP58 := Kd.R_putg HO_5.out (x9_1 : Int) (rd l0_2 x9_1)) | ((with_reducible refine gate_store (t := 2) (p := 88) rfl ?_); refine store_event (t := 2) (p := 88) (v := ?vo_w59) (w1 := (w57.setCell ⟨go50, (x9_1 : Int).toNat, none⟩ (.int .i64 (rd l0_2 x9_1)))) ?hg ?ho ?hn ?hr ?_; (case ho => rfl); (case hg => rfl); (case hn => rfl); (case hr => first | (go_simp; done) | (go_simp; rfl)); intro w59 hw; have hg : w57.grownBy w59 (some go50) := (by rw [hw]; exact HP58.2); have hp_ : Kd.R (Kd.int .i64) 2 w59 w.heap.size (fun k_ => some k_ ≠ (v190 : Value).ownBlock ∧ some k_ ≠ (v206 : Value).ownBlock) (.slice (some ⟨go50, 0, none⟩) x5_1.length co50) y210 := (by rw [hw, Ny210.out]; exact HP58.1); clear HP58; replace HO_6 := Aside0.mk (Kd.R_after (v := (.slice (some ⟨go50, 0, none⟩) x5_1.length co50)) (v1 := (.slice (some ⟨go50, 0, none⟩) x5_1.length co50)) (ok := (fun k_ => some k_ ≠ (v206 : Value).ownBlock)) (rM_ HO_6) hg (.inl rfl)); replace HO_7 := Aside0.mk (Kd.R_over' (v := (.slice (some ⟨go50, 0, none⟩) x5_1.length co50)) (rT_ HO_7) (Kd.R_typed HO_5.out) (by decide) hg); replace BK184 := Aside0.mk (blk_grown (g := gb184) (o := .cells #[.int .i64 a0_0, .int .i64 a0_1, .slice (some ad208) l0_2.length c0_2] 62 (0, 0)) (bT_ BK184) hg (Kd.R_ne HO_5.out BK184.out (by decide))); replace HO_5 := Aside0.mk (hp_); replace HO207 := Aside0.mk (Kd.R_after (v := (.slice (some ⟨go50, 0, none⟩) x5_1.length co50)) (v1 := (.slice (some ⟨go50, 0, none⟩) x5_1.length co50)) (ok := (fun k_ => some k_ ≠ (v190 : Value).ownBlock)) (rM_ HO207) hg (.inl rfl)); replace HB := Aside0.mk ((by rw [hw]; exact below_set (HB.out) GB50.out : Below w.heap.size w w59)); clear hg hw hp_; have p52 : 0 ≤ (x9_1 : Int) := of_decide_eq_true (by first | (with_reducible assumption) | assumption); have q52 : (x9_1 : Int) < ((x6_1.length : Int) : Int) := of_decide_eq_true (by first | (with_reducible assumption) | assumption); obtain ⟨go52, co52, eo52, gb52, gl52, cl52, HG52⟩ := Kd.R_form HO_6.out (by omega); (first | cases eo52 | (injection eo52 with ea_ en_ ec_; (first | subst ea_ | (injection ea_ with ea_; subst ea_)); subst ec_; clear en_)); have GB52 := Aside0.mk gb52; have GG52 := Aside0.mk HG52; clear gb52 gl52 HG52; obtain ⟨hx52_0, hf52_0⟩ := Kd.R_celln 0 HO_6.out (x9_1 : Int) p52 q52; replace p52 := eq_true p52; replace q52 := eq_true q52; obtain ⟨hy60_, hz60_⟩ := Kd.R_celln 0 HO_6.out (x9_1 : Int) (of_decide_eq_true (by first | (with_reducible assumption) | assumption)) (of_decide_eq_true (by first | (with_reducible assumption) | assumption)); have HP60 := Kd.R_putg HO_6.out (x9_1 : Int) (-1)) | ((with_reducible refine gate_store (t := 2) (p := 89) rfl ?_); refine store_event (t := 2) (p := 89) (v := ?vo_w61) (w1 := (w59.setCell ⟨go52, (x9_1 : Int).toNat, none⟩ (.int .i64 (-1)))) ?hg ?ho ?hn ?hr ?_; (case ho => rfl); (case hg => rfl); (case hn => rfl); (case hr => first | (go_simp; done) | (go_simp; rfl)); intro w61 hw; have hg : w59.grownBy w61 (some go52) := (by rw [hw]; exact HP60.2); have hp_ : Kd.R (Kd.int .i64) 2 w61 w.heap.size (fun k_ => some k_ ≠ (v206 : Value).ownBlock ∧ some k_ ≠ (.slice (some ⟨go50, 0, none⟩) x5_1.length co50 : Value).ownBlock) (.slice (some ⟨go52, 0, none⟩) x6_1.length co52) y211 := (by rw [hw, Ny211.out]; exact HP60.1); clear HP60; replace HO_5 := Aside0.mk (Kd.R_after (v := (.slice (some ⟨go52, 0, none⟩) x6_1.length co52)) (v1 := (.slice (some ⟨go52, 0, none⟩) x6_1.length co52)) (ok := (fun k_ => some k_ ≠ (v206 : Value).ownBlock)) (rM_ HO_5) hg (.inl rfl)); replace HO_7 := Aside0.mk (Kd.R_over' (v := (.slice (some ⟨go52, 0, none⟩) x6_1.length co52)) (rT_ HO_7) (Kd.R_typed HO_6.out) (by decide) hg); replace BK184 := Aside0.mk (blk_grown (g := gb184) (o := .cells #[.int .i64 a0_0, .int .i64 a0_1, .slice (some ad208) l0_2.length c0_2] 62 (0, 0)) (bT_ BK184) hg (Kd.R_ne HO_6.out BK184.out (by decide))); replace HO_6 := Aside0.mk (hp_); replace HO207 := Aside0.mk (Kd.R_after (v := (.slice (some ⟨go52, 0, none⟩) x6_1.length co52)) (v1 := (.slice (some ⟨go52, 0, none⟩) x6_1.length co52)) (ok := (fun k_ => some k_ ≠ (.slice (some ⟨go50, 0, none⟩) x5_1.length co50 : Value).ownBlock)) (rM_ HO207) hg (.inl rfl)); replace HB := Aside0.mk ((by rw [hw]; exact below_set (HB.out) GB52.out : Below w.heap.size w w61)); clear hg hw hp_))
                 go_roundg k1
                 case measure => have := HK1.out; omega
                 case rel => exact ⟨(y210), (y211), (y209), (y205), (wrap64 (x9_1 + 1)), (by first | rfl | (simp; done) | (simp [*]; done)), H', ⟨by have := HK1.out; omega⟩, ⟨by (with_reducible repeat (first | apply Kd.R_alloc | apply Kd.R_drewN | apply Kd.R_drew)); exact Kd.R_mono HO_5.out (fun _ hk => ⟨hk.2, hk.1⟩)⟩, ⟨by (with_reducible repeat (first | apply Kd.R_alloc | apply Kd.R_drewN | apply Kd.R_drew)); exact Kd.R_mono HO_6.out (fun _ hk => ⟨hk.2, hk.1⟩)⟩, ⟨by (with_reducible repeat (first | apply Kd.R_alloc | apply Kd.R_drewN | apply Kd.R_drew)); exact HO_7.out⟩, ⟨by (with_reducible repeat (first | apply Kd.R_alloc | apply Kd.R_drewN | apply Kd.R_drew)); exact HO207.out⟩, ⟨by exact bT_ BK184⟩, ⟨by repeat (first | (with_reducible first | exact HB.out | apply below_alloc | apply pw_below_drewN | apply below_drew1 | refine below_set ?_ GE184.out) | exact HB.out)⟩⟩
                ·rw [if_neg c51] at H
                 exact absurd H (by simp)
               ·rw [if_neg c49] at H
                exact absurd H (by simp)
              ·rw [if_neg c47] at H
               exact absurd H (by simp)
             ·rw [if_neg c46] at H
              exact absurd H (by simp)
            ·rw [if_neg c45] at H
             exact absurd H (by simp)
           ·rw [if_neg c44] at H
            exact absurd H (by simp)
          ·rw [if_neg c43] at H
           have c43b0 : ((Int.tmod x9_1 a0_1) == 0) = false := beq_eq_false_iff_ne.mpr c43
           have c43b1 : ((Int.tmod x9_1 a0_1) != 0) = true := bne_iff_ne.mpr c43
           by_cases c62 : (wrap64 (Int.tdiv x9_1 a0_1)) = (wrap64 (a0_0 - 1))
           ·rw [if_pos c62] at H
            have c62b0 : ((wrap64 (Int.tdiv x9_1 a0_1)) == (wrap64 (a0_0 - 1))) = true := beq_iff_eq.mpr c62
            have c62b1 : ((wrap64 (Int.tdiv x9_1 a0_1)) != (wrap64 (a0_0 - 1))) = false := bne_eq_false_iff_eq.mpr c62
            clear c62
            by_cases c63 : x8_1.length < 17592186044416
            ·rw [if_pos c63] at H
             have LMc63 := Aside0.mk c63; clear c63
             obtain ⟨y212, hy212⟩ : ∃ y_ : List Int, y_ = (x8_1 ++ [x9_1]) := ⟨_, rfl⟩
             replace H : (if 0 ≤ x9_1 then (if x9_1 < (l0_2.length : Int) then (if x9_1 < (x7_1.length : Int) then (if x9_1 < (x5_1.length : Int) then (if x9_1 < (x6_1.length : Int) then (impl_Drain.l0 k1 ji4 (x5_1.set (x9_1 : Int).toNat (rd l0_2 x9_1)) (x6_1.set (x9_1 : Int).toNat (-1)) (x7_1.set (x9_1 : Int).toNat true) y212 (wrap64 (x9_1 + 1)) a0_0 a0_1 l0_2) else (none)) else (none)) else (none)) else (none)) else (none)) = some (r1, r2) := by first | (rw [hy212]; with_reducible exact H) | (have H2_ := (Option.bind_some _ _).symm.trans H; rw [hy212]; with_reducible exact H2_) | (have H2_ := (Option.bind_some _ _).symm.trans H; with_reducible exact H2_) | with_reducible exact H | (rw [hy212]; exact H) | exact H
             have Ny212 := Aside0.mk hy212; clear hy212
             by_cases c64 : 0 ≤ x9_1
             ·rw [if_pos c64] at H
              have c64b0 : decide (0 ≤ x9_1) = true := decide_eq_true c64
              clear c64
              by_cases c65 : x9_1 < (l0_2.length : Int)
              ·rw [if_pos c65] at H
               have c65b0 : decide (x9_1 < (l0_2.length : Int)) = true := decide_eq_true c65
               clear c65
               by_cases c66 : x9_1 < (x7_1.length : Int)
               ·rw [if_pos c66] at H
                have c66b0 : decide (x9_1 < (x7_1.length : Int)) = true := decide_eq_true c66
                clear c66
                obtain ⟨y216, hy216⟩ : ∃ y_ : List Bool, y_ = (x7_1.set (x9_1 : Int).toNat true) := ⟨_, rfl⟩
                replace H : (if x9_1 < (x5_1.length : Int) then (if x9_1 < (x6_1.length : Int) then (impl_Drain.l0 k1 ji4 (x5_1.set (x9_1 : Int).toNat (rd l0_2 x9_1)) (x6_1.set (x9_1 : Int).toNat (-1)) y216 y212 (wrap64 (x9_1 + 1)) a0_0 a0_1 l0_2) else (none)) else (none)) = some (r1, r2) := by first | (rw [hy216]; with_reducible exact H) | (have H2_ := (Option.bind_some _ _).symm.trans H; rw [hy216]; with_reducible exact H2_) | (have H2_ := (Option.bind_some _ _).symm.trans H; with_reducible exact H2_) | with_reducible exact H | (rw [hy216]; exact H) | exact H
                have Ny216 := Aside0.mk hy216; clear hy216
                by_cases c68 : x9_1 < (x5_1.length : Int)
                ·rw [if_pos c68] at H
                 have c68b0 : decide (x9_1 < (x5_1.length : Int)) = true := decide_eq_true c68
                 clear c68
                 obtain ⟨y217, hy217⟩ : ∃ y_ : List Int, y_ = (x5_1.set (x9_1 : Int).toNat (rd l0_2 x9_1)) := ⟨_, rfl⟩
                 replace H : (if x9_1 < (x6_1.length : Int) then (impl_Drain.l0 k1 ji4 y217 (x6_1.set (x9_1 : Int).toNat (-1)) y216 y212 (wrap64 (x9_1 + 1)) a0_0 a0_1 l0_2) else (none)) = some (r1, r2) := by first | (rw [hy217]; with_reducible exact H) | (have H2_ := (Option.bind_some _ _).symm.trans H; rw [hy217]; with_reducible exact H2_) | (have H2_ := (Option.bind_some _ _).symm.trans H; with_reducible exact H2_) | with_reducible exact H | (rw [hy217]; exact H) | exact H
                 have Ny217 := Aside0.mk hy217; clear hy217
                 by_cases c70 : x9_1 < (x6_1.length : Int)
                 ·rw [if_pos c70] at H
                  have c70b0 : decide (x9_1 < (x6_1.length : Int)) = true := decide_eq_true c70
                  clear c70
                  obtain ⟨y218, hy218⟩ : ∃ y_ : List Int, y_ = (x6_1.set (x9_1 : Int).toNat (-1)) := ⟨_, rfl⟩
                  replace H : (impl_Drain.l0 k1 ji4 y217 y218 y216 y212 (wrap64 (x9_1 + 1)) a0_0 a0_1 l0_2) = some (r1, r2) := by first | (rw [hy218]; with_reducible exact H) | (have H2_ := (Option.bind_some _ _).symm.trans H; rw [hy218]; with_reducible exact H2_) | (have H2_ := (Option.bind_some _ _).symm.trans H; with_reducible exact H2_) | with_reducible exact H | (rw [hy218]; exact H) | exact H
                  have Ny218 := Aside0.mk hy218; clear hy218; have H' := Aside0.mk H; clear H
                  try go_wp2
                  replace HO_5 := Aside0.mk (Kd.R_drew HO_5.out)
                  replace HO_6 := Aside0.mk (Kd.R_drew HO_6.out)
                  replace HO_7 := Aside0.mk (Kd.R_drew HO_7.out)
                  replace HO_8 := Aside0.mk (Kd.R_drew HO_8.out)
                  replace BK184 := Aside0.mk (blk_drew BK184.out)
                  replace HB := Aside0.mk (below_drew1 HB.out)
                  refine start_ (n := 10) (S := fun w' => w'.cell? ⟨gb184, 0, none⟩ = some (.int .i64 a0_0) ∧ w'.cell? ⟨gb184, 1, none⟩ = some (.int .i64 a0_1) ∧ w'.cell? ⟨gb184, 2, none⟩ = some (.slice A0_2 l0_2.length c0_2)) (ds := []) #[false, false, false, false, false, false, false, false, false, false] (by kernel_rfl) rfl rfl ⟨(blk_cell BK184.out 0).trans rfl, (blk_cell BK184.out 1).trans rfl, (blk_cell BK184.out 2).trans rfl⟩ (fun hHeld => ?_); refine with_tabW impl_Drain.tab10 impl_Drain.bits10 (fun HT_ HW_ => ?_)
                  generalize wr.drew = w72 at HO_5 HO_6 HO_7 HO_8 BK184 HB hHeld ⊢
                  refine pT_ 0 (some 44) #[true, false, false, false, false, false, false, false, false, false] HT_ ?_
                  refine pT_ 1 (some 45) #[true, true, false, false, false, false, false, false, false, false] HT_ ?_
                  refine pT_ 4 (some 48) #[true, true, false, false, true, false, false, false, false, false] HT_ ?_
                  refine pT_ 5 (some 49) #[true, true, false, false, true, true, false, false, false, false] HT_ ?_
                  refine tT_ 2 (some 46) #[true, true, true, false, true, true, false, false, false, false] HT_ HW_ hHeld ?_ (hy := by rintro w' ⟨s0, s1, s2⟩; go_simp; with_reducible rfl)
                  refine pT_ 3 (some 47) #[true, true, true, true, true, true, false, false, false, false] HT_ ?_
                  refine pT_ 8 (some 10) #[true, true, true, true, true, true, false, false, true, false] HT_ ?_
                  refine tT_ 6 (some 50) #[true, true, true, true, true, true, true, false, true, false] HT_ HW_ hHeld ?_ (hy := by rintro w' ⟨s0, s1, s2⟩; go_simp; with_reducible rfl)
                  refine pT_ 7 (some 51) #[true, true, true, true, true, true, true, true, true, false] HT_ ?_
                  refine pT_ 9 (some 11) #[true, true, true, true, true, true, true, true, true, true] HT_ ?_
                  refine done_ (done_of HT_.out (by kernel_rfl)) ?_
                  have hcz73_0 : w72.cell? ⟨gb184, 0, none⟩ = some (.int .i64 a0_0) := (blk_cell BK184.out 0).trans rfl
                  have hcz73_1 : w72.cell? ⟨gb184, 1, none⟩ = some (.int .i64 a0_1) := (blk_cell BK184.out 1).trans rfl
                  have hcz73_2 : w72.cell? ⟨gb184, 2, none⟩ = some (.slice A0_2 l0_2.length c0_2) := (blk_cell BK184.out 2).trans rfl
                  have hfz73_0 := blk_frozen BK184.out 0; have hfz73_1 := blk_frozen BK184.out 1; have hfz73_2 := blk_frozen BK184.out 2
                  try go_wp2_with (first | ((with_reducible refine gate_builtin (b := .append) (xs := #[.tmp 72, .tmp 74]) rfl ?_); at_builtin; refine Kd.R_append (Kd.int .i64) (w0 := w) w.heap.size rfl (.tmp 72) (.tmp 74) 22 2 (.int .i64 0) 8 rfl Try.underlying22 info2 rfl (by decide) (by omega) u8 x8_1 x9_1 [.int .i64 x9_1] (fun k_ => some k_ ≠ (v187 : Value).ownBlock ∧ some k_ ≠ (v190 : Value).ownBlock) (fun _ => False) rfl rfl ?aP (fun _ hk => hk.elim) ?aF ?aO ?aB ?aS ?aL ?_; (case aP => exact rfl); (case aB => exact (by repeat (first | (with_reducible first | exact HB.out | apply below_alloc | apply pw_below_drewN | apply below_drew1 | refine below_set ?_ GE184.out) | exact HB.out))); (case aF => exact (fun k_ hk => ⟨Kd.fresh' (rLt_ HO_5) k_ hk, Kd.fresh' (rLt_ HO_6) k_ hk⟩)); (case aO => exact (rT_ HO_8)); (case aS => exact (below_size (by repeat (first | (with_reducible first | exact HB.out | apply below_alloc | apply pw_below_drewN | apply below_drew1 | refine below_set ?_ GE184.out) | exact HB.out)))); (case aL => have := LMc63.out; omega); intro v213 w74 ho hb hg hat; rw [← Ny212.out] at ho; replace HO_5 := Aside0.mk (Kd.R_after (ok := (fun k_ => some k_ ≠ (v190 : Value).ownBlock)) (rT_ HO_5) hg hat); replace HO_6 := Aside0.mk (Kd.R_after (ok := (fun k_ => some k_ ≠ (v187 : Value).ownBlock)) (rT_ HO_6) hg hat); replace HO_7 := Aside0.mk (Kd.R_over' (rT_ HO_7) (Kd.R_typed (rT_ HO_8)) (by decide) hg); replace BK184 := Aside0.mk (blk_grown (g := gb184) (o := .cells #[.int .i64 a0_0, .int .i64 a0_1, .slice A0_2 l0_2.length c0_2] 62 (0, 0)) (bT_ BK184) hg (Kd.R_ne HO_8.out BK184.out (by decide))); replace HB := Aside0.mk (hb); have HO214 := Aside0.mk (ho); clear HO_8; clear ho hb hg hat; have hcz75_0 : w74.cell? ⟨gb184, 0, none⟩ = some (.int .i64 a0_0) := (blk_cell BK184.out 0).trans rfl; have hcz75_1 : w74.cell? ⟨gb184, 1, none⟩ = some (.int .i64 a0_1) := (blk_cell BK184.out 1).trans rfl; have hcz75_2 : w74.cell? ⟨gb184, 2, none⟩ = some (.slice A0_2 l0_2.length c0_2) := (blk_cell BK184.out 2).trans rfl; have hfz75_0 := blk_frozen BK184.out 0; have hfz75_1 := blk_frozen BK184.out 1; have hfz75_2 := blk_frozen BK184.out 2; have p215 : 0 ≤ (x9_1 : Int) := of_decide_eq_true (by first | (with_reducible assumption) | assumption); have q215 : x9_1 < (l0_2.length : Int) := of_decide_eq_true (by first | (with_reducible assumption) | assumption); obtain ⟨ad215, e215, hx215_0⟩ := Kd.at_int HR0_2.out x9_1 p215 q215; cases e215; replace hx215_0 := (HB.out.cell (World.block_lt_of_cell? w _ hx215_0)).trans hx215_0; replace p215 := eq_true p215; replace q215 := eq_true q215; have p67 : 0 ≤ (x9_1 : Int) := of_decide_eq_true (by first | (with_reducible assumption) | assumption); have q67 : (x9_1 : Int) < ((x7_1.length : Int) : Int) := of_decide_eq_true (by first | (with_reducible assumption) | assumption); obtain ⟨go67, co67, eo67, gb67, gl67, cl67, HG67⟩ := Kd.R_form HO_7.out (by omega); (first | cases eo67 | (injection eo67 with ea_ en_ ec_; (first | subst ea_ | (injection ea_ with ea_; subst ea_)); subst ec_; clear en_)); have GB67 := Aside0.mk gb67; have GG67 := Aside0.mk HG67; clear gb67 gl67 HG67; obtain ⟨hx67_0, hf67_0⟩ := Kd.R_celln false HO_7.out (x9_1 : Int) p67 q67; replace p67 := eq_true p67; replace q67 := eq_true q67; obtain ⟨hy76_, hz76_⟩ := Kd.R_celln false HO_7.out (x9_1 : Int) (of_decide_eq_true (by first | (with_reducible assumption) | assumption)) (of_decide_eq_true (by first | (with_reducible assumption) | assumption)); have HP76 := Kd.R_putg HO_7.out (x9_1 : Int) true) | ((with_reducible refine gate_store (t := 4) (p := 87) rfl ?_); refine store_event (t := 4) (p := 87) (v := ?vo_w77) (w1 := (w74.setCell ⟨go67, (x9_1 : Int).toNat, none⟩ (.bool true))) ?hg ?ho ?hn ?hr ?_; (case ho => rfl); (case hg => rfl); (case hn => rfl); (case hr => first | (go_simp; done) | (go_simp; rfl)); intro w77 hw; have hg : w74.grownBy w77 (some go67) := (by rw [hw]; exact HP76.2); have hp_ : Kd.R Kd.bool 4 w77 w.heap.size (fun _ => True) (.slice (some ⟨go67, 0, none⟩) x7_1.length co67) y216 := (by rw [hw, Ny216.out]; exact HP76.1); clear HP76; replace HO_5 := Aside0.mk (Kd.R_over' (v := (.slice (some ⟨go67, 0, none⟩) x7_1.length co67)) (rT_ HO_5) (Kd.R_typed HO_7.out) (by decide) hg); replace HO_6 := Aside0.mk (Kd.R_over' (v := (.slice (some ⟨go67, 0, none⟩) x7_1.length co67)) (rT_ HO_6) (Kd.R_typed HO_7.out) (by decide) hg); replace BK184 := Aside0.mk (blk_grown (g := gb184) (o := .cells #[.int .i64 a0_0, .int .i64 a0_1, .slice (some ad215) l0_2.length c0_2] 62 (0, 0)) (bT_ BK184) hg (Kd.R_ne HO_7.out BK184.out (by decide))); replace HO214 := Aside0.mk (Kd.R_over' (v := (.slice (some ⟨go67, 0, none⟩) x7_1.length co67)) (rT_ HO214) (Kd.R_typed HO_7.out) (by decide) hg); replace HO_7 := Aside0.mk (hp_); replace HB := Aside0.mk ((by rw [hw]; exact below_set (HB.out) GB67.out : Below w.heap.size w w77)); clear hg hw hp_; have p69 : 0 ≤ (x9_1 : Int) := of_decide_eq_true (by first | (with_reducible assumption) | assumption); have q69 : (x9_1 : Int) < ((x5_1.length : Int) : Int) := of_decide_eq_true (by first | (with_reducible assumption) | assumption); obtain ⟨go69, co69, eo69, gb69, gl69, cl69, HG69⟩ := Kd.R_form HO_5.out (by omega); (first | cases eo69 | (injection eo69 with ea_ en_ ec_; (first | subst ea_ | (injection ea_ with ea_; subst ea_)); subst ec_; clear en_)); have GB69 := Aside0.mk gb69; have GG69 := Aside0.mk HG69; clear gb69 gl69 HG69; obtain ⟨hx69_0, hf69_0⟩ := Kd.R_celln 0 HO_5.out (x9_1 : Int) p69 q69; replace p69 := eq_true p69; replace q69 := eq_true q69; obtain ⟨hy78_, hz78_⟩ := Kd.R_celln 0 HO_5.out (x9_1 : Int) (of_decide_eq_true (by first | (with_reducible assumption) | assumption)) (of_decide_eq_true (by first | (with_reducible assumption) | assumption)); have HP78 := Kd.R_putg HO_5.out (x9_1 : Int) (rd l0_2 x9_1)) | ((with_reducible refine gate_store (t := 2) (p := 88) rfl ?_); refine store_event (t := 2) (p := 88) (v := ?vo_w79) (w1 := (w77.setCell ⟨go69, (x9_1 : Int).toNat, none⟩ (.int .i64 (rd l0_2 x9_1)))) ?hg ?ho ?hn ?hr ?_; (case ho => rfl); (case hg => rfl); (case hn => rfl); (case hr => first | (go_simp; done) | (go_simp; rfl)); intro w79 hw; have hg : w77.grownBy w79 (some go69) := (by rw [hw]; exact HP78.2); have hp_ : Kd.R (Kd.int .i64) 2 w79 w.heap.size (fun k_ => some k_ ≠ (v190 : Value).ownBlock ∧ some k_ ≠ (v213 : Value).ownBlock) (.slice (some ⟨go69, 0, none⟩) x5_1.length co69) y217 := (by rw [hw, Ny217.out]; exact HP78.1); clear HP78; replace HO_6 := Aside0.mk (Kd.R_after (v := (.slice (some ⟨go69, 0, none⟩) x5_1.length co69)) (v1 := (.slice (some ⟨go69, 0, none⟩) x5_1.length co69)) (ok := (fun k_ => some k_ ≠ (v213 : Value).ownBlock)) (rM_ HO_6) hg (.inl rfl)); replace HO_7 := Aside0.mk (Kd.R_over' (v := (.slice (some ⟨go69, 0, none⟩) x5_1.length co69)) (rT_ HO_7) (Kd.R_typed HO_5.out) (by decide) hg); replace BK184 := Aside0.mk (blk_grown (g := gb184) (o := .cells #[.int .i64 a0_0, .int .i64 a0_1, .slice (some ad215) l0_2.length c0_2] 62 (0, 0)) (bT_ BK184) hg (Kd.R_ne HO_5.out BK184.out (by decide))); replace HO_5 := Aside0.mk (hp_); replace HO214 := Aside0.mk (Kd.R_after (v := (.slice (some ⟨go69, 0, none⟩) x5_1.length co69)) (v1 := (.slice (some ⟨go69, 0, none⟩) x5_1.length co69)) (ok := (fun k_ => some k_ ≠ (v190 : Value).ownBlock)) (rM_ HO214) hg (.inl rfl)); replace HB := Aside0.mk ((by rw [hw]; exact below_set (HB.out) GB69.out : Below w.heap.size w w79)); clear hg hw hp_; have p71 : 0 ≤ (x9_1 : Int) := of_decide_eq_true (by first | (with_reducible assumption) | assumption); have q71 : (x9_1 : Int) < ((x6_1.length : Int) : Int) := of_decide_eq_true (by first | (with_reducible assumption) | assumption); obtain ⟨go71, co71, eo71, gb71, gl71, cl71, HG71⟩ := Kd.R_form HO_6.out (by omega); (first | cases eo71 | (injection eo71 with ea_ en_ ec_; (first | subst ea_ | (injection ea_ with ea_; subst ea_)); subst ec_; clear en_)); have GB71 := Aside0.mk gb71; have GG71 := Aside0.mk HG71; clear gb71 gl71 HG71; obtain ⟨hx71_0, hf71_0⟩ := Kd.R_celln 0 HO_6.out (x9_1 : Int) p71 q71; replace p71 := eq_true p71; replace q71 := eq_true q71; obtain ⟨hy80_, hz80_⟩ := Kd.R_celln 0 HO_6.out (x9_1 : Int) (of_decide_eq_true (by first | (with_reducible assumption) | assumption)) (of_decide_eq_true (by first | (with_reducible assumption) | assumption)); have HP80 := Kd.R_putg HO_6.out (x9_1 : Int) (-1)) | ((with_reducible refine gate_store (t := 2) (p := 89) rfl ?_); refine store_event (t := 2) (p := 89) (v := ?vo_w81) (w1 := (w79.setCell ⟨go71, (x9_1 : Int).toNat, none⟩ (.int .i64 (-1)))) ?hg ?ho ?hn ?hr ?_; (case ho => rfl); (case hg => rfl); (case hn => rfl); (case hr => first | (go_simp; done) | (go_simp; rfl)); intro w81 hw; have hg : w79.grownBy w81 (some go71) := (by rw [hw]; exact HP80.2); have hp_ : Kd.R (Kd.int .i64) 2 w81 w.heap.size (fun k_ => some k_ ≠ (v213 : Value).ownBlock ∧ some k_ ≠ (.slice (some ⟨go69, 0, none⟩) x5_1.length co69 : Value).ownBlock) (.slice (some ⟨go71, 0, none⟩) x6_1.length co71) y218 := (by rw [hw, Ny218.out]; exact HP80.1); clear HP80; replace HO_5 := Aside0.mk (Kd.R_after (v := (.slice (some ⟨go71, 0, none⟩) x6_1.length co71)) (v1 := (.slice (some ⟨go71, 0, none⟩) x6_1.length co71)) (ok := (fun k_ => some k_ ≠ (v213 : Value).ownBlock)) (rM_ HO_5) hg (.inl rfl)); replace HO_7 := Aside0.mk (Kd.R_over' (v := (.slice (some ⟨go71, 0, none⟩) x6_1.length co71)) (rT_ HO_7) (Kd.R_typed HO_6.out) (by decide) hg); replace BK184 := Aside0.mk (blk_grown (g := gb184) (o := .cells #[.int .i64 a0_0, .int .i64 a0_1, .slice (some ad215) l0_2.length c0_2] 62 (0, 0)) (bT_ BK184) hg (Kd.R_ne HO_6.out BK184.out (by decide))); replace HO_6 := Aside0.mk (hp_); replace HO214 := Aside0.mk (Kd.R_after (v := (.slice (some ⟨go71, 0, none⟩) x6_1.length co71)) (v1 := (.slice (some ⟨go71, 0, none⟩) x6_1.length co71)) (ok := (fun k_ => some k_ ≠ (.slice (some ⟨go69, 0, none⟩) x5_1.length co69 : Value).ownBlock)) (rM_ HO214) hg (.inl rfl)); replace HB := Aside0.mk ((by rw [hw]; exact below_set (HB.out) GB71.out : Below w.heap.size w w81)); clear hg hw hp_))
                  go_roundg k1
                  case measure => have := HK1.out; omega
                  case rel => exact ⟨(y217), (y218), (y216), (y212), (wrap64 (x9_1 + 1)), (by first | rfl | (simp; done) | (simp [*]; done)), H', ⟨by have := HK1.out; omega⟩, ⟨by (with_reducible repeat (first | apply Kd.R_alloc | apply Kd.R_drewN | apply Kd.R_drew)); exact Kd.R_mono HO_5.out (fun _ hk => ⟨hk.2, hk.1⟩)⟩, ⟨by (with_reducible repeat (first | apply Kd.R_alloc | apply Kd.R_drewN | apply Kd.R_drew)); exact Kd.R_mono HO_6.out (fun _ hk => ⟨hk.2, hk.1⟩)⟩, ⟨by (with_reducible repeat (first | apply Kd.R_alloc | apply Kd.R_drewN | apply Kd.R_drew)); exact HO_7.out⟩, ⟨by (with_reducible repeat (first | apply Kd.R_alloc | apply Kd.R_drewN | apply Kd.R_drew)); exact HO214.out⟩, ⟨by exact bT_ BK184⟩, ⟨by repeat (first | (with_reducible first | exact HB.out | apply below_alloc | apply pw_below_drewN | apply below_drew1 | refine below_set ?_ GE184.out) | exact HB.out)⟩⟩
                 ·rw [if_neg c70] at H
                  exact absurd H (by simp)
                ·rw [if_neg c68] at H
                 exact absurd H (by simp)
               ·rw [if_neg c66] at H
                exact absurd H (by simp)
              ·rw [if_neg c65] at H
               exact absurd H (by simp)
             ·rw [if_neg c64] at H
              exact absurd H (by simp)
            ·rw [if_neg c63] at H
             exact absurd H (by simp)
           ·rw [if_neg c62] at H
            have c62b0 : ((wrap64 (Int.tdiv x9_1 a0_1)) == (wrap64 (a0_0 - 1))) = false := beq_eq_false_iff_ne.mpr c62
            have c62b1 : ((wrap64 (Int.tdiv x9_1 a0_1)) != (wrap64 (a0_0 - 1))) = true := bne_iff_ne.mpr c62
            by_cases c82 : (Int.tmod x9_1 a0_1) = (wrap64 (a0_1 - 1))
            ·rw [if_pos c82] at H
             have c82b0 : ((Int.tmod x9_1 a0_1) == (wrap64 (a0_1 - 1))) = true := beq_iff_eq.mpr c82
             have c82b1 : ((Int.tmod x9_1 a0_1) != (wrap64 (a0_1 - 1))) = false := bne_eq_false_iff_eq.mpr c82
             clear c82
             by_cases c83 : x8_1.length < 17592186044416
             ·rw [if_pos c83] at H
              have LMc83 := Aside0.mk c83; clear c83
              obtain ⟨y219, hy219⟩ : ∃ y_ : List Int, y_ = (x8_1 ++ [x9_1]) := ⟨_, rfl⟩
              replace H : (if 0 ≤ x9_1 then (if x9_1 < (l0_2.length : Int) then (if x9_1 < (x7_1.length : Int) then (if x9_1 < (x5_1.length : Int) then (if x9_1 < (x6_1.length : Int) then (impl_Drain.l0 k1 ji4 (x5_1.set (x9_1 : Int).toNat (rd l0_2 x9_1)) (x6_1.set (x9_1 : Int).toNat (-1)) (x7_1.set (x9_1 : Int).toNat true) y219 (wrap64 (x9_1 + 1)) a0_0 a0_1 l0_2) else (none)) else (none)) else (none)) else (none)) else (none)) = some (r1, r2) := by first | (rw [hy219]; with_reducible exact H) | (have H2_ := (Option.bind_some _ _).symm.trans H; rw [hy219]; with_reducible exact H2_) | (have H2_ := (Option.bind_some _ _).symm.trans H; with_reducible exact H2_) | with_reducible exact H | (rw [hy219]; exact H) | exact H
              have Ny219 := Aside0.mk hy219; clear hy219
              by_cases c84 : 0 ≤ x9_1
              ·rw [if_pos c84] at H
               have c84b0 : decide (0 ≤ x9_1) = true := decide_eq_true c84
               clear c84
               by_cases c85 : x9_1 < (l0_2.length : Int)
               ·rw [if_pos c85] at H
                have c85b0 : decide (x9_1 < (l0_2.length : Int)) = true := decide_eq_true c85
                clear c85
                by_cases c86 : x9_1 < (x7_1.length : Int)
                ·rw [if_pos c86] at H
                 have c86b0 : decide (x9_1 < (x7_1.length : Int)) = true := decide_eq_true c86
                 clear c86
                 obtain ⟨y223, hy223⟩ : ∃ y_ : List Bool, y_ = (x7_1.set (x9_1 : Int).toNat true) := ⟨_, rfl⟩
                 replace H : (if x9_1 < (x5_1.length : Int) then (if x9_1 < (x6_1.length : Int) then (impl_Drain.l0 k1 ji4 (x5_1.set (x9_1 : Int).toNat (rd l0_2 x9_1)) (x6_1.set (x9_1 : Int).toNat (-1)) y223 y219 (wrap64 (x9_1 + 1)) a0_0 a0_1 l0_2) else (none)) else (none)) = some (r1, r2) := by first | (rw [hy223]; with_reducible exact H) | (have H2_ := (Option.bind_some _ _).symm.trans H; rw [hy223]; with_reducible exact H2_) | (have H2_ := (Option.bind_some _ _).symm.trans H; with_reducible exact H2_) | with_reducible exact H | (rw [hy223]; exact H) | exact H
                 have Ny223 := Aside0.mk hy223; clear hy223
                 by_cases c88 : x9_1 < (x5_1.length : Int)
                 ·rw [if_pos c88] at H
                  have c88b0 : decide (x9_1 < (x5_1.length : Int)) = true := decide_eq_true c88
                  clear c88
                  obtain ⟨y224, hy224⟩ : ∃ y_ : List Int, y_ = (x5_1.set (x9_1 : Int).toNat (rd l0_2 x9_1)) := ⟨_, rfl⟩
                  replace H : (if x9_1 < (x6_1.length : Int) then (impl_Drain.l0 k1 ji4 y224 (x6_1.set (x9_1 : Int).toNat (-1)) y223 y219 (wrap64 (x9_1 + 1)) a0_0 a0_1 l0_2) else (none)) = some (r1, r2) := by first | (rw [hy224]; with_reducible exact H) | (have H2_ := (Option.bind_some _ _).symm.trans H; rw [hy224]; with_reducible exact H2_) | (have H2_ := (Option.bind_some _ _).symm.trans H; with_reducible exact H2_) | with_reducible exact H | (rw [hy224]; exact H) | exact H
                  have Ny224 := Aside0.mk hy224; clear hy224
                  by_cases c90 : x9_1 < (x6_1.length : Int)
                  ·rw [if_pos c90] at H
                   have c90b0 : decide (x9_1 < (x6_1.length : Int)) = true := decide_eq_true c90
                   clear c90
                   obtain ⟨y225, hy225⟩ : ∃ y_ : List Int, y_ = (x6_1.set (x9_1 : Int).toNat (-1)) := ⟨_, rfl⟩
                   replace H : (impl_Drain.l0 k1 ji4 y224 y225 y223 y219 (wrap64 (x9_1 + 1)) a0_0 a0_1 l0_2) = some (r1, r2) := by first | (rw [hy225]; with_reducible exact H) | (have H2_ := (Option.bind_some _ _).symm.trans H; rw [hy225]; with_reducible exact H2_) | (have H2_ := (Option.bind_some _ _).symm.trans H; with_reducible exact H2_) | with_reducible exact H | (rw [hy225]; exact H) | exact H
                   have Ny225 := Aside0.mk hy225; clear hy225; have H' := Aside0.mk H; clear H
                   try go_wp2
                   replace HO_5 := Aside0.mk (Kd.R_drew HO_5.out)
                   replace HO_6 := Aside0.mk (Kd.R_drew HO_6.out)
                   replace HO_7 := Aside0.mk (Kd.R_drew HO_7.out)
                   replace HO_8 := Aside0.mk (Kd.R_drew HO_8.out)
                   replace BK184 := Aside0.mk (blk_drew BK184.out)
                   replace HB := Aside0.mk (below_drew1 HB.out)
                   refine start_ (n := 10) (S := fun w' => w'.cell? ⟨gb184, 0, none⟩ = some (.int .i64 a0_0) ∧ w'.cell? ⟨gb184, 1, none⟩ = some (.int .i64 a0_1) ∧ w'.cell? ⟨gb184, 2, none⟩ = some (.slice A0_2 l0_2.length c0_2)) (ds := []) #[false, false, false, false, false, false, false, false, false, false] (by kernel_rfl) rfl rfl ⟨(blk_cell BK184.out 0).trans rfl, (blk_cell BK184.out 1).trans rfl, (blk_cell BK184.out 2).trans rfl⟩ (fun hHeld => ?_); refine with_tabW impl_Drain.tab10 impl_Drain.bits10 (fun HT_ HW_ => ?_)
                   generalize wr.drew = w92 at HO_5 HO_6 HO_7 HO_8 BK184 HB hHeld ⊢
                   refine pT_ 0 (some 44) #[true, false, false, false, false, false, false, false, false, false] HT_ ?_
                   refine pT_ 1 (some 45) #[true, true, false, false, false, false, false, false, false, false] HT_ ?_
                   refine pT_ 4 (some 48) #[true, true, false, false, true, false, false, false, false, false] HT_ ?_
                   refine pT_ 5 (some 49) #[true, true, false, false, true, true, false, false, false, false] HT_ ?_
                   refine tT_ 2 (some 46) #[true, true, true, false, true, true, false, false, false, false] HT_ HW_ hHeld ?_ (hy := by rintro w' ⟨s0, s1, s2⟩; go_simp; with_reducible rfl)
                   refine pT_ 3 (some 47) #[true, true, true, true, true, true, false, false, false, false] HT_ ?_
                   refine pT_ 8 (some 10) #[true, true, true, true, true, true, false, false, true, false] HT_ ?_
                   refine tT_ 6 (some 50) #[true, true, true, true, true, true, true, false, true, false] HT_ HW_ hHeld ?_ (hy := by rintro w' ⟨s0, s1, s2⟩; go_simp; with_reducible rfl)
                   refine pT_ 7 (some 51) #[true, true, true, true, true, true, true, true, true, false] HT_ ?_
                   refine pT_ 9 (some 11) #[true, true, true, true, true, true, true, true, true, true] HT_ ?_
                   refine done_ (done_of HT_.out (by kernel_rfl)) ?_
                   have hcz93_0 : w92.cell? ⟨gb184, 0, none⟩ = some (.int .i64 a0_0) := (blk_cell BK184.out 0).trans rfl
                   have hcz93_1 : w92.cell? ⟨gb184, 1, none⟩ = some (.int .i64 a0_1) := (blk_cell BK184.out 1).trans rfl
                   have hcz93_2 : w92.cell? ⟨gb184, 2, none⟩ = some (.slice A0_2 l0_2.length c0_2) := (blk_cell BK184.out 2).trans rfl
                   have hfz93_0 := blk_frozen BK184.out 0; have hfz93_1 := blk_frozen BK184.out 1; have hfz93_2 := blk_frozen BK184.out 2
                   try go_wp2_with (first | ((with_reducible refine gate_builtin (b := .append) (xs := #[.tmp 72, .tmp 74]) rfl ?_); at_builtin; refine Kd.R_append (Kd.int .i64) (w0 := w) w.heap.size rfl (.tmp 72) (.tmp 74) 22 2 (.int .i64 0) 8 rfl Try.underlying22 info2 rfl (by decide) (by omega) u8 x8_1 x9_1 [.int .i64 x9_1] (fun k_ => some k_ ≠ (v187 : Value).ownBlock ∧ some k_ ≠ (v190 : Value).ownBlock) (fun _ => False) rfl rfl ?aP (fun _ hk => hk.elim) ?aF ?aO ?aB ?aS ?aL ?_; (case aP => exact rfl); (case aB => exact (by repeat (first | (with_reducible first | exact HB.out | apply below_alloc | apply pw_below_drewN | apply below_drew1 | refine below_set ?_ GE184.out) | exact HB.out))); (case aF => exact (fun k_ hk => ⟨Kd.fresh' (rLt_ HO_5) k_ hk, Kd.fresh' (rLt_ HO_6) k_ hk⟩)); (case aO => exact (rT_ HO_8)); (case aS => exact (below_size (by repeat (first | (with_reducible first | exact HB.out | apply below_alloc | apply pw_below_drewN | apply below_drew1 | refine below_set ?_ GE184.out) | exact HB.out)))); (case aL => have := LMc83.out; omega); intro v220 w94 ho hb hg hat; rw [← Ny219.out] at ho; replace HO_5 := Aside0.mk (Kd.R_after (ok := (fun k_ => some k_ ≠ (v190 : Value).ownBlock)) (rT_ HO_5) hg hat); replace HO_6 := Aside0.mk (Kd.R_after (ok := (fun k_ => some k_ ≠ (v187 : Value).ownBlock)) (rT_ HO_6) hg hat); replace HO_7 := Aside0.mk (Kd.R_over' (rT_ HO_7) (Kd.R_typed (rT_ HO_8)) (by decide) hg); replace BK184 := Aside0.mk (blk_grown (g := gb184) (o := .cells #[.int .i64 a0_0, .int .i64 a0_1, .slice A0_2 l0_2.length c0_2] 62 (0, 0)) (bT_ BK184) hg (Kd.R_ne HO_8.out BK184.out (by decide))); replace HB := Aside0.mk (hb); have HO221 := Aside0.mk (ho); clear HO_8; clear ho hb hg hat; have hcz95_0 : w94.cell? ⟨gb184, 0, none⟩ = some (.int .i64 a0_0) := (blk_cell BK184.out 0).trans rfl; have hcz95_1 : w94.cell? ⟨gb184, 1, none⟩ = some (.int .i64 a0_1) := (blk_cell BK184.out 1).trans rfl; have hcz95_2 : w94.cell? ⟨gb184, 2, none⟩ = some (.slice A0_2 l0_2.length c0_2) := (blk_cell BK184.out 2).trans rfl; have hfz95_0 := blk_frozen BK184.out 0; have hfz95_1 := blk_frozen BK184.out 1; have hfz95_2 := blk_frozen BK184.out 2; have p222 : 0 ≤ (x9_1 : Int) := of_decide_eq_true (by first | (with_reducible assumption) | assumption); have q222 : x9_1 < (l0_2.length : Int) := of_decide_eq_true (by first | (with_reducible assumption) | assumption); obtain ⟨ad222, e222, hx222_0⟩ := Kd.at_int HR0_2.out x9_1 p222 q222; cases e222; replace hx222_0 := (HB.out.cell (World.block_lt_of_cell? w _ hx222_0)).trans hx222_0; replace p222 := eq_true p222; replace q222 := eq_true q222; have p87 : 0 ≤ (x9_1 : Int) := of_decide_eq_true (by first | (with_reducible assumption) | assumption); have q87 : (x9_1 : Int) < ((x7_1.length : Int) : Int) := of_decide_eq_true (by first | (with_reducible assumption) | assumption); obtain ⟨go87, co87, eo87, gb87, gl87, cl87, HG87⟩ := Kd.R_form HO_7.out (by omega); (first | cases eo87 | (injection eo87 with ea_ en_ ec_; (first | subst ea_ | (injection ea_ with ea_; subst ea_)); subst ec_; clear en_)); have GB87 := Aside0.mk gb87; have GG87 := Aside0.mk HG87; clear gb87 gl87 HG87; obtain ⟨hx87_0, hf87_0⟩ := Kd.R_celln false HO_7.out (x9_1 : Int) p87 q87; replace p87 := eq_true p87; replace q87 := eq_true q87; obtain ⟨hy96_, hz96_⟩ := Kd.R_celln false HO_7.out (x9_1 : Int) (of_decide_eq_true (by first | (with_reducible assumption) | assumption)) (of_decide_eq_true (by first | (with_reducible assumption) | assumption)); have HP96 := Kd.R_putg HO_7.out (x9_1 : Int) true) | ((with_reducible refine gate_store (t := 4) (p := 87) rfl ?_); refine store_event (t := 4) (p := 87) (v := ?vo_w97) (w1 := (w94.setCell ⟨go87, (x9_1 : Int).toNat, none⟩ (.bool true))) ?hg ?ho ?hn ?hr ?_; (case ho => rfl); (case hg => rfl); (case hn => rfl); (case hr => first | (go_simp; done) | (go_simp; rfl)); intro w97 hw; have hg : w94.grownBy w97 (some go87) := (by rw [hw]; exact HP96.2); have hp_ : Kd.R Kd.bool 4 w97 w.heap.size (fun _ => True) (.slice (some ⟨go87, 0, none⟩) x7_1.length co87) y223 := (by rw [hw, Ny223.out]; exact HP96.1); clear HP96; replace HO_5 := Aside0.mk (Kd.R_over' (v := (.slice (some ⟨go87, 0, none⟩) x7_1.length co87)) (rT_ HO_5) (Kd.R_typed HO_7.out) (by decide) hg); replace HO_6 := Aside0.mk (Kd.R_over' (v := (.slice (some ⟨go87, 0, none⟩) x7_1.length co87)) (rT_ HO_6) (Kd.R_typed HO_7.out) (by decide) hg); replace BK184 := Aside0.mk (blk_grown (g := gb184) (o := .cells #[.int .i64 a0_0, .int .i64 a0_1, .slice (some ad222) l0_2.length c0_2] 62 (0, 0)) (bT_ BK184) hg (Kd.R_ne HO_7.out BK184.out (by decide))); replace HO221 := Aside0.mk (Kd.R_over' (v := (.slice (some ⟨go87, 0, none⟩) x7_1.length co87)) (rT_ HO221) (Kd.R_typed HO_7.out) (by decide) hg); replace HO_7 := Aside0.mk (hp_); replace HB := Aside0.mk ((by rw [hw]; exact below_set (HB.out) GB87.out : Below w.heap.size w w97)); clear hg hw hp_; have p89 : 0 ≤ (x9_1 : Int) := of_decide_eq_true (by first | (with_reducible assumption) | assumption); have q89 : (x9_1 : Int) < ((x5_1.length : Int) : Int) := of_decide_eq_true (by first | (with_reducible assumption) | assumption); obtain ⟨go89, co89, eo89, gb89, gl89, cl89, HG89⟩ := Kd.R_form HO_5.out (by omega); (first | cases eo89 | (injection eo89 with ea_ en_ ec_; (first | subst ea_ | (injection ea_ with ea_; subst ea_)); subst ec_; clear en_)); have GB89 := Aside0.mk gb89; have GG89 := Aside0.mk HG89; clear gb89 gl89 HG89; obtain ⟨hx89_0, hf89_0⟩ := Kd.R_celln 0 HO_5.out (x9_1 : Int) p89 q89; replace p89 := eq_true p89; replace q89 := eq_true q89; obtain ⟨hy98_, hz98_⟩ := Kd.R_celln 0 HO_5.out (x9_1 : Int) (of_decide_eq_true (by first | (with_reducible assumption) | assumption)) (of_decide_eq_true (by first | (with_reducible assumption) | assumption)); have HP98 := Kd.R_putg HO_5.out (x9_1 : Int) (rd l0_2 x9_1)) | ((with_reducible refine gate_store (t := 2) (p := 88) rfl ?_); refine store_event (t := 2) (p := 88) (v := ?vo_w99) (w1 := (w97.setCell ⟨go89, (x9_1 : Int).toNat, none⟩ (.int .i64 (rd l0_2 x9_1)))) ?hg ?ho ?hn ?hr ?_; (case ho => rfl); (case hg => rfl); (case hn => rfl); (case hr => first | (go_simp; done) | (go_simp; rfl)); intro w99 hw; have hg : w97.grownBy w99 (some go89) := (by rw [hw]; exact HP98.2); have hp_ : Kd.R (Kd.int .i64) 2 w99 w.heap.size (fun k_ => some k_ ≠ (v190 : Value).ownBlock ∧ some k_ ≠ (v220 : Value).ownBlock) (.slice (some ⟨go89, 0, none⟩) x5_1.length co89) y224 := (by rw [hw, Ny224.out]; exact HP98.1); clear HP98; replace HO_6 := Aside0.mk (Kd.R_after (v := (.slice (some ⟨go89, 0, none⟩) x5_1.length co89)) (v1 := (.slice (some ⟨go89, 0, none⟩) x5_1.length co89)) (ok := (fun k_ => some k_ ≠ (v220 : Value).ownBlock)) (rM_ HO_6) hg (.inl rfl)); replace HO_7 := Aside0.mk (Kd.R_over' (v := (.slice (some ⟨go89, 0, none⟩) x5_1.length co89)) (rT_ HO_7) (Kd.R_typed HO_5.out) (by decide) hg); replace BK184 := Aside0.mk (blk_grown (g := gb184) (o := .cells #[.int .i64 a0_0, .int .i64 a0_1, .slice (some ad222) l0_2.length c0_2] 62 (0, 0)) (bT_ BK184) hg (Kd.R_ne HO_5.out BK184.out (by decide))); replace HO_5 := Aside0.mk (hp_); replace HO221 := Aside0.mk (Kd.R_after (v := (.slice (some ⟨go89, 0, none⟩) x5_1.length co89)) (v1 := (.slice (some ⟨go89, 0, none⟩) x5_1.length co89)) (ok := (fun k_ => some k_ ≠ (v190 : Value).ownBlock)) (rM_ HO221) hg (.inl rfl)); replace HB := Aside0.mk ((by rw [hw]; exact below_set (HB.out) GB89.out : Below w.heap.size w w99)); clear hg hw hp_; have p91 : 0 ≤ (x9_1 : Int) := of_decide_eq_true (by first | (with_reducible assumption) | assumption); have q91 : (x9_1 : Int) < ((x6_1.length : Int) : Int) := of_decide_eq_true (by first | (with_reducible assumption) | assumption); obtain ⟨go91, co91, eo91, gb91, gl91, cl91, HG91⟩ := Kd.R_form HO_6.out (by omega); (first | cases eo91 | (injection eo91 with ea_ en_ ec_; (first | subst ea_ | (injection ea_ with ea_; subst ea_)); subst ec_; clear en_)); have GB91 := Aside0.mk gb91; have GG91 := Aside0.mk HG91; clear gb91 gl91 HG91; obtain ⟨hx91_0, hf91_0⟩ := Kd.R_celln 0 HO_6.out (x9_1 : Int) p91 q91; replace p91 := eq_true p91; replace q91 := eq_true q91; obtain ⟨hy100_, hz100_⟩ := Kd.R_celln 0 HO_6.out (x9_1 : Int) (of_decide_eq_true (by first | (with_reducible assumption) | assumption)) (of_decide_eq_true (by first | (with_reducible assumption) | assumption)); have HP100 := Kd.R_putg HO_6.out (x9_1 : Int) (-1)) | ((with_reducible refine gate_store (t := 2) (p := 89) rfl ?_); refine store_event (t := 2) (p := 89) (v := ?vo_w101) (w1 := (w99.setCell ⟨go91, (x9_1 : Int).toNat, none⟩ (.int .i64 (-1)))) ?hg ?ho ?hn ?hr ?_; (case ho => rfl); (case hg => rfl); (case hn => rfl); (case hr => first | (go_simp; done) | (go_simp; rfl)); intro w101 hw; have hg : w99.grownBy w101 (some go91) := (by rw [hw]; exact HP100.2); have hp_ : Kd.R (Kd.int .i64) 2 w101 w.heap.size (fun k_ => some k_ ≠ (v220 : Value).ownBlock ∧ some k_ ≠ (.slice (some ⟨go89, 0, none⟩) x5_1.length co89 : Value).ownBlock) (.slice (some ⟨go91, 0, none⟩) x6_1.length co91) y225 := (by rw [hw, Ny225.out]; exact HP100.1); clear HP100; replace HO_5 := Aside0.mk (Kd.R_after (v := (.slice (some ⟨go91, 0, none⟩) x6_1.length co91)) (v1 := (.slice (some ⟨go91, 0, none⟩) x6_1.length co91)) (ok := (fun k_ => some k_ ≠ (v220 : Value).ownBlock)) (rM_ HO_5) hg (.inl rfl)); replace HO_7 := Aside0.mk (Kd.R_over' (v := (.slice (some ⟨go91, 0, none⟩) x6_1.length co91)) (rT_ HO_7) (Kd.R_typed HO_6.out) (by decide) hg); replace BK184 := Aside0.mk (blk_grown (g := gb184) (o := .cells #[.int .i64 a0_0, .int .i64 a0_1, .slice (some ad222) l0_2.length c0_2] 62 (0, 0)) (bT_ BK184) hg (Kd.R_ne HO_6.out BK184.out (by decide))); replace HO_6 := Aside0.mk (hp_); replace HO221 := Aside0.mk (Kd.R_after (v := (.slice (some ⟨go91, 0, none⟩) x6_1.length co91)) (v1 := (.slice (some ⟨go91, 0, none⟩) x6_1.length co91)) (ok := (fun k_ => some k_ ≠ (.slice (some ⟨go89, 0, none⟩) x5_1.length co89 : Value).ownBlock)) (rM_ HO221) hg (.inl rfl)); replace HB := Aside0.mk ((by rw [hw]; exact below_set (HB.out) GB91.out : Below w.heap.size w w101)); clear hg hw hp_))
                   go_roundg k1
                   case measure => have := HK1.out; omega
                   case rel => exact ⟨(y224), (y225), (y223), (y219), (wrap64 (x9_1 + 1)), (by first | rfl | (simp; done) | (simp [*]; done)), H', ⟨by have := HK1.out; omega⟩, ⟨by (with_reducible repeat (first | apply Kd.R_alloc | apply Kd.R_drewN | apply Kd.R_drew)); exact Kd.R_mono HO_5.out (fun _ hk => ⟨hk.2, hk.1⟩)⟩, ⟨by (with_reducible repeat (first | apply Kd.R_alloc | apply Kd.R_drewN | apply Kd.R_drew)); exact Kd.R_mono HO_6.out (fun _ hk => ⟨hk.2, hk.1⟩)⟩, ⟨by (with_reducible repeat (first | apply Kd.R_alloc | apply Kd.R_drewN | apply Kd.R_drew)); exact HO_7.out⟩, ⟨by (with_reducible repeat (first | apply Kd.R_alloc | apply Kd.R_drewN | apply Kd.R_drew)); exact HO221.out⟩, ⟨by exact bT_ BK184⟩, ⟨by repeat (first | (with_reducible first | exact HB.out | apply below_alloc | apply pw_below_drewN | apply below_drew1 | refine below_set ?_ GE184.out) | exact HB.out)⟩⟩
                  ·rw [if_neg c90] at H
                   exact absurd H (by simp)
                 ·rw [if_neg c88] at H
                  exact absurd H (by simp)
                ·rw [if_neg c86] at H
                 exact absurd H (by simp)
               ·rw [if_neg c85] at H
                exact absurd H (by simp)
              ·rw [if_neg c84] at H
               exact absurd H (by simp)
             ·rw [if_neg c83] at H
              exact absurd H (by simp)
            ·rw [if_neg c82] at H
             have c82b0 : ((Int.tmod x9_1 a0_1) == (wrap64 (a0_1 - 1))) = false := beq_eq_false_iff_ne.mpr c82
             have c82b1 : ((Int.tmod x9_1 a0_1) != (wrap64 (a0_1 - 1))) = true := bne_iff_ne.mpr c82
             have H' := Aside0.mk H; clear H
             try go_wp2
             replace HO_5 := Aside0.mk (Kd.R_drew HO_5.out)
             replace HO_6 := Aside0.mk (Kd.R_drew HO_6.out)
             replace HO_7 := Aside0.mk (Kd.R_drew HO_7.out)
             replace HO_8 := Aside0.mk (Kd.R_drew HO_8.out)
             replace BK184 := Aside0.mk (blk_drew BK184.out)
             replace HB := Aside0.mk (below_drew1 HB.out)
             refine start_ (n := 10) (S := fun w' => w'.cell? ⟨gb184, 0, none⟩ = some (.int .i64 a0_0) ∧ w'.cell? ⟨gb184, 1, none⟩ = some (.int .i64 a0_1) ∧ w'.cell? ⟨gb184, 2, none⟩ = some (.slice A0_2 l0_2.length c0_2)) (ds := []) #[false, false, false, false, false, false, false, false, false, false] (by kernel_rfl) rfl rfl ⟨(blk_cell BK184.out 0).trans rfl, (blk_cell BK184.out 1).trans rfl, (blk_cell BK184.out 2).trans rfl⟩ (fun hHeld => ?_); refine with_tabW impl_Drain.tab10 impl_Drain.bits10 (fun HT_ HW_ => ?_)
             generalize wr.drew = w102 at HO_5 HO_6 HO_7 HO_8 BK184 HB hHeld ⊢
             refine pT_ 0 (some 44) #[true, false, false, false, false, false, false, false, false, false] HT_ ?_
             refine pT_ 1 (some 45) #[true, true, false, false, false, false, false, false, false, false] HT_ ?_
             refine pT_ 4 (some 48) #[true, true, false, false, true, false, false, false, false, false] HT_ ?_
             refine pT_ 5 (some 49) #[true, true, false, false, true, true, false, false, false, false] HT_ ?_
             refine tT_ 2 (some 46) #[true, true, true, false, true, true, false, false, false, false] HT_ HW_ hHeld ?_ (hy := by rintro w' ⟨s0, s1, s2⟩; go_simp; with_reducible rfl)
             refine pT_ 3 (some 47) #[true, true, true, true, true, true, false, false, false, false] HT_ ?_
             refine pT_ 8 (some 10) #[true, true, true, true, true, true, false, false, true, false] HT_ ?_
             refine tT_ 6 (some 50) #[true, true, true, true, true, true, true, false, true, false] HT_ HW_ hHeld ?_ (hy := by rintro w' ⟨s0, s1, s2⟩; go_simp; with_reducible rfl)
             refine pT_ 7 (some 51) #[true, true, true, true, true, true, true, true, true, false] HT_ ?_
             refine pT_ 9 (some 11) #[true, true, true, true, true, true, true, true, true, true] HT_ ?_
             refine done_ (done_of HT_.out (by kernel_rfl)) ?_
             have hcz103_0 : w102.cell? ⟨gb184, 0, none⟩ = some (.int .i64 a0_0) := (blk_cell BK184.out 0).trans rfl
             have hcz103_1 : w102.cell? ⟨gb184, 1, none⟩ = some (.int .i64 a0_1) := (blk_cell BK184.out 1).trans rfl
             have hcz103_2 : w102.cell? ⟨gb184, 2, none⟩ = some (.slice A0_2 l0_2.length c0_2) := (blk_cell BK184.out 2).trans rfl
             have hfz103_0 := blk_frozen BK184.out 0; have hfz103_1 := blk_frozen BK184.out 1; have hfz103_2 := blk_frozen BK184.out 2
             try go_wp2
             go_roundg k1
             case measure => have := HK1.out; omega
             case rel => exact ⟨(x5_1), (x6_1), (x7_1), (x8_1), (wrap64 (x9_1 + 1)), (by first | rfl | (simp; done) | (simp [*]; done)), H', ⟨by have := HK1.out; omega⟩, ⟨by (with_reducible repeat (first | apply Kd.R_alloc | apply Kd.R_drewN | apply Kd.R_drew)); exact HO_5.out⟩, ⟨by (with_reducible repeat (first | apply Kd.R_alloc | apply Kd.R_drewN | apply Kd.R_drew)); exact HO_6.out⟩, ⟨by (with_reducible repeat (first | apply Kd.R_alloc | apply Kd.R_drewN | apply Kd.R_drew)); exact HO_7.out⟩, ⟨by (with_reducible repeat (first | apply Kd.R_alloc | apply Kd.R_drewN | apply Kd.R_drew)); exact HO_8.out⟩, ⟨by exact bT_ BK184⟩, ⟨by repeat (first | (with_reducible first | exact HB.out | apply below_alloc | apply pw_below_drewN | apply below_drew1 | refine below_set ?_ GE184.out) | exact HB.out)⟩⟩
       ·rw [if_neg c22] at H
        have c22b0 : decide (x9_1 < ji4) = false := decide_eq_false c22
        clear c22; have H' := Aside0.mk H; clear H
        go_wp2
        go_loopg [8] k1 (fun kq v8 w' => ∃ (x5_2 : List Int) (x6_2 : List Int) (x7_2 : List Bool) (x8_2 : List Int), Aside0 (impl_Drain.l1 kq x5_2 x6_2 x7_2 x8_2 a0_0 a0_1 l0_2 = some (r1, r2)) ∧ Aside0 (kq ≤ k1) ∧ Aside0 (Kd.R (Kd.int .i64) 2 w' w.heap.size (fun k_ => some k_ ≠ (v190 : Value).ownBlock ∧ some k_ ≠ (v8 : Value).ownBlock) v187 x5_2) ∧ Aside0 (Kd.R (Kd.int .i64) 2 w' w.heap.size (fun k_ => some k_ ≠ (v187 : Value).ownBlock ∧ some k_ ≠ (v8 : Value).ownBlock) v190 x6_2) ∧ Aside0 (Kd.R Kd.bool 4 w' w.heap.size (fun _ => True) v193 x7_2) ∧ Aside0 (Kd.R (Kd.int .i64) 2 w' w.heap.size (fun k_ => some k_ ≠ (v187 : Value).ownBlock ∧ some k_ ≠ (v190 : Value).ownBlock) v8 x8_2) ∧ Aside0 (w'.heap[gb184]? = some (.cells #[.int .i64 a0_0, .int .i64 a0_1, (.slice A0_2 l0_2.length c0_2)] 62 (0, 0))) ∧ Aside0 (Below w.heap.size w w'))
        case atStart => exact ⟨(x5_1), (x6_1), (x7_1), (x8_1), H', ⟨Nat.le_refl _⟩, ⟨by (with_reducible repeat (first | apply Kd.R_alloc | apply Kd.R_drewN | apply Kd.R_drew)); exact HO_5.out⟩, ⟨by (with_reducible repeat (first | apply Kd.R_alloc | apply Kd.R_drewN | apply Kd.R_drew)); exact HO_6.out⟩, ⟨by (with_reducible repeat (first | apply Kd.R_alloc | apply Kd.R_drewN | apply Kd.R_drew)); exact HO_7.out⟩, ⟨by (with_reducible repeat (first | apply Kd.R_alloc | apply Kd.R_drewN | apply Kd.R_drew)); exact HO_8.out⟩, ⟨by exact bT_ BK184⟩, ⟨by repeat (first | (with_reducible first | exact HB.out | apply below_alloc | apply pw_below_drewN | apply below_drew1 | refine below_set ?_ GE184.out) | exact HB.out)⟩⟩
        case round =>
         clear H'; (try clear c2); (try clear p2); (try clear q2); (try clear hx2); (try clear c4); (try clear p4); (try clear q4); (try clear hx4); (try clear hf4); (try clear c5); (try clear p5); (try clear q5); (try clear hx5); (try clear hf5); (try clear c6); (try clear p6); (try clear q6); (try clear hx6); (try clear hf6); (try clear c7); (try clear p7); (try clear q7); (try clear hx7); (try clear hf7); (try clear c8); (try clear p8); (try clear q8); (try clear hx8); (try clear hf8); (try clear c9); (try clear p9); (try clear q9); (try clear hx9); (try clear hf9); (try clear p20); (try clear q20); (try clear hx20); (try clear p21); (try clear q21); (try clear hx21); (try clear c22); (try clear c22b0); (try clear p22); (try clear q22); (try clear hx22); (try clear c43); (try clear c43b0); (try clear c43b1); (try clear c44); (try clear c45); (try clear c46); (try clear c47); (try clear p48); (try clear q48); (try clear hx48); (try clear hf48); (try clear c49); (try clear p50); (try clear q50); (try clear hx50); (try clear hf50); (try clear c51); (try clear p52); (try clear q52); (try clear hx52); (try clear hf52); (try clear c62); (try clear c62b0); (try clear c62b1); (try clear c63); (try clear c64); (try clear c64b0); (try clear p64); (try clear c65); (try clear c65b0); (try clear c66); (try clear c66b0); (try clear p67); (try clear q67); (try clear hx67); (try clear hf67); (try clear c68); (try clear c68b0); (try clear p69); (try clear q69); (try clear hx69); (try clear hf69); (try clear c70); (try clear c70b0); (try clear p71); (try clear q71); (try clear hx71); (try clear hf71); (try clear c82); (try clear c82b0); (try clear c82b1); (try clear c83); (try clear c84); (try clear c84b0); (try clear c85); (try clear c85b0); (try clear c86); (try clear c86b0); (try clear p87); (try clear q87); (try clear hx87); (try clear hf87); (try clear c88); (try clear c88b0); (try clear p89); (try clear q89); (try clear hx89); (try clear hf89); (try clear c90); (try clear c90b0); (try clear p91); (try clear q91); (try clear hx91); (try clear hf91); (try clear hcz103_0); (try clear hcz103_1); (try clear hcz103_2); (try clear hcz55_0); (try clear hcz55_1); (try clear hcz55_2); (try clear hcz73_0); (try clear hcz73_1); (try clear hcz73_2); (try clear hcz75_0); (try clear hcz75_1); (try clear hcz75_2); (try clear hcz93_0); (try clear hcz93_1); (try clear hcz93_2); (try clear hcz95_0); (try clear hcz95_1); (try clear hcz95_2); (try clear hfz103_0); (try clear hfz103_1); (try clear hfz103_2); (try clear hfz55_0); (try clear hfz55_1); (try clear hfz55_2); (try clear hfz73_0); (try clear hfz73_1); (try clear hfz73_2); (try clear hfz75_0); (try clear hfz75_1); (try clear hfz75_2); (try clear hfz93_0); (try clear hfz93_1); (try clear hfz93_2); (try clear hfz95_0); (try clear hfz95_1); (try clear hfz95_2); (try clear hx208_0); (try clear hx215_0); (try clear hx222_0); (try clear hx48_0); (try clear hx50_0); (try clear hx52_0); (try clear hx67_0); (try clear hx69_0); (try clear hx71_0); (try clear hx87_0); (try clear hx89_0); (try clear hx91_0); (try clear p208); (try clear p215); (try clear p222); (try clear p48); (try clear p50); (try clear p52); (try clear p67); (try clear p69); (try clear p71); (try clear p87); (try clear p89); (try clear p91); (try clear q208); (try clear q215); (try clear q222); (try clear q48); (try clear q50); (try clear q52); (try clear q67); (try clear q69); (try clear q71); (try clear q87); (try clear q89); (try clear q91)
         obtain ⟨x5_2, x6_2, x7_2, x8_2, HA, HK2, HO_5, HO_6, HO_7, HO_8, BK184, HB⟩ := hrel
         cases gk with
         | zero => exact absurd HA.out (by simp [impl_Drain.l1])
         | succ k2 =>
          have H := HA.out; clear HA
          simp only [impl_Drain.l1] at H
          by_cases c104 : (x8_2.length : Int) > 0
          ·rw [if_pos c104] at H
           have c104b0 : decide (0 < (x8_2.length : Int)) = true := decide_eq_true c104
           have c104b1 : decide (0 < x8_2.length) = true := decide_eq_true (by omega)
           clear c104; have H' := Aside0.mk H; clear H
           obtain ⟨Ao105, co105, eo105⟩ := Kd.R_slice HO_8.out
           subst eo105
           go_wp2
           go_loopg [12, 95] k2 (fun kq v12 v95 w' => ∃ (x12_3 : Int) (x95_3 : Int), v12 = .int .i64 x12_3 ∧ v95 = .int .i64 x95_3 ∧ Aside0 (impl_Drain.l2 kq x5_2 x6_2 x7_2 x8_2 x12_3 x8_2 (x8_2.length : Int) x95_3 a0_0 a0_1 l0_2 = some (r1, r2)) ∧ Aside0 (kq ≤ k2) ∧ Aside0 (Kd.R (Kd.int .i64) 2 w' w.heap.size (fun k_ => some k_ ≠ (v190 : Value).ownBlock ∧ some k_ ≠ ((.slice Ao105 x8_2.length co105) : Value).ownBlock ∧ some k_ ≠ ((.slice Ao105 x8_2.length co105) : Value).ownBlock) v187 x5_2) ∧ Aside0 (Kd.R (Kd.int .i64) 2 w' w.heap.size (fun k_ => some k_ ≠ (v187 : Value).ownBlock ∧ some k_ ≠ ((.slice Ao105 x8_2.length co105) : Value).ownBlock ∧ some k_ ≠ ((.slice Ao105 x8_2.length co105) : Value).ownBlock) v190 x6_2) ∧ Aside0 (Kd.R Kd.bool 4 w' w.heap.size (fun _ => True) v193 x7_2) ∧ Aside0 (Kd.R (Kd.int .i64) 2 w' w.heap.size (fun k_ => some k_ ≠ (v187 : Value).ownBlock ∧ some k_ ≠ (v190 : Value).ownBlock) (.slice Ao105 x8_2.length co105) x8_2) ∧ Aside0 (Kd.R (Kd.int .i64) 2 w' w.heap.size (fun k_ => some k_ ≠ (v187 : Value).ownBlock ∧ some k_ ≠ (v190 : Value).ownBlock) (.slice Ao105 x8_2.length co105) x8_2) ∧ Aside0 (w'.heap[gb184]? = some (.cells #[.int .i64 a0_0, .int .i64 a0_1, (.slice A0_2 l0_2.length c0_2)] 62 (0, 0))) ∧ Aside0 (Below w.heap.size w w'))
           case atStart => exact ⟨(0), (0), (by first | rfl | (simp; done) | (simp [*]; done)), (by first | rfl | (simp; done) | (simp [*]; done)), H', ⟨Nat.le_refl _⟩, ⟨by (with_reducible repeat (first | apply Kd.R_alloc | apply Kd.R_drewN | apply Kd.R_drew)); exact Kd.R_mono HO_5.out (fun _ hk => ⟨hk.1, ⟨hk.2, hk.2⟩⟩)⟩, ⟨by (with_reducible repeat (first | apply Kd.R_alloc | apply Kd.R_drewN | apply Kd.R_drew)); exact Kd.R_mono HO_6.out (fun _ hk => ⟨hk.1, ⟨hk.2, hk.2⟩⟩)⟩, ⟨by (with_reducible repeat (first | apply Kd.R_alloc | apply Kd.R_drewN | apply Kd.R_drew)); exact HO_7.out⟩, ⟨by (with_reducible repeat (first | apply Kd.R_alloc | apply Kd.R_drewN | apply Kd.R_drew)); exact HO_8.out⟩, ⟨by (with_reducible repeat (first | apply Kd.R_alloc | apply Kd.R_drewN | apply Kd.R_drew)); exact HO_8.out⟩, ⟨by exact bT_ BK184⟩, ⟨by repeat (first | (with_reducible first | exact HB.out | apply below_alloc | apply pw_below_drewN | apply below_drew1 | refine below_set ?_ GE184.out) | exact HB.out)⟩⟩
           case round =>
            clear H'; (try clear c1); (try clear c2); (try clear p2); (try clear q2); (try clear hx2); (try clear c4); (try clear p4); (try clear q4); (try clear hx4); (try clear hf4); (try clear c5); (try clear p5); (try clear q5); (try clear hx5); (try clear hf5); (try clear c6); (try clear p6); (try clear q6); (try clear hx6); (try clear hf6); (try clear c7); (try clear p7); (try clear q7); (try clear hx7); (try clear hf7); (try clear c8); (try clear p8); (try clear q8); (try clear hx8); (try clear hf8); (try clear c9); (try clear p9); (try clear q9); (try clear hx9); (try clear hf9); (try clear c10); (try clear p20); (try clear q20); (try clear hx20); (try clear p21); (try clear q21); (try clear hx21); (try clear c22); (try clear c22b0); (try clear p22); (try clear q22); (try clear hx22); (try clear c43); (try clear c43b0); (try clear c43b1); (try clear c44); (try clear c45); (try clear c46); (try clear c47); (try clear p48); (try clear q48); (try clear hx48); (try clear hf48); (try clear c49); (try clear p50); (try clear q50); (try clear hx50); (try clear hf50); (try clear c51); (try clear p52); (try clear q52); (try clear hx52); (try clear hf52); (try clear c62); (try clear c62b0); (try clear c62b1); (try clear c63); (try clear c64); (try clear c64b0); (try clear p64); (try clear c65); (try clear c65b0); (try clear c66); (try clear c66b0); (try clear p67); (try clear q67); (try clear hx67); (try clear hf67); (try clear c68); (try clear c68b0); (try clear p69); (try clear q69); (try clear hx69); (try clear hf69); (try clear c70); (try clear c70b0); (try clear p71); (try clear q71); (try clear hx71); (try clear hf71); (try clear c82); (try clear c82b0); (try clear c82b1); (try clear c83); (try clear c84); (try clear c84b0); (try clear c85); (try clear c85b0); (try clear c86); (try clear c86b0); (try clear p87); (try clear q87); (try clear hx87); (try clear hf87); (try clear c88); (try clear c88b0); (try clear p89); (try clear q89); (try clear hx89); (try clear hf89); (try clear c90); (try clear c90b0); (try clear p91); (try clear q91); (try clear hx91); (try clear hf91); (try clear c104); (try clear c104b0); (try clear c104b1); (try clear hcz103_0); (try clear hcz103_1); (try clear hcz103_2); (try clear hcz55_0); (try clear hcz55_1); (try clear hcz55_2); (try clear hcz73_0); (try clear hcz73_1); (try clear hcz73_2); (try clear hcz75_0); (try clear hcz75_1); (try clear hcz75_2); (try clear hcz93_0); (try clear hcz93_1); (try clear hcz93_2); (try clear hcz95_0); (try clear hcz95_1); (try clear hcz95_2); (try clear hfz103_0); (try clear hfz103_1); (try clear hfz103_2); (try clear hfz55_0); (try clear hfz55_1); (try clear hfz55_2); (try clear hfz73_0); (try clear hfz73_1); (try clear hfz73_2); (try clear hfz75_0); (try clear hfz75_1); (try clear hfz75_2); (try clear hfz93_0); (try clear hfz93_1); (try clear hfz93_2); (try clear hfz95_0); (try clear hfz95_1); (try clear hfz95_2); (try clear hx208_0); (try clear hx215_0); (try clear hx222_0); (try clear hx48_0); (try clear hx50_0); (try clear hx52_0); (try clear hx67_0); (try clear hx69_0); (try clear hx71_0); (try clear hx87_0); (try clear hx89_0); (try clear hx91_0); (try clear p2); (try clear p20); (try clear p208); (try clear p21); (try clear p215); (try clear p22); (try clear p222); (try clear p4); (try clear p48); (try clear p5); (try clear p50); (try clear p52); (try clear p6); (try clear p64); (try clear p67); (try clear p69); (try clear p7); (try clear p71); (try clear p8); (try clear p87); (try clear p89); (try clear p9); (try clear p91); (try clear q2); (try clear q20); (try clear q208); (try clear q21); (try clear q215); (try clear q22); (try clear q222); (try clear q4); (try clear q48); (try clear q5); (try clear q50); (try clear q52); (try clear q6); (try clear q67); (try clear q69); (try clear q7); (try clear q71); (try clear q8); (try clear q87); (try clear q89); (try clear q9); (try clear q91)
            obtain ⟨x12_3, x95_3, rfl, rfl, HA, HK3, HO_5, HO_6, HO_7, HO_8, HO_93, BK184, HB⟩ := hrel
            cases gk with
            | zero => exact absurd HA.out (by simp [impl_Drain.l2])
            | succ k3 =>
             have H := HA.out; clear HA
             simp only [impl_Drain.l2] at H
             by_cases c106 : x95_3 < (x8_2.length : Int)
             ·rw [if_pos c106] at H
              have c106b0 : decide (x95_3 < (x8_2.length : Int)) = true := decide_eq_true c106
              clear c106
              by_cases c107 : 0 ≤ x95_3
              ·rw [if_pos c107] at H
               have c107b0 : decide (0 ≤ x95_3) = true := decide_eq_true c107
               clear c107
               by_cases c108 : x95_3 < (x8_2.length : Int)
               ·rw [if_pos c108] at H
                have c108b0 : decide (x95_3 < (x8_2.length : Int)) = true := decide_eq_true c108
                clear c108
                by_cases c109 : 0 ≤ x12_3
                ·rw [if_pos c109] at H
                 have c109b0 : decide (0 ≤ x12_3) = true := decide_eq_true c109
                 clear c109
                 by_cases c110 : x12_3 < (x8_2.length : Int)
                 ·rw [if_pos c110] at H
                  have c110b0 : decide (x12_3 < (x8_2.length : Int)) = true := decide_eq_true c110
                  clear c110
                  by_cases c111 : 0 ≤ (rd x8_2 x95_3)
                  ·rw [if_pos c111] at H
                   have c111b0 : decide (0 ≤ (rd x8_2 x95_3)) = true := decide_eq_true c111
                   clear c111
                   by_cases c112 : (rd x8_2 x95_3) < (x5_2.length : Int)
                   ·rw [if_pos c112] at H
                    have c112b0 : decide ((rd x8_2 x95_3) < (x5_2.length : Int)) = true := decide_eq_true c112
                    clear c112
                    by_cases c113 : 0 ≤ (rd x8_2 x12_3)
                    ·rw [if_pos c113] at H
                     have c113b0 : decide (0 ≤ (rd x8_2 x12_3)) = true := decide_eq_true c113
                     clear c113
                     by_cases c114 : (rd x8_2 x12_3) < (x5_2.length : Int)
                     ·rw [if_pos c114] at H
                      have c114b0 : decide ((rd x8_2 x12_3) < (x5_2.length : Int)) = true := decide_eq_true c114
                      clear c114
                      by_cases c115 : (rd x5_2 (rd x8_2 x95_3)) < (rd x5_2 (rd x8_2 x12_3))
                      ·rw [if_pos c115] at H
                       have c115b0 : decide ((rd x5_2 (rd x8_2 x95_3)) < (rd x5_2 (rd x8_2 x12_3))) = true := decide_eq_true c115
                       clear c115; have H' := Aside0.mk H; clear H
                       have p226 : 0 ≤ (x95_3 : Int) := of_decide_eq_true (by first | (with_reducible assumption) | assumption)
                       have q226 : x95_3 < (x8_2.length : Int) := of_decide_eq_true (by first | (with_reducible assumption) | assumption)
                       obtain ⟨ad226, e226, hx226_0⟩ := Kd.at_int (Kd.R_reads' HO_93.out).2.2 x95_3 p226 q226
                       cases e226
                       replace p226 := eq_true p226; replace q226 := eq_true q226
                       have p227 : 0 ≤ (x12_3 : Int) := of_decide_eq_true (by first | (with_reducible assumption) | assumption)
                       have q227 : x12_3 < (x8_2.length : Int) := of_decide_eq_true (by first | (with_reducible assumption) | assumption)
                       obtain ⟨ad227, e227, hx227_0⟩ := Kd.at_int (Kd.R_reads' HO_8.out).2.2 x12_3 p227 q227
                       obtain rfl : ad226 = ad227 := (by injection e227)
                       replace p227 := eq_true p227; replace q227 := eq_true q227
                       try go_wp2
                       replace HO_5 := Aside0.mk (Kd.R_drew HO_5.out)
                       replace HO_6 := Aside0.mk (Kd.R_drew HO_6.out)
                       replace HO_7 := Aside0.mk (Kd.R_drew HO_7.out)
                       replace HO_8 := Aside0.mk (Kd.R_drew HO_8.out)
                       replace HO_93 := Aside0.mk (Kd.R_drew HO_93.out)
                       replace BK184 := Aside0.mk (blk_drew BK184.out)
                       replace HB := Aside0.mk (below_drew1 HB.out)
                       obtain ⟨Ao117, co117, eo117⟩ := Kd.R_slice HO_5.out
                       (first | subst eo117 | (injection eo117 with f1_ f2_ f3_; have f4_ := f1_.symm; have f5_ := f3_.symm; clear f1_ f2_ f3_; subst f4_; subst f5_))
                       have p228 : 0 ≤ ((rd x8_2 x95_3) : Int) := of_decide_eq_true (by first | (with_reducible assumption) | assumption)
                       have q228 : (rd x8_2 x95_3) < (x5_2.length : Int) := of_decide_eq_true (by first | (with_reducible assumption) | assumption)
                       obtain ⟨ad228, e228, hx228_0⟩ := Kd.at_int (Kd.R_reads' HO_5.out).2.2 (rd x8_2 x95_3) p228 q228
                       cases e228
                       replace p228 := eq_true p228; replace q228 := eq_true q228
                       have p229 : 0 ≤ ((rd x8_2 x12_3) : Int) := of_decide_eq_true (by first | (with_reducible assumption) | assumption)
                       have q229 : (rd x8_2 x12_3) < (x5_2.length : Int) := of_decide_eq_true (by first | (with_reducible assumption) | assumption)
                       obtain ⟨ad229, e229, hx229_0⟩ := Kd.at_int (Kd.R_reads' HO_5.out).2.2 (rd x8_2 x12_3) p229 q229
                       obtain rfl : ad228 = ad229 := (by injection e229)
                       replace p229 := eq_true p229; replace q229 := eq_true q229
                       refine start_ (n := 25) (S := fun w' => w'.cell? (ad228.add ((rd x8_2 x95_3)).toNat) = some (.int .i64 (rd x5_2 (rd x8_2 x95_3))) ∧ w'.cell? (ad228.add ((rd x8_2 x12_3)).toNat) = some (.int .i64 (rd x5_2 (rd x8_2 x12_3)))) (ds := []) #[false, false, false, false, false, false, false, false, false, false, false, false, false, false, false, false, false, false, false, false, false, false, false, false, false] (by kernel_rfl) rfl rfl ⟨hx228_0, hx229_0⟩ (fun hHeld => ?_); refine with_tabW impl_Drain.tab20 impl_Drain.bits20 (fun HT_ HW_ => ?_)
                       generalize wr.drew = w116 at HO_5 HO_6 HO_7 HO_8 HO_93 BK184 HB hx228_0 hx229_0 hHeld ⊢
                       refine pT_ 0 (some 104) #[true, false, false, false, false, false, false, false, false, false, false, false, false, false, false, false, false, false, false, false, false, false, false, false, false] HT_ ?_
                       refine pT_ 1 (some 105) #[true, true, false, false, false, false, false, false, false, false, false, false, false, false, false, false, false, false, false, false, false, false, false, false, false] HT_ ?_
                       refine pT_ 2 (some 106) #[true, true, true, false, false, false, false, false, false, false, false, false, false, false, false, false, false, false, false, false, false, false, false, false, false] HT_ ?_
                       refine pT_ 4 (some 108) #[true, true, true, false, true, false, false, false, false, false, false, false, false, false, false, false, false, false, false, false, false, false, false, false, false] HT_ ?_
                       refine pT_ 5 (some 109) #[true, true, true, false, true, true, false, false, false, false, false, false, false, false, false, false, false, false, false, false, false, false, false, false, false] HT_ ?_
                       refine pT_ 6 (some 110) #[true, true, true, false, true, true, true, false, false, false, false, false, false, false, false, false, false, false, false, false, false, false, false, false, false] HT_ ?_
                       refine tT_ 3 (some 107) #[true, true, true, true, true, true, true, false, false, false, false, false, false, false, false, false, false, false, false, false, false, false, false, false, false] HT_ HW_ hHeld ?_ (hy := by rintro w' ⟨s0, s1⟩; go_simp; with_reducible rfl)
                       refine tT_ 7 (some 111) #[true, true, true, true, true, true, true, true, false, false, false, false, false, false, false, false, false, false, false, false, false, false, false, false, false] HT_ HW_ hHeld ?_ (hy := by rintro w' ⟨s0, s1⟩; go_simp; with_reducible rfl)
                       refine pT_ 8 (some 112) #[true, true, true, true, true, true, true, true, true, false, false, false, false, false, false, false, false, false, false, false, false, false, false, false, false] HT_ ?_
                       refine pT_ 9 (some 113) #[true, true, true, true, true, true, true, true, true, true, false, false, false, false, false, false, false, false, false, false, false, false, false, false, false] HT_ ?_
                       refine pU_ 10 (some 114) #[true, true, true, true, true, true, true, true, true, true, true, false, false, false, false, false, false, false, false, false, false, false, false, false, false] HT_ ?_
                       refine pU_ 11 (some 115) #[true, true, true, true, true, true, true, true, true, true, true, true, false, false, false, false, false, false, false, false, false, false, false, false, false] HT_ ?_
                       refine pU_ 12 (some 116) #[true, true, true, true, true, true, true, true, true, true, true, true, true, false, false, false, false, false, false, false, false, false, false, false, false] HT_ ?_
                       refine pU_ 13 (some 117) #[true, true, true, true, true, true, true, true, true, true, true, true, true, true, false, false, false, false, false, false, false, false, false, false, false] HT_ ?_
                       refine pU_ 14 (some 118) #[true, true, true, true, true, true, true, true, true, true, true, true, true, true, true, false, false, false, false, false, false, false, false, false, false] HT_ ?_
                       refine pU_ 15 (some 119) #[true, true, true, true, true, true, true, true, true, true, true, true, true, true, true, true, false, false, false, false, false, false, false, false, false] HT_ ?_
                       refine pU_ 16 (some 120) #[true, true, true, true, true, true, true, true, true, true, true, true, true, true, true, true, true, false, false, false, false, false, false, false, false] HT_ ?_
                       refine pU_ 17 (some 121) #[true, true, true, true, true, true, true, true, true, true, true, true, true, true, true, true, true, true, false, false, false, false, false, false, false] HT_ ?_
                       refine pU_ 18 (some 122) #[true, true, true, true, true, true, true, true, true, true, true, true, true, true, true, true, true, true, true, false, false, false, false, false, false] HT_ ?_
                       refine pU_ 19 (some 123) #[true, true, true, true, true, true, true, true, true, true, true, true, true, true, true, true, true, true, true, true, false, false, false, false, false] HT_ ?_
                       refine pU_ 20 (some 124) #[true, true, true, true, true, true, true, true, true, true, true, true, true, true, true, true, true, true, true, true, true, false, false, false, false] HT_ ?_
                       refine pU_ 21 (some 125) #[true, true, true, true, true, true, true, true, true, true, true, true, true, true, true, true, true, true, true, true, true, true, false, false, false] HT_ ?_
                       refine pU_ 22 (some 126) #[true, true, true, true, true, true, true, true, true, true, true, true, true, true, true, true, true, true, true, true, true, true, true, false, false] HT_ ?_
                       refine pU_ 23 (some 127) #[true, true, true, true, true, true, true, true, true, true, true, true, true, true, true, true, true, true, true, true, true, true, true, true, false] HT_ ?_
                       refine pT_ 24 (some 128) #[true, true, true, true, true, true, true, true, true, true, true, true, true, true, true, true, true, true, true, true, true, true, true, true, true] HT_ ?_
                       refine done_ (done_of HT_.out (by kernel_rfl)) ?_
                       try go_wp2
                       go_roundg k3
                       case measure => have := HK1.out; have := HK2.out; have := HK3.out; omega
                       case rel => exact ⟨(x95_3), (wrap64 (x95_3 + 1)), (by first | rfl | (simp; done) | (simp [*]; done)), (by first | rfl | (simp; done) | (simp [*]; done)), H', ⟨by have := HK1.out; have := HK2.out; have := HK3.out; omega⟩, ⟨by (with_reducible repeat (first | apply Kd.R_alloc | apply Kd.R_drewN | apply Kd.R_drew)); exact HO_5.out⟩, ⟨by (with_reducible repeat (first | apply Kd.R_alloc | apply Kd.R_drewN | apply Kd.R_drew)); exact HO_6.out⟩, ⟨by (with_reducible repeat (first | apply Kd.R_alloc | apply Kd.R_drewN | apply Kd.R_drew)); exact HO_7.out⟩, ⟨by (with_reducible repeat (first | apply Kd.R_alloc | apply Kd.R_drewN | apply Kd.R_drew)); exact HO_8.out⟩, ⟨by (with_reducible repeat (first | apply Kd.R_alloc | apply Kd.R_drewN | apply Kd.R_drew)); exact HO_93.out⟩, ⟨by exact bT_ BK184⟩, ⟨by repeat (first | (with_reducible first | exact HB.out | apply below_alloc | apply pw_below_drewN | apply below_drew1 | refine below_set ?_ GE184.out) | exact HB.out)⟩⟩
                      ·rw [if_neg c115] at H
                       have c115b0 : decide ((rd x5_2 (rd x8_2 x95_3)) < (rd x5_2 (rd x8_2 x12_3))) = false := decide_eq_false c115
                       clear c115
                       by_cases c118 : (rd x5_2 (rd x8_2 x95_3)) = (rd x5_2 (rd x8_2 x12_3))
                       ·rw [if_pos c118] at H
                        have c118b0 : ((rd x5_2 (rd x8_2 x95_3)) == (rd x5_2 (rd x8_2 x12_3))) = true := beq_iff_eq.mpr c118
                        have c118b1 : ((rd x5_2 (rd x8_2 x95_3)) != (rd x5_2 (rd x8_2 x12_3))) = false := bne_eq_false_iff_eq.mpr c118
                        clear c118
                        by_cases c119 : (rd x8_2 x95_3) < (rd x8_2 x12_3)
                        ·rw [if_pos c119] at H
                         have c119b0 : decide ((rd x8_2 x95_3) < (rd x8_2 x12_3)) = true := decide_eq_true c119
                         clear c119; have H' := Aside0.mk H; clear H
                         have p226 : 0 ≤ (x95_3 : Int) := of_decide_eq_true (by first | (with_reducible assumption) | assumption)
                         have q226 : x95_3 < (x8_2.length : Int) := of_decide_eq_true (by first | (with_reducible assumption) | assumption)
                         obtain ⟨ad226, e226, hx226_0⟩ := Kd.at_int (Kd.R_reads' HO_93.out).2.2 x95_3 p226 q226
                         cases e226
                         replace p226 := eq_true p226; replace q226 := eq_true q226
                         have p227 : 0 ≤ (x12_3 : Int) := of_decide_eq_true (by first | (with_reducible assumption) | assumption)
                         have q227 : x12_3 < (x8_2.length : Int) := of_decide_eq_true (by first | (with_reducible assumption) | assumption)
                         obtain ⟨ad227, e227, hx227_0⟩ := Kd.at_int (Kd.R_reads' HO_8.out).2.2 x12_3 p227 q227
                         obtain rfl : ad226 = ad227 := (by injection e227)
                         replace p227 := eq_true p227; replace q227 := eq_true q227
                         try go_wp2
                         replace HO_5 := Aside0.mk (Kd.R_drew HO_5.out)
                         replace HO_6 := Aside0.mk (Kd.R_drew HO_6.out)
                         replace HO_7 := Aside0.mk (Kd.R_drew HO_7.out)
                         replace HO_8 := Aside0.mk (Kd.R_drew HO_8.out)
                         replace HO_93 := Aside0.mk (Kd.R_drew HO_93.out)
                         replace BK184 := Aside0.mk (blk_drew BK184.out)
                         replace HB := Aside0.mk (below_drew1 HB.out)
                         obtain ⟨Ao121, co121, eo121⟩ := Kd.R_slice HO_5.out
                         (first | subst eo121 | (injection eo121 with f1_ f2_ f3_; have f4_ := f1_.symm; have f5_ := f3_.symm; clear f1_ f2_ f3_; subst f4_; subst f5_))
                         have p228 : 0 ≤ ((rd x8_2 x95_3) : Int) := of_decide_eq_true (by first | (with_reducible assumption) | assumption)
                         have q228 : (rd x8_2 x95_3) < (x5_2.length : Int) := of_decide_eq_true (by first | (with_reducible assumption) | assumption)
                         obtain ⟨ad228, e228, hx228_0⟩ := Kd.at_int (Kd.R_reads' HO_5.out).2.2 (rd x8_2 x95_3) p228 q228
                         cases e228
                         replace p228 := eq_true p228; replace q228 := eq_true q228
                         have p229 : 0 ≤ ((rd x8_2 x12_3) : Int) := of_decide_eq_true (by first | (with_reducible assumption) | assumption)
                         have q229 : (rd x8_2 x12_3) < (x5_2.length : Int) := of_decide_eq_true (by first | (with_reducible assumption) | assumption)
                         obtain ⟨ad229, e229, hx229_0⟩ := Kd.at_int (Kd.R_reads' HO_5.out).2.2 (rd x8_2 x12_3) p229 q229
                         obtain rfl : ad228 = ad229 := (by injection e229)
                         replace p229 := eq_true p229; replace q229 := eq_true q229
                         have p230 : 0 ≤ ((rd x8_2 x95_3) : Int) := of_decide_eq_true (by first | (with_reducible assumption) | assumption)
                         have q230 : (rd x8_2 x95_3) < (x5_2.length : Int) := of_decide_eq_true (by first | (with_reducible assumption) | assumption)
                         obtain ⟨ad230, e230, hx230_0⟩ := Kd.at_int (Kd.R_reads' HO_5.out).2.2 (rd x8_2 x95_3) p230 q230
                         obtain rfl : ad228 = ad230 := (by injection e230)
                         replace p230 := eq_true p230; replace q230 := eq_true q230
                         have p231 : 0 ≤ ((rd x8_2 x12_3) : Int) := of_decide_eq_true (by first | (with_reducible assumption) | assumption)
                         have q231 : (rd x8_2 x12_3) < (x5_2.length : Int) := of_decide_eq_true (by first | (with_reducible assumption) | assumption)
                         obtain ⟨ad231, e231, hx231_0⟩ := Kd.at_int (Kd.R_reads' HO_5.out).2.2 (rd x8_2 x12_3) p231 q231
                         obtain rfl : ad228 = ad231 := (by injection e231)
                         replace p231 := eq_true p231; replace q231 := eq_true q231
                         refine start_ (n := 25) (S := fun w' => w'.cell? (ad228.add ((rd x8_2 x95_3)).toNat) = some (.int .i64 (rd x5_2 (rd x8_2 x95_3))) ∧ w'.cell? (ad228.add ((rd x8_2 x12_3)).toNat) = some (.int .i64 (rd x5_2 (rd x8_2 x12_3))) ∧ w'.cell? (ad228.add ((rd x8_2 x95_3)).toNat) = some (.int .i64 (rd x5_2 (rd x8_2 x95_3))) ∧ w'.cell? (ad228.add ((rd x8_2 x12_3)).toNat) = some (.int .i64 (rd x5_2 (rd x8_2 x12_3)))) (ds := []) #[false, false, false, false, false, false, false, false, false, false, false, false, false, false, false, false, false, false, false, false, false, false, false, false, false] (by kernel_rfl) rfl rfl ⟨hx228_0, hx229_0, hx230_0, hx231_0⟩ (fun hHeld => ?_); refine with_tabW impl_Drain.tab20 impl_Drain.bits20 (fun HT_ HW_ => ?_)
                         generalize wr.drew = w120 at HO_5 HO_6 HO_7 HO_8 HO_93 BK184 HB hx228_0 hx229_0 hx230_0 hx231_0 hHeld ⊢
                         refine pT_ 0 (some 104) #[true, false, false, false, false, false, false, false, false, false, false, false, false, false, false, false, false, false, false, false, false, false, false, false, false] HT_ ?_
                         refine pT_ 1 (some 105) #[true, true, false, false, false, false, false, false, false, false, false, false, false, false, false, false, false, false, false, false, false, false, false, false, false] HT_ ?_
                         refine pT_ 2 (some 106) #[true, true, true, false, false, false, false, false, false, false, false, false, false, false, false, false, false, false, false, false, false, false, false, false, false] HT_ ?_
                         refine pT_ 4 (some 108) #[true, true, true, false, true, false, false, false, false, false, false, false, false, false, false, false, false, false, false, false, false, false, false, false, false] HT_ ?_
                         refine pT_ 5 (some 109) #[true, true, true, false, true, true, false, false, false, false, false, false, false, false, false, false, false, false, false, false, false, false, false, false, false] HT_ ?_
                         refine pT_ 6 (some 110) #[true, true, true, false, true, true, true, false, false, false, false, false, false, false, false, false, false, false, false, false, false, false, false, false, false] HT_ ?_
                         refine tT_ 3 (some 107) #[true, true, true, true, true, true, true, false, false, false, false, false, false, false, false, false, false, false, false, false, false, false, false, false, false] HT_ HW_ hHeld ?_ (hy := by rintro w' ⟨s0, s1, s2, s3⟩; go_simp; with_reducible rfl)
                         refine tT_ 7 (some 111) #[true, true, true, true, true, true, true, true, false, false, false, false, false, false, false, false, false, false, false, false, false, false, false, false, false] HT_ HW_ hHeld ?_ (hy := by rintro w' ⟨s0, s1, s2, s3⟩; go_simp; with_reducible rfl)
                         refine pT_ 8 (some 112) #[true, true, true, true, true, true, true, true, true, false, false, false, false, false, false, false, false, false, false, false, false, false, false, false, false] HT_ ?_
                         refine pT_ 9 (some 113) #[true, true, true, true, true, true, true, true, true, true, false, false, false, false, false, false, false, false, false, false, false, false, false, false, false] HT_ ?_
                         refine pT_ 10 (some 114) #[true, true, true, true, true, true, true, true, true, true, true, false, false, false, false, false, false, false, false, false, false, false, false, false, false] HT_ ?_
                         refine pT_ 11 (some 115) #[true, true, true, true, true, true, true, true, true, true, true, true, false, false, false, false, false, false, false, false, false, false, false, false, false] HT_ ?_
                         refine pT_ 12 (some 116) #[true, true, true, true, true, true, true, true, true, true, true, true, true, false, false, false, false, false, false, false, false, false, false, false, false] HT_ ?_
                         refine pT_ 14 (some 118) #[true, true, true, true, true, true, true, true, true, true, true, true, true, false, true, false, false, false, false, false, false, false, false, false, false] HT_ ?_
                         refine pT_ 15 (some 119) #[true, true, true, true, true, true, true, true, true, true, true, true, true, false, true, true, false, false, false, false, false, false, false, false, false] HT_ ?_
                         refine pT_ 16 (some 120) #[true, true, true, true, true, true, true, true, true, true, true, true, true, false, true, true, true, false, false, false, false, false, false, false, false] HT_ ?_
                         refine tT_ 13 (some 117) #[true, true, true, true, true, true, true, true, true, true, true, true, true, true, true, true, true, false, false, false, false, false, false, false, false] HT_ HW_ hHeld ?_ (hy := by rintro w' ⟨s0, s1, s2, s3⟩; go_simp; with_reducible rfl)
                         refine tT_ 17 (some 121) #[true, true, true, true, true, true, true, true, true, true, true, true, true, true, true, true, true, true, false, false, false, false, false, false, false] HT_ HW_ hHeld ?_ (hy := by rintro w' ⟨s0, s1, s2, s3⟩; go_simp; with_reducible rfl)
                         refine pT_ 18 (some 122) #[true, true, true, true, true, true, true, true, true, true, true, true, true, true, true, true, true, true, true, false, false, false, false, false, false] HT_ ?_
                         refine pT_ 19 (some 123) #[true, true, true, true, true, true, true, true, true, true, true, true, true, true, true, true, true, true, true, true, false, false, false, false, false] HT_ ?_
                         refine pT_ 20 (some 124) #[true, true, true, true, true, true, true, true, true, true, true, true, true, true, true, true, true, true, true, true, true, false, false, false, false] HT_ ?_
                         refine pT_ 21 (some 125) #[true, true, true, true, true, true, true, true, true, true, true, true, true, true, true, true, true, true, true, true, true, true, false, false, false] HT_ ?_
                         refine pT_ 22 (some 126) #[true, true, true, true, true, true, true, true, true, true, true, true, true, true, true, true, true, true, true, true, true, true, true, false, false] HT_ ?_
                         refine pT_ 23 (some 127) #[true, true, true, true, true, true, true, true, true, true, true, true, true, true, true, true, true, true, true, true, true, true, true, true, false] HT_ ?_
                         refine pT_ 24 (some 128) #[true, true, true, true, true, true, true, true, true, true, true, true, true, true, true, true, true, true, true, true, true, true, true, true, true] HT_ ?_
                         refine done_ (done_of HT_.out (by kernel_rfl)) ?_
                         try go_wp2
                         go_roundg k3
                         case measure => have := HK1.out; have := HK2.out; have := HK3.out; omega
                         case rel => exact ⟨(x95_3), (wrap64 (x95_3 + 1)), (by first | rfl | (simp; done) | (simp [*]; done)), (by first | rfl | (simp; done) | (simp [*]; done)), H', ⟨by have := HK1.out; have := HK2.out; have := HK3.out; omega⟩, ⟨by (with_reducible repeat (first | apply Kd.R_alloc | apply Kd.R_drewN | apply Kd.R_drew)); exact HO_5.out⟩, ⟨by (with_reducible repeat (first | apply Kd.R_alloc | apply Kd.R_drewN | apply Kd.R_drew)); exact HO_6.out⟩, ⟨by (with_reducible repeat (first | apply Kd.R_alloc | apply Kd.R_drewN | apply Kd.R_drew)); exact HO_7.out⟩, ⟨by (with_reducible repeat (first | apply Kd.R_alloc | apply Kd.R_drewN | apply Kd.R_drew)); exact HO_8.out⟩, ⟨by (with_reducible repeat (first | apply Kd.R_alloc | apply Kd.R_drewN | apply Kd.R_drew)); exact HO_93.out⟩, ⟨by exact bT_ BK184⟩, ⟨by repeat (first | (with_reducible first | exact HB.out | apply below_alloc | apply pw_below_drewN | apply below_drew1 | refine below_set ?_ GE184.out) | exact HB.out)⟩⟩
                        ·rw [if_neg c119] at H
                         have c119b0 : decide ((rd x8_2 x95_3) < (rd x8_2 x12_3)) = false := decide_eq_false c119
                         clear c119; have H' := Aside0.mk H; clear H
                         have p226 : 0 ≤ (x95_3 : Int) := of_decide_eq_true (by first | (with_reducible assumption) | assumption)
                         have q226 : x95_3 < (x8_2.length : Int) := of_decide_eq_true (by first | (with_reducible assumption) | assumption)
                         obtain ⟨ad226, e226, hx226_0⟩ := Kd.at_int (Kd.R_reads' HO_93.out).2.2 x95_3 p226 q226
                         cases e226
                         replace p226 := eq_true p226; replace q226 := eq_true q226
                         have p227 : 0 ≤ (x12_3 : Int) := of_decide_eq_true (by first | (with_reducible assumption) | assumption)
                         have q227 : x12_3 < (x8_2.length : Int) := of_decide_eq_true (by first | (with_reducible assumption) | assumption)
                         obtain ⟨ad227, e227, hx227_0⟩ := Kd.at_int (Kd.R_reads' HO_8.out).2.2 x12_3 p227 q227
                         obtain rfl : ad226 = ad227 := (by injection e227)
                         replace p227 := eq_true p227; replace q227 := eq_true q227
                         try go_wp2
                         replace HO_5 := Aside0.mk (Kd.R_drew HO_5.out)
                         replace HO_6 := Aside0.mk (Kd.R_drew HO_6.out)
                         replace HO_7 := Aside0.mk (Kd.R_drew HO_7.out)
                         replace HO_8 := Aside0.mk (Kd.R_drew HO_8.out)
                         replace HO_93 := Aside0.mk (Kd.R_drew HO_93.out)
                         replace BK184 := Aside0.mk (blk_drew BK184.out)
                         replace HB := Aside0.mk (below_drew1 HB.out)
                         obtain ⟨Ao123, co123, eo123⟩ := Kd.R_slice HO_5.out
                         (first | subst eo123 | (injection eo123 with f1_ f2_ f3_; have f4_ := f1_.symm; have f5_ := f3_.symm; clear f1_ f2_ f3_; subst f4_; subst f5_))
                         have p228 : 0 ≤ ((rd x8_2 x95_3) : Int) := of_decide_eq_true (by first | (with_reducible assumption) | assumption)
                         have q228 : (rd x8_2 x95_3) < (x5_2.length : Int) := of_decide_eq_true (by first | (with_reducible assumption) | assumption)
                         obtain ⟨ad228, e228, hx228_0⟩ := Kd.at_int (Kd.R_reads' HO_5.out).2.2 (rd x8_2 x95_3) p228 q228
                         cases e228
                         replace p228 := eq_true p228; replace q228 := eq_true q228
                         have p229 : 0 ≤ ((rd x8_2 x12_3) : Int) := of_decide_eq_true (by first | (with_reducible assumption) | assumption)
                         have q229 : (rd x8_2 x12_3) < (x5_2.length : Int) := of_decide_eq_true (by first | (with_reducible assumption) | assumption)
                         obtain ⟨ad229, e229, hx229_0⟩ := Kd.at_int (Kd.R_reads' HO_5.out).2.2 (rd x8_2 x12_3) p229 q229
                         obtain rfl : ad228 = ad229 := (by injection e229)
                         replace p229 := eq_true p229; replace q229 := eq_true q229
                         have p230 : 0 ≤ ((rd x8_2 x95_3) : Int) := of_decide_eq_true (by first | (with_reducible assumption) | assumption)
                         have q230 : (rd x8_2 x95_3) < (x5_2.length : Int) := of_decide_eq_true (by first | (with_reducible assumption) | assumption)
                         obtain ⟨ad230, e230, hx230_0⟩ := Kd.at_int (Kd.R_reads' HO_5.out).2.2 (rd x8_2 x95_3) p230 q230
                         obtain rfl : ad228 = ad230 := (by injection e230)
                         replace p230 := eq_true p230; replace q230 := eq_true q230
                         have p231 : 0 ≤ ((rd x8_2 x12_3) : Int) := of_decide_eq_true (by first | (with_reducible assumption) | assumption)
                         have q231 : (rd x8_2 x12_3) < (x5_2.length : Int) := of_decide_eq_true (by first | (with_reducible assumption) | assumption)
                         obtain ⟨ad231, e231, hx231_0⟩ := Kd.at_int (Kd.R_reads' HO_5.out).2.2 (rd x8_2 x12_3) p231 q231
                         obtain rfl : ad228 = ad231 := (by injection e231)
                         replace p231 := eq_true p231; replace q231 := eq_true q231
                         refine start_ (n := 25) (S := fun w' => w'.cell? (ad228.add ((rd x8_2 x95_3)).toNat) = some (.int .i64 (rd x5_2 (rd x8_2 x95_3))) ∧ w'.cell? (ad228.add ((rd x8_2 x12_3)).toNat) = some (.int .i64 (rd x5_2 (rd x8_2 x12_3))) ∧ w'.cell? (ad228.add ((rd x8_2 x95_3)).toNat) = some (.int .i64 (rd x5_2 (rd x8_2 x95_3))) ∧ w'.cell? (ad228.add ((rd x8_2 x12_3)).toNat) = some (.int .i64 (rd x5_2 (rd x8_2 x12_3)))) (ds := []) #[false, false, false, false, false, false, false, false, false, false, false, false, false, false, false, false, false, false, false, false, false, false, false, false, false] (by kernel_rfl) rfl rfl ⟨hx228_0, hx229_0, hx230_0, hx231_0⟩ (fun hHeld => ?_); refine with_tabW impl_Drain.tab20 impl_Drain.bits20 (fun HT_ HW_ => ?_)
                         generalize wr.drew = w122 at HO_5 HO_6 HO_7 HO_8 HO_93 BK184 HB hx228_0 hx229_0 hx230_0 hx231_0 hHeld ⊢
                         refine pT_ 0 (some 104) #[true, false, false, false, false, false, false, false, false, false, false, false, false, false, false, false, false, false, false, false, false, false, false, false, false] HT_ ?_
                         refine pT_ 1 (some 105) #[true, true, false, false, false, false, false, false, false, false, false, false, false, false, false, false, false, false, false, false, false, false, false, false, false] HT_ ?_
                         refine pT_ 2 (some 106) #[true, true, true, false, false, false, false, false, false, false, false, false, false, false, false, false, false, false, false, false, false, false, false, false, false] HT_ ?_
                         refine pT_ 4 (some 108) #[true, true, true, false, true, false, false, false, false, false, false, false, false, false, false, false, false, false, false, false, false, false, false, false, false] HT_ ?_
                         refine pT_ 5 (some 109) #[true, true, true, false, true, true, false, false, false, false, false, false, false, false, false, false, false, false, false, false, false, false, false, false, false] HT_ ?_
                         refine pT_ 6 (some 110) #[true, true, true, false, true, true, true, false, false, false, false, false, false, false, false, false, false, false, false, false, false, false, false, false, false] HT_ ?_
                         refine tT_ 3 (some 107) #[true, true, true, true, true, true, true, false, false, false, false, false, false, false, false, false, false, false, false, false, false, false, false, false, false] HT_ HW_ hHeld ?_ (hy := by rintro w' ⟨s0, s1, s2, s3⟩; go_simp; with_reducible rfl)
                         refine tT_ 7 (some 111) #[true, true, true, true, true, true, true, true, false, false, false, false, false, false, false, false, false, false, false, false, false, false, false, false, false] HT_ HW_ hHeld ?_ (hy := by rintro w' ⟨s0, s1, s2, s3⟩; go_simp; with_reducible rfl)
                         refine pT_ 8 (some 112) #[true, true, true, true, true, true, true, true, true, false, false, false, false, false, false, false, false, false, false, false, false, false, false, false, false] HT_ ?_
                         refine pT_ 9 (some 113) #[true, true, true, true, true, true, true, true, true, true, false, false, false, false, false, false, false, false, false, false, false, false, false, false, false] HT_ ?_
                         refine pT_ 10 (some 114) #[true, true, true, true, true, true, true, true, true, true, true, false, false, false, false, false, false, false, false, false, false, false, false, false, false] HT_ ?_
                         refine pT_ 11 (some 115) #[true, true, true, true, true, true, true, true, true, true, true, true, false, false, false, false, false, false, false, false, false, false, false, false, false] HT_ ?_
                         refine pT_ 12 (some 116) #[true, true, true, true, true, true, true, true, true, true, true, true, true, false, false, false, false, false, false, false, false, false, false, false, false] HT_ ?_
                         refine pT_ 14 (some 118) #[true, true, true, true, true, true, true, true, true, true, true, true, true, false, true, false, false, false, false, false, false, false, false, false, false] HT_ ?_
                         refine pT_ 15 (some 119) #[true, true, true, true, true, true, true, true, true, true, true, true, true, false, true, true, false, false, false, false, false, false, false, false, false] HT_ ?_
                         refine pT_ 16 (some 120) #[true, true, true, true, true, true, true, true, true, true, true, true, true, false, true, true, true, false, false, false, false, false, false, false, false] HT_ ?_
                         refine tT_ 13 (some 117) #[true, true, true, true, true, true, true, true, true, true, true, true, true, true, true, true, true, false, false, false, false, false, false, false, false] HT_ HW_ hHeld ?_ (hy := by rintro w' ⟨s0, s1, s2, s3⟩; go_simp; with_reducible rfl)
                         refine tT_ 17 (some 121) #[true, true, true, true, true, true, true, true, true, true, true, true, true, true, true, true, true, true, false, false, false, false, false, false, false] HT_ HW_ hHeld ?_ (hy := by rintro w' ⟨s0, s1, s2, s3⟩; go_simp; with_reducible rfl)
                         refine pT_ 18 (some 122) #[true, true, true, true, true, true, true, true, true, true, true, true, true, true, true, true, true, true, true, false, false, false, false, false, false] HT_ ?_
                         refine pT_ 19 (some 123) #[true, true, true, true, true, true, true, true, true, true, true, true, true, true, true, true, true, true, true, true, false, false, false, false, false] HT_ ?_
                         refine pT_ 20 (some 124) #[true, true, true, true, true, true, true, true, true, true, true, true, true, true, true, true, true, true, true, true, true, false, false, false, false] HT_ ?_
                         refine pT_ 21 (some 125) #[true, true, true, true, true, true, true, true, true, true, true, true, true, true, true, true, true, true, true, true, true, true, false, false, false] HT_ ?_
                         refine pT_ 22 (some 126) #[true, true, true, true, true, true, true, true, true, true, true, true, true, true, true, true, true, true, true, true, true, true, true, false, false] HT_ ?_
                         refine pT_ 23 (some 127) #[true, true, true, true, true, true, true, true, true, true, true, true, true, true, true, true, true, true, true, true, true, true, true, true, false] HT_ ?_
                         refine pT_ 24 (some 128) #[true, true, true, true, true, true, true, true, true, true, true, true, true, true, true, true, true, true, true, true, true, true, true, true, true] HT_ ?_
                         refine done_ (done_of HT_.out (by kernel_rfl)) ?_
                         try go_wp2
                         go_roundg k3
                         case measure => have := HK1.out; have := HK2.out; have := HK3.out; omega
                         case rel => exact ⟨(x12_3), (wrap64 (x95_3 + 1)), (by first | rfl | (simp; done) | (simp [*]; done)), (by first | rfl | (simp; done) | (simp [*]; done)), H', ⟨by have := HK1.out; have := HK2.out; have := HK3.out; omega⟩, ⟨by (with_reducible repeat (first | apply Kd.R_alloc | apply Kd.R_drewN | apply Kd.R_drew)); exact HO_5.out⟩, ⟨by (with_reducible repeat (first | apply Kd.R_alloc | apply Kd.R_drewN | apply Kd.R_drew)); exact HO_6.out⟩, ⟨by (with_reducible repeat (first | apply Kd.R_alloc | apply Kd.R_drewN | apply Kd.R_drew)); exact HO_7.out⟩, ⟨by (with_reducible repeat (first | apply Kd.R_alloc | apply Kd.R_drewN | apply Kd.R_drew)); exact HO_8.out⟩, ⟨by (with_reducible repeat (first | apply Kd.R_alloc | apply Kd.R_drewN | apply Kd.R_drew)); exact HO_93.out⟩, ⟨by exact bT_ BK184⟩, ⟨by repeat (first | (with_reducible first | exact HB.out | apply below_alloc | apply pw_below_drewN | apply below_drew1 | refine below_set ?_ GE184.out) | exact HB.out)⟩⟩
                       ·rw [if_neg c118] at H
                        have c118b0 : ((rd x5_2 (rd x8_2 x95_3)) == (rd x5_2 (rd x8_2 x12_3))) = false := beq_eq_false_iff_ne.mpr c118
                        have c118b1 : ((rd x5_2 (rd x8_2 x95_3)) != (rd x5_2 (rd x8_2 x12_3))) = true := bne_iff_ne.mpr c118
                        have H' := Aside0.mk H; clear H
                        have p226 : 0 ≤ (x95_3 : Int) := of_decide_eq_true (by first | (with_reducible assumption) | assumption)
                        have q226 : x95_3 < (x8_2.length : Int) := of_decide_eq_true (by first | (with_reducible assumption) | assumption)
                        obtain ⟨ad226, e226, hx226_0⟩ := Kd.at_int (Kd.R_reads' HO_93.out).2.2 x95_3 p226 q226
                        cases e226
                        replace p226 := eq_true p226; replace q226 := eq_true q226
                        have p227 : 0 ≤ (x12_3 : Int) := of_decide_eq_true (by first | (with_reducible assumption) | assumption)
                        have q227 : x12_3 < (x8_2.length : Int) := of_decide_eq_true (by first | (with_reducible assumption) | assumption)
                        obtain ⟨ad227, e227, hx227_0⟩ := Kd.at_int (Kd.R_reads' HO_8.out).2.2 x12_3 p227 q227
                        obtain rfl : ad226 = ad227 := (by injection e227)
                        replace p227 := eq_true p227; replace q227 := eq_true q227
                        try go_wp2
                        replace HO_5 := Aside0.mk (Kd.R_drew HO_5.out)
                        replace HO_6 := Aside0.mk (Kd.R_drew HO_6.out)
                        replace HO_7 := Aside0.mk (Kd.R_drew HO_7.out)
                        replace HO_8 := Aside0.mk (Kd.R_drew HO_8.out)
                        replace HO_93 := Aside0.mk (Kd.R_drew HO_93.out)
                        replace BK184 := Aside0.mk (blk_drew BK184.out)
                        replace HB := Aside0.mk (below_drew1 HB.out)
                        obtain ⟨Ao125, co125, eo125⟩ := Kd.R_slice HO_5.out
                        (first | subst eo125 | (injection eo125 with f1_ f2_ f3_; have f4_ := f1_.symm; have f5_ := f3_.symm; clear f1_ f2_ f3_; subst f4_; subst f5_))
                        have p228 : 0 ≤ ((rd x8_2 x95_3) : Int) := of_decide_eq_true (by first | (with_reducible assumption) | assumption)
                        have q228 : (rd x8_2 x95_3) < (x5_2.length : Int) := of_decide_eq_true (by first | (with_reducible assumption) | assumption)
                        obtain ⟨ad228, e228, hx228_0⟩ := Kd.at_int (Kd.R_reads' HO_5.out).2.2 (rd x8_2 x95_3) p228 q228
                        cases e228
                        replace p228 := eq_true p228; replace q228 := eq_true q228
                        have p229 : 0 ≤ ((rd x8_2 x12_3) : Int) := of_decide_eq_true (by first | (with_reducible assumption) | assumption)
                        have q229 : (rd x8_2 x12_3) < (x5_2.length : Int) := of_decide_eq_true (by first | (with_reducible assumption) | assumption)
                        obtain ⟨ad229, e229, hx229_0⟩ := Kd.at_int (Kd.R_reads' HO_5.out).2.2 (rd x8_2 x12_3) p229 q229
                        obtain rfl : ad228 = ad229 := (by injection e229)
                        replace p229 := eq_true p229; replace q229 := eq_true q229
                        have p230 : 0 ≤ ((rd x8_2 x95_3) : Int) := of_decide_eq_true (by first | (with_reducible assumption) | assumption)
                        have q230 : (rd x8_2 x95_3) < (x5_2.length : Int) := of_decide_eq_true (by first | (with_reducible assumption) | assumption)
                        obtain ⟨ad230, e230, hx230_0⟩ := Kd.at_int (Kd.R_reads' HO_5.out).2.2 (rd x8_2 x95_3) p230 q230
                        obtain rfl : ad228 = ad230 := (by injection e230)
                        replace p230 := eq_true p230; replace q230 := eq_true q230
                        have p231 : 0 ≤ ((rd x8_2 x12_3) : Int) := of_decide_eq_true (by first | (with_reducible assumption) | assumption)
                        have q231 : (rd x8_2 x12_3) < (x5_2.length : Int) := of_decide_eq_true (by first | (with_reducible assumption) | assumption)
                        obtain ⟨ad231, e231, hx231_0⟩ := Kd.at_int (Kd.R_reads' HO_5.out).2.2 (rd x8_2 x12_3) p231 q231
                        obtain rfl : ad228 = ad231 := (by injection e231)
                        replace p231 := eq_true p231; replace q231 := eq_true q231
                        refine start_ (n := 25) (S := fun w' => w'.cell? (ad228.add ((rd x8_2 x95_3)).toNat) = some (.int .i64 (rd x5_2 (rd x8_2 x95_3))) ∧ w'.cell? (ad228.add ((rd x8_2 x12_3)).toNat) = some (.int .i64 (rd x5_2 (rd x8_2 x12_3))) ∧ w'.cell? (ad228.add ((rd x8_2 x95_3)).toNat) = some (.int .i64 (rd x5_2 (rd x8_2 x95_3))) ∧ w'.cell? (ad228.add ((rd x8_2 x12_3)).toNat) = some (.int .i64 (rd x5_2 (rd x8_2 x12_3)))) (ds := []) #[false, false, false, false, false, false, false, false, false, false, false, false, false, false, false, false, false, false, false, false, false, false, false, false, false] (by kernel_rfl) rfl rfl ⟨hx228_0, hx229_0, hx230_0, hx231_0⟩ (fun hHeld => ?_); refine with_tabW impl_Drain.tab20 impl_Drain.bits20 (fun HT_ HW_ => ?_)
                        generalize wr.drew = w124 at HO_5 HO_6 HO_7 HO_8 HO_93 BK184 HB hx228_0 hx229_0 hx230_0 hx231_0 hHeld ⊢
                        refine pT_ 0 (some 104) #[true, false, false, false, false, false, false, false, false, false, false, false, false, false, false, false, false, false, false, false, false, false, false, false, false] HT_ ?_
                        refine pT_ 1 (some 105) #[true, true, false, false, false, false, false, false, false, false, false, false, false, false, false, false, false, false, false, false, false, false, false, false, false] HT_ ?_
                        refine pT_ 2 (some 106) #[true, true, true, false, false, false, false, false, false, false, false, false, false, false, false, false, false, false, false, false, false, false, false, false, false] HT_ ?_
                        refine pT_ 4 (some 108) #[true, true, true, false, true, false, false, false, false, false, false, false, false, false, false, false, false, false, false, false, false, false, false, false, false] HT_ ?_
                        refine pT_ 5 (some 109) #[true, true, true, false, true, true, false, false, false, false, false, false, false, false, false, false, false, false, false, false, false, false, false, false, false] HT_ ?_
                        refine pT_ 6 (some 110) #[true, true, true, false, true, true, true, false, false, false, false, false, false, false, false, false, false, false, false, false, false, false, false, false, false] HT_ ?_
                        refine tT_ 3 (some 107) #[true, true, true, true, true, true, true, false, false, false, false, false, false, false, false, false, false, false, false, false, false, false, false, false, false] HT_ HW_ hHeld ?_ (hy := by rintro w' ⟨s0, s1, s2, s3⟩; go_simp; with_reducible rfl)
                        refine tT_ 7 (some 111) #[true, true, true, true, true, true, true, true, false, false, false, false, false, false, false, false, false, false, false, false, false, false, false, false, false] HT_ HW_ hHeld ?_ (hy := by rintro w' ⟨s0, s1, s2, s3⟩; go_simp; with_reducible rfl)
                        refine pT_ 8 (some 112) #[true, true, true, true, true, true, true, true, true, false, false, false, false, false, false, false, false, false, false, false, false, false, false, false, false] HT_ ?_
                        refine pT_ 9 (some 113) #[true, true, true, true, true, true, true, true, true, true, false, false, false, false, false, false, false, false, false, false, false, false, false, false, false] HT_ ?_
                        refine pT_ 10 (some 114) #[true, true, true, true, true, true, true, true, true, true, true, false, false, false, false, false, false, false, false, false, false, false, false, false, false] HT_ ?_
                        refine pT_ 11 (some 115) #[true, true, true, true, true, true, true, true, true, true, true, true, false, false, false, false, false, false, false, false, false, false, false, false, false] HT_ ?_
                        refine pT_ 12 (some 116) #[true, true, true, true, true, true, true, true, true, true, true, true, true, false, false, false, false, false, false, false, false, false, false, false, false] HT_ ?_
                        refine pT_ 14 (some 118) #[true, true, true, true, true, true, true, true, true, true, true, true, true, false, true, false, false, false, false, false, false, false, false, false, false] HT_ ?_
                        refine pT_ 15 (some 119) #[true, true, true, true, true, true, true, true, true, true, true, true, true, false, true, true, false, false, false, false, false, false, false, false, false] HT_ ?_
                        refine pT_ 16 (some 120) #[true, true, true, true, true, true, true, true, true, true, true, true, true, false, true, true, true, false, false, false, false, false, false, false, false] HT_ ?_
                        refine tT_ 13 (some 117) #[true, true, true, true, true, true, true, true, true, true, true, true, true, true, true, true, true, false, false, false, false, false, false, false, false] HT_ HW_ hHeld ?_ (hy := by rintro w' ⟨s0, s1, s2, s3⟩; go_simp; with_reducible rfl)
                        refine tT_ 17 (some 121) #[true, true, true, true, true, true, true, true, true, true, true, true, true, true, true, true, true, true, false, false, false, false, false, false, false] HT_ HW_ hHeld ?_ (hy := by rintro w' ⟨s0, s1, s2, s3⟩; go_simp; with_reducible rfl)
                        refine pT_ 18 (some 122) #[true, true, true, true, true, true, true, true, true, true, true, true, true, true, true, true, true, true, true, false, false, false, false, false, false] HT_ ?_
                        refine pT_ 19 (some 123) #[true, true, true, true, true, true, true, true, true, true, true, true, true, true, true, true, true, true, true, true, false, false, false, false, false] HT_ ?_
                        refine pU_ 20 (some 124) #[true, true, true, true, true, true, true, true, true, true, true, true, true, true, true, true, true, true, true, true, true, false, false, false, false] HT_ ?_
                        refine pU_ 21 (some 125) #[true, true, true, true, true, true, true, true, true, true, true, true, true, true, true, true, true, true, true, true, true, true, false, false, false] HT_ ?_
                        refine pU_ 22 (some 126) #[true, true, true, true, true, true, true, true, true, true, true, true, true, true, true, true, true, true, true, true, true, true, true, false, false] HT_ ?_
                        refine pT_ 23 (some 127) #[true, true, true, true, true, true, true, true, true, true, true, true, true, true, true, true, true, true, true, true, true, true, true, true, false] HT_ ?_
                        refine pT_ 24 (some 128) #[true, true, true, true, true, true, true, true, true, true, true, true, true, true, true, true, true, true, true, true, true, true, true, true, true] HT_ ?_
                        refine done_ (done_of HT_.out (by kernel_rfl)) ?_
                        try go_wp2
                        go_roundg k3
                        case measure => have := HK1.out; have := HK2.out; have := HK3.out; omega
                        case rel => exact ⟨(x12_3), (wrap64 (x95_3 + 1)), (by first | rfl | (simp; done) | (simp [*]; done)), (by first | rfl | (simp; done) | (simp [*]; done)), H', ⟨by have := HK1.out; have := HK2.out; have := HK3.out; omega⟩, ⟨by (with_reducible repeat (first | apply Kd.R_alloc | apply Kd.R_drewN | apply Kd.R_drew)); exact HO_5.out⟩, ⟨by (with_reducible repeat (first | apply Kd.R_alloc | apply Kd.R_drewN | apply Kd.R_drew)); exact HO_6.out⟩, ⟨by (with_reducible repeat (first | apply Kd.R_alloc | apply Kd.R_drewN | apply Kd.R_drew)); exact HO_7.out⟩, ⟨by (with_reducible repeat (first | apply Kd.R_alloc | apply Kd.R_drewN | apply Kd.R_drew)); exact HO_8.out⟩, ⟨by (with_reducible repeat (first | apply Kd.R_alloc | apply Kd.R_drewN | apply Kd.R_drew)); exact HO_93.out⟩, ⟨by exact bT_ BK184⟩, ⟨by repeat (first | (with_reducible first | exact HB.out | apply below_alloc | apply pw_below_drewN | apply below_drew1 | refine below_set ?_ GE184.out) | exact HB.out)⟩⟩
                     ·rw [if_neg c114] at H
                      exact absurd H (by simp)
                    ·rw [if_neg c113] at H
                     exact absurd H (by simp)
                   ·rw [if_neg c112] at H
                    exact absurd H (by simp)
                  ·rw [if_neg c111] at H
                   exact absurd H (by simp)
                 ·rw [if_neg c110] at H
                  exact absurd H (by simp)
                ·rw [if_neg c109] at H
                 exact absurd H (by simp)
               ·rw [if_neg c108] at H
                exact absurd H (by simp)
              ·rw [if_neg c107] at H
               exact absurd H (by simp)
             ·rw [if_neg c106] at H
              have c106b0 : decide (x95_3 < (x8_2.length : Int)) = false := decide_eq_false c106
              clear c106
              by_cases c126 : 0 ≤ x12_3
              ·rw [if_pos c126] at H
               have c126b0 : decide (0 ≤ x12_3) = true := decide_eq_true c126
               clear c126
               by_cases c127 : x12_3 < (x8_2.length : Int)
               ·rw [if_pos c127] at H
                have c127b0 : decide (x12_3 < (x8_2.length : Int)) = true := decide_eq_true c127
                clear c127
                have c128b0 := eq_true (of_decide_eq_true (by first | (with_reducible assumption) | assumption) : 0 ≤ x12_3)
                by_cases c129 : x12_3 ≤ (x8_2.length : Int)
                ·rw [if_pos c129] at H
                 have c129b0 := eq_true c129
                 have c129b1 : decide (x12_3 ≤ (x8_2.length : Int)) = true := decide_eq_true c129
                 clear c129
                 obtain ⟨y233, hy233⟩ : ∃ y_ : List Int, y_ = (x8_2.take (x12_3 : Int).toNat) := ⟨_, rfl⟩
                 replace H : (if 0 ≤ (wrap64 (x12_3 + 1)) then (if (wrap64 (x12_3 + 1)) ≤ (x8_2.length : Int) then (if a0_1 = 0 then (none) else ((some (([(⟨1, 0⟩ : S88), (⟨0, 1⟩ : S88), (⟨(-1), 0⟩ : S88), (⟨0, (-1)⟩ : S88)] : List (S88)) : List (S88))).bind fun y244 => (impl_Drain.l3 k3 x5_2 x6_2 x7_2 (x8_2.eraseIdx (x12_3 : Int).toNat) (rd x8_2 x12_3) (wrap64 (Int.tdiv (rd x8_2 x12_3) a0_1)) (Int.tmod (rd x8_2 x12_3) a0_1) y244 (y244.length : Int) 0 a0_0 a0_1 l0_2))) else (none)) else (none)) = some (r1, r2) := by first | (rw [hy233]; with_reducible exact H) | (have H2_ := (Option.bind_some _ _).symm.trans H; rw [hy233]; with_reducible exact H2_) | (have H2_ := (Option.bind_some _ _).symm.trans H; with_reducible exact H2_) | with_reducible exact H | (rw [hy233]; exact H) | exact H
                 have Ny233 := Aside0.mk hy233; clear hy233
                 obtain ⟨ji130, hji130⟩ : ∃ j_ : Int, (wrap64 (x12_3 + 1)) = j_ := ⟨_, rfl⟩
                 replace H : (if 0 ≤ (ji130) then (if (ji130) ≤ (x8_2.length : Int) then (if a0_1 = 0 then (none) else ((some (([(⟨1, 0⟩ : S88), (⟨0, 1⟩ : S88), (⟨(-1), 0⟩ : S88), (⟨0, (-1)⟩ : S88)] : List (S88)) : List (S88))).bind fun y244 => (impl_Drain.l3 k3 x5_2 x6_2 x7_2 (x8_2.eraseIdx (x12_3 : Int).toNat) (rd x8_2 x12_3) (wrap64 (Int.tdiv (rd x8_2 x12_3) a0_1)) (Int.tmod (rd x8_2 x12_3) a0_1) y244 (y244.length : Int) 0 a0_0 a0_1 l0_2))) else (none)) else (none)) = some (r1, r2) := by first | (rw [hji130] at H; exact H) | (simp only [hji130] at H ⊢; exact H)
                 have hji130w : (IntKind.i64.wrap (x12_3 + 1)) = ji130 := (i64_w _).trans hji130
                 by_cases c131 : 0 ≤ (ji130)
                 ·rw [if_pos c131] at H
                  have c131b0 := eq_true c131
                  have c131b1 : decide (0 ≤ (ji130)) = true := decide_eq_true c131
                  clear c131
                  by_cases c132 : (ji130) ≤ (x8_2.length : Int)
                  ·rw [if_pos c132] at H
                   have c132b0 := eq_true c132
                   have c132b1 : decide ((ji130) ≤ (x8_2.length : Int)) = true := decide_eq_true c132
                   clear c132
                   obtain ⟨y237, hy237⟩ : ∃ y_ : List Int, y_ = (x8_2.drop ((ji130) : Int).toNat) := ⟨_, rfl⟩
                   replace H : (if a0_1 = 0 then (none) else ((some (([(⟨1, 0⟩ : S88), (⟨0, 1⟩ : S88), (⟨(-1), 0⟩ : S88), (⟨0, (-1)⟩ : S88)] : List (S88)) : List (S88))).bind fun y244 => (impl_Drain.l3 k3 x5_2 x6_2 x7_2 (x8_2.eraseIdx (x12_3 : Int).toNat) (rd x8_2 x12_3) (wrap64 (Int.tdiv (rd x8_2 x12_3) a0_1)) (Int.tmod (rd x8_2 x12_3) a0_1) y244 (y244.length : Int) 0 a0_0 a0_1 l0_2))) = some (r1, r2) := by first | (rw [hy237]; with_reducible exact H) | (have H2_ := (Option.bind_some _ _).symm.trans H; rw [hy237]; with_reducible exact H2_) | (have H2_ := (Option.bind_some _ _).symm.trans H; with_reducible exact H2_) | with_reducible exact H | (rw [hy237]; exact H) | exact H
                   have Ny237 := Aside0.mk hy237; clear hy237
                   obtain ⟨y241, hy241⟩ : ∃ y_ : List Int, y_ = (x8_2.eraseIdx (x12_3 : Int).toNat) := ⟨_, rfl⟩
                   replace H : (if a0_1 = 0 then (none) else ((some (([(⟨1, 0⟩ : S88), (⟨0, 1⟩ : S88), (⟨(-1), 0⟩ : S88), (⟨0, (-1)⟩ : S88)] : List (S88)) : List (S88))).bind fun y244 => (impl_Drain.l3 k3 x5_2 x6_2 x7_2 y241 (rd x8_2 x12_3) (wrap64 (Int.tdiv (rd x8_2 x12_3) a0_1)) (Int.tmod (rd x8_2 x12_3) a0_1) y244 (y244.length : Int) 0 a0_0 a0_1 l0_2))) = some (r1, r2) := by first | (rw [hy241]; with_reducible exact H) | (have H2_ := (Option.bind_some _ _).symm.trans H; rw [hy241]; with_reducible exact H2_) | (have H2_ := (Option.bind_some _ _).symm.trans H; with_reducible exact H2_) | with_reducible exact H | (rw [hy241]; exact H) | exact H
                   have Ny241 := Aside0.mk hy241; clear hy241
                   by_cases c133 : a0_1 = 0
                   ·rw [if_pos c133] at H
                    exact absurd H (by simp)
                   ·rw [if_neg c133] at H
                    have c133b0 : (a0_1 == 0) = false := beq_eq_false_iff_ne.mpr c133
                    have c133b1 : (a0_1 != 0) = true := bne_iff_ne.mpr c133
                    obtain ⟨y244, hy244⟩ : ∃ y_ : List (S88), y_ = (([(⟨1, 0⟩ : S88), (⟨0, 1⟩ : S88), (⟨(-1), 0⟩ : S88), (⟨0, (-1)⟩ : S88)] : List (S88))) := ⟨_, rfl⟩
                    replace H : (impl_Drain.l3 k3 x5_2 x6_2 x7_2 y241 (rd x8_2 x12_3) (wrap64 (Int.tdiv (rd x8_2 x12_3) a0_1)) (Int.tmod (rd x8_2 x12_3) a0_1) y244 (y244.length : Int) 0 a0_0 a0_1 l0_2) = some (r1, r2) := by first | (rw [hy244]; with_reducible exact H) | (have H2_ := (Option.bind_some _ _).symm.trans H; rw [hy244]; with_reducible exact H2_) | (have H2_ := (Option.bind_some _ _).symm.trans H; with_reducible exact H2_) | with_reducible exact H | (rw [hy244]; exact H) | exact H
                    have Ny244 := Aside0.mk hy244; clear hy244; have H' := Aside0.mk H; clear H
                    have p232 : 0 ≤ (x12_3 : Int) := of_decide_eq_true (by first | (with_reducible assumption) | assumption)
                    have q232 : x12_3 < (x8_2.length : Int) := of_decide_eq_true (by first | (with_reducible assumption) | assumption)
                    obtain ⟨ad232, e232, hx232_0⟩ := Kd.at_int (Kd.R_reads' HO_8.out).2.2 x12_3 p232 q232
                    cases e232
                    replace p232 := eq_true p232; replace q232 := eq_true q232
                    have q134 : (x12_3 : Int) ≤ ((x8_2.length : Int) : Int) := of_decide_eq_true (by first | (with_reducible assumption) | assumption)
                    obtain ⟨i0134, hi0134, _, hsz134, _⟩ := info_parts info2
                    have hroom134 : x8_2.length ≤ co105 := (Kd.R_reads' HO_8.out).2.1
                    have hC134 : Kd.C (Kd.int .i64) _ (some ad232) x8_2.length x8_2 := (Kd.R_reads' HO_8.out).2.2
                    have hcut134 := cut_to (P := Try.prog) 22 2 .i64 Try.underlying22 hi0134 (some ad232) x8_2.length co105 x12_3 (of_decide_eq_true (by first | (with_reducible assumption) | assumption)) q134 hroom134
                    have hr134 := Kd.C_take (m := (x12_3 : Int).toNat) hC134 (by omega)
                    have hy134 : y233.length = (x12_3 : Int).toNat := (by rw [Ny233.out, List.length_take]; omega)
                    rw [← Ny233.out] at hr134
                    rw [← hy134] at hcut134
                    have HR236 := Aside0.mk hr134
                    have HC236 := Aside0.mk (show y233.length ≤ co105 from by omega)
                    clear hr134 hC134 hroom134 hi0134 hsz134; have KY134 := Aside0.mk hy134; clear hy134
                    have KL134 := Aside0.mk (show (x12_3 : Int).toNat ≤ x8_2.length from by omega)
                    replace q134 := eq_true q134
                    have q135 : ((ji130) : Int) ≤ ((x8_2.length : Int) : Int) := of_decide_eq_true (by first | (with_reducible assumption) | assumption)
                    obtain ⟨i0135, hi0135, _, hsz135, _⟩ := info_parts info2
                    have hroom135 : x8_2.length ≤ co105 := (Kd.R_reads' HO_8.out).2.1
                    have hC135 : Kd.C (Kd.int .i64) _ (some ad232) x8_2.length x8_2 := (Kd.R_reads' HO_8.out).2.2
                    have q0135 : (0 : Int) ≤ ((ji130) : Int) := of_decide_eq_true (by first | (with_reducible assumption) | assumption)
                    have hcut135 := cut_from (P := Try.prog) 22 2 .i64 Try.underlying22 hi0135 1 hsz135 (some ad232) x8_2.length co105 (ji130) q0135 q135
                    have hr135 := Kd.C_drop (m := ((ji130) : Int).toNat) (c := co105) hC135 (by omega) hroom135
                    obtain ⟨A135, hA135⟩ : ∃ A1, A1 = (if co105 = ((ji130) : Int).toNat then (some ad232) else ((some ad232) : Option Addr).map (·.add (((ji130) : Int).toNat * 1))) := ⟨_, rfl⟩
                    obtain ⟨c135, hc135⟩ : ∃ c1, c1 = co105 - ((ji130) : Int).toNat := ⟨_, rfl⟩
                    have hy135 : y237.length = x8_2.length - ((ji130) : Int).toNat := (by rw [Ny237.out, List.length_drop] <;> omega)
                    rw [show (x8_2).drop ((ji130) : Int).toNat = y237 from Ny237.out.symm] at hr135
                    replace hr135 : Kd.C (Kd.int .i64) _ A135 y237.length y237 := (by rw [hA135]; exact hr135)
                    rw [← hy135, ← hA135, ← hc135] at hcut135
                    have HR240 := Aside0.mk hr135
                    have HC240 := Aside0.mk (show y237.length ≤ c135 from by rw [hy135, hc135]; exact Nat.sub_le_sub_right hroom135 _)
                    clear hr135 hC135 hroom135 hi0135 hsz135 hc135; have KY135 := Aside0.mk hy135; have KA135 := Aside0.mk hA135; clear hy135 hA135
                    have KL135 := Aside0.mk (show ((ji130) : Int).toNat ≤ x8_2.length from by omega)
                    replace q135 := eq_true q135
                    go_wp2_with (first | ((with_reducible refine gate_callee (f := 64) rfl ?_); apply Classical.byContradiction; intro hstop_))
                    refine absurd ?_ hstop_
                    clear hstop_
                    have hi_ : x12_3 < (x8_2.length : Int) := of_decide_eq_true (by first | (with_reducible assumption) | assumption)
                    have hj_ : 0 ≤ (x12_3 : Int) := of_decide_eq_true (by first | (with_reducible assumption) | assumption)
                    have hl_ : (ji130 : Int) ≤ (x8_2.length : Int) := of_decide_eq_true (by first | (with_reducible assumption) | assumption)
                    have hh_ : (x12_3 : Int) ≤ (x8_2.length : Int) := of_decide_eq_true (by first | (with_reducible assumption) | assumption)
                    have hb_ := (Kd.R_reads' HO_8.out).2.2.2.1
                    have h0_ : (0 : Int) ≤ (ji130 : Int) := of_decide_eq_true (by first | (with_reducible assumption) | assumption)
                    obtain ⟨gd137, cap_, ev_, _⟩ := Kd.R_form HO_8.out (by omega)
                    injection ev_ with ea_ en_ ec_; clear en_; subst ec_
                    (first | subst ea_ | (injection ea_ with ea_; subst ea_))
                    have hjj_ : (ji130 : Int) = x12_3 + 1 := (by have h00_ := h0_; rw [← hji130] at h00_ ⊢; unfold wrap64 at h00_ ⊢; omega)
                    refine gL_ (some 139) Try.func64 #[.slice (some ⟨gd137, 0, none⟩) x8_2.length co105, .int .i64 x12_3, .int .i64 ji130] ?_
                    refine (Go.Proofs.Ytopfdmodbhopiaa.Srt.del_calls (w0 := w) (rT_ HO_8) (by repeat (first | (with_reducible first | exact HB.out | apply below_alloc | apply pw_below_drewN | apply below_drew1 | refine below_set ?_ GE184.out) | exact HB.out)) (Nat.le_refl _) hj_ hi_ hjj_).mono ?_
                    rintro e_ w136 ⟨rfl, ho, hb, hg⟩
                    refine ⟨_, rfl, ?_⟩
                    rw [← Ny241.out] at ho ⊢
                    clear hj_ hl_ hh_ hb_ h0_ hi_ hjj_
                    clear HO_93
                    replace HO_5 := Aside0.mk (Kd.R_after (v := (.slice (some ⟨gd137, 0, none⟩) x8_2.length co105)) (v1 := .slice (some ⟨gd137, 0, none⟩) y241.length co105) (ok := (fun k_ => some k_ ≠ (v190 : Value).ownBlock ∧ some k_ ≠ (.slice (some ⟨gd137, 0, none⟩) x8_2.length co105 : Value).ownBlock)) (rM_ HO_5) hg (.inl rfl))
                    replace HO_6 := Aside0.mk (Kd.R_after (v := (.slice (some ⟨gd137, 0, none⟩) x8_2.length co105)) (v1 := .slice (some ⟨gd137, 0, none⟩) y241.length co105) (ok := (fun k_ => some k_ ≠ (v187 : Value).ownBlock ∧ some k_ ≠ (.slice (some ⟨gd137, 0, none⟩) x8_2.length co105 : Value).ownBlock)) (rM_ HO_6) hg (.inl rfl))
                    replace HO_7 := Aside0.mk (Kd.R_over' (v := (.slice (some ⟨gd137, 0, none⟩) x8_2.length co105)) (rT_ HO_7) (Kd.R_typed HO_8.out) (by decide) hg)
                    replace BK184 := Aside0.mk (blk_grown (g := gb184) (o := .cells #[.int .i64 a0_0, .int .i64 a0_1, .slice A0_2 l0_2.length c0_2] 62 (0, 0)) (bT_ BK184) hg (Kd.R_ne HO_8.out BK184.out (by decide)))
                    replace HO_8 := Aside0.mk (ho)
                    replace HB := Aside0.mk (hb)
                    clear ho hb hg
                    try go_wp2
                    replace HO_5 := Aside0.mk (Kd.R_drew HO_5.out)
                    replace HO_6 := Aside0.mk (Kd.R_drew HO_6.out)
                    replace HO_7 := Aside0.mk (Kd.R_drew HO_7.out)
                    replace HO_8 := Aside0.mk (Kd.R_drew HO_8.out)

                    replace BK184 := Aside0.mk (blk_drew BK184.out)
                    replace HB := Aside0.mk (below_drew1 HB.out)
                    refine start_ (n := 10) (S := fun w' => w'.cell? ⟨gb184, 0, none⟩ = some (.int .i64 a0_0) ∧ w'.cell? ⟨gb184, 1, none⟩ = some (.int .i64 a0_1) ∧ w'.cell? ⟨gb184, 2, none⟩ = some (.slice A0_2 l0_2.length c0_2)) (ds := []) #[false, false, false, false, false, false, false, false, false, false] (by kernel_rfl) rfl rfl ⟨(blk_cell BK184.out 0).trans rfl, (blk_cell BK184.out 1).trans rfl, (blk_cell BK184.out 2).trans rfl⟩ (fun hHeld => ?_); refine with_tabW impl_Drain.tab25 impl_Drain.bits25 (fun HT_ HW_ => ?_)
                    generalize w136.drew = w138 at HO_5 HO_6 HO_7 HO_8 BK184 HB hHeld ⊢
                    refine pT_ 0 (some 140) #[true, false, false, false, false, false, false, false, false, false] HT_ ?_
                    refine pT_ 1 (some 141) #[true, true, false, false, false, false, false, false, false, false] HT_ ?_
                    refine pT_ 4 (some 144) #[true, true, false, false, true, false, false, false, false, false] HT_ ?_
                    refine pT_ 5 (some 145) #[true, true, false, false, true, true, false, false, false, false] HT_ ?_
                    refine tT_ 2 (some 142) #[true, true, true, false, true, true, false, false, false, false] HT_ HW_ hHeld ?_ (hy := by rintro w' ⟨s0, s1, s2⟩; go_simp; with_reducible rfl)
                    refine pT_ 3 (some 143) #[true, true, true, true, true, true, false, false, false, false] HT_ ?_
                    refine pT_ 8 (some 17) #[true, true, true, true, true, true, false, false, true, false] HT_ ?_
                    refine tT_ 6 (some 146) #[true, true, true, true, true, true, true, false, true, false] HT_ HW_ hHeld ?_ (hy := by rintro w' ⟨s0, s1, s2⟩; go_simp; with_reducible rfl)
                    refine pT_ 7 (some 147) #[true, true, true, true, true, true, true, true, true, false] HT_ ?_
                    refine pT_ 9 (some 18) #[true, true, true, true, true, true, true, true, true, true] HT_ ?_
                    refine done_ (done_of HT_.out (by kernel_rfl)) ?_
                    try go_wp2_with (first | ((with_reducible refine gate_dst (N := 152) rfl ?_); refine Kd.R_lit k88 _ 88 ?hg (N := 152) ?hd (xs := ([(⟨1, 0⟩ : S88), (⟨0, 1⟩ : S88), (⟨(-1), 0⟩ : S88), (⟨0, (-1)⟩ : S88)] : List (S88))) (inner := [.int .i64 1, .int .i64 0, .int .i64 0, .int .i64 1, .int .i64 (-1), .int .i64 0, .int .i64 0, .int .i64 (-1)]) (ok := fun _ => True) (okp := fun _ => True) ?hr ?hp (fun _ hk => hk) trivial (Below.refl _ _) (Nat.le_refl _) (by simp) ?_; (case hd => rfl); (case hg => rfl); (case hr => first | (go_simp; done) | (go_simp; rfl)); (case hp => exact (Reps.c2 (show Kd.M k88 _ _ _ (⟨1, 0⟩ : S88) [.int .i64 1, .int .i64 0] from (k88_mkM _ _ _ (⟨1, 0⟩ : S88) )) (Reps.c2 (show Kd.M k88 _ _ _ (⟨0, 1⟩ : S88) [.int .i64 0, .int .i64 1] from (k88_mkM _ _ _ (⟨0, 1⟩ : S88) )) (Reps.c2 (show Kd.M k88 _ _ _ (⟨(-1), 0⟩ : S88) [.int .i64 (-1), .int .i64 0] from (k88_mkM _ _ _ (⟨(-1), 0⟩ : S88) )) (Reps.c2 (show Kd.M k88 _ _ _ (⟨0, (-1)⟩ : S88) [.int .i64 0, .int .i64 (-1)] from (k88_mkM _ _ _ (⟨0, (-1)⟩ : S88) )) (Reps.none _ _)))))); intro v245 w139 ho140 hb hg_ hnew_; clear hg_ hnew_; (first | rw [← Ny244.out] at ho140 | (simp only [Int.reduceToNat] at ho140; rw [← Ny244.out] at ho140)); replace HO_5 := rB_ HO_5 hb; replace HO_6 := rB_ HO_6 hb; replace HO_7 := rB_ HO_7 hb; replace HO_8 := rB_ HO_8 hb; have HO246 := rL_ ho140 HB; replace BK184 := bB_ BK184 hb; replace HB := bS_ HB hb; clear hb ho140; obtain ⟨Ao141, co141, eo141⟩ := Kd.R_slice HO246.out; subst eo141))
                    go_loopg [8, 154] k3 (fun kq v8 v154 w' => ∃ (x5_4 : List Int) (x6_4 : List Int) (x7_4 : List Bool) (x8_4 : List Int) (x154_4 : Int), v154 = .int .i64 x154_4 ∧ Aside0 (impl_Drain.l3 kq x5_4 x6_4 x7_4 x8_4 (rd x8_2 x12_3) (wrap64 (Int.tdiv (rd x8_2 x12_3) a0_1)) (Int.tmod (rd x8_2 x12_3) a0_1) y244 (y244.length : Int) x154_4 a0_0 a0_1 l0_2 = some (r1, r2)) ∧ Aside0 (kq ≤ k3) ∧ Aside0 (Kd.R (Kd.int .i64) 2 w' w.heap.size (fun k_ => some k_ ≠ (v190 : Value).ownBlock ∧ some k_ ≠ (v8 : Value).ownBlock) v187 x5_4) ∧ Aside0 (Kd.R (Kd.int .i64) 2 w' w.heap.size (fun k_ => some k_ ≠ (v187 : Value).ownBlock ∧ some k_ ≠ (v8 : Value).ownBlock) v190 x6_4) ∧ Aside0 (Kd.R Kd.bool 4 w' w.heap.size (fun _ => True) v193 x7_4) ∧ Aside0 (Kd.R (Kd.int .i64) 2 w' w.heap.size (fun k_ => some k_ ≠ (v187 : Value).ownBlock ∧ some k_ ≠ (v190 : Value).ownBlock) v8 x8_4) ∧ Aside0 (Kd.R k88 88 w' w.heap.size (fun _ => True) (.slice Ao141 y244.length co141) y244) ∧ Aside0 (w'.heap[gb184]? = some (.cells #[.int .i64 a0_0, .int .i64 a0_1, (.slice A0_2 l0_2.length c0_2)] 62 (0, 0))) ∧ Aside0 (Below w.heap.size w w'))
                    case atStart => exact ⟨(x5_2), (x6_2), (x7_2), (y241), (0), (by first | rfl | (simp; done) | (simp [*]; done)), H', ⟨Nat.le_refl _⟩, ⟨by (with_reducible repeat (first | apply Kd.R_alloc | apply Kd.R_drewN | apply Kd.R_drew)); exact Kd.R_mono HO_5.out (fun _ hk => ⟨hk.1.1, hk.2⟩)⟩, ⟨by (with_reducible repeat (first | apply Kd.R_alloc | apply Kd.R_drewN | apply Kd.R_drew)); exact Kd.R_mono HO_6.out (fun _ hk => ⟨hk.1.1, hk.2⟩)⟩, ⟨by (with_reducible repeat (first | apply Kd.R_alloc | apply Kd.R_drewN | apply Kd.R_drew)); exact HO_7.out⟩, ⟨by (with_reducible repeat (first | apply Kd.R_alloc | apply Kd.R_drewN | apply Kd.R_drew)); exact HO_8.out⟩, ⟨by (with_reducible repeat (first | apply Kd.R_alloc | apply Kd.R_drewN | apply Kd.R_drew)); exact HO246.out⟩, ⟨by exact bT_ BK184⟩, ⟨by repeat (first | (with_reducible first | exact HB.out | apply below_alloc | apply pw_below_drewN | apply below_drew1 | refine below_set ?_ GE184.out) | exact HB.out)⟩⟩
                    case round =>
                     clear H'; (try clear c1); (try clear q1); (try clear c2); (try clear p2); (try clear q2); (try clear hx2); (try clear p6); (try clear c10); (try clear c11); (try clear c12); (try clear c13); (try clear q13); (try clear p22); (try clear q22); (try clear hx22); (try clear p23); (try clear q23); (try clear hx23); (try clear p64); (try clear c106); (try clear c106b0); (try clear c107); (try clear c108); (try clear c109); (try clear c110); (try clear c111); (try clear c112); (try clear c113); (try clear c114); (try clear c118); (try clear c118b0); (try clear c118b1); (try clear c126); (try clear c126b0); (try clear c127); (try clear c127b0); (try clear c128); (try clear c128b0); (try clear c129); (try clear c129b0); (try clear c129b1); (try clear c131); (try clear c131b0); (try clear c131b1); (try clear c132); (try clear c132b0); (try clear c132b1); (try clear c133); (try clear c133b0); (try clear c133b1); (try clear q134); (try clear c135); (try clear q135); (try clear hx226_0); (try clear hx227_0); (try clear hx228_0); (try clear hx229_0); (try clear hx230_0); (try clear hx231_0); (try clear hx232_0); (try clear p226); (try clear p227); (try clear p228); (try clear p229); (try clear p230); (try clear p231); (try clear p232); (try clear q0135); (try clear q134); (try clear q135); (try clear q226); (try clear q227); (try clear q228); (try clear q229); (try clear q230); (try clear q231); (try clear q232)
                     obtain ⟨x5_4, x6_4, x7_4, x8_4, x154_4, rfl, HA, HK4, HO_5, HO_6, HO_7, HO_8, HO_152, BK184, HB⟩ := hrel
                     cases gk with
                     | zero => exact absurd HA.out (by simp [impl_Drain.l3])
                     | succ k4 =>
                      have H := HA.out; clear HA
                      simp only [impl_Drain.l3] at H
                      by_cases c142 : x154_4 < (y244.length : Int)
                      ·rw [if_pos c142] at H
                       have c142b0 : decide (x154_4 < (y244.length : Int)) = true := decide_eq_true c142
                       clear c142
                       by_cases c143 : 0 ≤ x154_4
                       ·rw [if_pos c143] at H
                        have c143b0 : decide (0 ≤ x154_4) = true := decide_eq_true c143
                        clear c143
                        by_cases c144 : x154_4 < (y244.length : Int)
                        ·rw [if_pos c144] at H
                         have c144b0 : decide (x154_4 < (y244.length : Int)) = true := decide_eq_true c144
                         clear c144; have HC145 := Aside0.mk H; clear H
                         have p247 : 0 ≤ (x154_4 : Int) := of_decide_eq_true (by first | (with_reducible assumption) | assumption)
                         have q247 : x154_4 < (y244.length : Int) := of_decide_eq_true (by first | (with_reducible assumption) | assumption)
                         obtain ⟨ad247, e247, hx247_0, hx247_1⟩ := at_T88 (Kd.R_reads' HO_152.out).2.2 x154_4 p247 q247
                         cases e247
                         replace p247 := eq_true p247; replace q247 := eq_true q247
                         try go_wp2_with (first | ((with_reducible refine gate_dst (N := 20) rfl ?_); refine box_event ?hg (N := 20) ?hd (cs := #[.int .i64 0, .int .i64 0]) (t := 88) ?hr ?_; (case hd => rfl); (case hg => rfl); (case hr => first | (go_simp; done) | (go_simp; rfl)); intro gb248 hg w146 hbox hb; replace HO_5 := rB_ HO_5 hb; replace HO_6 := rB_ HO_6 hb; replace HO_7 := rB_ HO_7 hb; replace HO_8 := rB_ HO_8 hb; replace HO_152 := Aside0.mk (Kd.R_below (Kd.R_elderB (rT_ HO_152) gb248 (Nat.le_of_eq hg.symm)) hb); have BK248 := Aside0.mk (hbox); have GW248 := gE_ HB hg; have GE248 := gE_ HB hg; replace HB := bS_ HB hb; have NB184_248 := nL_ BK184 hg; have NB248_184 := nG_ BK184 hg; replace BK184 := bB_ BK184 hb; clear hb hbox hg; have hnb147 := NB248_184.out; have hnc147 := NB184_248.out; have hcz148_0 : w146.cell? ⟨gb248, 0, none⟩ = some (.int .i64 0) := (blk_cell BK248.out 0).trans rfl; have hcz148_1 : w146.cell? ⟨gb248, 1, none⟩ = some (.int .i64 0) := (blk_cell BK248.out 1).trans rfl; have hfz148_0 := blk_frozen BK248.out 0; have hfz148_1 := blk_frozen BK248.out 1))
                         have n0_ : Aside0 (Kd.R (Kd.int .i64) 2 ((w146.setCell ⟨gb248, 0, none⟩ (.int .i64 ((rd_T88 y244 x154_4).f0))).setCell ⟨gb248, 1, none⟩ (.int .i64 ((rd_T88 y244 x154_4).f1))) w.heap.size (fun k_ => some k_ ≠ (v190 : Value).ownBlock ∧ some k_ ≠ (u8 : Value).ownBlock) v187 x5_4) := ⟨by (with_reducible repeat (first | apply Kd.R_alloc | apply Kd.R_drewN | apply Kd.R_drew)); exact Kd.R_mono (Kd.R_far (p := ⟨gb248, 1, none⟩) (Kd.R_far (p := ⟨gb248, 0, none⟩) (Kd.R_types HO_5.out BK248.out (by decide)) (fun _ hk => hk.2) (.int .i64 ((rd_T88 y244 x154_4).f0))) (fun _ hk => hk.2) (.int .i64 ((rd_T88 y244 x154_4).f1))) (fun _ hk => ⟨hk.1.1, hk.1.2⟩)⟩
                         have n1_ : Aside0 (Kd.R (Kd.int .i64) 2 ((w146.setCell ⟨gb248, 0, none⟩ (.int .i64 ((rd_T88 y244 x154_4).f0))).setCell ⟨gb248, 1, none⟩ (.int .i64 ((rd_T88 y244 x154_4).f1))) w.heap.size (fun k_ => some k_ ≠ (v187 : Value).ownBlock ∧ some k_ ≠ (u8 : Value).ownBlock) v190 x6_4) := ⟨by (with_reducible repeat (first | apply Kd.R_alloc | apply Kd.R_drewN | apply Kd.R_drew)); exact Kd.R_mono (Kd.R_far (p := ⟨gb248, 1, none⟩) (Kd.R_far (p := ⟨gb248, 0, none⟩) (Kd.R_types HO_6.out BK248.out (by decide)) (fun _ hk => hk.2) (.int .i64 ((rd_T88 y244 x154_4).f0))) (fun _ hk => hk.2) (.int .i64 ((rd_T88 y244 x154_4).f1))) (fun _ hk => ⟨hk.1.1, hk.1.2⟩)⟩
                         have n2_ : Aside0 (Kd.R Kd.bool 4 ((w146.setCell ⟨gb248, 0, none⟩ (.int .i64 ((rd_T88 y244 x154_4).f0))).setCell ⟨gb248, 1, none⟩ (.int .i64 ((rd_T88 y244 x154_4).f1))) w.heap.size (fun _ => True) v193 x7_4) := ⟨by (with_reducible repeat (first | apply Kd.R_alloc | apply Kd.R_drewN | apply Kd.R_drew)); exact Kd.R_mono (Kd.R_far (p := ⟨gb248, 1, none⟩) (Kd.R_far (p := ⟨gb248, 0, none⟩) (Kd.R_types HO_7.out BK248.out (by decide)) (fun _ hk => hk.2) (.int .i64 ((rd_T88 y244 x154_4).f0))) (fun _ hk => hk.2) (.int .i64 ((rd_T88 y244 x154_4).f1))) (fun _ hk => trivial)⟩
                         have n3_ : Aside0 (Kd.R (Kd.int .i64) 2 ((w146.setCell ⟨gb248, 0, none⟩ (.int .i64 ((rd_T88 y244 x154_4).f0))).setCell ⟨gb248, 1, none⟩ (.int .i64 ((rd_T88 y244 x154_4).f1))) w.heap.size (fun k_ => some k_ ≠ (v187 : Value).ownBlock ∧ some k_ ≠ (v190 : Value).ownBlock) u8 x8_4) := ⟨by (with_reducible repeat (first | apply Kd.R_alloc | apply Kd.R_drewN | apply Kd.R_drew)); exact Kd.R_mono (Kd.R_far (p := ⟨gb248, 1, none⟩) (Kd.R_far (p := ⟨gb248, 0, none⟩) (Kd.R_types HO_8.out BK248.out (by decide)) (fun _ hk => hk.2) (.int .i64 ((rd_T88 y244 x154_4).f0))) (fun _ hk => hk.2) (.int .i64 ((rd_T88 y244 x154_4).f1))) (fun _ hk => ⟨hk.1.1, hk.1.2⟩)⟩
                         have n4_ : Aside0 (Kd.R k88 88 ((w146.setCell ⟨gb248, 0, none⟩ (.int .i64 ((rd_T88 y244 x154_4).f0))).setCell ⟨gb248, 1, none⟩ (.int .i64 ((rd_T88 y244 x154_4).f1))) w.heap.size (fun k_ => k_ ≠ gb248) (.slice (some ad247) y244.length co141) y244) := ⟨by (with_reducible repeat (first | apply Kd.R_alloc | apply Kd.R_drewN | apply Kd.R_drew)); exact Kd.R_mono (Kd.R_far (p := ⟨gb248, 1, none⟩) (Kd.R_far (p := ⟨gb248, 0, none⟩) (Kd.R_mono HO_152.out (fun k_ hk => (⟨hk, hk.2⟩ : _ ∧ k_ ≠ gb248))) (fun _ hk => hk.2) (.int .i64 ((rd_T88 y244 x154_4).f0))) (fun _ hk => hk.2) (.int .i64 ((rd_T88 y244 x154_4).f1))) (fun _ hk => hk.1.2)⟩
                         have n5_ : Aside0 (((w146.setCell ⟨gb248, 0, none⟩ (.int .i64 ((rd_T88 y244 x154_4).f0))).setCell ⟨gb248, 1, none⟩ (.int .i64 ((rd_T88 y244 x154_4).f1))).heap[gb184]? = some (.cells #[.int .i64 a0_0, .int .i64 a0_1, .slice A0_2 l0_2.length c0_2] 62 (0, 0))) := ⟨by (with_reducible repeat (first | refine blk_drewN ?_ _ | refine blk_drew ?_ | refine blk_alloc ?_ _)); refine blk_far ?_ NB184_248.out _; (with_reducible repeat (first | refine blk_drewN ?_ _ | refine blk_drew ?_ | refine blk_alloc ?_ _)); refine blk_far ?_ NB184_248.out _; exact bT_ BK184⟩
                         have n6_ : Aside0 (((w146.setCell ⟨gb248, 0, none⟩ (.int .i64 ((rd_T88 y244 x154_4).f0))).setCell ⟨gb248, 1, none⟩ (.int .i64 ((rd_T88 y244 x154_4).f1))).heap[gb248]? = some (.cells #[.int .i64 ((rd_T88 y244 x154_4).f0), .int .i64 ((rd_T88 y244 x154_4).f1)] 88 (0, 0))) := ⟨by (with_reducible repeat (first | refine blk_drewN ?_ _ | refine blk_drew ?_ | refine blk_alloc ?_ _)); refine blk_put (cs := #[.int .i64 ((rd_T88 y244 x154_4).f0), .int .i64 0]) ?_ 1 _ rfl; (with_reducible repeat (first | refine blk_drewN ?_ _ | refine blk_drew ?_ | refine blk_alloc ?_ _)); refine blk_put (cs := #[.int .i64 0, .int .i64 0]) ?_ 0 _ rfl; exact bT_ BK248⟩
                         have n7_ : Aside0 (Below w.heap.size w ((w146.setCell ⟨gb248, 0, none⟩ (.int .i64 ((rd_T88 y244 x154_4).f0))).setCell ⟨gb248, 1, none⟩ (.int .i64 ((rd_T88 y244 x154_4).f1)))) := ⟨by repeat (first | (with_reducible first | exact HB.out | apply below_alloc | apply pw_below_drewN | apply below_drew1 | refine below_set ?_ GE184.out | refine below_set ?_ GE248.out) | exact HB.out)⟩
                         (try clear HO_5); (try clear HO_6); (try clear HO_7); (try clear HO_8); (try clear HO_152); (try clear BK184); (try clear BK248); (try clear HB)
                         generalize ((w146.setCell ⟨gb248, 0, none⟩ (.int .i64 ((rd_T88 y244 x154_4).f0))).setCell ⟨gb248, 1, none⟩ (.int .i64 ((rd_T88 y244 x154_4).f1))) = w149 at n0_ n1_ n2_ n3_ n4_ n5_ n6_ n7_ ⊢
                         have HO_5 := n0_; have HO_6 := n1_; have HO_7 := n2_; have HO_8 := n3_; have HO_152 := n4_; have BK184 := n5_; have BK248 := n6_; have HB := n7_; clear n0_ n1_ n2_ n3_ n4_ n5_ n6_ n7_
                         replace HO_5 := Aside0.mk (Kd.R_drew HO_5.out)
                         replace HO_6 := Aside0.mk (Kd.R_drew HO_6.out)
                         replace HO_7 := Aside0.mk (Kd.R_drew HO_7.out)
                         replace HO_8 := Aside0.mk (Kd.R_drew HO_8.out)
                         replace HO_152 := Aside0.mk (Kd.R_drew HO_152.out)
                         replace BK184 := Aside0.mk (blk_drew BK184.out)
                         replace BK248 := Aside0.mk (blk_drew BK248.out)
                         replace HB := Aside0.mk (below_drew1 HB.out)
                         refine start_ (n := 10) (S := fun w' => w'.cell? ⟨gb248, 0, none⟩ = some (.int .i64 ((rd_T88 y244 x154_4).f0)) ∧ w'.cell? ⟨gb248, 1, none⟩ = some (.int .i64 ((rd_T88 y244 x154_4).f1))) (ds := []) #[false, false, false, false, false, false, false, false, false, false] (by kernel_rfl) rfl rfl ⟨(blk_cell BK248.out 0).trans rfl, (blk_cell BK248.out 1).trans rfl⟩ (fun hHeld => ?_); refine with_tabW impl_Drain.tab29 impl_Drain.bits29 (fun HT_ HW_ => ?_)
                         generalize w149.drew = w150 at HO_5 HO_6 HO_7 HO_8 HO_152 BK184 BK248 HB hHeld ⊢
                         refine pT_ 0 (some 158) #[true, false, false, false, false, false, false, false, false, false] HT_ ?_
                         refine pT_ 1 (some 159) #[true, true, false, false, false, false, false, false, false, false] HT_ ?_
                         refine pT_ 4 (some 162) #[true, true, false, false, true, false, false, false, false, false] HT_ ?_
                         refine pT_ 5 (some 163) #[true, true, false, false, true, true, false, false, false, false] HT_ ?_
                         refine tT_ 2 (some 160) #[true, true, true, false, true, true, false, false, false, false] HT_ HW_ hHeld ?_ (hy := by rintro w' ⟨s0, s1⟩; go_simp; with_reducible rfl)
                         refine pT_ 3 (some 161) #[true, true, true, true, true, true, false, false, false, false] HT_ ?_
                         refine pT_ 8 (some 21) #[true, true, true, true, true, true, false, false, true, false] HT_ ?_
                         refine tT_ 6 (some 164) #[true, true, true, true, true, true, true, false, true, false] HT_ HW_ hHeld ?_ (hy := by rintro w' ⟨s0, s1⟩; go_simp; with_reducible rfl)
                         refine pT_ 7 (some 165) #[true, true, true, true, true, true, true, true, true, false] HT_ ?_
                         refine pT_ 9 (some 22) #[true, true, true, true, true, true, true, true, true, true] HT_ ?_
                         refine done_ (done_of HT_.out (by kernel_rfl)) ?_
                         go_upto_region 30 with (fail)
                         go_cut [179] (fun v179 wc => ∃ (kq : Nat) (x179_144 : Bool), v179 = .bool x179_144 ∧ Aside0 (impl_Drain.j4 kq x5_4 x6_4 x7_4 x8_4 (rd x8_2 x12_3) (wrap64 (Int.tdiv (rd x8_2 x12_3) a0_1)) (Int.tmod (rd x8_2 x12_3) a0_1) (wrap64 ((wrap64 (Int.tdiv (rd x8_2 x12_3) a0_1)) + ((rd_T88 y244 x154_4).f0))) (wrap64 ((Int.tmod (rd x8_2 x12_3) a0_1) + ((rd_T88 y244 x154_4).f1))) y244 (y244.length : Int) x154_4 x179_144 a0_0 a0_1 l0_2 = some (r1, r2)) ∧ Aside0 (kq ≤ k4) ∧ Aside0 (Kd.R (Kd.int .i64) 2 wc w.heap.size (fun k_ => some k_ ≠ (v190 : Value).ownBlock ∧ some k_ ≠ (u8 : Value).ownBlock) v187 x5_4) ∧ Aside0 (Kd.R (Kd.int .i64) 2 wc w.heap.size (fun k_ => some k_ ≠ (v187 : Value).ownBlock ∧ some k_ ≠ (u8 : Value).ownBlock) v190 x6_4) ∧ Aside0 (Kd.R Kd.bool 4 wc w.heap.size (fun _ => True) v193 x7_4) ∧ Aside0 (Kd.R (Kd.int .i64) 2 wc w.heap.size (fun k_ => some k_ ≠ (v187 : Value).ownBlock ∧ some k_ ≠ (v190 : Value).ownBlock) u8 x8_4) ∧ Aside0 (Kd.R k88 88 wc w.heap.size (fun k_ => k_ ≠ gb248) (.slice (some ad247) y244.length co141) y244) ∧ Aside0 (wc.heap[gb184]? = some (.cells #[.int .i64 a0_0, .int .i64 a0_1, (.slice A0_2 l0_2.length c0_2)] 62 (0, 0))) ∧ Aside0 (wc.heap[gb248]? = some (.cells #[.int .i64 ((rd_T88 y244 x154_4).f0), .int .i64 ((rd_T88 y244 x154_4).f1)] 88 (0, 0))) ∧ Aside0 (Below w.heap.size w wc))
                         case first =>
                          have H := HC145.out; clear HC145; replace H := Option.bind_eq_some_iff.mp H
                          obtain ⟨t249, A1510, H⟩ := H
                          replace H : (if t249 = true then ((impl_in.f (wrap64 ((Int.tmod (rd x8_2 x12_3) a0_1) + ((rd_T88 y244 x154_4).f1))) 0 (wrap64 (a0_1 - 1))).bind fun t250 => (impl_Drain.j4 k4 x5_4 x6_4 x7_4 x8_4 (rd x8_2 x12_3) (wrap64 (Int.tdiv (rd x8_2 x12_3) a0_1)) (Int.tmod (rd x8_2 x12_3) a0_1) (wrap64 ((wrap64 (Int.tdiv (rd x8_2 x12_3) a0_1)) + ((rd_T88 y244 x154_4).f0))) (wrap64 ((Int.tmod (rd x8_2 x12_3) a0_1) + ((rd_T88 y244 x154_4).f1))) y244 (y244.length : Int) x154_4 (!t250) a0_0 a0_1 l0_2)) else (impl_Drain.j4 k4 x5_4 x6_4 x7_4 x8_4 (rd x8_2 x12_3) (wrap64 (Int.tdiv (rd x8_2 x12_3) a0_1)) (Int.tmod (rd x8_2 x12_3) a0_1) (wrap64 ((wrap64 (Int.tdiv (rd x8_2 x12_3) a0_1)) + ((rd_T88 y244 x154_4).f0))) (wrap64 ((Int.tmod (rd x8_2 x12_3) a0_1) + ((rd_T88 y244 x154_4).f1))) y244 (y244.length : Int) x154_4 true a0_0 a0_1 l0_2)) = some (r1, r2) := H
                          have A151 := Aside0.mk A1510; clear A1510
                          by_cases c152 : t249 = true
                          ·subst c152
                           have H1 : ((impl_in.f (wrap64 ((Int.tmod (rd x8_2 x12_3) a0_1) + ((rd_T88 y244 x154_4).f1))) 0 (wrap64 (a0_1 - 1))).bind fun t250 => (impl_Drain.j4 k4 x5_4 x6_4 x7_4 x8_4 (rd x8_2 x12_3) (wrap64 (Int.tdiv (rd x8_2 x12_3) a0_1)) (Int.tmod (rd x8_2 x12_3) a0_1) (wrap64 ((wrap64 (Int.tdiv (rd x8_2 x12_3) a0_1)) + ((rd_T88 y244 x154_4).f0))) (wrap64 ((Int.tmod (rd x8_2 x12_3) a0_1) + ((rd_T88 y244 x154_4).f1))) y244 (y244.length : Int) x154_4 (!t250) a0_0 a0_1 l0_2)) = some (r1, r2) := by rw [if_pos rfl] at H; exact H
                           clear H; have H := H1; clear H1; replace H := Option.bind_eq_some_iff.mp H
                           obtain ⟨t250, A1530, H⟩ := H
                           replace H : (impl_Drain.j4 k4 x5_4 x6_4 x7_4 x8_4 (rd x8_2 x12_3) (wrap64 (Int.tdiv (rd x8_2 x12_3) a0_1)) (Int.tmod (rd x8_2 x12_3) a0_1) (wrap64 ((wrap64 (Int.tdiv (rd x8_2 x12_3) a0_1)) + ((rd_T88 y244 x154_4).f0))) (wrap64 ((Int.tmod (rd x8_2 x12_3) a0_1) + ((rd_T88 y244 x154_4).f1))) y244 (y244.length : Int) x154_4 (!t250) a0_0 a0_1 l0_2) = some (r1, r2) := H
                           have A153 := Aside0.mk A1530; clear A1530; have H' := Aside0.mk H; clear H; have hnb154 := NB184_248.out; have hnc154 := NB248_184.out
                           have hcz155_0 : w150.cell? ⟨gb184, 0, none⟩ = some (.int .i64 a0_0) := (blk_cell BK184.out 0).trans rfl
                           have hcz155_1 : w150.cell? ⟨gb184, 1, none⟩ = some (.int .i64 a0_1) := (blk_cell BK184.out 1).trans rfl
                           have hcz155_2 : w150.cell? ⟨gb184, 2, none⟩ = some (.slice A0_2 l0_2.length c0_2) := (blk_cell BK184.out 2).trans rfl
                           have hfz155_0 := blk_frozen BK184.out 0; have hfz155_1 := blk_frozen BK184.out 1; have hfz155_2 := blk_frozen BK184.out 2
                           go_wp2_with (first | ((with_reducible refine gate_callee (f := 47) rfl ?_); refine gL_ (some 170) Try.func47 #[.int .i64 (wrap64 ((wrap64 (Int.tdiv (rd x8_2 x12_3) a0_1)) + ((rd_T88 y244 x154_4).f0))), .int .i64 0, .int .i64 (wrap64 (a0_0 - 1))] ?_; (with_reducible refine (impl_in.calls (wrap64 ((wrap64 (Int.tdiv (rd x8_2 x12_3) a0_1)) + ((rd_T88 y244 x154_4).f0))) 0 (wrap64 (a0_0 - 1)) true _ A151.out).mono ?_); rintro e w' ⟨rfl, ⟨nd, rfl⟩⟩; refine ⟨_, rfl, ?_⟩) | (go_at_call 47; (with_reducible refine (impl_in.calls (wrap64 ((Int.tmod (rd x8_2 x12_3) a0_1) + ((rd_T88 y244 x154_4).f1))) 0 (wrap64 (a0_1 - 1)) t250 _ A153.out).mono ?_); rintro e w' ⟨rfl, ⟨nd, rfl⟩⟩))
                           go_meet
                           case rel => exact ⟨_, (!t250), (by first | rfl | (simp; done) | (simp [*]; done)), H', ⟨by have := HK1.out; have := HK2.out; have := HK3.out; have := HK4.out; first | omega | exact Nat.le_refl _⟩, ⟨by (with_reducible repeat (first | apply Kd.R_alloc | apply Kd.R_drewN | apply Kd.R_drew)); exact HO_5.out⟩, ⟨by (with_reducible repeat (first | apply Kd.R_alloc | apply Kd.R_drewN | apply Kd.R_drew)); exact HO_6.out⟩, ⟨by (with_reducible repeat (first | apply Kd.R_alloc | apply Kd.R_drewN | apply Kd.R_drew)); exact HO_7.out⟩, ⟨by (with_reducible repeat (first | apply Kd.R_alloc | apply Kd.R_drewN | apply Kd.R_drew)); exact HO_8.out⟩, ⟨by (with_reducible repeat (first | apply Kd.R_alloc | apply Kd.R_drewN | apply Kd.R_drew)); exact HO_152.out⟩, ⟨by exact bT_ BK184⟩, ⟨by exact bT_ BK248⟩, ⟨by repeat (first | (with_reducible first | exact HB.out | apply below_alloc | apply pw_below_drewN | apply below_drew1 | refine below_set ?_ GE184.out | refine below_set ?_ GE248.out) | exact HB.out)⟩⟩
                          ·replace c152 := Bool.eq_false_iff.mpr c152
                           subst c152
                           have H1 : (impl_Drain.j4 k4 x5_4 x6_4 x7_4 x8_4 (rd x8_2 x12_3) (wrap64 (Int.tdiv (rd x8_2 x12_3) a0_1)) (Int.tmod (rd x8_2 x12_3) a0_1) (wrap64 ((wrap64 (Int.tdiv (rd x8_2 x12_3) a0_1)) + ((rd_T88 y244 x154_4).f0))) (wrap64 ((Int.tmod (rd x8_2 x12_3) a0_1) + ((rd_T88 y244 x154_4).f1))) y244 (y244.length : Int) x154_4 true a0_0 a0_1 l0_2) = some (r1, r2) := by rw [if_neg (show ¬ (false = true) by decide)] at H; exact H
                           clear H; have H := H1; clear H1; have H' := Aside0.mk H; clear H; have hnb156 := NB184_248.out; have hnc156 := NB248_184.out
                           have hcz157_0 : w150.cell? ⟨gb184, 0, none⟩ = some (.int .i64 a0_0) := (blk_cell BK184.out 0).trans rfl
                           have hcz157_1 : w150.cell? ⟨gb184, 1, none⟩ = some (.int .i64 a0_1) := (blk_cell BK184.out 1).trans rfl
                           have hcz157_2 : w150.cell? ⟨gb184, 2, none⟩ = some (.slice A0_2 l0_2.length c0_2) := (blk_cell BK184.out 2).trans rfl
                           have hfz157_0 := blk_frozen BK184.out 0; have hfz157_1 := blk_frozen BK184.out 1; have hfz157_2 := blk_frozen BK184.out 2
                           go_wp2_with (first | ((with_reducible refine gate_callee (f := 47) rfl ?_); refine gL_ (some 170) Try.func47 #[.int .i64 (wrap64 ((wrap64 (Int.tdiv (rd x8_2 x12_3) a0_1)) + ((rd_T88 y244 x154_4).f0))), .int .i64 0, .int .i64 (wrap64 (a0_0 - 1))] ?_; (with_reducible refine (impl_in.calls (wrap64 ((wrap64 (Int.tdiv (rd x8_2 x12_3) a0_1)) + ((rd_T88 y244 x154_4).f0))) 0 (wrap64 (a0_0 - 1)) false _ A151.out).mono ?_); rintro e w' ⟨rfl, ⟨nd, rfl⟩⟩; refine ⟨_, rfl, ?_⟩))
                           go_meet
                           case rel => exact ⟨_, (true), (by first | rfl | (simp; done) | (simp [*]; done)), H', ⟨by have := HK1.out; have := HK2.out; have := HK3.out; have := HK4.out; first | omega | exact Nat.le_refl _⟩, ⟨by (with_reducible repeat (first | apply Kd.R_alloc | apply Kd.R_drewN | apply Kd.R_drew)); exact HO_5.out⟩, ⟨by (with_reducible repeat (first | apply Kd.R_alloc | apply Kd.R_drewN | apply Kd.R_drew)); exact HO_6.out⟩, ⟨by (with_reducible repeat (first | apply Kd.R_alloc | apply Kd.R_drewN | apply Kd.R_drew)); exact HO_7.out⟩, ⟨by (with_reducible repeat (first | apply Kd.R_alloc | apply Kd.R_drewN | apply Kd.R_drew)); exact HO_8.out⟩, ⟨by (with_reducible repeat (first | apply Kd.R_alloc | apply Kd.R_drewN | apply Kd.R_drew)); exact HO_152.out⟩, ⟨by exact bT_ BK184⟩, ⟨by exact bT_ BK248⟩, ⟨by repeat (first | (with_reducible first | exact HB.out | apply below_alloc | apply pw_below_drewN | apply below_drew1 | refine below_set ?_ GE184.out | refine below_set ?_ GE248.out) | exact HB.out)⟩⟩
                         case rest =>
                          clear HC145; (try clear c1); (try clear q1); (try clear c2); (try clear p2); (try clear q2); (try clear hx2); (try clear c4); (try clear p6); (try clear c10); (try clear c11); (try clear c12); (try clear c13); (try clear q13); (try clear c14); (try clear c15); (try clear p22); (try clear q22); (try clear hx22); (try clear p23); (try clear q23); (try clear hx23); (try clear p24); (try clear q24); (try clear hx24); (try clear c47); (try clear p64); (try clear c106); (try clear c106b0); (try clear c107); (try clear c108); (try clear c109); (try clear c110); (try clear c111); (try clear c112); (try clear c113); (try clear c114); (try clear c118); (try clear c118b0); (try clear c118b1); (try clear c126); (try clear c126b0); (try clear c127); (try clear c127b0); (try clear c128); (try clear c128b0); (try clear c129); (try clear c129b0); (try clear c129b1); (try clear c131); (try clear c131b0); (try clear c131b1); (try clear c132); (try clear c132b0); (try clear c132b1); (try clear c133); (try clear c133b0); (try clear c133b1); (try clear q134); (try clear c135); (try clear q135); (try clear c142); (try clear c142b0); (try clear c143); (try clear c143b0); (try clear c144); (try clear c144b0); (try clear c147); (try clear c152); (try clear c154); (try clear c156); (try clear hcz148_0); (try clear hcz148_1); (try clear hcz155_0); (try clear hcz155_1); (try clear hcz155_2); (try clear hcz157_0); (try clear hcz157_1); (try clear hcz157_2); (try clear hfz148_0); (try clear hfz148_1); (try clear hfz155_0); (try clear hfz155_1); (try clear hfz155_2); (try clear hfz157_0); (try clear hfz157_1); (try clear hfz157_2); (try clear hx226_0); (try clear hx227_0); (try clear hx228_0); (try clear hx229_0); (try clear hx230_0); (try clear hx231_0); (try clear hx232_0); (try clear hx247_0); (try clear hx247_1); (try clear p2); (try clear p22); (try clear p226); (try clear p227); (try clear p228); (try clear p229); (try clear p23); (try clear p230); (try clear p231); (try clear p232); (try clear p247); (try clear p6); (try clear p64); (try clear q0135); (try clear q1); (try clear q13); (try clear q134); (try clear q135); (try clear q2); (try clear q22); (try clear q226); (try clear q227); (try clear q228); (try clear q229); (try clear q23); (try clear q230); (try clear q231); (try clear q232); (try clear q247)
                          obtain ⟨kq, x179_144, rfl, HA, HJ144, HO_5, HO_6, HO_7, HO_8, HO_152, BK184, BK248, HB⟩ := hcut
                          cases kq with
                          | zero => exact absurd HA.out (by simp [impl_Drain.j4])
                          | succ kj144 =>
                           have H := HA.out; clear HA
                           simp only [impl_Drain.j4] at H
                           by_cases c158 : x179_144 = true
                           ·subst c158
                            have H1 : (impl_Drain.l3 kj144 x5_4 x6_4 x7_4 x8_4 (rd x8_2 x12_3) (wrap64 (Int.tdiv (rd x8_2 x12_3) a0_1)) (Int.tmod (rd x8_2 x12_3) a0_1) y244 (y244.length : Int) (wrap64 (x154_4 + 1)) a0_0 a0_1 l0_2) = some (r1, r2) := by rw [if_pos rfl] at H; exact H
                            clear H; have H := H1; clear H1; have H' := Aside0.mk H; clear H
                            go_wp2
                            go_roundg kj144
                            case measure => have := HK1.out; have := HK2.out; have := HK3.out; have := HK4.out; have := HJ144.out; omega
                            case rel => exact ⟨(x5_4), (x6_4), (x7_4), (x8_4), (wrap64 (x154_4 + 1)), (by first | rfl | (simp; done) | (simp [*]; done)), H', ⟨by have := HK1.out; have := HK2.out; have := HK3.out; have := HK4.out; have := HJ144.out; omega⟩, ⟨by (with_reducible repeat (first | apply Kd.R_alloc | apply Kd.R_drewN | apply Kd.R_drew)); exact HO_5.out⟩, ⟨by (with_reducible repeat (first | apply Kd.R_alloc | apply Kd.R_drewN | apply Kd.R_drew)); exact HO_6.out⟩, ⟨by (with_reducible repeat (first | apply Kd.R_alloc | apply Kd.R_drewN | apply Kd.R_drew)); exact HO_7.out⟩, ⟨by (with_reducible repeat (first | apply Kd.R_alloc | apply Kd.R_drewN | apply Kd.R_drew)); exact HO_8.out⟩, ⟨by (with_reducible repeat (first | apply Kd.R_alloc | apply Kd.R_drewN | apply Kd.R_drew)); exact Kd.R_mono HO_152.out (fun _ hk => trivial)⟩, ⟨by exact bT_ BK184⟩, ⟨by repeat (first | (with_reducible first | exact HB.out | apply below_alloc | apply pw_below_drewN | apply below_drew1 | refine below_set ?_ GE184.out | refine below_set ?_ GE248.out) | exact HB.out)⟩⟩
                           ·replace c158 := Bool.eq_false_iff.mpr c158
                            subst c158
                            have H1 : (if 0 ≤ (wrap64 ((wrap64 ((wrap64 ((wrap64 (Int.tdiv (rd x8_2 x12_3) a0_1)) + ((rd_T88 y244 x154_4).f0))) * a0_1)) + (wrap64 ((Int.tmod (rd x8_2 x12_3) a0_1) + ((rd_T88 y244 x154_4).f1))))) then (if (wrap64 ((wrap64 ((wrap64 ((wrap64 (Int.tdiv (rd x8_2 x12_3) a0_1)) + ((rd_T88 y244 x154_4).f0))) * a0_1)) + (wrap64 ((Int.tmod (rd x8_2 x12_3) a0_1) + ((rd_T88 y244 x154_4).f1))))) < (x7_4.length : Int) then (if rdOf false x7_4 (wrap64 ((wrap64 ((wrap64 ((wrap64 (Int.tdiv (rd x8_2 x12_3) a0_1)) + ((rd_T88 y244 x154_4).f0))) * a0_1)) + (wrap64 ((Int.tmod (rd x8_2 x12_3) a0_1) + ((rd_T88 y244 x154_4).f1))))) = true then (impl_Drain.l3 kj144 x5_4 x6_4 x7_4 x8_4 (rd x8_2 x12_3) (wrap64 (Int.tdiv (rd x8_2 x12_3) a0_1)) (Int.tmod (rd x8_2 x12_3) a0_1) y244 (y244.length : Int) (wrap64 (x154_4 + 1)) a0_0 a0_1 l0_2) else (if (wrap64 ((wrap64 ((wrap64 ((wrap64 (Int.tdiv (rd x8_2 x12_3) a0_1)) + ((rd_T88 y244 x154_4).f0))) * a0_1)) + (wrap64 ((Int.tmod (rd x8_2 x12_3) a0_1) + ((rd_T88 y244 x154_4).f1))))) < (l0_2.length : Int) then (if 0 ≤ (rd x8_2 x12_3) then (if (rd x8_2 x12_3) < (x5_4.length : Int) then (if (wrap64 ((wrap64 ((wrap64 ((wrap64 (Int.tdiv (rd x8_2 x12_3) a0_1)) + ((rd_T88 y244 x154_4).f0))) * a0_1)) + (wrap64 ((Int.tmod (rd x8_2 x12_3) a0_1) + ((rd_T88 y244 x154_4).f1))))) < (x5_4.length : Int) then (if (wrap64 ((wrap64 ((wrap64 ((wrap64 (Int.tdiv (rd x8_2 x12_3) a0_1)) + ((rd_T88 y244 x154_4).f0))) * a0_1)) + (wrap64 ((Int.tmod (rd x8_2 x12_3) a0_1) + ((rd_T88 y244 x154_4).f1))))) < (x6_4.length : Int) then (if x8_4.length < 17592186044416 then (impl_Drain.l3 kj144 (x5_4.set ((wrap64 ((wrap64 ((wrap64 ((wrap64 (Int.tdiv (rd x8_2 x12_3) a0_1)) + ((rd_T88 y244 x154_4).f0))) * a0_1)) + (wrap64 ((Int.tmod (rd x8_2 x12_3) a0_1) + ((rd_T88 y244 x154_4).f1))))) : Int).toNat (mx (rd l0_2 (wrap64 ((wrap64 ((wrap64 ((wrap64 (Int.tdiv (rd x8_2 x12_3) a0_1)) + ((rd_T88 y244 x154_4).f0))) * a0_1)) + (wrap64 ((Int.tmod (rd x8_2 x12_3) a0_1) + ((rd_T88 y244 x154_4).f1)))))) (rd x5_4 (rd x8_2 x12_3)))) (x6_4.set ((wrap64 ((wrap64 ((wrap64 ((wrap64 (Int.tdiv (rd x8_2 x12_3) a0_1)) + ((rd_T88 y244 x154_4).f0))) * a0_1)) + (wrap64 ((Int.tmod (rd x8_2 x12_3) a0_1) + ((rd_T88 y244 x154_4).f1))))) : Int).toNat (rd x8_2 x12_3)) (x7_4.set ((wrap64 ((wrap64 ((wrap64 ((wrap64 (Int.tdiv (rd x8_2 x12_3) a0_1)) + ((rd_T88 y244 x154_4).f0))) * a0_1)) + (wrap64 ((Int.tmod (rd x8_2 x12_3) a0_1) + ((rd_T88 y244 x154_4).f1))))) : Int).toNat true) (x8_4 ++ [wrap64 ((wrap64 ((wrap64 ((wrap64 (Int.tdiv (rd x8_2 x12_3) a0_1)) + ((rd_T88 y244 x154_4).f0))) * a0_1)) + (wrap64 ((Int.tmod (rd x8_2 x12_3) a0_1) + ((rd_T88 y244 x154_4).f1))))]) (rd x8_2 x12_3) (wrap64 (Int.tdiv (rd x8_2 x12_3) a0_1)) (Int.tmod (rd x8_2 x12_3) a0_1) y244 (y244.length : Int) (wrap64 (x154_4 + 1)) a0_0 a0_1 l0_2) else (none)) else (none)) else (none)) else (none)) else (none)) else (none))) else (none)) else (none)) = some (r1, r2) := by rw [if_neg (show ¬ (false = true) by decide)] at H; exact H
                            clear H; have H := H1; clear H1
                            obtain ⟨ji159, hji159⟩ : ∃ j_ : Int, (wrap64 ((wrap64 ((wrap64 ((wrap64 (Int.tdiv (rd x8_2 x12_3) a0_1)) + ((rd_T88 y244 x154_4).f0))) * a0_1)) + (wrap64 ((Int.tmod (rd x8_2 x12_3) a0_1) + ((rd_T88 y244 x154_4).f1))))) = j_ := ⟨_, rfl⟩
                            replace H : (if 0 ≤ (ji159) then (if (ji159) < (x7_4.length : Int) then (if rdOf false x7_4 (ji159) = true then (impl_Drain.l3 kj144 x5_4 x6_4 x7_4 x8_4 (rd x8_2 x12_3) (wrap64 (Int.tdiv (rd x8_2 x12_3) a0_1)) (Int.tmod (rd x8_2 x12_3) a0_1) y244 (y244.length : Int) (wrap64 (x154_4 + 1)) a0_0 a0_1 l0_2) else (if (ji159) < (l0_2.length : Int) then (if 0 ≤ (rd x8_2 x12_3) then (if (rd x8_2 x12_3) < (x5_4.length : Int) then (if (ji159) < (x5_4.length : Int) then (if (ji159) < (x6_4.length : Int) then (if x8_4.length < 17592186044416 then (impl_Drain.l3 kj144 (x5_4.set ((ji159) : Int).toNat (mx (rd l0_2 (ji159)) (rd x5_4 (rd x8_2 x12_3)))) (x6_4.set ((ji159) : Int).toNat (rd x8_2 x12_3)) (x7_4.set ((ji159) : Int).toNat true) (x8_4 ++ [ji159]) (rd x8_2 x12_3) (wrap64 (Int.tdiv (rd x8_2 x12_3) a0_1)) (Int.tmod (rd x8_2 x12_3) a0_1) y244 (y244.length : Int) (wrap64 (x154_4 + 1)) a0_0 a0_1 l0_2) else (none)) else (none)) else (none)) else (none)) else (none)) else (none))) else (none)) else (none)) = some (r1, r2) := by first | (rw [hji159] at H; exact H) | (simp only [hji159] at H ⊢; exact H)
                            have hji159w : (IntKind.i64.wrap ((wrap64 ((wrap64 ((wrap64 (Int.tdiv (rd x8_2 x12_3) a0_1)) + ((rd_T88 y244 x154_4).f0))) * a0_1)) + (wrap64 ((Int.tmod (rd x8_2 x12_3) a0_1) + ((rd_T88 y244 x154_4).f1))))) = ji159 := (i64_w _).trans hji159
                            by_cases c160 : 0 ≤ (ji159)
                            ·rw [if_pos c160] at H
                             have c160b0 : decide (0 ≤ (ji159)) = true := decide_eq_true c160
                             clear c160
                             by_cases c161 : (ji159) < (x7_4.length : Int)
                             ·rw [if_pos c161] at H
                              have c161b0 : decide ((ji159) < (x7_4.length : Int)) = true := decide_eq_true c161
                              clear c161
                              obtain ⟨bq162, hbq162⟩ : ∃ b_ : Bool, b_ = (rdOf false x7_4 (ji159)) := ⟨_, rfl⟩
                              replace H : (if bq162 = true then (impl_Drain.l3 kj144 x5_4 x6_4 x7_4 x8_4 (rd x8_2 x12_3) (wrap64 (Int.tdiv (rd x8_2 x12_3) a0_1)) (Int.tmod (rd x8_2 x12_3) a0_1) y244 (y244.length : Int) (wrap64 (x154_4 + 1)) a0_0 a0_1 l0_2) else (if (ji159) < (l0_2.length : Int) then (if 0 ≤ (rd x8_2 x12_3) then (if (rd x8_2 x12_3) < (x5_4.length : Int) then (if (ji159) < (x5_4.length : Int) then (if (ji159) < (x6_4.length : Int) then (if x8_4.length < 17592186044416 then (impl_Drain.l3 kj144 (x5_4.set ((ji159) : Int).toNat (mx (rd l0_2 (ji159)) (rd x5_4 (rd x8_2 x12_3)))) (x6_4.set ((ji159) : Int).toNat (rd x8_2 x12_3)) (x7_4.set ((ji159) : Int).toNat true) (x8_4 ++ [ji159]) (rd x8_2 x12_3) (wrap64 (Int.tdiv (rd x8_2 x12_3) a0_1)) (Int.tmod (rd x8_2 x12_3) a0_1) y244 (y244.length : Int) (wrap64 (x154_4 + 1)) a0_0 a0_1 l0_2) else (none)) else (none)) else (none)) else (none)) else (none)) else (none))) = some (r1, r2) := by rw [← hbq162] at H; exact H
                              have Nbq162 := Aside0.mk hbq162; clear hbq162
                              by_cases c163 : bq162 = true
                              ·subst c163
                               have H1 : (impl_Drain.l3 kj144 x5_4 x6_4 x7_4 x8_4 (rd x8_2 x12_3) (wrap64 (Int.tdiv (rd x8_2 x12_3) a0_1)) (Int.tmod (rd x8_2 x12_3) a0_1) y244 (y244.length : Int) (wrap64 (x154_4 + 1)) a0_0 a0_1 l0_2) = some (r1, r2) := by rw [if_pos rfl] at H; exact H
                               clear H; have H := H1; clear H1; have H' := Aside0.mk H; clear H; have hnb164 := NB184_248.out; have hnc164 := NB248_184.out
                               have hcz165_0 : wc.cell? ⟨gb184, 0, none⟩ = some (.int .i64 a0_0) := (blk_cell BK184.out 0).trans rfl
                               have hcz165_1 : wc.cell? ⟨gb184, 1, none⟩ = some (.int .i64 a0_1) := (blk_cell BK184.out 1).trans rfl
                               have hcz165_2 : wc.cell? ⟨gb184, 2, none⟩ = some (.slice A0_2 l0_2.length c0_2) := (blk_cell BK184.out 2).trans rfl
                               have hfz165_0 := blk_frozen BK184.out 0; have hfz165_1 := blk_frozen BK184.out 1; have hfz165_2 := blk_frozen BK184.out 2
                               obtain ⟨Ao166, co166, eo166⟩ := Kd.R_slice HO_7.out
                               subst eo166
                               have p251 : 0 ≤ ((ji159) : Int) := of_decide_eq_true (by first | (with_reducible assumption) | assumption)
                               have q251 : (ji159) < (x7_4.length : Int) := of_decide_eq_true (by first | (with_reducible assumption) | assumption)
                               obtain ⟨ad251, e251, hx251_0⟩ := Kd.at_bool (Kd.R_reads' HO_7.out).2.2 (ji159) p251 q251
                               (try rw [← Nbq162.out] at hx251_0)
                               cases e251
                               replace p251 := eq_true p251; replace q251 := eq_true q251
                               go_wp2
                               go_roundg kj144
                               case measure => have := HK1.out; have := HK2.out; have := HK3.out; have := HK4.out; have := HJ144.out; omega
                               case rel => exact ⟨(x5_4), (x6_4), (x7_4), (x8_4), (wrap64 (x154_4 + 1)), (by first | rfl | (simp; done) | (simp [*]; done)), H', ⟨by have := HK1.out; have := HK2.out; have := HK3.out; have := HK4.out; have := HJ144.out; omega⟩, ⟨by (with_reducible repeat (first | apply Kd.R_alloc | apply Kd.R_drewN | apply Kd.R_drew)); exact HO_5.out⟩, ⟨by (with_reducible repeat (first | apply Kd.R_alloc | apply Kd.R_drewN | apply Kd.R_drew)); exact HO_6.out⟩, ⟨by (with_reducible repeat (first | apply Kd.R_alloc | apply Kd.R_drewN | apply Kd.R_drew)); exact HO_7.out⟩, ⟨by (with_reducible repeat (first | apply Kd.R_alloc | apply Kd.R_drewN | apply Kd.R_drew)); exact HO_8.out⟩, ⟨by (with_reducible repeat (first | apply Kd.R_alloc | apply Kd.R_drewN | apply Kd.R_drew)); exact Kd.R_mono HO_152.out (fun _ hk => trivial)⟩, ⟨by exact bT_ BK184⟩, ⟨by repeat (first | (with_reducible first | exact HB.out | apply below_alloc | apply pw_below_drewN | apply below_drew1 | refine below_set ?_ GE184.out | refine below_set ?_ GE248.out) | exact HB.out)⟩⟩
                              ·replace c163 := Bool.eq_false_iff.mpr c163
                               subst c163
                               have H1 : (if (ji159) < (l0_2.length : Int) then (if 0 ≤ (rd x8_2 x12_3) then (if (rd x8_2 x12_3) < (x5_4.length : Int) then (if (ji159) < (x5_4.length : Int) then (if (ji159) < (x6_4.length : Int) then (if x8_4.length < 17592186044416 then (impl_Drain.l3 kj144 (x5_4.set ((ji159) : Int).toNat (mx (rd l0_2 (ji159)) (rd x5_4 (rd x8_2 x12_3)))) (x6_4.set ((ji159) : Int).toNat (rd x8_2 x12_3)) (x7_4.set ((ji159) : Int).toNat true) (x8_4 ++ [ji159]) (rd x8_2 x12_3) (wrap64 (Int.tdiv (rd x8_2 x12_3) a0_1)) (Int.tmod (rd x8_2 x12_3) a0_1) y244 (y244.length : Int) (wrap64 (x154_4 + 1)) a0_0 a0_1 l0_2) else (none)) else (none)) else (none)) else (none)) else (none)) else (none)) = some (r1, r2) := by rw [if_neg (show ¬ (false = true) by decide)] at H; exact H
                               clear H; have H := H1; clear H1
                               by_cases c167 : (ji159) < (l0_2.length : Int)
                               ·rw [if_pos c167] at H
                                have c167b0 : decide ((ji159) < (l0_2.length : Int)) = true := decide_eq_true c167
                                clear c167
                                by_cases c168 : 0 ≤ (rd x8_2 x12_3)
                                ·rw [if_pos c168] at H
                                 have c168b0 : decide (0 ≤ (rd x8_2 x12_3)) = true := decide_eq_true c168
                                 clear c168
                                 by_cases c169 : (rd x8_2 x12_3) < (x5_4.length : Int)
                                 ·rw [if_pos c169] at H
                                  have c169b0 : decide ((rd x8_2 x12_3) < (x5_4.length : Int)) = true := decide_eq_true c169
                                  clear c169
                                  obtain ⟨ji170, hji170⟩ : ∃ j_ : Int, (mx (rd l0_2 (ji159)) (rd x5_4 (rd x8_2 x12_3))) = j_ := ⟨_, rfl⟩
                                  replace H : (if (ji159) < (x5_4.length : Int) then (if (ji159) < (x6_4.length : Int) then (if x8_4.length < 17592186044416 then (impl_Drain.l3 kj144 (x5_4.set ((ji159) : Int).toNat (ji170)) (x6_4.set ((ji159) : Int).toNat (rd x8_2 x12_3)) (x7_4.set ((ji159) : Int).toNat true) (x8_4 ++ [ji159]) (rd x8_2 x12_3) (wrap64 (Int.tdiv (rd x8_2 x12_3) a0_1)) (Int.tmod (rd x8_2 x12_3) a0_1) y244 (y244.length : Int) (wrap64 (x154_4 + 1)) a0_0 a0_1 l0_2) else (none)) else (none)) else (none)) = some (r1, r2) := by first | (rw [hji170] at H; exact H) | (simp only [hji170] at H ⊢; exact H)
                                  have hji170_ : (if (rd l0_2 (ji159)) < (rd x5_4 (rd x8_2 x12_3)) then (rd x5_4 (rd x8_2 x12_3)) else (rd l0_2 (ji159))) = ji170 := hji170
                                  obtain ⟨y254, hy254⟩ : ∃ y_ : List Bool, y_ = (x7_4.set ((ji159) : Int).toNat true) := ⟨_, rfl⟩
                                  replace H : (if (ji159) < (x5_4.length : Int) then (if (ji159) < (x6_4.length : Int) then (if x8_4.length < 17592186044416 then (impl_Drain.l3 kj144 (x5_4.set ((ji159) : Int).toNat (ji170)) (x6_4.set ((ji159) : Int).toNat (rd x8_2 x12_3)) y254 (x8_4 ++ [ji159]) (rd x8_2 x12_3) (wrap64 (Int.tdiv (rd x8_2 x12_3) a0_1)) (Int.tmod (rd x8_2 x12_3) a0_1) y244 (y244.length : Int) (wrap64 (x154_4 + 1)) a0_0 a0_1 l0_2) else (none)) else (none)) else (none)) = some (r1, r2) := by first | (rw [hy254]; with_reducible exact H) | (have H2_ := (Option.bind_some _ _).symm.trans H; rw [hy254]; with_reducible exact H2_) | (have H2_ := (Option.bind_some _ _).symm.trans H; with_reducible exact H2_) | with_reducible exact H | (rw [hy254]; exact H) | exact H
                                  have Ny254 := Aside0.mk hy254; clear hy254
                                  by_cases c172 : (ji159) < (x5_4.length : Int)
                                  ·rw [if_pos c172] at H
                                   have c172b0 : decide ((ji159) < (x5_4.length : Int)) = true := decide_eq_true c172
                                   clear c172
                                   obtain ⟨y255, hy255⟩ : ∃ y_ : List Int, y_ = (x5_4.set ((ji159) : Int).toNat (ji170)) := ⟨_, rfl⟩
                                   replace H : (if (ji159) < (x6_4.length : Int) then (if x8_4.length < 17592186044416 then (impl_Drain.l3 kj144 y255 (x6_4.set ((ji159) : Int).toNat (rd x8_2 x12_3)) y254 (x8_4 ++ [ji159]) (rd x8_2 x12_3) (wrap64 (Int.tdiv (rd x8_2 x12_3) a0_1)) (Int.tmod (rd x8_2 x12_3) a0_1) y244 (y244.length : Int) (wrap64 (x154_4 + 1)) a0_0 a0_1 l0_2) else (none)) else (none)) = some (r1, r2) := by first | (rw [hy255]; with_reducible exact H) | (have H2_ := (Option.bind_some _ _).symm.trans H; rw [hy255]; with_reducible exact H2_) | (have H2_ := (Option.bind_some _ _).symm.trans H; with_reducible exact H2_) | with_reducible exact H | (rw [hy255]; exact H) | exact H
                                   have Ny255 := Aside0.mk hy255; clear hy255
                                   by_cases c174 : (ji159) < (x6_4.length : Int)
                                   ·rw [if_pos c174] at H
                                    have c174b0 : decide ((ji159) < (x6_4.length : Int)) = true := decide_eq_true c174
                                    clear c174
                                    obtain ⟨y256, hy256⟩ : ∃ y_ : List Int, y_ = (x6_4.set ((ji159) : Int).toNat (rd x8_2 x12_3)) := ⟨_, rfl⟩
                                    replace H : (if x8_4.length < 17592186044416 then (impl_Drain.l3 kj144 y255 y256 y254 (x8_4 ++ [ji159]) (rd x8_2 x12_3) (wrap64 (Int.tdiv (rd x8_2 x12_3) a0_1)) (Int.tmod (rd x8_2 x12_3) a0_1) y244 (y244.length : Int) (wrap64 (x154_4 + 1)) a0_0 a0_1 l0_2) else (none)) = some (r1, r2) := by first | (rw [hy256]; with_reducible exact H) | (have H2_ := (Option.bind_some _ _).symm.trans H; rw [hy256]; with_reducible exact H2_) | (have H2_ := (Option.bind_some _ _).symm.trans H; with_reducible exact H2_) | with_reducible exact H | (rw [hy256]; exact H) | exact H
                                    have Ny256 := Aside0.mk hy256; clear hy256
                                    by_cases c176 : x8_4.length < 17592186044416
                                    ·rw [if_pos c176] at H
                                     have LMc176 := Aside0.mk c176; clear c176
                                     obtain ⟨y257, hy257⟩ : ∃ y_ : List Int, y_ = (x8_4 ++ [ji159]) := ⟨_, rfl⟩
                                     replace H : (impl_Drain.l3 kj144 y255 y256 y254 y257 (rd x8_2 x12_3) (wrap64 (Int.tdiv (rd x8_2 x12_3) a0_1)) (Int.tmod (rd x8_2 x12_3) a0_1) y244 (y244.length : Int) (wrap64 (x154_4 + 1)) a0_0 a0_1 l0_2) = some (r1, r2) := by first | (rw [hy257]; with_reducible exact H) | (have H2_ := (Option.bind_some _ _).symm.trans H; rw [hy257]; with_reducible exact H2_) | (have H2_ := (Option.bind_some _ _).symm.trans H; with_reducible exact H2_) | with_reducible exact H | (rw [hy257]; exact H) | exact H
                                     have Ny257 := Aside0.mk hy257; clear hy257; have H' := Aside0.mk H; clear H; have hnb177 := NB184_248.out; have hnc177 := NB248_184.out
                                     have hcz178_0 : wc.cell? ⟨gb184, 0, none⟩ = some (.int .i64 a0_0) := (blk_cell BK184.out 0).trans rfl
                                     have hcz178_1 : wc.cell? ⟨gb184, 1, none⟩ = some (.int .i64 a0_1) := (blk_cell BK184.out 1).trans rfl
                                     have hcz178_2 : wc.cell? ⟨gb184, 2, none⟩ = some (.slice A0_2 l0_2.length c0_2) := (blk_cell BK184.out 2).trans rfl
                                     have hfz178_0 := blk_frozen BK184.out 0; have hfz178_1 := blk_frozen BK184.out 1; have hfz178_2 := blk_frozen BK184.out 2
                                     obtain ⟨Ao179, co179, eo179⟩ := Kd.R_slice HO_7.out
                                     subst eo179
                                     have p251 : 0 ≤ ((ji159) : Int) := of_decide_eq_true (by first | (with_reducible assumption) | assumption)
                                     have q251 : (ji159) < (x7_4.length : Int) := of_decide_eq_true (by first | (with_reducible assumption) | assumption)
                                     obtain ⟨ad251, e251, hx251_0⟩ := Kd.at_bool (Kd.R_reads' HO_7.out).2.2 (ji159) p251 q251
                                     (try rw [← Nbq162.out] at hx251_0)
                                     cases e251
                                     replace p251 := eq_true p251; replace q251 := eq_true q251
                                     have p252 : 0 ≤ ((ji159) : Int) := of_decide_eq_true (by first | (with_reducible assumption) | assumption)
                                     have q252 : (ji159) < (l0_2.length : Int) := of_decide_eq_true (by first | (with_reducible assumption) | assumption)
                                     obtain ⟨ad252, e252, hx252_0⟩ := Kd.at_int HR0_2.out (ji159) p252 q252
                                     cases e252
                                     replace hx252_0 := (HB.out.cell (World.block_lt_of_cell? w _ hx252_0)).trans hx252_0
                                     replace p252 := eq_true p252; replace q252 := eq_true q252
                                     obtain ⟨Ao180, co180, eo180⟩ := Kd.R_slice HO_5.out
                                     subst eo180
                                     have p253 : 0 ≤ ((rd x8_2 x12_3) : Int) := of_decide_eq_true (by first | (with_reducible assumption) | assumption)
                                     have q253 : (rd x8_2 x12_3) < (x5_4.length : Int) := of_decide_eq_true (by first | (with_reducible assumption) | assumption)
                                     obtain ⟨ad253, e253, hx253_0⟩ := Kd.at_int (Kd.R_reads' HO_5.out).2.2 (rd x8_2 x12_3) p253 q253
                                     cases e253
                                     replace p253 := eq_true p253; replace q253 := eq_true q253
                                     have p171 : 0 ≤ ((ji159) : Int) := of_decide_eq_true (by first | (with_reducible assumption) | assumption)
                                     have q171 : ((ji159) : Int) < ((x7_4.length : Int) : Int) := of_decide_eq_true (by first | (with_reducible assumption) | assumption)
                                     obtain ⟨go171, co171, eo171, gb171, gl171, cl171, HG171⟩ := Kd.R_form HO_7.out (by omega)
                                     (first | cases eo171 | (injection eo171 with ea_ en_ ec_; (first | subst ea_ | (injection ea_ with ea_; subst ea_)); subst ec_; clear en_))
                                     have GB171 := Aside0.mk gb171; have GG171 := Aside0.mk HG171; clear gb171 gl171 HG171
                                     (first | simp only [add_plain] at hx251_0 | skip)
                                     obtain ⟨hx171_0, hf171_0⟩ := Kd.R_celln false HO_7.out ((ji159) : Int) p171 q171
                                     replace p171 := eq_true p171; replace q171 := eq_true q171
                                     go_wp2
                                     replace HO_5 := Aside0.mk (Kd.R_drew HO_5.out)
                                     replace HO_6 := Aside0.mk (Kd.R_drew HO_6.out)
                                     replace HO_7 := Aside0.mk (Kd.R_drew HO_7.out)
                                     replace HO_8 := Aside0.mk (Kd.R_drew HO_8.out)
                                     replace HO_152 := Aside0.mk (Kd.R_drew HO_152.out)
                                     replace BK184 := Aside0.mk (blk_drew BK184.out)
                                     replace BK248 := Aside0.mk (blk_drew BK248.out)
                                     replace HB := Aside0.mk (below_drew1 HB.out)
                                     refine start_ (n := 23) (S := fun w' => w'.cell? ⟨gb184, 2, none⟩ = some (.slice (some ad252) l0_2.length c0_2) ∧ w'.cell? (ad252.add ((ji159) : Int).toNat) = some (.int .i64 (rd l0_2 (ji159))) ∧ w'.cell? (ad253.add ((rd x8_2 x12_3) : Int).toNat) = some (.int .i64 (rd x5_4 (rd x8_2 x12_3)))) (ds := [18, 20, 22]) #[false, false, false, false, false, false, false, false, false, false, false, false, false, false, false, false, false, false, false, false, false, false, false] (by kernel_rfl) rfl rfl ⟨hcz178_2, hx252_0, hx253_0⟩ (fun hHeld => ?_)
                                     generalize wc.drew = wd33 at HO_5 HO_6 HO_7 HO_8 HO_152 BK184 BK248 HB hHeld ⊢
                                     refine pB_ 0 (some 190) #[true, false, false, false, false, false, false, false, false, false, false, false, false, false, false, false, false, false, false, false, false, false, false] ?_
                                     refine pB_ 1 (some 191) #[true, true, false, false, false, false, false, false, false, false, false, false, false, false, false, false, false, false, false, false, false, false, false] ?_
                                     refine pB_ 2 (some 192) #[true, true, true, false, false, false, false, false, false, false, false, false, false, false, false, false, false, false, false, false, false, false, false] ?_
                                     refine pB_ 3 (some 193) #[true, true, true, true, false, false, false, false, false, false, false, false, false, false, false, false, false, false, false, false, false, false, false] ?_
                                     refine pB_ 4 (some 194) #[true, true, true, true, true, false, false, false, false, false, false, false, false, false, false, false, false, false, false, false, false, false, false] ?_
                                     refine pB_ 5 (some 195) #[true, true, true, true, true, true, false, false, false, false, false, false, false, false, false, false, false, false, false, false, false, false, false] ?_
                                     refine pB_ 6 (some 196) #[true, true, true, true, true, true, true, false, false, false, false, false, false, false, false, false, false, false, false, false, false, false, false] ?_
                                     refine tB_ 7 (some 197) #[true, true, true, true, true, true, true, true, false, false, false, false, false, false, false, false, false, false, false, false, false, false, false] hHeld ?_ (hy := by rintro w' ⟨s0, s1, s2⟩; go_simp; with_reducible rfl)
                                     refine pB_ 8 (some 198) #[true, true, true, true, true, true, true, true, true, false, false, false, false, false, false, false, false, false, false, false, false, false, false] ?_
                                     refine pB_ 9 (some 199) #[true, true, true, true, true, true, true, true, true, true, false, false, false, false, false, false, false, false, false, false, false, false, false] ?_
                                     refine tB_ 10 (some 200) #[true, true, true, true, true, true, true, true, true, true, true, false, false, false, false, false, false, false, false, false, false, false, false] hHeld ?_ (hy := by rintro w' ⟨s0, s1, s2⟩; go_simp; with_reducible rfl)
                                     refine pB_ 11 (some 201) #[true, true, true, true, true, true, true, true, true, true, true, true, false, false, false, false, false, false, false, false, false, false, false] ?_
                                     refine pB_ 12 (some 202) #[true, true, true, true, true, true, true, true, true, true, true, true, true, false, false, false, false, false, false, false, false, false, false] ?_
                                     refine pB_ 13 (some 203) #[true, true, true, true, true, true, true, true, true, true, true, true, true, true, false, false, false, false, false, false, false, false, false] ?_
                                     refine tB_ 14 (some 204) #[true, true, true, true, true, true, true, true, true, true, true, true, true, true, true, false, false, false, false, false, false, false, false] hHeld ?_ (hy := by rintro w' ⟨s0, s1, s2⟩; go_simp; with_reducible rfl)
                                     refine pB_ 15 (some 205) #[true, true, true, true, true, true, true, true, true, true, true, true, true, true, true, true, false, false, false, false, false, false, false] ?_
                                     refine pB_ 16 (some 206) #[true, true, true, true, true, true, true, true, true, true, true, true, true, true, true, true, true, false, false, false, false, false, false] ?_
                                     refine pB_ 17 (some 207) #[true, true, true, true, true, true, true, true, true, true, true, true, true, true, true, true, true, true, false, false, false, false, false] ?_
                                     obtain ⟨hy181_, hz181_⟩ := Kd.R_celln false HO_7.out ((ji159) : Int) (of_decide_eq_true (by first | (with_reducible assumption) | assumption)) (of_decide_eq_true (by first | (with_reducible assumption) | assumption)); have HP181 := Kd.R_putg HO_7.out ((ji159) : Int) true
                                     refine last_ (i := 18) (N := none) #[true, true, true, true, true, true, true, true, true, true, true, true, true, true, true, true, true, true, true, false, false, false, false] rfl rfl (by kernel_rfl) (by decide) (fun K hK => ?_)
                                     refine skip_ (w1 := wd33.setCell ⟨go171, ((ji159) : Int).toNat, none⟩ (.bool true)) (by rfl) rfl ?_ ?_
                                     ·first | (go_simp; done) | (go_simp; rfl)
                                     refine hK.out _ _ ?_
                                     clear hK K
                                     obtain ⟨w182, hw⟩ : ∃ w_ : World, w_ = wd33.setCell ⟨go171, ((ji159) : Int).toNat, none⟩ (.bool true) := ⟨_, rfl⟩
                                     rw [← hw]
                                     have hg : wd33.grownBy w182 (some go171) := (by rw [hw]; exact HP181.2)
                                     have hp_ : Kd.R Kd.bool 4 w182 w.heap.size (fun _ => True) (.slice (some ⟨go171, 0, none⟩) x7_4.length co179) y254 := (by rw [hw, Ny254.out]; exact HP181.1)
                                     clear HP181
                                     replace HO_5 := Aside0.mk (Kd.R_over' (v := (.slice (some ⟨go171, 0, none⟩) x7_4.length co179)) (rT_ HO_5) (Kd.R_typed HO_7.out) (by decide) hg)
                                     replace HO_6 := Aside0.mk (Kd.R_over' (v := (.slice (some ⟨go171, 0, none⟩) x7_4.length co179)) (rT_ HO_6) (Kd.R_typed HO_7.out) (by decide) hg)
                                     replace HO_8 := Aside0.mk (Kd.R_over' (v := (.slice (some ⟨go171, 0, none⟩) x7_4.length co179)) (rT_ HO_8) (Kd.R_typed HO_7.out) (by decide) hg)
                                     replace HO_152 := Aside0.mk (Kd.R_over' (v := (.slice (some ⟨go171, 0, none⟩) x7_4.length co179)) (rT_ HO_152) (Kd.R_typed HO_7.out) (by decide) hg)
                                     replace BK184 := Aside0.mk (blk_grown (g := gb184) (o := .cells #[.int .i64 a0_0, .int .i64 a0_1, .slice (some ad252) l0_2.length c0_2] 62 (0, 0)) (bT_ BK184) hg (Kd.R_ne HO_7.out BK184.out (by decide)))
                                     replace BK248 := Aside0.mk (blk_grown (g := gb248) (o := .cells #[.int .i64 ((rd_T88 y244 x154_4).f0), .int .i64 ((rd_T88 y244 x154_4).f1)] 88 (0, 0)) (bT_ BK248) hg (Kd.R_ne HO_7.out BK248.out (by decide)))
                                     replace HO_7 := Aside0.mk (hp_)
                                     replace HB := Aside0.mk ((by rw [hw]; exact below_set (HB.out) GB171.out : Below w.heap.size w w182))
                                     clear hg hw hp_
                                     have p173 : 0 ≤ ((ji159) : Int) := of_decide_eq_true (by first | (with_reducible assumption) | assumption)
                                     have q173 : ((ji159) : Int) < ((x5_4.length : Int) : Int) := of_decide_eq_true (by first | (with_reducible assumption) | assumption)
                                     obtain ⟨go173, co173, eo173, gb173, gl173, cl173, HG173⟩ := Kd.R_form HO_5.out (by omega)
                                     (first | cases eo173 | (injection eo173 with ea_ en_ ec_; (first | subst ea_ | (injection ea_ with ea_; subst ea_)); subst ec_; clear en_))
                                     have GB173 := Aside0.mk gb173
                                     have GG173 := Aside0.mk HG173
                                     clear gb173 gl173 HG173
                                     (first | simp only [add_plain] at hx253_0 | skip)
                                     obtain ⟨hx173_0, hf173_0⟩ := Kd.R_celln 0 HO_5.out ((ji159) : Int) p173 q173
                                     replace p173 := eq_true p173
                                     replace q173 := eq_true q173
                                     obtain ⟨hy183_, hz183_⟩ := Kd.R_celln 0 HO_5.out ((ji159) : Int) (of_decide_eq_true (by first | (with_reducible assumption) | assumption)) (of_decide_eq_true (by first | (with_reducible assumption) | assumption))
                                     have HP183 := Kd.R_putg HO_5.out ((ji159) : Int) ji170
                                     refine pB_ 19 (some 208) #[true, true, true, true, true, true, true, true, true, true, true, true, true, true, true, true, true, true, true, true, false, false, false] ?_
                                     refine last_ (i := 20) (N := none) #[true, true, true, true, true, true, true, true, true, true, true, true, true, true, true, true, true, true, true, true, true, false, false] rfl rfl (by kernel_rfl) (by decide) (fun K hK => ?_)
                                     refine skip_ (w1 := w182.setCell ⟨go173, ((ji159) : Int).toNat, none⟩ (.int .i64 ji170)) (by rfl) rfl ?_ ?_
                                     ·first | (go_simp; done) | (go_simp; rfl)
                                     refine hK.out _ _ ?_
                                     clear hK K
                                     obtain ⟨w184, hw⟩ : ∃ w_ : World, w_ = w182.setCell ⟨go173, ((ji159) : Int).toNat, none⟩ (.int .i64 ji170) := ⟨_, rfl⟩
                                     rw [← hw]
                                     have hg : w182.grownBy w184 (some go173) := (by rw [hw]; exact HP183.2)
                                     have hp_ : Kd.R (Kd.int .i64) 2 w184 w.heap.size (fun k_ => some k_ ≠ (v190 : Value).ownBlock ∧ some k_ ≠ (u8 : Value).ownBlock) (.slice (some ⟨go173, 0, none⟩) x5_4.length co180) y255 := (by rw [hw, Ny255.out]; exact HP183.1)
                                     clear HP183
                                     replace HO_6 := Aside0.mk (Kd.R_after (v := (.slice (some ⟨go173, 0, none⟩) x5_4.length co180)) (v1 := (.slice (some ⟨go173, 0, none⟩) x5_4.length co180)) (ok := (fun k_ => some k_ ≠ (u8 : Value).ownBlock)) (rM_ HO_6) hg (.inl rfl))
                                     replace HO_7 := Aside0.mk (Kd.R_over' (v := (.slice (some ⟨go173, 0, none⟩) x5_4.length co180)) (rT_ HO_7) (Kd.R_typed HO_5.out) (by decide) hg)
                                     replace HO_8 := Aside0.mk (Kd.R_after (v := (.slice (some ⟨go173, 0, none⟩) x5_4.length co180)) (v1 := (.slice (some ⟨go173, 0, none⟩) x5_4.length co180)) (ok := (fun k_ => some k_ ≠ (v190 : Value).ownBlock)) (rM_ HO_8) hg (.inl rfl))
                                     replace HO_152 := Aside0.mk (Kd.R_over' (v := (.slice (some ⟨go173, 0, none⟩) x5_4.length co180)) (rT_ HO_152) (Kd.R_typed HO_5.out) (by decide) hg)
                                     replace BK184 := Aside0.mk (blk_grown (g := gb184) (o := .cells #[.int .i64 a0_0, .int .i64 a0_1, .slice (some ad252) l0_2.length c0_2] 62 (0, 0)) (bT_ BK184) hg (Kd.R_ne HO_5.out BK184.out (by decide)))
                                     replace BK248 := Aside0.mk (blk_grown (g := gb248) (o := .cells #[.int .i64 ((rd_T88 y244 x154_4).f0), .int .i64 ((rd_T88 y244 x154_4).f1)] 88 (0, 0)) (bT_ BK248) hg (Kd.R_ne HO_5.out BK248.out (by decide)))
                                     replace HO_5 := Aside0.mk (hp_)
                                     replace HB := Aside0.mk ((by rw [hw]; exact below_set (HB.out) GB173.out : Below w.heap.size w w184))
                                     clear hg hw hp_
                                     have p175 : 0 ≤ ((ji159) : Int) := of_decide_eq_true (by first | (with_reducible assumption) | assumption)
                                     have q175 : ((ji159) : Int) < ((x6_4.length : Int) : Int) := of_decide_eq_true (by first | (with_reducible assumption) | assumption)
                                     obtain ⟨go175, co175, eo175, gb175, gl175, cl175, HG175⟩ := Kd.R_form HO_6.out (by omega)
                                     (first | cases eo175 | (injection eo175 with ea_ en_ ec_; (first | subst ea_ | (injection ea_ with ea_; subst ea_)); subst ec_; clear en_))
                                     have GB175 := Aside0.mk gb175
                                     have GG175 := Aside0.mk HG175
                                     clear gb175 gl175 HG175
                                     obtain ⟨hx175_0, hf175_0⟩ := Kd.R_celln 0 HO_6.out ((ji159) : Int) p175 q175
                                     replace p175 := eq_true p175
                                     replace q175 := eq_true q175
                                     obtain ⟨hy185_, hz185_⟩ := Kd.R_celln 0 HO_6.out ((ji159) : Int) (of_decide_eq_true (by first | (with_reducible assumption) | assumption)) (of_decide_eq_true (by first | (with_reducible assumption) | assumption))
                                     have HP185 := Kd.R_putg HO_6.out ((ji159) : Int) (rd x8_2 x12_3)
                                     refine pB_ 21 (some 209) #[true, true, true, true, true, true, true, true, true, true, true, true, true, true, true, true, true, true, true, true, true, true, false] ?_
                                     refine last_ (i := 22) (N := none) #[true, true, true, true, true, true, true, true, true, true, true, true, true, true, true, true, true, true, true, true, true, true, true] rfl rfl (by kernel_rfl) (by decide) (fun K hK => ?_)
                                     refine skip_ (w1 := w184.setCell ⟨go175, ((ji159) : Int).toNat, none⟩ (.int .i64 (rd x8_2 x12_3))) (by rfl) rfl ?_ ?_
                                     ·first | (go_simp; done) | (go_simp; rfl)
                                     refine hK.out _ _ ?_
                                     clear hK K
                                     obtain ⟨w186, hw⟩ : ∃ w_ : World, w_ = w184.setCell ⟨go175, ((ji159) : Int).toNat, none⟩ (.int .i64 (rd x8_2 x12_3)) := ⟨_, rfl⟩
                                     rw [← hw]
                                     have hg : w184.grownBy w186 (some go175) := (by rw [hw]; exact HP185.2)
                                     have hp_ : Kd.R (Kd.int .i64) 2 w186 w.heap.size (fun k_ => some k_ ≠ (u8 : Value).ownBlock ∧ some k_ ≠ (.slice (some ⟨go173, 0, none⟩) x5_4.length co180 : Value).ownBlock) (.slice (some ⟨go175, 0, none⟩) x6_4.length co175) y256 := (by rw [hw, Ny256.out]; exact HP185.1)
                                     clear HP185
                                     replace HO_5 := Aside0.mk (Kd.R_after (v := (.slice (some ⟨go175, 0, none⟩) x6_4.length co175)) (v1 := (.slice (some ⟨go175, 0, none⟩) x6_4.length co175)) (ok := (fun k_ => some k_ ≠ (u8 : Value).ownBlock)) (rM_ HO_5) hg (.inl rfl))
                                     replace HO_7 := Aside0.mk (Kd.R_over' (v := (.slice (some ⟨go175, 0, none⟩) x6_4.length co175)) (rT_ HO_7) (Kd.R_typed HO_6.out) (by decide) hg)
                                     replace HO_8 := Aside0.mk (Kd.R_after (v := (.slice (some ⟨go175, 0, none⟩) x6_4.length co175)) (v1 := (.slice (some ⟨go175, 0, none⟩) x6_4.length co175)) (ok := (fun k_ => some k_ ≠ (.slice (some ⟨go173, 0, none⟩) x5_4.length co180 : Value).ownBlock)) (rM_ HO_8) hg (.inl rfl))
                                     replace HO_152 := Aside0.mk (Kd.R_over' (v := (.slice (some ⟨go175, 0, none⟩) x6_4.length co175)) (rT_ HO_152) (Kd.R_typed HO_6.out) (by decide) hg)
                                     replace BK184 := Aside0.mk (blk_grown (g := gb184) (o := .cells #[.int .i64 a0_0, .int .i64 a0_1, .slice (some ad252) l0_2.length c0_2] 62 (0, 0)) (bT_ BK184) hg (Kd.R_ne HO_6.out BK184.out (by decide)))
                                     replace BK248 := Aside0.mk (blk_grown (g := gb248) (o := .cells #[.int .i64 ((rd_T88 y244 x154_4).f0), .int .i64 ((rd_T88 y244 x154_4).f1)] 88 (0, 0)) (bT_ BK248) hg (Kd.R_ne HO_6.out BK248.out (by decide)))
                                     replace HO_6 := Aside0.mk (hp_)
                                     replace HB := Aside0.mk ((by rw [hw]; exact below_set (HB.out) GB175.out : Below w.heap.size w w186))
                                     clear hg hw hp_
                                     refine done_ (by kernel_rfl) ?_
                                     go_wp2_with (first | ((with_reducible refine gate_builtin (b := .append) (xs := #[.tmp 210, .tmp 212]) rfl ?_); at_builtin; refine Kd.R_append (Kd.int .i64) (w0 := w) w.heap.size rfl (.tmp 210) (.tmp 212) 22 2 (.int .i64 0) 8 rfl Try.underlying22 info2 rfl (by decide) (by omega) u8 x8_4 ji159 [.int .i64 ji159] (fun k_ => some k_ ≠ (.slice (some ⟨go173, 0, none⟩) x5_4.length co180 : Value).ownBlock ∧ some k_ ≠ (.slice (some ⟨go175, 0, none⟩) x6_4.length co175 : Value).ownBlock) (fun _ => False) rfl rfl ?aP (fun _ hk => hk.elim) ?aF ?aO ?aB ?aS ?aL ?_; (case aP => exact rfl); (case aB => exact (by repeat (first | (with_reducible first | exact HB.out | apply below_alloc | apply pw_below_drewN | apply below_drew1 | refine below_set ?_ GE184.out | refine below_set ?_ GE248.out) | exact HB.out))); (case aF => exact (fun k_ hk => ⟨Kd.fresh' (rLt_ HO_5) k_ hk, Kd.fresh' (rLt_ HO_6) k_ hk⟩)); (case aO => exact (rT_ HO_8)); (case aS => exact (below_size (by repeat (first | (with_reducible first | exact HB.out | apply below_alloc | apply pw_below_drewN | apply below_drew1 | refine below_set ?_ GE184.out | refine below_set ?_ GE248.out) | exact HB.out)))); (case aL => have := LMc176.out; omega); intro v258 w187 ho hb hg hat; rw [← Ny257.out] at ho; replace HO_5 := Aside0.mk (Kd.R_after (ok := (fun k_ => some k_ ≠ (.slice (some ⟨go175, 0, none⟩) x6_4.length co175 : Value).ownBlock)) (rM_ HO_5) hg hat); replace HO_6 := Aside0.mk (Kd.R_after (ok := (fun k_ => some k_ ≠ (.slice (some ⟨go173, 0, none⟩) x5_4.length co180 : Value).ownBlock)) (rM_ HO_6) hg hat); replace HO_7 := Aside0.mk (Kd.R_over' (rT_ HO_7) (Kd.R_typed (rT_ HO_8)) (by decide) hg); replace HO_152 := Aside0.mk (Kd.R_over' (rT_ HO_152) (Kd.R_typed (rT_ HO_8)) (by decide) hg); replace BK184 := Aside0.mk (blk_grown (g := gb184) (o := .cells #[.int .i64 a0_0, .int .i64 a0_1, .slice (some ad252) l0_2.length c0_2] 62 (0, 0)) (bT_ BK184) hg (Kd.R_ne HO_8.out BK184.out (by decide))); replace BK248 := Aside0.mk (blk_grown (g := gb248) (o := .cells #[.int .i64 ((rd_T88 y244 x154_4).f0), .int .i64 ((rd_T88 y244 x154_4).f1)] 88 (0, 0)) (bT_ BK248) hg (Kd.R_ne HO_8.out BK248.out (by decide))); replace HB := Aside0.mk (hb); have HO259 := Aside0.mk (ho); clear HO_8; clear ho hb hg hat))
                                     go_roundg kj144
                                     case measure => have := HK1.out; have := HK2.out; have := HK3.out; have := HK4.out; have := HJ144.out; omega
                                     case rel => exact ⟨(y255), (y256), (y254), (y257), (wrap64 (x154_4 + 1)), (by first | rfl | (simp; done) | (simp [*]; done)), H', ⟨by have := HK1.out; have := HK2.out; have := HK3.out; have := HK4.out; have := HJ144.out; omega⟩, ⟨by (with_reducible repeat (first | apply Kd.R_alloc | apply Kd.R_drewN | apply Kd.R_drew)); exact HO_5.out⟩, ⟨by (with_reducible repeat (first | apply Kd.R_alloc | apply Kd.R_drewN | apply Kd.R_drew)); exact HO_6.out⟩, ⟨by (with_reducible repeat (first | apply Kd.R_alloc | apply Kd.R_drewN | apply Kd.R_drew)); exact HO_7.out⟩, ⟨by (with_reducible repeat (first | apply Kd.R_alloc | apply Kd.R_drewN | apply Kd.R_drew)); exact HO259.out⟩, ⟨by (with_reducible repeat (first | apply Kd.R_alloc | apply Kd.R_drewN | apply Kd.R_drew)); exact Kd.R_mono HO_152.out (fun _ hk => trivial)⟩, ⟨by exact bT_ BK184⟩, ⟨by repeat (first | (with_reducible first | exact HB.out | apply below_alloc | apply pw_below_drewN | apply below_drew1 | refine below_set ?_ GE184.out | refine below_set ?_ GE248.out) | exact HB.out)⟩⟩
                                    ·rw [if_neg c176] at H
                                     exact absurd H (by simp)
                                   ·rw [if_neg c174] at H
                                    exact absurd H (by simp)
                                  ·rw [if_neg c172] at H
                                   exact absurd H (by simp)
                                 ·rw [if_neg c169] at H
                                  exact absurd H (by simp)
                                ·rw [if_neg c168] at H
                                 exact absurd H (by simp)
                               ·rw [if_neg c167] at H
                                exact absurd H (by simp)
                             ·rw [if_neg c161] at H
                              exact absurd H (by simp)
                            ·rw [if_neg c160] at H
                             exact absurd H (by simp)
                        ·rw [if_neg c144] at H
                         exact absurd H (by simp)
                       ·rw [if_neg c143] at H
                        exact absurd H (by simp)
                      ·rw [if_neg c142] at H
                       have c142b0 : decide (x154_4 < (y244.length : Int)) = false := decide_eq_false c142
                       clear c142; have H' := Aside0.mk H; clear H
                       go_wp2
                       go_roundg k4
                       case measure => have := HK1.out; have := HK2.out; have := HK3.out; have := HK4.out; omega
                       case rel => exact ⟨(x5_4), (x6_4), (x7_4), (x8_4), H', ⟨by have := HK1.out; have := HK2.out; have := HK3.out; have := HK4.out; omega⟩, ⟨by (with_reducible repeat (first | apply Kd.R_alloc | apply Kd.R_drewN | apply Kd.R_drew)); exact HO_5.out⟩, ⟨by (with_reducible repeat (first | apply Kd.R_alloc | apply Kd.R_drewN | apply Kd.R_drew)); exact HO_6.out⟩, ⟨by (with_reducible repeat (first | apply Kd.R_alloc | apply Kd.R_drewN | apply Kd.R_drew)); exact HO_7.out⟩, ⟨by (with_reducible repeat (first | apply Kd.R_alloc | apply Kd.R_drewN | apply Kd.R_drew)); exact HO_8.out⟩, ⟨by exact bT_ BK184⟩, ⟨by repeat (first | (with_reducible first | exact HB.out | apply below_alloc | apply pw_below_drewN | apply below_drew1 | refine below_set ?_ GE184.out) | exact HB.out)⟩⟩
                  ·rw [if_neg c132] at H
                   exact absurd H (by simp)
                 ·rw [if_neg c131] at H
                  exact absurd H (by simp)
                ·rw [if_neg c129] at H
                 exact absurd H (by simp)
               ·rw [if_neg c127] at H
                exact absurd H (by simp)
              ·rw [if_neg c126] at H
               exact absurd H (by simp)
          ·rw [if_neg c104] at H
           have c104b0 : decide (0 < (x8_2.length : Int)) = false := decide_eq_false c104
           have c104b1 : decide (0 < x8_2.length) = false := decide_eq_false (by omega)
           clear c104
           simp only [Option.some.injEq, Prod.mk.injEq] at H
           obtain ⟨rfl, rfl⟩ := H
           obtain ⟨Ao188, co188, eo188⟩ := Kd.R_slice HO_8.out
           subst eo188
           go_wp2
           go_ret2
           exact ⟨_, _, by first | rfl | (simp [errW_none, errW_some] <;> rfl) | (simp only [← hji4]; first | rfl | (simp [errW_none, errW_some] <;> rfl)) | (simp [*, errW_none, errW_some] <;> rfl), by (with_reducible repeat (first | apply Kd.R_alloc | apply Kd.R_drewN | apply Kd.R_drew)); exact Kd.R_mono HO_5.out (fun _ hk => hk.1), by (with_reducible repeat (first | apply Kd.R_alloc | apply Kd.R_drewN | apply Kd.R_drew)); exact Kd.R_mono HO_6.out (fun _ hk => hk.1), by repeat (first | (with_reducible first | exact HB.out | apply below_alloc | apply pw_below_drewN | apply below_drew1 | refine below_set ?_ GE184.out) | exact HB.out)⟩
    ·rw [if_neg c7] at H
     exact absurd H (by simp)
   ·rw [if_neg c6] at H
    exact absurd H (by simp)
  ·rw [if_neg c5] at H
   exact absurd H (by simp)
 ·replace c3 := Bool.eq_false_iff.mpr c3
  subst c3
  have H1 : (some (([] : List Int), ([] : List Int))) = some (r1, r2) := by rw [if_neg (show ¬ (false = true) by decide)] at H; exact H
  clear H; have H := H1; clear H1
  simp only [Option.some.injEq, Prod.mk.injEq] at H
  obtain ⟨rfl, rfl⟩ := H
  go_enter Try.func38, Try.ntmps38
  go_wp2_with (first | ((with_reducible refine gate_dst (N := 1) rfl ?_); refine box_event ?hg (N := 1) ?hd (cs := #[.int .i64 a0_0, .int .i64 a0_1, .slice A0_2 l0_2.length c0_2]) (t := 62) ?hr ?_; (case hd => rfl); (case hg => rfl); (case hr => first | (go_simp; done) | (go_simp; rfl)); intro gb184 hg w189 hbox hb; have BK184 := Aside0.mk (hbox); have GW184 := gE_ HB hg; have GE184 := gE_ HB hg; replace HB := bS_ HB hb; clear hb hbox hg; have hcz190_0 : w189.cell? ⟨gb184, 0, none⟩ = some (.int .i64 a0_0) := (blk_cell BK184.out 0).trans rfl; have hcz190_1 : w189.cell? ⟨gb184, 1, none⟩ = some (.int .i64 a0_1) := (blk_cell BK184.out 1).trans rfl; have hcz190_2 : w189.cell? ⟨gb184, 2, none⟩ = some (.slice A0_2 l0_2.length c0_2) := (blk_cell BK184.out 2).trans rfl; have hfz190_0 := blk_frozen BK184.out 0; have hfz190_1 := blk_frozen BK184.out 1; have hfz190_2 := blk_frozen BK184.out 2) | ((with_reducible refine gate_callee (f := 63) rfl ?_); refine gL_ (some 25) Try.func63 #[.agg #[.int .i64 a0_0, .int .i64 a0_1, .slice A0_2 l0_2.length c0_2]] ?_; (with_reducible refine (impl_BoxOk.calls k a0_0 a0_1 _ _ l0_2 false _ ?side1 ?side2 A2.out).mono ?_); (case side1 => exact cB_ HR0_2 HB); (case side2 => exact HC0_2.out); rintro e w191 ⟨rfl, hb⟩; refine ⟨_, rfl, ?_⟩; replace BK184 := bB_ BK184 hb; replace HB := bS_ HB hb; (try clear hb); (try clear hb2); (try clear hk); (try clear hi)))
  go_ret2
  exact ⟨_, _, by first | rfl | (simp [errW_none, errW_some] <;> rfl) | (simp [*, errW_none, errW_some] <;> rfl), by first | exact Kd.R_nil _ _ _ _ _ | exact Kd.N_nil _ _ _ _ _ | exact Kd.V_nil _ _ _ _ _ | exact Kd.Q_nil _ _ _ _ _ | exact Kd.S_nil _ _ _ _ _, by first | exact Kd.R_nil _ _ _ _ _ | exact Kd.N_nil _ _ _ _ _ | exact Kd.V_nil _ _ _ _ _ | exact Kd.Q_nil _ _ _ _ _ | exact Kd.S_nil _ _ _ _ _, by repeat (first | (with_reducible first | exact HB.out | apply below_alloc | apply pw_below_drewN | apply below_drew1 | refine below_set ?_ GE184.out) | exact HB.out)⟩

end Go.Proofs.Ytopfdmodbhopiaa.QFnExactDrain
