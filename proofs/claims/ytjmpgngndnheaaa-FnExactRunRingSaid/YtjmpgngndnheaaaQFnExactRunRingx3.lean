-- Written by a program of this session out of the printer's texts and contracts of its own.
import Derived.Test.YtjmpgngndnheaaaSq
import Derived.Test.YtjmpgngndnheaaaQFnExactRunRingx0
import Derived.Test.YtjmpgngndnheaaaQFnExactRunRingx2
namespace Go.Proofs.Ytjmpgngndnheaaa.QFnExactRunRing
open Go.RowKit Go.Proofs.YtjmpgngndnheaaaW.PrintWords Go.Proofs.YtjmpgngndnheaaaW.PrintLast Go.Proofs.YtjmpgngndnheaaaW.PrintMore Go.Proofs.Ytjmpgngndnheaaa.Sq
attribute [local go_sem] max2_int min2_int max_two min_two max_three min_three max_four min_four   -- for this text's walks alone
set_option linter.unusedVariables false
set_option linter.unusedSimpArgs false

/-! ### spec_l17Step: function 27 -/
def spec_l17Step.l0 : Nat → List Int → Int → Int → List Int → List Int → List Int → List Int → Option (List Int × List Int)
 | 0, _, _, _, _, _, _, _ => none
 | k + 1, x1, x5, x7, x147000, x147001, x161000, x161001 => if x7 < x5 then (if 0 ≤ x7 then (if x7 < (x147000.length : Int) then (if x7 < (x147001.length : Int) then (if x5 = 0 then (none) else (if x7 < (x1.length : Int) then (if (rd x1 x7) < 0 then ((spec_l17Part.f (rd x147001 x7) (wrap64 (Int.tdiv (wrap64 ((rd x147000 x7) * (wrap64 (-(rd x1 x7))))) 256)) (rd x147000 x7)).bind fun t166 => (if x7 < (x161000.length : Int) then ((some (x161000.set (x7 : Int).toNat (wrap64 ((rd x161000 x7) - (wrap64 (Int.tdiv (wrap64 ((rd x147000 x7) * (wrap64 (-(rd x1 x7))))) 256)))) : List Int)).bind fun y168 => (if 0 ≤ (Int.tmod (wrap64 ((wrap64 (x7 + x5)) - 1)) x5) then (if (Int.tmod (wrap64 ((wrap64 (x7 + x5)) - 1)) x5) < (x161000.length : Int) then ((some (y168.set ((Int.tmod (wrap64 ((wrap64 (x7 + x5)) - 1)) x5) : Int).toNat (wrap64 ((rd y168 (Int.tmod (wrap64 ((wrap64 (x7 + x5)) - 1)) x5)) + (wrap64 (Int.tdiv (wrap64 ((rd x147000 x7) * (wrap64 (-(rd x1 x7))))) 256)))) : List Int)).bind fun y170 => (if x7 < (x161001.length : Int) then ((some (x161001.set (x7 : Int).toNat (wrap64 ((rd x161001 x7) - t166)) : List Int)).bind fun y172 => (if (Int.tmod (wrap64 ((wrap64 (x7 + x5)) - 1)) x5) < (x161001.length : Int) then ((some (y172.set ((Int.tmod (wrap64 ((wrap64 (x7 + x5)) - 1)) x5) : Int).toNat (wrap64 ((rd y172 (Int.tmod (wrap64 ((wrap64 (x7 + x5)) - 1)) x5)) + t166)) : List Int)).bind fun y174 => (if 0 ≤ (Int.tmod (wrap64 (x7 + 1)) x5) then (if (Int.tmod (wrap64 (x7 + 1)) x5) < (x1.length : Int) then (if (rd x1 (Int.tmod (wrap64 (x7 + 1)) x5)) > 0 then ((spec_l17Part.f (wrap64 ((rd x147001 x7) - t166)) (wrap64 (Int.tdiv (wrap64 ((rd x147000 x7) * (rd x1 (Int.tmod (wrap64 (x7 + 1)) x5)))) 256)) (wrap64 ((rd x147000 x7) - (wrap64 (Int.tdiv (wrap64 ((rd x147000 x7) * (wrap64 (-(rd x1 x7))))) 256))))).bind fun t178 => ((some (y170.set (x7 : Int).toNat (wrap64 ((rd y170 x7) - (wrap64 (Int.tdiv (wrap64 ((rd x147000 x7) * (rd x1 (Int.tmod (wrap64 (x7 + 1)) x5)))) 256)))) : List Int)).bind fun y180 => (if (Int.tmod (wrap64 (x7 + 1)) x5) < (x161000.length : Int) then ((some (y174.set (x7 : Int).toNat (wrap64 ((rd y174 x7) - t178)) : List Int)).bind fun y184 => (if (Int.tmod (wrap64 (x7 + 1)) x5) < (x161001.length : Int) then (spec_l17Step.l0 k x1 x5 (wrap64 (x7 + 1)) x147000 x147001 (y180.set ((Int.tmod (wrap64 (x7 + 1)) x5) : Int).toNat (wrap64 ((rd y180 (Int.tmod (wrap64 (x7 + 1)) x5)) + (wrap64 (Int.tdiv (wrap64 ((rd x147000 x7) * (rd x1 (Int.tmod (wrap64 (x7 + 1)) x5)))) 256))))) (y184.set ((Int.tmod (wrap64 (x7 + 1)) x5) : Int).toNat (wrap64 ((rd y184 (Int.tmod (wrap64 (x7 + 1)) x5)) + t178)))) else (none))) else (none)))) else (spec_l17Step.l0 k x1 x5 (wrap64 (x7 + 1)) x147000 x147001 y170 y174)) else (none)) else (none))) else (none))) else (none))) else (none)) else (none))) else (none))) else (if 0 ≤ (Int.tmod (wrap64 (x7 + 1)) x5) then (if (Int.tmod (wrap64 (x7 + 1)) x5) < (x1.length : Int) then (if (rd x1 (Int.tmod (wrap64 (x7 + 1)) x5)) > 0 then ((spec_l17Part.f (rd x147001 x7) (wrap64 (Int.tdiv (wrap64 ((rd x147000 x7) * (rd x1 (Int.tmod (wrap64 (x7 + 1)) x5)))) 256)) (rd x147000 x7)).bind fun t190 => (if x7 < (x161000.length : Int) then ((some (x161000.set (x7 : Int).toNat (wrap64 ((rd x161000 x7) - (wrap64 (Int.tdiv (wrap64 ((rd x147000 x7) * (rd x1 (Int.tmod (wrap64 (x7 + 1)) x5)))) 256)))) : List Int)).bind fun y192 => (if (Int.tmod (wrap64 (x7 + 1)) x5) < (x161000.length : Int) then (if x7 < (x161001.length : Int) then ((some (x161001.set (x7 : Int).toNat (wrap64 ((rd x161001 x7) - t190)) : List Int)).bind fun y196 => (if (Int.tmod (wrap64 (x7 + 1)) x5) < (x161001.length : Int) then (spec_l17Step.l0 k x1 x5 (wrap64 (x7 + 1)) x147000 x147001 (y192.set ((Int.tmod (wrap64 (x7 + 1)) x5) : Int).toNat (wrap64 ((rd y192 (Int.tmod (wrap64 (x7 + 1)) x5)) + (wrap64 (Int.tdiv (wrap64 ((rd x147000 x7) * (rd x1 (Int.tmod (wrap64 (x7 + 1)) x5)))) 256))))) (y196.set ((Int.tmod (wrap64 (x7 + 1)) x5) : Int).toNat (wrap64 ((rd y196 (Int.tmod (wrap64 (x7 + 1)) x5)) + t190)))) else (none))) else (none)) else (none))) else (none))) else (spec_l17Step.l0 k x1 x5 (wrap64 (x7 + 1)) x147000 x147001 x161000 x161001)) else (none)) else (none))) else (none))) else (none)) else (none)) else (none)) else (some (x161000, x161001))
def spec_l17Step.f (k : Nat) (l0_0 : List Int) (l0_1 : List Int) (l1 : List Int) : Option (List Int × List Int) := (some (([] : List Int) : List Int)).bind fun y148 => (if y148.length + l0_0.length < 17592186044416 then ((some (([] : List Int) : List Int)).bind fun y154 => (if y154.length + l0_1.length < 17592186044416 then (spec_l17Step.l0 k l1 (l0_0.length : Int) 0 l0_0 l0_1 (y148 ++ l0_0) (y154 ++ l0_1)) else (none))) else (none))
theorem spec_l17Step.mono_l : ∀ k, (∀ y0 y1 y2 y3 y4 y5 y6, LeO (spec_l17Step.l0 k y0 y1 y2 y3 y4 y5 y6) (spec_l17Step.l0 (k + 1) y0 y1 y2 y3 y4 y5 y6))
 | 0 => fun _ _ _ _ _ _ _ r h => by simp [spec_l17Step.l0] at h
 | k + 1 => by
  have ih0 := spec_l17Step.mono_l k
  ·intro y0 y1 y2 y3 y4 y5 y6
   unfold spec_l17Step.l0
   repeat' first
   | (with_reducible exact ih0 _ _ _ _ _ _ _)
   | (with_reducible exact LeO.refl _)
   | (with_reducible exact LeO.none _)
   | (with_reducible refine LeO.ite ?_ ?_)
   | (with_reducible refine LeO.bind ?_ (fun _ => ?_))
   | exact ih0 _ _ _ _ _ _ _
   | exact LeO.none _
   | refine LeO.ite ?_ ?_
   | refine LeO.bind ?_ (fun _ => ?_)
theorem spec_l17Step.mono : ∀ a0 a1 a2 k, LeO (spec_l17Step.f k a0 a1 a2) (spec_l17Step.f (k + 1) a0 a1 a2) := by
 intro a0 a1 a2 k
 have ih0 := spec_l17Step.mono_l k
 unfold spec_l17Step.f
 repeat' first
   | (with_reducible exact ih0 _ _ _ _ _ _ _)
   | (with_reducible exact LeO.refl _)
   | (with_reducible exact LeO.none _)
   | (with_reducible refine LeO.ite ?_ ?_)
   | (with_reducible refine LeO.bind ?_ (fun _ => ?_))
   | exact ih0 _ _ _ _ _ _ _
   | exact LeO.none _
   | refine LeO.ite ?_ ?_
   | refine LeO.bind ?_ (fun _ => ?_)
def spec_l17Step.T2 : Bool × List (List Nat × List Nat) := (true, [([], []), ([], []), ([1], [1]), ([0, 2], [0, 2]), ([], []), ([], []), ([5], [5]), ([4, 6, 3], [4, 6]), ([3, 7], [3, 7]), ([], []), ([9, 8, 7, 0, 1, 2, 3, 4, 5, 6, 7, 8, 9], [8, 9])])
def spec_l17Step.B2 : List Nat := [0, 0, 2, 7, 0, 0, 32, 127, 255, 0, 1023]
theorem spec_l17Step.tab2 : rtab .any (opsOf Try.f27 2) = spec_l17Step.T2 := by kernel_rfl
theorem spec_l17Step.bits2 : waitsOk spec_l17Step.T2.2 spec_l17Step.B2 = true := by kernel_rfl
def spec_l17Step.T11 : Bool × List (List Nat × List Nat) := (true, [([], []), ([0], [0]), ([], []), ([1, 2], [1, 2]), ([3], [3]), ([], []), ([], []), ([5, 6], [5, 6]), ([7], [7]), ([8], [8]), ([4, 9], [4, 9]), ([10], [10]), ([11, 0, 1, 2, 3, 4, 5, 6, 7, 8, 9, 10, 11], [11])])
def spec_l17Step.B11 : List Nat := [0, 1, 0, 7, 15, 0, 0, 96, 224, 480, 1023, 2047, 4095]
theorem spec_l17Step.tab11 : rtab .any (opsOf Try.f27 11) = spec_l17Step.T11 := by kernel_rfl
theorem spec_l17Step.bits11 : waitsOk spec_l17Step.T11.2 spec_l17Step.B11 = true := by kernel_rfl
def spec_l17Step.T13 : Bool × List (List Nat × List Nat) := (true, [([], []), ([0], [0]), ([], []), ([], []), ([3], [3]), ([], []), ([4, 5], [4, 5]), ([6], [6]), ([], []), ([7, 8], [7, 8]), ([1, 2, 0, 1, 2, 3, 4, 5, 6, 7, 8, 9], [1, 2]), ([10, 9, 0, 1, 2, 3, 4, 5, 6, 7, 8, 9], [9, 10])])
def spec_l17Step.B13 : List Nat := [0, 1, 0, 0, 8, 0, 56, 120, 0, 504, 1023, 2047]
theorem spec_l17Step.tab13 : rtab .any (opsOf Try.f27 13) = spec_l17Step.T13 := by kernel_rfl
theorem spec_l17Step.bits13 : waitsOk spec_l17Step.T13.2 spec_l17Step.B13 = true := by kernel_rfl
def spec_l17Step.T14 : Bool × List (List Nat × List Nat) := (true, [([], []), ([0], [0]), ([], []), ([], []), ([3], [3]), ([], []), ([4, 5], [4, 5]), ([6], [6]), ([], []), ([7, 8], [7, 8]), ([1, 2, 0, 1, 2, 3, 4, 5, 6, 7, 8, 9], [1, 2]), ([10, 9, 0, 1, 2, 3, 4, 5, 6, 7, 8, 9], [9, 10])])
def spec_l17Step.B14 : List Nat := [0, 1, 0, 0, 8, 0, 56, 120, 0, 504, 1023, 2047]
theorem spec_l17Step.tab14 : rtab .any (opsOf Try.f27 14) = spec_l17Step.T14 := by kernel_rfl
theorem spec_l17Step.bits14 : waitsOk spec_l17Step.T14.2 spec_l17Step.B14 = true := by kernel_rfl
def spec_l17Step.T15 : Bool × List (List Nat × List Nat) := (true, [([], []), ([0], [0]), ([], []), ([], []), ([3], [3]), ([], []), ([4, 5], [4, 5]), ([6], [6]), ([], []), ([7, 8], [7, 8]), ([1, 2, 0, 1, 2, 3, 4, 5, 6, 7, 8, 9], [1, 2]), ([10, 9, 0, 1, 2, 3, 4, 5, 6, 7, 8, 9], [9, 10])])
def spec_l17Step.B15 : List Nat := [0, 1, 0, 0, 8, 0, 56, 120, 0, 504, 1023, 2047]
theorem spec_l17Step.tab15 : rtab .any (opsOf Try.f27 15) = spec_l17Step.T15 := by kernel_rfl
theorem spec_l17Step.bits15 : waitsOk spec_l17Step.T15.2 spec_l17Step.B15 = true := by kernel_rfl
def spec_l17Step.T16 : Bool × List (List Nat × List Nat) := (true, [([], []), ([0], [0]), ([], []), ([], []), ([3], [3]), ([], []), ([4, 5], [4, 5]), ([6], [6]), ([], []), ([7, 8], [7, 8]), ([1, 2, 0, 1, 2, 3, 4, 5, 6, 7, 8, 9], [1, 2]), ([10, 9, 0, 1, 2, 3, 4, 5, 6, 7, 8, 9], [9, 10])])
def spec_l17Step.B16 : List Nat := [0, 1, 0, 0, 8, 0, 56, 120, 0, 504, 1023, 2047]
theorem spec_l17Step.tab16 : rtab .any (opsOf Try.f27 16) = spec_l17Step.T16 := by kernel_rfl
theorem spec_l17Step.bits16 : waitsOk spec_l17Step.T16.2 spec_l17Step.B16 = true := by kernel_rfl
def spec_l17Step.T20 : Bool × List (List Nat × List Nat) := (true, [([], []), ([0], [0]), ([], []), ([1, 2], [1, 2]), ([3], [3]), ([], []), ([], []), ([5, 6], [5, 6]), ([7], [7]), ([4, 8], [4, 8]), ([9], [9]), ([10, 0, 1, 2, 3, 4, 5, 6, 7, 8, 9, 10], [10])])
def spec_l17Step.B20 : List Nat := [0, 1, 0, 7, 15, 0, 0, 96, 224, 511, 1023, 2047]
theorem spec_l17Step.tab20 : rtab .any (opsOf Try.f27 20) = spec_l17Step.T20 := by kernel_rfl
theorem spec_l17Step.bits20 : waitsOk spec_l17Step.T20.2 spec_l17Step.B20 = true := by kernel_rfl
def spec_l17Step.T22 : Bool × List (List Nat × List Nat) := (true, [([], []), ([0], [0]), ([], []), ([], []), ([3], [3]), ([], []), ([4, 5], [4, 5]), ([6], [6]), ([], []), ([7, 8], [7, 8]), ([1, 2, 0, 1, 2, 3, 4, 5, 6, 7, 8, 9], [1, 2]), ([10, 9, 0, 1, 2, 3, 4, 5, 6, 7, 8, 9], [9, 10])])
def spec_l17Step.B22 : List Nat := [0, 1, 0, 0, 8, 0, 56, 120, 0, 504, 1023, 2047]
theorem spec_l17Step.tab22 : rtab .any (opsOf Try.f27 22) = spec_l17Step.T22 := by kernel_rfl
theorem spec_l17Step.bits22 : waitsOk spec_l17Step.T22.2 spec_l17Step.B22 = true := by kernel_rfl
def spec_l17Step.T23 : Bool × List (List Nat × List Nat) := (true, [([], []), ([0], [0]), ([], []), ([], []), ([3], [3]), ([], []), ([4, 5], [4, 5]), ([6], [6]), ([], []), ([7, 8], [7, 8]), ([1, 2, 0, 1, 2, 3, 4, 5, 6, 7, 8, 9], [1, 2]), ([10, 9, 0, 1, 2, 3, 4, 5, 6, 7, 8, 9], [9, 10])])
def spec_l17Step.B23 : List Nat := [0, 1, 0, 0, 8, 0, 56, 120, 0, 504, 1023, 2047]
theorem spec_l17Step.tab23 : rtab .any (opsOf Try.f27 23) = spec_l17Step.T23 := by kernel_rfl
theorem spec_l17Step.bits23 : waitsOk spec_l17Step.T23.2 spec_l17Step.B23 = true := by kernel_rfl
def spec_l17Step.T24 : Bool × List (List Nat × List Nat) := (true, [([], []), ([0], [0]), ([], []), ([], []), ([3], [3]), ([], []), ([4, 5], [4, 5]), ([6], [6]), ([], []), ([7, 8], [7, 8]), ([1, 2, 0, 1, 2, 3, 4, 5, 6, 7, 8, 9], [1, 2]), ([10, 9, 0, 1, 2, 3, 4, 5, 6, 7, 8, 9], [9, 10])])
def spec_l17Step.B24 : List Nat := [0, 1, 0, 0, 8, 0, 56, 120, 0, 504, 1023, 2047]
theorem spec_l17Step.tab24 : rtab .any (opsOf Try.f27 24) = spec_l17Step.T24 := by kernel_rfl
theorem spec_l17Step.bits24 : waitsOk spec_l17Step.T24.2 spec_l17Step.B24 = true := by kernel_rfl
def spec_l17Step.T25 : Bool × List (List Nat × List Nat) := (true, [([], []), ([0], [0]), ([], []), ([], []), ([3], [3]), ([], []), ([4, 5], [4, 5]), ([6], [6]), ([], []), ([7, 8], [7, 8]), ([1, 2, 0, 1, 2, 3, 4, 5, 6, 7, 8, 9], [1, 2]), ([10, 9, 0, 1, 2, 3, 4, 5, 6, 7, 8, 9], [9, 10])])
def spec_l17Step.B25 : List Nat := [0, 1, 0, 0, 8, 0, 56, 120, 0, 504, 1023, 2047]
theorem spec_l17Step.tab25 : rtab .any (opsOf Try.f27 25) = spec_l17Step.T25 := by kernel_rfl
theorem spec_l17Step.bits25 : waitsOk spec_l17Step.T25.2 spec_l17Step.B25 = true := by kernel_rfl
set_option maxHeartbeats 8000000 in
set_option maxRecDepth 100000 in
theorem spec_l17Step.calls (k : Nat) (A0_0 : Option Addr) (c0_0 : Nat) (l0_0 : List Int) (A0_1 : Option Addr) (c0_1 : Nat) (l0_1 : List Int) (A1 : Option Addr) (c1 : Nat) (l1 : List Int) (r1 : List Int) (r2 : List Int) (w : World) (hr0_0 : Kd.C (Kd.int .i64) w A0_0 l0_0.length l0_0) (hc0_0 : l0_0.length ≤ c0_0) (hr0_1 : Kd.C (Kd.int .i64) w A0_1 l0_1.length l0_1) (hc0_1 : l0_1.length ≤ c0_1) (hr1 : Kd.C (Kd.int .i64) w A1 l1.length l1) (hc1 : l1.length ≤ c1) (h : spec_l17Step.f k l0_0 l0_1 l1 = some (r1, r2)) :
  Calls Try.prog 27 #[.agg #[.slice A0_0 l0_0.length c0_0, .slice A0_1 l0_1.length c0_1], .slice A1 l1.length c1] w fun e w' => ∃ v0_ v1_ : Value, e = .returned (.agg #[v0_, v1_]) ∧ Kd.R (Kd.int .i64) 2 w' w.heap.size (fun k_ => some k_ ≠ (v1_ : Value).ownBlock) v0_ r1 ∧ Kd.R (Kd.int .i64) 2 w' w.heap.size (fun k_ => some k_ ≠ (v0_ : Value).ownBlock) v1_ r2 ∧ Below w.heap.size w w' := by
 have hu26 := Try.underlying26; have HR0_0 := Aside0.mk hr0_0; have HC0_0 := Aside0.mk hc0_0; clear hr0_0 hc0_0; have HR0_1 := Aside0.mk hr0_1; have HC0_1 := Aside0.mk hc0_1; clear hr0_1 hc0_1; have HR1 := Aside0.mk hr1; have HC1 := Aside0.mk hc1; clear hr1 hc1
 have HB := Aside0.mk (Below.refl w.heap.size w)
 have H : ((some (([] : List Int) : List Int)).bind fun y148 => (if y148.length + l0_0.length < 17592186044416 then ((some (([] : List Int) : List Int)).bind fun y154 => (if y154.length + l0_1.length < 17592186044416 then (spec_l17Step.l0 k l1 (l0_0.length : Int) 0 l0_0 l0_1 (y148 ++ l0_0) (y154 ++ l0_1)) else (none))) else (none))) = some (r1, r2) := h
 clear h
 obtain ⟨y148, hy148⟩ : ∃ y_ : List Int, y_ = (([] : List Int)) := ⟨_, rfl⟩
 replace H : (if y148.length + l0_0.length < 17592186044416 then ((some (([] : List Int) : List Int)).bind fun y154 => (if y154.length + l0_1.length < 17592186044416 then (spec_l17Step.l0 k l1 (l0_0.length : Int) 0 l0_0 l0_1 (y148 ++ l0_0) (y154 ++ l0_1)) else (none))) else (none)) = some (r1, r2) := by first | (rw [hy148]; with_reducible exact H) | (have H2_ := (Option.bind_some _ _).symm.trans H; rw [hy148]; with_reducible exact H2_) | (have H2_ := (Option.bind_some _ _).symm.trans H; with_reducible exact H2_) | with_reducible exact H | (rw [hy148]; exact H) | exact H
 have Ny148 := Aside0.mk hy148; clear hy148
 obtain ⟨c3, H⟩ := ifS_ H
 have LMc3 := Aside0.mk c3; clear c3
 obtain ⟨y151, hy151⟩ : ∃ y_ : List Int, y_ = (y148 ++ l0_0) := ⟨_, rfl⟩
 replace H : ((some (([] : List Int) : List Int)).bind fun y154 => (if y154.length + l0_1.length < 17592186044416 then (spec_l17Step.l0 k l1 (l0_0.length : Int) 0 l0_0 l0_1 y151 (y154 ++ l0_1)) else (none))) = some (r1, r2) := by first | (rw [hy151]; with_reducible exact H) | (have H2_ := (Option.bind_some _ _).symm.trans H; rw [hy151]; with_reducible exact H2_) | (have H2_ := (Option.bind_some _ _).symm.trans H; with_reducible exact H2_) | with_reducible exact H | (rw [hy151]; exact H) | exact H
 have Ny151 := Aside0.mk hy151; clear hy151
 obtain ⟨y154, hy154⟩ : ∃ y_ : List Int, y_ = (([] : List Int)) := ⟨_, rfl⟩
 replace H : (if y154.length + l0_1.length < 17592186044416 then (spec_l17Step.l0 k l1 (l0_0.length : Int) 0 l0_0 l0_1 y151 (y154 ++ l0_1)) else (none)) = some (r1, r2) := by first | (rw [hy154]; with_reducible exact H) | (have H2_ := (Option.bind_some _ _).symm.trans H; rw [hy154]; with_reducible exact H2_) | (have H2_ := (Option.bind_some _ _).symm.trans H; with_reducible exact H2_) | with_reducible exact H | (rw [hy154]; exact H) | exact H
 have Ny154 := Aside0.mk hy154; clear hy154
 obtain ⟨c4, H⟩ := ifS_ H
 have LMc4 := Aside0.mk c4; clear c4
 obtain ⟨y157, hy157⟩ : ∃ y_ : List Int, y_ = (y154 ++ l0_1) := ⟨_, rfl⟩
 replace H : (spec_l17Step.l0 k l1 (l0_0.length : Int) 0 l0_0 l0_1 y151 y157) = some (r1, r2) := by first | (rw [hy157]; with_reducible exact H) | (have H2_ := (Option.bind_some _ _).symm.trans H; rw [hy157]; with_reducible exact H2_) | (have H2_ := (Option.bind_some _ _).symm.trans H; with_reducible exact H2_) | with_reducible exact H | (rw [hy157]; exact H) | exact H
 have Ny157 := Aside0.mk hy157; clear hy157; have H' := Aside0.mk H; clear H
 go_enter Try.func27, Try.ntmps27
 try go_wp2_with (first | ((with_reducible refine gate_dst (N := 2) rfl ?_); refine box_event ?hg (N := 2) ?hd (cs := #[.slice A0_0 l0_0.length c0_0, .slice A0_1 l0_1.length c0_1]) (t := 26) ?hr ?_; (case hd => rfl); (case hg => rfl); (case hr => first | (go_simp; done) | (go_simp; rfl)); intro gb146 hg w5 hbox hb; have BK146 := Aside0.mk (hbox); have GW146 := gE_ HB hg; have GE146 := gE_ HB hg; replace HB := bS_ HB hb; clear hb hbox hg) | ((with_reducible refine gate_dst (N := 4) rfl ?_); refine box_event ?hg (N := 4) ?hd (cs := #[.slice none 0 0, .slice none 0 0]) (t := 26) ?hr ?_; (case hd => rfl); (case hg => rfl); (case hr => first | (go_simp; done) | (go_simp; rfl)); intro gb147 hg w6 hbox hb; have BK147 := Aside0.mk (hbox); have GW147 := gE_ HB hg; have GE147 := gE_ HB hg; replace HB := bS_ HB hb; have NB146_147 := nL_ BK146 hg; have NB147_146 := nG_ BK146 hg; replace BK146 := bB_ BK146 hb; clear hb hbox hg; have hnb7 := NB146_147.out; have hnc7 := NB147_146.out; have hcz8_0 : w6.cell? ⟨gb146, 0, none⟩ = some (.slice A0_0 l0_0.length c0_0) := (blk_cell BK146.out 0).trans rfl; have hcz8_1 : w6.cell? ⟨gb146, 1, none⟩ = some (.slice A0_1 l0_1.length c0_1) := (blk_cell BK146.out 1).trans rfl; have hfz8_0 := blk_frozen BK146.out 0; have hfz8_1 := blk_frozen BK146.out 1))
 replace BK146 := Aside0.mk (blk_drew BK146.out)
 replace BK147 := Aside0.mk (blk_drew BK147.out)
 replace HB := Aside0.mk (below_drew1 HB.out)
 refine start_ (n := 11) (S := fun w' => w'.cell? ⟨gb146, 0, none⟩ = some (.slice A0_0 l0_0.length c0_0) ∧ w'.cell? ⟨gb146, 1, none⟩ = some (.slice A0_1 l0_1.length c0_1)) (ds := []) #[false, false, false, false, false, false, false, false, false, false, false] (by kernel_rfl) rfl rfl ⟨(blk_cell BK146.out 0).trans rfl, (blk_cell BK146.out 1).trans rfl⟩ (fun hHeld => ?_); refine with_tabW spec_l17Step.tab2 spec_l17Step.bits2 (fun HT_ HW_ => ?_)
 generalize w6.drew = w9 at BK146 BK147 HB hHeld ⊢
 refine pT_ 1 (some 20) #[false, true, false, false, false, false, false, false, false, false, false] HT_ ?_
 refine pT_ 5 (some 24) #[false, true, false, false, false, true, false, false, false, false, false] HT_ ?_
 refine tT_ 2 (some 21) #[false, true, true, false, false, true, false, false, false, false, false] HT_ HW_ hHeld ?_ (hy := by rintro w' ⟨s0, s1⟩; go_simp; with_reducible rfl)
 refine tT_ 6 (some 25) #[false, true, true, false, false, true, true, false, false, false, false] HT_ HW_ hHeld ?_ (hy := by rintro w' ⟨s0, s1⟩; go_simp; with_reducible rfl)
 refine join_ (σ := Value × Value × Value × Value × Nat) 1 #[true, true, true, true, true, true, true, true, true, true, false] (fun s_ => [(19, s_.1), (22, s_.2.1), (23, s_.2.2.1), (26, s_.2.2.2.1), (6, .pointer (some ⟨s_.2.2.2.2, 0, none⟩)), (27, .agg #[s_.2.1, s_.2.2.2.1])]) (fun s_ w' => (w'.cell? ⟨gb146, 0, none⟩ = some (.slice A0_0 l0_0.length c0_0) ∧ w'.cell? ⟨gb146, 1, none⟩ = some (.slice A0_1 l0_1.length c0_1)) ∧ (Kd.R (Kd.int .i64) 2 w' w.heap.size (fun k_ => some k_ ≠ (s_.2.2.2.1 : Value).ownBlock) s_.2.1 y151) ∧ (Kd.R (Kd.int .i64) 2 w' w.heap.size (fun k_ => some k_ ≠ (s_.2.1 : Value).ownBlock) s_.2.2.2.1 y157) ∧ (w'.heap[gb146]? = some (.cells #[.slice A0_0 l0_0.length c0_0, .slice A0_1 l0_1.length c0_1] 26 (0, 0))) ∧ (w'.heap[gb147]? = some (.cells #[.slice none 0 0, .slice none 0 0] 26 (0, 0))) ∧ (w'.heap[s_.2.2.2.2]? = some (.cells #[.slice none 0 0, .slice none 0 0] 26 (0, 0))) ∧ (w.heap.size ≤ s_.2.2.2.2) ∧ (w.heap.size ≤ s_.2.2.2.2) ∧ (gb146 ≠ s_.2.2.2.2) ∧ (s_.2.2.2.2 ≠ gb146) ∧ (gb147 ≠ s_.2.2.2.2) ∧ (s_.2.2.2.2 ≠ gb147) ∧ (Below w.heap.size w w')) ?_ ?_
 rotate_left
 ·intro hJ0_3_4_7_9
  refine join_ (σ := Value × Value × Value × Value) 2 #[true, true, true, true, true, true, true, true, true, false, false] (fun s_ => [(19, s_.1), (22, s_.2.1), (23, s_.2.2.1), (26, s_.2.2.2), (27, .agg #[s_.2.1, s_.2.2.2])]) (fun s_ w' => (w'.cell? ⟨gb146, 0, none⟩ = some (.slice A0_0 l0_0.length c0_0) ∧ w'.cell? ⟨gb146, 1, none⟩ = some (.slice A0_1 l0_1.length c0_1)) ∧ (Kd.R (Kd.int .i64) 2 w' w.heap.size (fun k_ => some k_ ≠ (s_.2.2.2 : Value).ownBlock) s_.2.1 y151) ∧ (Kd.R (Kd.int .i64) 2 w' w.heap.size (fun k_ => some k_ ≠ (s_.2.1 : Value).ownBlock) s_.2.2.2 y157) ∧ (w'.heap[gb146]? = some (.cells #[.slice A0_0 l0_0.length c0_0, .slice A0_1 l0_1.length c0_1] 26 (0, 0))) ∧ (w'.heap[gb147]? = some (.cells #[.slice none 0 0, .slice none 0 0] 26 (0, 0))) ∧ (Below w.heap.size w w')) ?_ ?_
  rotate_left
  ·intro hJ0_3_4_7
   refine join_ (σ := Value × Value × Value × Nat) 3 #[true, true, true, true, true, true, true, false, false, true, false] (fun s_ => [(19, s_.1), (22, s_.2.1), (23, s_.2.2.1), (6, .pointer (some ⟨s_.2.2.2, 0, none⟩))]) (fun s_ w' => (w'.cell? ⟨gb146, 0, none⟩ = some (.slice A0_0 l0_0.length c0_0) ∧ w'.cell? ⟨gb146, 1, none⟩ = some (.slice A0_1 l0_1.length c0_1)) ∧ (Kd.R (Kd.int .i64) 2 w' w.heap.size (fun k_ => some k_ ≠ (s_.2.2.1 : Value).ownBlock) s_.2.1 y151) ∧ (Kd.R (Kd.int .i64) 2 w' w.heap.size (fun k_ => some k_ ≠ (s_.2.1 : Value).ownBlock) s_.2.2.1 y154) ∧ (w'.heap[gb146]? = some (.cells #[.slice A0_0 l0_0.length c0_0, .slice A0_1 l0_1.length c0_1] 26 (0, 0))) ∧ (w'.heap[gb147]? = some (.cells #[.slice none 0 0, .slice none 0 0] 26 (0, 0))) ∧ (w'.heap[s_.2.2.2]? = some (.cells #[.slice none 0 0, .slice none 0 0] 26 (0, 0))) ∧ (w.heap.size ≤ s_.2.2.2) ∧ (w.heap.size ≤ s_.2.2.2) ∧ (gb146 ≠ s_.2.2.2) ∧ (s_.2.2.2 ≠ gb146) ∧ (gb147 ≠ s_.2.2.2) ∧ (s_.2.2.2 ≠ gb147) ∧ (Below w.heap.size w w')) ?_ ?_
   rotate_left
   ·intro hJ0_3_4_9
    refine join_ (σ := Value × Value × Value) 4 #[true, true, true, true, true, true, true, false, false, false, false] (fun s_ => [(19, s_.1), (22, s_.2.1), (23, s_.2.2)]) (fun s_ w' => (w'.cell? ⟨gb146, 0, none⟩ = some (.slice A0_0 l0_0.length c0_0) ∧ w'.cell? ⟨gb146, 1, none⟩ = some (.slice A0_1 l0_1.length c0_1)) ∧ (Kd.R (Kd.int .i64) 2 w' w.heap.size (fun k_ => some k_ ≠ (s_.2.2 : Value).ownBlock) s_.2.1 y151) ∧ (Kd.R (Kd.int .i64) 2 w' w.heap.size (fun k_ => some k_ ≠ (s_.2.1 : Value).ownBlock) s_.2.2 y154) ∧ (w'.heap[gb146]? = some (.cells #[.slice A0_0 l0_0.length c0_0, .slice A0_1 l0_1.length c0_1] 26 (0, 0))) ∧ (w'.heap[gb147]? = some (.cells #[.slice none 0 0, .slice none 0 0] 26 (0, 0))) ∧ (Below w.heap.size w w')) ?_ ?_
    rotate_left
    ·intro hJ0_3_4
     refine join_ (σ := Value × Value × Nat) 4 #[true, true, true, true, false, true, true, false, false, true, false] (fun s_ => [(19, s_.1), (22, s_.2.1), (6, .pointer (some ⟨s_.2.2, 0, none⟩))]) (fun s_ w' => (w'.cell? ⟨gb146, 0, none⟩ = some (.slice A0_0 l0_0.length c0_0) ∧ w'.cell? ⟨gb146, 1, none⟩ = some (.slice A0_1 l0_1.length c0_1)) ∧ (Kd.R (Kd.int .i64) 2 w' w.heap.size (fun _ => True) s_.2.1 y151) ∧ (w'.heap[gb146]? = some (.cells #[.slice A0_0 l0_0.length c0_0, .slice A0_1 l0_1.length c0_1] 26 (0, 0))) ∧ (w'.heap[gb147]? = some (.cells #[.slice none 0 0, .slice none 0 0] 26 (0, 0))) ∧ (w'.heap[s_.2.2]? = some (.cells #[.slice none 0 0, .slice none 0 0] 26 (0, 0))) ∧ (w.heap.size ≤ s_.2.2) ∧ (w.heap.size ≤ s_.2.2) ∧ (gb146 ≠ s_.2.2) ∧ (s_.2.2 ≠ gb146) ∧ (gb147 ≠ s_.2.2) ∧ (s_.2.2 ≠ gb147) ∧ (Below w.heap.size w w')) ?_ ?_
     rotate_left
     ·intro hJ0_3_9
      refine join_ (σ := Value × Value × Nat) 4 #[true, true, true, false, true, true, true, false, false, true, false] (fun s_ => [(19, s_.1), (23, s_.2.1), (6, .pointer (some ⟨s_.2.2, 0, none⟩))]) (fun s_ w' => (w'.cell? ⟨gb146, 0, none⟩ = some (.slice A0_0 l0_0.length c0_0) ∧ w'.cell? ⟨gb146, 1, none⟩ = some (.slice A0_1 l0_1.length c0_1)) ∧ (Kd.R (Kd.int .i64) 2 w' w.heap.size (fun k_ => some k_ ≠ (s_.2.1 : Value).ownBlock) s_.1 y148) ∧ (Kd.R (Kd.int .i64) 2 w' w.heap.size (fun k_ => some k_ ≠ (s_.1 : Value).ownBlock) s_.2.1 y154) ∧ (w'.heap[gb146]? = some (.cells #[.slice A0_0 l0_0.length c0_0, .slice A0_1 l0_1.length c0_1] 26 (0, 0))) ∧ (w'.heap[gb147]? = some (.cells #[.slice none 0 0, .slice none 0 0] 26 (0, 0))) ∧ (w'.heap[s_.2.2]? = some (.cells #[.slice none 0 0, .slice none 0 0] 26 (0, 0))) ∧ (w.heap.size ≤ s_.2.2) ∧ (w.heap.size ≤ s_.2.2) ∧ (gb146 ≠ s_.2.2) ∧ (s_.2.2 ≠ gb146) ∧ (gb147 ≠ s_.2.2) ∧ (s_.2.2 ≠ gb147) ∧ (Below w.heap.size w w')) ?_ ?_
      rotate_left
      ·intro hJ0_4_9
       refine join_ (σ := Value × Value) 5 #[true, true, true, true, false, true, true, false, false, false, false] (fun s_ => [(19, s_.1), (22, s_.2)]) (fun s_ w' => (w'.cell? ⟨gb146, 0, none⟩ = some (.slice A0_0 l0_0.length c0_0) ∧ w'.cell? ⟨gb146, 1, none⟩ = some (.slice A0_1 l0_1.length c0_1)) ∧ (Kd.R (Kd.int .i64) 2 w' w.heap.size (fun _ => True) s_.2 y151) ∧ (w'.heap[gb146]? = some (.cells #[.slice A0_0 l0_0.length c0_0, .slice A0_1 l0_1.length c0_1] 26 (0, 0))) ∧ (w'.heap[gb147]? = some (.cells #[.slice none 0 0, .slice none 0 0] 26 (0, 0))) ∧ (Below w.heap.size w w')) ?_ ?_
       rotate_left
       ·intro hJ0_3
        refine join_ (σ := Value × Value) 5 #[true, true, true, false, true, true, true, false, false, false, false] (fun s_ => [(19, s_.1), (23, s_.2)]) (fun s_ w' => (w'.cell? ⟨gb146, 0, none⟩ = some (.slice A0_0 l0_0.length c0_0) ∧ w'.cell? ⟨gb146, 1, none⟩ = some (.slice A0_1 l0_1.length c0_1)) ∧ (Kd.R (Kd.int .i64) 2 w' w.heap.size (fun k_ => some k_ ≠ (s_.2 : Value).ownBlock) s_.1 y148) ∧ (Kd.R (Kd.int .i64) 2 w' w.heap.size (fun k_ => some k_ ≠ (s_.1 : Value).ownBlock) s_.2 y154) ∧ (w'.heap[gb146]? = some (.cells #[.slice A0_0 l0_0.length c0_0, .slice A0_1 l0_1.length c0_1] 26 (0, 0))) ∧ (w'.heap[gb147]? = some (.cells #[.slice none 0 0, .slice none 0 0] 26 (0, 0))) ∧ (Below w.heap.size w w')) ?_ ?_
        rotate_left
        ·intro hJ0_4
         refine join_ (σ := Value × Nat) 5 #[true, true, true, false, false, true, true, false, false, true, false] (fun s_ => [(19, s_.1), (6, .pointer (some ⟨s_.2, 0, none⟩))]) (fun s_ w' => (w'.cell? ⟨gb146, 0, none⟩ = some (.slice A0_0 l0_0.length c0_0) ∧ w'.cell? ⟨gb146, 1, none⟩ = some (.slice A0_1 l0_1.length c0_1)) ∧ (Kd.R (Kd.int .i64) 2 w' w.heap.size (fun _ => True) s_.1 y148) ∧ (w'.heap[gb146]? = some (.cells #[.slice A0_0 l0_0.length c0_0, .slice A0_1 l0_1.length c0_1] 26 (0, 0))) ∧ (w'.heap[gb147]? = some (.cells #[.slice none 0 0, .slice none 0 0] 26 (0, 0))) ∧ (w'.heap[s_.2]? = some (.cells #[.slice none 0 0, .slice none 0 0] 26 (0, 0))) ∧ (w.heap.size ≤ s_.2) ∧ (w.heap.size ≤ s_.2) ∧ (gb146 ≠ s_.2) ∧ (s_.2 ≠ gb146) ∧ (gb147 ≠ s_.2) ∧ (s_.2 ≠ gb147) ∧ (Below w.heap.size w w')) ?_ ?_
         rotate_left
         ·intro hJ0_9
          refine join_ (σ := Value × Nat) 5 #[false, true, true, false, true, true, true, false, false, true, false] (fun s_ => [(23, s_.1), (6, .pointer (some ⟨s_.2, 0, none⟩))]) (fun s_ w' => (w'.cell? ⟨gb146, 0, none⟩ = some (.slice A0_0 l0_0.length c0_0) ∧ w'.cell? ⟨gb146, 1, none⟩ = some (.slice A0_1 l0_1.length c0_1)) ∧ (Kd.R (Kd.int .i64) 2 w' w.heap.size (fun _ => True) s_.1 y154) ∧ (w'.heap[gb146]? = some (.cells #[.slice A0_0 l0_0.length c0_0, .slice A0_1 l0_1.length c0_1] 26 (0, 0))) ∧ (w'.heap[gb147]? = some (.cells #[.slice none 0 0, .slice none 0 0] 26 (0, 0))) ∧ (w'.heap[s_.2]? = some (.cells #[.slice none 0 0, .slice none 0 0] 26 (0, 0))) ∧ (w.heap.size ≤ s_.2) ∧ (w.heap.size ≤ s_.2) ∧ (gb146 ≠ s_.2) ∧ (s_.2 ≠ gb146) ∧ (gb147 ≠ s_.2) ∧ (s_.2 ≠ gb147) ∧ (Below w.heap.size w w')) ?_ ?_
          rotate_left
          ·intro hJ4_9
           refine join_ (σ := Value) 6 #[true, true, true, false, false, true, true, false, false, false, false] (fun s_ => [(19, s_)]) (fun s_ w' => (w'.cell? ⟨gb146, 0, none⟩ = some (.slice A0_0 l0_0.length c0_0) ∧ w'.cell? ⟨gb146, 1, none⟩ = some (.slice A0_1 l0_1.length c0_1)) ∧ (Kd.R (Kd.int .i64) 2 w' w.heap.size (fun _ => True) s_ y148) ∧ (w'.heap[gb146]? = some (.cells #[.slice A0_0 l0_0.length c0_0, .slice A0_1 l0_1.length c0_1] 26 (0, 0))) ∧ (w'.heap[gb147]? = some (.cells #[.slice none 0 0, .slice none 0 0] 26 (0, 0))) ∧ (Below w.heap.size w w')) ?_ ?_
           rotate_left
           ·intro hJ0
            refine join_ (σ := Value) 6 #[false, true, true, false, true, true, true, false, false, false, false] (fun s_ => [(23, s_)]) (fun s_ w' => (w'.cell? ⟨gb146, 0, none⟩ = some (.slice A0_0 l0_0.length c0_0) ∧ w'.cell? ⟨gb146, 1, none⟩ = some (.slice A0_1 l0_1.length c0_1)) ∧ (Kd.R (Kd.int .i64) 2 w' w.heap.size (fun _ => True) s_ y154) ∧ (w'.heap[gb146]? = some (.cells #[.slice A0_0 l0_0.length c0_0, .slice A0_1 l0_1.length c0_1] 26 (0, 0))) ∧ (w'.heap[gb147]? = some (.cells #[.slice none 0 0, .slice none 0 0] 26 (0, 0))) ∧ (Below w.heap.size w w')) ?_ ?_
            rotate_left
            ·intro hJ4
             refine join_ (σ := Nat) 6 #[false, true, true, false, false, true, true, false, false, true, false] (fun s_ => [(6, .pointer (some ⟨s_, 0, none⟩))]) (fun s_ w' => (w'.cell? ⟨gb146, 0, none⟩ = some (.slice A0_0 l0_0.length c0_0) ∧ w'.cell? ⟨gb146, 1, none⟩ = some (.slice A0_1 l0_1.length c0_1)) ∧ (w'.heap[gb146]? = some (.cells #[.slice A0_0 l0_0.length c0_0, .slice A0_1 l0_1.length c0_1] 26 (0, 0))) ∧ (w'.heap[gb147]? = some (.cells #[.slice none 0 0, .slice none 0 0] 26 (0, 0))) ∧ (w'.heap[s_]? = some (.cells #[.slice none 0 0, .slice none 0 0] 26 (0, 0))) ∧ (w.heap.size ≤ s_) ∧ (w.heap.size ≤ s_) ∧ (gb146 ≠ s_) ∧ (s_ ≠ gb146) ∧ (gb147 ≠ s_) ∧ (s_ ≠ gb147) ∧ (Below w.heap.size w w')) ?_ ?_
             rotate_left
             ·intro hJ9
              refine three_ (i := 0) (j := 4) (k := 9) (Ni := some 19) (Nj := some 23) (Nk := some 6) #[true, true, true, false, false, true, true, false, false, false, false] #[false, true, true, false, true, true, true, false, false, false, false] #[false, true, true, false, false, true, true, false, false, true, false] rfl rfl rfl rfl rfl rfl (three_of HT_.out (by kernel_rfl)) (by decide) (by decide) (by decide) (fun K hK => ?_) (fun K hK => ?_) (fun K hK => ?_)
              ·skip
               refine Kd.R_lit_step (Kd.int .i64) _ 2 ?hg (N := 19) ?hd (xs := ([] : List Int)) (inner := []) (ok := fun _ => True) (okp := fun _ => True) ?hr ?hp (fun _ hk => hk) trivial (Below.refl _ _) (Nat.le_refl _) (by simp) ?_; (case hd => rfl); (case hg => rfl); (case hr => first | (go_simp; done) | (go_simp; rfl)); (case hp => exact (Reps.none _ _))
               intro v149 w10 ho11 hb hg_ hnew_
               clear hg_ hnew_
               (first | rw [← Ny148.out] at ho11 | (simp only [Int.reduceToNat] at ho11; rw [← Ny148.out] at ho11))
               have HO150 := rL_ ho11 HB; replace BK146 := bB_ BK146 hb; replace BK147 := bB_ BK147 hb; replace HB := bS_ HB hb; clear hb ho11
               refine hK.out _ _ ⟨(blk_cell BK146.out 0).trans rfl, (blk_cell BK146.out 1).trans rfl⟩ (fun hHeld => ?_)
               clear hK K
               refine nS_ (some 19) ?_
               exact norm_ (by simp only [putAll, Act.put, List.setIfInBounds_toArray, List.set_cons_zero, List.set_cons_succ] <;> rfl) (hJ0 (v149) _ ⟨hHeld, (rT_ HO150), (bT_ BK146), (bT_ BK147), (by repeat (first | (with_reducible first | exact HB.out | apply below_alloc | apply pw_below_drewN | apply below_drew1 | refine below_set ?_ GE146.out | refine below_set ?_ GE147.out) | exact HB.out))⟩)
              ·skip
               refine Kd.R_lit_step (Kd.int .i64) _ 2 ?hg (N := 23) ?hd (xs := ([] : List Int)) (inner := []) (ok := fun _ => True) (okp := fun _ => True) ?hr ?hp (fun _ hk => hk) trivial (Below.refl _ _) (Nat.le_refl _) (by simp) ?_; (case hd => rfl); (case hg => rfl); (case hr => first | (go_simp; done) | (go_simp; rfl)); (case hp => exact (Reps.none _ _))
               intro v155 w10 ho11 hb hg_ hnew_
               clear hg_ hnew_
               (first | rw [← Ny154.out] at ho11 | (simp only [Int.reduceToNat] at ho11; rw [← Ny154.out] at ho11))
               have HO156 := rL_ ho11 HB; replace BK146 := bB_ BK146 hb; replace BK147 := bB_ BK147 hb; replace HB := bS_ HB hb; clear hb ho11
               refine hK.out _ _ ⟨(blk_cell BK146.out 0).trans rfl, (blk_cell BK146.out 1).trans rfl⟩ (fun hHeld => ?_)
               clear hK K
               refine nS_ (some 23) ?_
               exact norm_ (by simp only [putAll, Act.put, List.setIfInBounds_toArray, List.set_cons_zero, List.set_cons_succ] <;> rfl) (hJ4 (v155) _ ⟨hHeld, (rT_ HO156), (bT_ BK146), (bT_ BK147), (by repeat (first | (with_reducible first | exact HB.out | apply below_alloc | apply pw_below_drewN | apply below_drew1 | refine below_set ?_ GE146.out | refine below_set ?_ GE147.out) | exact HB.out))⟩)
              ·skip
               refine box_step ?hg (N := 6) ?hd (cs := #[.slice none 0 0, .slice none 0 0]) (t := 26) ?hr ?_; (case hd => rfl); (case hg => rfl); (case hr => first | (go_simp; done) | (go_simp; rfl))
               intro gb160 hg w10 hbox hb
               have BK160 := Aside0.mk (hbox)
               have GW160 := gE_ HB hg; have GE160 := gE_ HB hg; replace HB := bS_ HB hb; have NB146_160 := nL_ BK146 hg; have NB160_146 := nG_ BK146 hg; replace BK146 := bB_ BK146 hb; have NB147_160 := nL_ BK147 hg; have NB160_147 := nG_ BK147 hg; replace BK147 := bB_ BK147 hb; clear hb hbox hg
               refine hK.out _ _ ⟨(blk_cell BK146.out 0).trans rfl, (blk_cell BK146.out 1).trans rfl⟩ (fun hHeld => ?_)
               clear hK K
               refine nS_ (some 6) ?_
               exact norm_ (by simp only [putAll, Act.put, List.setIfInBounds_toArray, List.set_cons_zero, List.set_cons_succ] <;> rfl) (hJ9 (gb160) _ ⟨hHeld, (bT_ BK146), (bT_ BK147), (bT_ BK160), GW160.out, GE160.out, NB146_160.out, NB160_146.out, NB147_160.out, NB160_147.out, (by repeat (first | (with_reducible first | exact HB.out | apply below_alloc | apply pw_below_drewN | apply below_drew1 | refine below_set ?_ GE146.out | refine below_set ?_ GE147.out | refine below_set ?_ GE160.out) | exact HB.out))⟩)
             ·skip
              rintro gb160 w11 ⟨hS_, h0_, h1_, h2_, h3_, h4_, h5_, h6_, h7_, h8_, h9_⟩
              try dsimp only at h0_ h1_ h2_ h3_ h4_ h5_ h6_ h7_ h8_ h9_
              replace BK146 := Aside0.mk h0_; replace BK147 := Aside0.mk h1_; have BK160 := Aside0.mk h2_; have GW160 := Aside0.mk h3_; have GE160 := Aside0.mk h4_; have NB146_160 := Aside0.mk h5_; have NB160_146 := Aside0.mk h6_; have NB147_160 := Aside0.mk h7_; have NB160_147 := Aside0.mk h8_; replace HB := Aside0.mk h9_; clear h0_ h1_ h2_ h3_ h4_ h5_ h6_ h7_ h8_ h9_
              have hHeld : w11.cell? ⟨gb146, 0, none⟩ = some (.slice A0_0 l0_0.length c0_0) ∧ w11.cell? ⟨gb146, 1, none⟩ = some (.slice A0_1 l0_1.length c0_1) := hS_
              refine norm_ (a' := ?_) ?_ ?_
              rotate_left
              ·simp only [putAll, Act.put, List.setIfInBounds_toArray, List.set_cons_zero, List.set_cons_succ]
               rfl
              refine two_ (i := 0) (j := 4) (Ni := some 19) (Nj := some 23) #[true, true, true, false, false, true, true, false, false, true, false] #[false, true, true, false, true, true, true, false, false, true, false] rfl rfl rfl rfl (two_of HT_.out (by kernel_rfl)) (by decide) (by decide) (fun K hK => ?_) (fun K hK => ?_)
              ·skip
               refine Kd.R_lit_step (Kd.int .i64) _ 2 ?hg (N := 19) ?hd (xs := ([] : List Int)) (inner := []) (ok := fun _ => True) (okp := fun _ => True) ?hr ?hp (fun _ hk => hk) trivial (Below.refl _ _) (Nat.le_refl _) (by simp) ?_; (case hd => rfl); (case hg => rfl); (case hr => first | (go_simp; done) | (go_simp; rfl)); (case hp => exact (Reps.none _ _))
               intro v149 w12 ho13 hb hg_ hnew_
               clear hg_ hnew_
               (first | rw [← Ny148.out] at ho13 | (simp only [Int.reduceToNat] at ho13; rw [← Ny148.out] at ho13))
               have HO150 := rL_ ho13 HB; replace BK146 := bB_ BK146 hb; replace BK147 := bB_ BK147 hb; replace BK160 := bB_ BK160 hb; replace HB := bS_ HB hb; clear hb ho13
               refine hK.out _ _ ⟨(blk_cell BK146.out 0).trans rfl, (blk_cell BK146.out 1).trans rfl⟩ (fun hHeld => ?_)
               clear hK K
               refine nS_ (some 19) ?_
               exact norm_ (by simp only [putAll, Act.put, List.setIfInBounds_toArray, List.set_cons_zero, List.set_cons_succ] <;> rfl) (hJ0_9 (v149, gb160) _ ⟨hHeld, (rT_ HO150), (bT_ BK146), (bT_ BK147), (bT_ BK160), GW160.out, GE160.out, NB146_160.out, NB160_146.out, NB147_160.out, NB160_147.out, (by repeat (first | (with_reducible first | exact HB.out | apply below_alloc | apply pw_below_drewN | apply below_drew1 | refine below_set ?_ GE146.out | refine below_set ?_ GE147.out | refine below_set ?_ GE160.out) | exact HB.out))⟩)
              ·skip
               refine Kd.R_lit_step (Kd.int .i64) _ 2 ?hg (N := 23) ?hd (xs := ([] : List Int)) (inner := []) (ok := fun _ => True) (okp := fun _ => True) ?hr ?hp (fun _ hk => hk) trivial (Below.refl _ _) (Nat.le_refl _) (by simp) ?_; (case hd => rfl); (case hg => rfl); (case hr => first | (go_simp; done) | (go_simp; rfl)); (case hp => exact (Reps.none _ _))
               intro v155 w12 ho13 hb hg_ hnew_
               clear hg_ hnew_
               (first | rw [← Ny154.out] at ho13 | (simp only [Int.reduceToNat] at ho13; rw [← Ny154.out] at ho13))
               have HO156 := rL_ ho13 HB; replace BK146 := bB_ BK146 hb; replace BK147 := bB_ BK147 hb; replace BK160 := bB_ BK160 hb; replace HB := bS_ HB hb; clear hb ho13
               refine hK.out _ _ ⟨(blk_cell BK146.out 0).trans rfl, (blk_cell BK146.out 1).trans rfl⟩ (fun hHeld => ?_)
               clear hK K
               refine nS_ (some 23) ?_
               exact norm_ (by simp only [putAll, Act.put, List.setIfInBounds_toArray, List.set_cons_zero, List.set_cons_succ] <;> rfl) (hJ4_9 (v155, gb160) _ ⟨hHeld, (rT_ HO156), (bT_ BK146), (bT_ BK147), (bT_ BK160), GW160.out, GE160.out, NB146_160.out, NB160_146.out, NB147_160.out, NB160_147.out, (by repeat (first | (with_reducible first | exact HB.out | apply below_alloc | apply pw_below_drewN | apply below_drew1 | refine below_set ?_ GE146.out | refine below_set ?_ GE147.out | refine below_set ?_ GE160.out) | exact HB.out))⟩)
            ·skip
             rintro v155 w12 ⟨hS_, h0_, h1_, h2_, h3_⟩
             try dsimp only at h0_ h1_ h2_ h3_
             have HO156 := Aside0.mk h0_; replace BK146 := Aside0.mk h1_; replace BK147 := Aside0.mk h2_; replace HB := Aside0.mk h3_; clear h0_ h1_ h2_ h3_
             have hHeld : w12.cell? ⟨gb146, 0, none⟩ = some (.slice A0_0 l0_0.length c0_0) ∧ w12.cell? ⟨gb146, 1, none⟩ = some (.slice A0_1 l0_1.length c0_1) := hS_
             refine norm_ (a' := ?_) ?_ ?_
             rotate_left
             ·simp only [putAll, Act.put, List.setIfInBounds_toArray, List.set_cons_zero, List.set_cons_succ]
              rfl
             refine two_ (i := 0) (j := 9) (Ni := some 19) (Nj := some 6) #[true, true, true, false, true, true, true, false, false, false, false] #[false, true, true, false, true, true, true, false, false, true, false] rfl rfl rfl rfl (two_of HT_.out (by kernel_rfl)) (by decide) (by decide) (fun K hK => ?_) (fun K hK => ?_)
             ·skip
              refine Kd.R_lit_step (Kd.int .i64) _ 2 ?hg (N := 19) ?hd (xs := ([] : List Int)) (inner := []) (ok := fun _ => True) (okp := fun _ => True) ?hr ?hp (fun _ hk => hk) trivial (Below.refl _ _) (Nat.le_refl _) (by simp) ?_; (case hd => rfl); (case hg => rfl); (case hr => first | (go_simp; done) | (go_simp; rfl)); (case hp => exact (Reps.none _ _))
              intro v149 w13 ho14 hb hg_ hnew_
              clear hg_ hnew_
              (first | rw [← Ny148.out] at ho14 | (simp only [Int.reduceToNat] at ho14; rw [← Ny148.out] at ho14))
              have HO150 := rL_ (rN_ ho14 HO156) HB
              replace HO156 := rE_ HO156 ho14 hb; replace BK146 := bB_ BK146 hb; replace BK147 := bB_ BK147 hb; replace HB := bS_ HB hb; clear hb ho14
              refine hK.out _ _ ⟨(blk_cell BK146.out 0).trans rfl, (blk_cell BK146.out 1).trans rfl⟩ (fun hHeld => ?_)
              clear hK K
              refine nS_ (some 19) ?_
              exact norm_ (by simp only [putAll, Act.put, List.setIfInBounds_toArray, List.set_cons_zero, List.set_cons_succ] <;> rfl) (hJ0_4 (v149, v155) _ ⟨hHeld, (rM_ HO150), (rM_ HO156), (bT_ BK146), (bT_ BK147), (by repeat (first | (with_reducible first | exact HB.out | apply below_alloc | apply pw_below_drewN | apply below_drew1 | refine below_set ?_ GE146.out | refine below_set ?_ GE147.out) | exact HB.out))⟩)
             ·skip
              refine box_step ?hg (N := 6) ?hd (cs := #[.slice none 0 0, .slice none 0 0]) (t := 26) ?hr ?_; (case hd => rfl); (case hg => rfl); (case hr => first | (go_simp; done) | (go_simp; rfl))
              intro gb160 hg w13 hbox hb
              replace HO156 := rB_ HO156 hb
              have BK160 := Aside0.mk (hbox)
              have GW160 := gE_ HB hg; have GE160 := gE_ HB hg; replace HB := bS_ HB hb; have NB146_160 := nL_ BK146 hg; have NB160_146 := nG_ BK146 hg; replace BK146 := bB_ BK146 hb; have NB147_160 := nL_ BK147 hg; have NB160_147 := nG_ BK147 hg; replace BK147 := bB_ BK147 hb; clear hb hbox hg
              refine hK.out _ _ ⟨(blk_cell BK146.out 0).trans rfl, (blk_cell BK146.out 1).trans rfl⟩ (fun hHeld => ?_)
              clear hK K
              refine nS_ (some 6) ?_
              exact norm_ (by simp only [putAll, Act.put, List.setIfInBounds_toArray, List.set_cons_zero, List.set_cons_succ] <;> rfl) (hJ4_9 (v155, gb160) _ ⟨hHeld, (rT_ HO156), (bT_ BK146), (bT_ BK147), (bT_ BK160), GW160.out, GE160.out, NB146_160.out, NB160_146.out, NB147_160.out, NB160_147.out, (by repeat (first | (with_reducible first | exact HB.out | apply below_alloc | apply pw_below_drewN | apply below_drew1 | refine below_set ?_ GE146.out | refine below_set ?_ GE147.out | refine below_set ?_ GE160.out) | exact HB.out))⟩)
           ·skip
            rintro v149 w12 ⟨hS_, h0_, h1_, h2_, h3_⟩
            try dsimp only at h0_ h1_ h2_ h3_
            have HO150 := Aside0.mk h0_; replace BK146 := Aside0.mk h1_; replace BK147 := Aside0.mk h2_; replace HB := Aside0.mk h3_; clear h0_ h1_ h2_ h3_
            have hHeld : w12.cell? ⟨gb146, 0, none⟩ = some (.slice A0_0 l0_0.length c0_0) ∧ w12.cell? ⟨gb146, 1, none⟩ = some (.slice A0_1 l0_1.length c0_1) := hS_
            refine norm_ (a' := ?_) ?_ ?_
            rotate_left
            ·simp only [putAll, Act.put, List.setIfInBounds_toArray, List.set_cons_zero, List.set_cons_succ]
             rfl
            refine three_ (i := 3) (j := 4) (k := 9) (Ni := some 22) (Nj := some 23) (Nk := some 6) #[true, true, true, true, false, true, true, false, false, false, false] #[true, true, true, false, true, true, true, false, false, false, false] #[true, true, true, false, false, true, true, false, false, true, false] rfl rfl rfl rfl rfl rfl (three_of HT_.out (by kernel_rfl)) (by decide) (by decide) (by decide) (fun K hK => ?_) (fun K hK => ?_) (fun K hK => ?_)
            ·skip
             refine Kd.R_append_rows_step (Kd.int .i64) (w0 := w) w.heap.size (by rfl) (.tmp 19) (.tmp 21) 22 2 (.int .i64 0) 8 rfl Try.underlying22 info2 rfl (by decide) (by omega) v149 y148 l0_0 _ _ _ (fun _ => True) (fun _ => False) rfl rfl ?aO ?aR (fun _ _ h => h) (fun _ h => h.elim) ?aF ?aB ?aS ?aL ?_
             (case aR => repeat (first | exact (Kd.C_below HR0_0.out HB.out) | (with_reducible refine Kd.C_alloc ?_ _) | (with_reducible refine Kd.C_drewN ?_ _) | (with_reducible refine Kd.C_drew ?_)))
             (case aB => exact (by repeat (first | (with_reducible first | exact HB.out | apply below_alloc | apply pw_below_drewN | apply below_drew1 | refine below_set ?_ GE146.out | refine below_set ?_ GE147.out) | exact HB.out)))
             (case aF => exact (fun _ _ => trivial))
             (case aO => exact (rT_ HO150))
             (case aS => exact (below_size (by repeat (first | (with_reducible first | exact HB.out | apply below_alloc | apply pw_below_drewN | apply below_drew1 | refine below_set ?_ GE146.out | refine below_set ?_ GE147.out) | exact HB.out))))
             (case aL => have := LMc3.out; omega)
             intro v152 w13 ho hb hg hat
             rw [← Ny151.out] at ho
             replace BK146 := Aside0.mk (blk_grown (g := gb146) (o := .cells #[.slice A0_0 l0_0.length c0_0, .slice A0_1 l0_1.length c0_1] 26 (0, 0)) (bT_ BK146) hg (Kd.R_ne HO150.out BK146.out (by decide)))
             replace BK147 := Aside0.mk (blk_grown (g := gb147) (o := .cells #[.slice none 0 0, .slice none 0 0] 26 (0, 0)) (bT_ BK147) hg (Kd.R_ne HO150.out BK147.out (by decide)))
             replace HB := Aside0.mk (hb)
             have HO153 := Aside0.mk (ho)
             clear HO150 ho hb hg hat
             refine hK.out _ _ ⟨(blk_cell BK146.out 0).trans rfl, (blk_cell BK146.out 1).trans rfl⟩ (fun hHeld => ?_)
             clear hK K
             refine nS_ (some 22) ?_
             exact norm_ (by simp only [putAll, Act.put, List.setIfInBounds_toArray, List.set_cons_zero, List.set_cons_succ] <;> rfl) (hJ0_3 (v149, v152) _ ⟨hHeld, (rT_ HO153), (bT_ BK146), (bT_ BK147), (by repeat (first | (with_reducible first | exact HB.out | apply below_alloc | apply pw_below_drewN | apply below_drew1 | refine below_set ?_ GE146.out | refine below_set ?_ GE147.out) | exact HB.out))⟩)
            ·skip
             refine Kd.R_lit_step (Kd.int .i64) _ 2 ?hg (N := 23) ?hd (xs := ([] : List Int)) (inner := []) (ok := fun _ => True) (okp := fun _ => True) ?hr ?hp (fun _ hk => hk) trivial (Below.refl _ _) (Nat.le_refl _) (by simp) ?_; (case hd => rfl); (case hg => rfl); (case hr => first | (go_simp; done) | (go_simp; rfl)); (case hp => exact (Reps.none _ _))
             intro v155 w13 ho14 hb hg_ hnew_
             clear hg_ hnew_
             (first | rw [← Ny154.out] at ho14 | (simp only [Int.reduceToNat] at ho14; rw [← Ny154.out] at ho14))
             have HO156 := rL_ (rN_ ho14 HO150) HB
             replace HO150 := rE_ HO150 ho14 hb; replace BK146 := bB_ BK146 hb; replace BK147 := bB_ BK147 hb; replace HB := bS_ HB hb; clear hb ho14
             refine hK.out _ _ ⟨(blk_cell BK146.out 0).trans rfl, (blk_cell BK146.out 1).trans rfl⟩ (fun hHeld => ?_)
             clear hK K
             refine nS_ (some 23) ?_
             exact norm_ (by simp only [putAll, Act.put, List.setIfInBounds_toArray, List.set_cons_zero, List.set_cons_succ] <;> rfl) (hJ0_4 (v149, v155) _ ⟨hHeld, (rM_ HO150), (rM_ HO156), (bT_ BK146), (bT_ BK147), (by repeat (first | (with_reducible first | exact HB.out | apply below_alloc | apply pw_below_drewN | apply below_drew1 | refine below_set ?_ GE146.out | refine below_set ?_ GE147.out) | exact HB.out))⟩)
            ·skip
             refine box_step ?hg (N := 6) ?hd (cs := #[.slice none 0 0, .slice none 0 0]) (t := 26) ?hr ?_; (case hd => rfl); (case hg => rfl); (case hr => first | (go_simp; done) | (go_simp; rfl))
             intro gb160 hg w13 hbox hb
             replace HO150 := rB_ HO150 hb
             have BK160 := Aside0.mk (hbox)
             have GW160 := gE_ HB hg; have GE160 := gE_ HB hg; replace HB := bS_ HB hb; have NB146_160 := nL_ BK146 hg; have NB160_146 := nG_ BK146 hg; replace BK146 := bB_ BK146 hb; have NB147_160 := nL_ BK147 hg; have NB160_147 := nG_ BK147 hg; replace BK147 := bB_ BK147 hb; clear hb hbox hg
             refine hK.out _ _ ⟨(blk_cell BK146.out 0).trans rfl, (blk_cell BK146.out 1).trans rfl⟩ (fun hHeld => ?_)
             clear hK K
             refine nS_ (some 6) ?_
             exact norm_ (by simp only [putAll, Act.put, List.setIfInBounds_toArray, List.set_cons_zero, List.set_cons_succ] <;> rfl) (hJ0_9 (v149, gb160) _ ⟨hHeld, (rT_ HO150), (bT_ BK146), (bT_ BK147), (bT_ BK160), GW160.out, GE160.out, NB146_160.out, NB160_146.out, NB147_160.out, NB160_147.out, (by repeat (first | (with_reducible first | exact HB.out | apply below_alloc | apply pw_below_drewN | apply below_drew1 | refine below_set ?_ GE146.out | refine below_set ?_ GE147.out | refine below_set ?_ GE160.out) | exact HB.out))⟩)
          ·skip
           rintro ⟨v155, gb160⟩ w13 ⟨hS_, h0_, h1_, h2_, h3_, h4_, h5_, h6_, h7_, h8_, h9_, h10_⟩
           try dsimp only at h0_ h1_ h2_ h3_ h4_ h5_ h6_ h7_ h8_ h9_ h10_
           have HO156 := Aside0.mk h0_; replace BK146 := Aside0.mk h1_; replace BK147 := Aside0.mk h2_; have BK160 := Aside0.mk h3_; have GW160 := Aside0.mk h4_; have GE160 := Aside0.mk h5_; have NB146_160 := Aside0.mk h6_; have NB160_146 := Aside0.mk h7_; have NB147_160 := Aside0.mk h8_; have NB160_147 := Aside0.mk h9_; replace HB := Aside0.mk h10_; clear h0_ h1_ h2_ h3_ h4_ h5_ h6_ h7_ h8_ h9_ h10_
           have hHeld : w13.cell? ⟨gb146, 0, none⟩ = some (.slice A0_0 l0_0.length c0_0) ∧ w13.cell? ⟨gb146, 1, none⟩ = some (.slice A0_1 l0_1.length c0_1) := hS_
           refine norm_ (a' := ?_) ?_ ?_
           rotate_left
           ·simp only [putAll, Act.put, List.setIfInBounds_toArray, List.set_cons_zero, List.set_cons_succ]
            rfl
           refine one_ (i := 0) (N := some 19) #[true, true, true, false, true, true, true, false, false, true, false] rfl rfl (one_of HT_.out (by kernel_rfl)) (by decide) (fun K hK => ?_)
           refine Kd.R_lit_step (Kd.int .i64) _ 2 ?hg (N := 19) ?hd (xs := ([] : List Int)) (inner := []) (ok := fun _ => True) (okp := fun _ => True) ?hr ?hp (fun _ hk => hk) trivial (Below.refl _ _) (Nat.le_refl _) (by simp) ?_; (case hd => rfl); (case hg => rfl); (case hr => first | (go_simp; done) | (go_simp; rfl)); (case hp => exact (Reps.none _ _))
           intro v149 w14 ho15 hb hg_ hnew_
           clear hg_ hnew_
           (first | rw [← Ny148.out] at ho15 | (simp only [Int.reduceToNat] at ho15; rw [← Ny148.out] at ho15))
           have HO150 := rL_ (rN_ ho15 HO156) HB
           replace HO156 := rE_ HO156 ho15 hb; replace BK146 := bB_ BK146 hb; replace BK147 := bB_ BK147 hb; replace BK160 := bB_ BK160 hb; replace HB := bS_ HB hb; clear hb ho15
           refine hK.out _ _ ⟨(blk_cell BK146.out 0).trans rfl, (blk_cell BK146.out 1).trans rfl⟩ (fun hHeld => ?_)
           clear hK K
           refine nS_ (some 19) ?_
           exact norm_ (by simp only [putAll, Act.put, List.setIfInBounds_toArray, List.set_cons_zero, List.set_cons_succ] <;> rfl) (hJ0_4_9 (v149, v155, gb160) _ ⟨hHeld, (rM_ HO150), (rM_ HO156), (bT_ BK146), (bT_ BK147), (bT_ BK160), GW160.out, GE160.out, NB146_160.out, NB160_146.out, NB147_160.out, NB160_147.out, (by repeat (first | (with_reducible first | exact HB.out | apply below_alloc | apply pw_below_drewN | apply below_drew1 | refine below_set ?_ GE146.out | refine below_set ?_ GE147.out | refine below_set ?_ GE160.out) | exact HB.out))⟩)
         ·skip
          rintro ⟨v149, gb160⟩ w13 ⟨hS_, h0_, h1_, h2_, h3_, h4_, h5_, h6_, h7_, h8_, h9_, h10_⟩
          try dsimp only at h0_ h1_ h2_ h3_ h4_ h5_ h6_ h7_ h8_ h9_ h10_
          have HO150 := Aside0.mk h0_; replace BK146 := Aside0.mk h1_; replace BK147 := Aside0.mk h2_; have BK160 := Aside0.mk h3_; have GW160 := Aside0.mk h4_; have GE160 := Aside0.mk h5_; have NB146_160 := Aside0.mk h6_; have NB160_146 := Aside0.mk h7_; have NB147_160 := Aside0.mk h8_; have NB160_147 := Aside0.mk h9_; replace HB := Aside0.mk h10_; clear h0_ h1_ h2_ h3_ h4_ h5_ h6_ h7_ h8_ h9_ h10_
          have hHeld : w13.cell? ⟨gb146, 0, none⟩ = some (.slice A0_0 l0_0.length c0_0) ∧ w13.cell? ⟨gb146, 1, none⟩ = some (.slice A0_1 l0_1.length c0_1) := hS_
          refine norm_ (a' := ?_) ?_ ?_
          rotate_left
          ·simp only [putAll, Act.put, List.setIfInBounds_toArray, List.set_cons_zero, List.set_cons_succ]
           rfl
          refine two_ (i := 3) (j := 4) (Ni := some 22) (Nj := some 23) #[true, true, true, true, false, true, true, false, false, true, false] #[true, true, true, false, true, true, true, false, false, true, false] rfl rfl rfl rfl (two_of HT_.out (by kernel_rfl)) (by decide) (by decide) (fun K hK => ?_) (fun K hK => ?_)
          ·skip
           refine Kd.R_append_rows_step (Kd.int .i64) (w0 := w) w.heap.size (by rfl) (.tmp 19) (.tmp 21) 22 2 (.int .i64 0) 8 rfl Try.underlying22 info2 rfl (by decide) (by omega) v149 y148 l0_0 _ _ _ (fun _ => True) (fun _ => False) rfl rfl ?aO ?aR (fun _ _ h => h) (fun _ h => h.elim) ?aF ?aB ?aS ?aL ?_
           (case aR => repeat (first | exact (Kd.C_below HR0_0.out HB.out) | (with_reducible refine Kd.C_alloc ?_ _) | (with_reducible refine Kd.C_drewN ?_ _) | (with_reducible refine Kd.C_drew ?_)))
           (case aB => exact (by repeat (first | (with_reducible first | exact HB.out | apply below_alloc | apply pw_below_drewN | apply below_drew1 | refine below_set ?_ GE146.out | refine below_set ?_ GE147.out | refine below_set ?_ GE160.out) | exact HB.out)))
           (case aF => exact (fun _ _ => trivial))
           (case aO => exact (rT_ HO150))
           (case aS => exact (below_size (by repeat (first | (with_reducible first | exact HB.out | apply below_alloc | apply pw_below_drewN | apply below_drew1 | refine below_set ?_ GE146.out | refine below_set ?_ GE147.out | refine below_set ?_ GE160.out) | exact HB.out))))
           (case aL => have := LMc3.out; omega)
           intro v152 w14 ho hb hg hat
           rw [← Ny151.out] at ho
           replace BK146 := Aside0.mk (blk_grown (g := gb146) (o := .cells #[.slice A0_0 l0_0.length c0_0, .slice A0_1 l0_1.length c0_1] 26 (0, 0)) (bT_ BK146) hg (Kd.R_ne HO150.out BK146.out (by decide)))
           replace BK147 := Aside0.mk (blk_grown (g := gb147) (o := .cells #[.slice none 0 0, .slice none 0 0] 26 (0, 0)) (bT_ BK147) hg (Kd.R_ne HO150.out BK147.out (by decide)))
           replace BK160 := Aside0.mk (blk_grown (g := gb160) (o := .cells #[.slice none 0 0, .slice none 0 0] 26 (0, 0)) (bT_ BK160) hg (Kd.R_ne HO150.out BK160.out (by decide)))
           replace HB := Aside0.mk (hb)
           have HO153 := Aside0.mk (ho)
           clear HO150 ho hb hg hat
           refine hK.out _ _ ⟨(blk_cell BK146.out 0).trans rfl, (blk_cell BK146.out 1).trans rfl⟩ (fun hHeld => ?_)
           clear hK K
           refine nS_ (some 22) ?_
           exact norm_ (by simp only [putAll, Act.put, List.setIfInBounds_toArray, List.set_cons_zero, List.set_cons_succ] <;> rfl) (hJ0_3_9 (v149, v152, gb160) _ ⟨hHeld, (rT_ HO153), (bT_ BK146), (bT_ BK147), (bT_ BK160), GW160.out, GE160.out, NB146_160.out, NB160_146.out, NB147_160.out, NB160_147.out, (by repeat (first | (with_reducible first | exact HB.out | apply below_alloc | apply pw_below_drewN | apply below_drew1 | refine below_set ?_ GE146.out | refine below_set ?_ GE147.out | refine below_set ?_ GE160.out) | exact HB.out))⟩)
          ·skip
           refine Kd.R_lit_step (Kd.int .i64) _ 2 ?hg (N := 23) ?hd (xs := ([] : List Int)) (inner := []) (ok := fun _ => True) (okp := fun _ => True) ?hr ?hp (fun _ hk => hk) trivial (Below.refl _ _) (Nat.le_refl _) (by simp) ?_; (case hd => rfl); (case hg => rfl); (case hr => first | (go_simp; done) | (go_simp; rfl)); (case hp => exact (Reps.none _ _))
           intro v155 w14 ho15 hb hg_ hnew_
           clear hg_ hnew_
           (first | rw [← Ny154.out] at ho15 | (simp only [Int.reduceToNat] at ho15; rw [← Ny154.out] at ho15))
           have HO156 := rL_ (rN_ ho15 HO150) HB
           replace HO150 := rE_ HO150 ho15 hb; replace BK146 := bB_ BK146 hb; replace BK147 := bB_ BK147 hb; replace BK160 := bB_ BK160 hb; replace HB := bS_ HB hb; clear hb ho15
           refine hK.out _ _ ⟨(blk_cell BK146.out 0).trans rfl, (blk_cell BK146.out 1).trans rfl⟩ (fun hHeld => ?_)
           clear hK K
           refine nS_ (some 23) ?_
           exact norm_ (by simp only [putAll, Act.put, List.setIfInBounds_toArray, List.set_cons_zero, List.set_cons_succ] <;> rfl) (hJ0_4_9 (v149, v155, gb160) _ ⟨hHeld, (rM_ HO150), (rM_ HO156), (bT_ BK146), (bT_ BK147), (bT_ BK160), GW160.out, GE160.out, NB146_160.out, NB160_146.out, NB147_160.out, NB160_147.out, (by repeat (first | (with_reducible first | exact HB.out | apply below_alloc | apply pw_below_drewN | apply below_drew1 | refine below_set ?_ GE146.out | refine below_set ?_ GE147.out | refine below_set ?_ GE160.out) | exact HB.out))⟩)
        ·skip
         rintro ⟨v149, v155⟩ w14 ⟨hS_, h0_, h1_, h2_, h3_, h4_⟩
         try dsimp only at h0_ h1_ h2_ h3_ h4_
         have HO150 := Aside0.mk h0_; have HO156 := Aside0.mk h1_; replace BK146 := Aside0.mk h2_; replace BK147 := Aside0.mk h3_; replace HB := Aside0.mk h4_; clear h0_ h1_ h2_ h3_ h4_
         have hHeld : w14.cell? ⟨gb146, 0, none⟩ = some (.slice A0_0 l0_0.length c0_0) ∧ w14.cell? ⟨gb146, 1, none⟩ = some (.slice A0_1 l0_1.length c0_1) := hS_
         refine norm_ (a' := ?_) ?_ ?_
         rotate_left
         ·simp only [putAll, Act.put, List.setIfInBounds_toArray, List.set_cons_zero, List.set_cons_succ]
          rfl
         refine two_ (i := 3) (j := 9) (Ni := some 22) (Nj := some 6) #[true, true, true, true, true, true, true, false, false, false, false] #[true, true, true, false, true, true, true, false, false, true, false] rfl rfl rfl rfl (two_of HT_.out (by kernel_rfl)) (by decide) (by decide) (fun K hK => ?_) (fun K hK => ?_)
         ·skip
          refine Kd.R_append_rows_step (Kd.int .i64) (w0 := w) w.heap.size (by rfl) (.tmp 19) (.tmp 21) 22 2 (.int .i64 0) 8 rfl Try.underlying22 info2 rfl (by decide) (by omega) v149 y148 l0_0 _ _ _ (fun k_ => some k_ ≠ (v155 : Value).ownBlock) (fun _ => False) rfl rfl ?aO ?aR (fun _ _ h => h) (fun _ h => h.elim) ?aF ?aB ?aS ?aL ?_
          (case aR => repeat (first | exact (Kd.C_below HR0_0.out HB.out) | (with_reducible refine Kd.C_alloc ?_ _) | (with_reducible refine Kd.C_drewN ?_ _) | (with_reducible refine Kd.C_drew ?_)))
          (case aB => exact (by repeat (first | (with_reducible first | exact HB.out | apply below_alloc | apply pw_below_drewN | apply below_drew1 | refine below_set ?_ GE146.out | refine below_set ?_ GE147.out) | exact HB.out)))
          (case aF => exact (fun k_ hk => Kd.fresh' (rLt_ HO156) k_ hk))
          (case aO => exact (rT_ HO150))
          (case aS => exact (below_size (by repeat (first | (with_reducible first | exact HB.out | apply below_alloc | apply pw_below_drewN | apply below_drew1 | refine below_set ?_ GE146.out | refine below_set ?_ GE147.out) | exact HB.out))))
          (case aL => have := LMc3.out; omega)
          intro v152 w15 ho hb hg hat
          rw [← Ny151.out] at ho
          replace BK146 := Aside0.mk (blk_grown (g := gb146) (o := .cells #[.slice A0_0 l0_0.length c0_0, .slice A0_1 l0_1.length c0_1] 26 (0, 0)) (bT_ BK146) hg (Kd.R_ne HO150.out BK146.out (by decide)))
          replace BK147 := Aside0.mk (blk_grown (g := gb147) (o := .cells #[.slice none 0 0, .slice none 0 0] 26 (0, 0)) (bT_ BK147) hg (Kd.R_ne HO150.out BK147.out (by decide)))
          replace HO156 := Aside0.mk (Kd.R_after (ok := (fun _ => True)) (rM_ HO156 (fun _ hk => ⟨trivial, hk⟩)) hg hat)
          replace HB := Aside0.mk (hb)
          have HO153 := Aside0.mk (ho)
          clear HO150 ho hb hg hat
          refine hK.out _ _ ⟨(blk_cell BK146.out 0).trans rfl, (blk_cell BK146.out 1).trans rfl⟩ (fun hHeld => ?_)
          clear hK K
          refine nS_ (some 22) ?_
          exact norm_ (by simp only [putAll, Act.put, List.setIfInBounds_toArray, List.set_cons_zero, List.set_cons_succ] <;> rfl) (hJ0_3_4 (v149, v152, v155) _ ⟨hHeld, (rT_ HO153), (rM_ HO156), (bT_ BK146), (bT_ BK147), (by repeat (first | (with_reducible first | exact HB.out | apply below_alloc | apply pw_below_drewN | apply below_drew1 | refine below_set ?_ GE146.out | refine below_set ?_ GE147.out) | exact HB.out))⟩)
         ·skip
          refine box_step ?hg (N := 6) ?hd (cs := #[.slice none 0 0, .slice none 0 0]) (t := 26) ?hr ?_; (case hd => rfl); (case hg => rfl); (case hr => first | (go_simp; done) | (go_simp; rfl))
          intro gb160 hg w15 hbox hb
          replace HO150 := rB_ HO150 hb; replace HO156 := rB_ HO156 hb
          have BK160 := Aside0.mk (hbox)
          have GW160 := gE_ HB hg; have GE160 := gE_ HB hg; replace HB := bS_ HB hb; have NB146_160 := nL_ BK146 hg; have NB160_146 := nG_ BK146 hg; replace BK146 := bB_ BK146 hb; have NB147_160 := nL_ BK147 hg; have NB160_147 := nG_ BK147 hg; replace BK147 := bB_ BK147 hb; clear hb hbox hg
          refine hK.out _ _ ⟨(blk_cell BK146.out 0).trans rfl, (blk_cell BK146.out 1).trans rfl⟩ (fun hHeld => ?_)
          clear hK K
          refine nS_ (some 6) ?_
          exact norm_ (by simp only [putAll, Act.put, List.setIfInBounds_toArray, List.set_cons_zero, List.set_cons_succ] <;> rfl) (hJ0_4_9 (v149, v155, gb160) _ ⟨hHeld, (rT_ HO150), (rT_ HO156), (bT_ BK146), (bT_ BK147), (bT_ BK160), GW160.out, GE160.out, NB146_160.out, NB160_146.out, NB147_160.out, NB160_147.out, (by repeat (first | (with_reducible first | exact HB.out | apply below_alloc | apply pw_below_drewN | apply below_drew1 | refine below_set ?_ GE146.out | refine below_set ?_ GE147.out | refine below_set ?_ GE160.out) | exact HB.out))⟩)
       ·skip
        rintro ⟨v149, v152⟩ w13 ⟨hS_, h0_, h1_, h2_, h3_⟩
        try dsimp only at h0_ h1_ h2_ h3_
        have HO153 := Aside0.mk h0_; replace BK146 := Aside0.mk h1_; replace BK147 := Aside0.mk h2_; replace HB := Aside0.mk h3_; clear h0_ h1_ h2_ h3_
        have hHeld : w13.cell? ⟨gb146, 0, none⟩ = some (.slice A0_0 l0_0.length c0_0) ∧ w13.cell? ⟨gb146, 1, none⟩ = some (.slice A0_1 l0_1.length c0_1) := hS_
        refine norm_ (a' := ?_) ?_ ?_
        rotate_left
        ·simp only [putAll, Act.put, List.setIfInBounds_toArray, List.set_cons_zero, List.set_cons_succ]
         rfl
        refine two_ (i := 4) (j := 9) (Ni := some 23) (Nj := some 6) #[true, true, true, true, true, true, true, false, false, false, false] #[true, true, true, true, false, true, true, false, false, true, false] rfl rfl rfl rfl (two_of HT_.out (by kernel_rfl)) (by decide) (by decide) (fun K hK => ?_) (fun K hK => ?_)
        ·skip
         refine Kd.R_lit_step (Kd.int .i64) _ 2 ?hg (N := 23) ?hd (xs := ([] : List Int)) (inner := []) (ok := fun _ => True) (okp := fun _ => True) ?hr ?hp (fun _ hk => hk) trivial (Below.refl _ _) (Nat.le_refl _) (by simp) ?_; (case hd => rfl); (case hg => rfl); (case hr => first | (go_simp; done) | (go_simp; rfl)); (case hp => exact (Reps.none _ _))
         intro v155 w14 ho15 hb hg_ hnew_
         clear hg_ hnew_
         (first | rw [← Ny154.out] at ho15 | (simp only [Int.reduceToNat] at ho15; rw [← Ny154.out] at ho15))
         have HO156 := rL_ (rN_ ho15 HO153) HB
         replace HO153 := rE_ HO153 ho15 hb; replace BK146 := bB_ BK146 hb; replace BK147 := bB_ BK147 hb; replace HB := bS_ HB hb; clear hb ho15
         refine hK.out _ _ ⟨(blk_cell BK146.out 0).trans rfl, (blk_cell BK146.out 1).trans rfl⟩ (fun hHeld => ?_)
         clear hK K
         refine nS_ (some 23) ?_
         exact norm_ (by simp only [putAll, Act.put, List.setIfInBounds_toArray, List.set_cons_zero, List.set_cons_succ] <;> rfl) (hJ0_3_4 (v149, v152, v155) _ ⟨hHeld, (rM_ HO153), (rM_ HO156), (bT_ BK146), (bT_ BK147), (by repeat (first | (with_reducible first | exact HB.out | apply below_alloc | apply pw_below_drewN | apply below_drew1 | refine below_set ?_ GE146.out | refine below_set ?_ GE147.out) | exact HB.out))⟩)
        ·skip
         refine box_step ?hg (N := 6) ?hd (cs := #[.slice none 0 0, .slice none 0 0]) (t := 26) ?hr ?_; (case hd => rfl); (case hg => rfl); (case hr => first | (go_simp; done) | (go_simp; rfl))
         intro gb160 hg w14 hbox hb
         replace HO153 := rB_ HO153 hb
         have BK160 := Aside0.mk (hbox)
         have GW160 := gE_ HB hg; have GE160 := gE_ HB hg; replace HB := bS_ HB hb; have NB146_160 := nL_ BK146 hg; have NB160_146 := nG_ BK146 hg; replace BK146 := bB_ BK146 hb; have NB147_160 := nL_ BK147 hg; have NB160_147 := nG_ BK147 hg; replace BK147 := bB_ BK147 hb; clear hb hbox hg
         refine hK.out _ _ ⟨(blk_cell BK146.out 0).trans rfl, (blk_cell BK146.out 1).trans rfl⟩ (fun hHeld => ?_)
         clear hK K
         refine nS_ (some 6) ?_
         exact norm_ (by simp only [putAll, Act.put, List.setIfInBounds_toArray, List.set_cons_zero, List.set_cons_succ] <;> rfl) (hJ0_3_9 (v149, v152, gb160) _ ⟨hHeld, (rT_ HO153), (bT_ BK146), (bT_ BK147), (bT_ BK160), GW160.out, GE160.out, NB146_160.out, NB160_146.out, NB147_160.out, NB160_147.out, (by repeat (first | (with_reducible first | exact HB.out | apply below_alloc | apply pw_below_drewN | apply below_drew1 | refine below_set ?_ GE146.out | refine below_set ?_ GE147.out | refine below_set ?_ GE160.out) | exact HB.out))⟩)
      ·skip
       rintro ⟨v149, v155, gb160⟩ w15 ⟨hS_, h0_, h1_, h2_, h3_, h4_, h5_, h6_, h7_, h8_, h9_, h10_, h11_⟩
       try dsimp only at h0_ h1_ h2_ h3_ h4_ h5_ h6_ h7_ h8_ h9_ h10_ h11_
       have HO150 := Aside0.mk h0_; have HO156 := Aside0.mk h1_; replace BK146 := Aside0.mk h2_; replace BK147 := Aside0.mk h3_; have BK160 := Aside0.mk h4_; have GW160 := Aside0.mk h5_; have GE160 := Aside0.mk h6_; have NB146_160 := Aside0.mk h7_; have NB160_146 := Aside0.mk h8_; have NB147_160 := Aside0.mk h9_; have NB160_147 := Aside0.mk h10_; replace HB := Aside0.mk h11_; clear h0_ h1_ h2_ h3_ h4_ h5_ h6_ h7_ h8_ h9_ h10_ h11_
       have hHeld : w15.cell? ⟨gb146, 0, none⟩ = some (.slice A0_0 l0_0.length c0_0) ∧ w15.cell? ⟨gb146, 1, none⟩ = some (.slice A0_1 l0_1.length c0_1) := hS_
       refine norm_ (a' := ?_) ?_ ?_
       rotate_left
       ·simp only [putAll, Act.put, List.setIfInBounds_toArray, List.set_cons_zero, List.set_cons_succ]
        rfl
       refine one_ (i := 3) (N := some 22) #[true, true, true, true, true, true, true, false, false, true, false] rfl rfl (one_of HT_.out (by kernel_rfl)) (by decide) (fun K hK => ?_)
       refine Kd.R_append_rows_step (Kd.int .i64) (w0 := w) w.heap.size (by rfl) (.tmp 19) (.tmp 21) 22 2 (.int .i64 0) 8 rfl Try.underlying22 info2 rfl (by decide) (by omega) v149 y148 l0_0 _ _ _ (fun k_ => some k_ ≠ (v155 : Value).ownBlock) (fun _ => False) rfl rfl ?aO ?aR (fun _ _ h => h) (fun _ h => h.elim) ?aF ?aB ?aS ?aL ?_
       (case aR => repeat (first | exact (Kd.C_below HR0_0.out HB.out) | (with_reducible refine Kd.C_alloc ?_ _) | (with_reducible refine Kd.C_drewN ?_ _) | (with_reducible refine Kd.C_drew ?_)))
       (case aB => exact (by repeat (first | (with_reducible first | exact HB.out | apply below_alloc | apply pw_below_drewN | apply below_drew1 | refine below_set ?_ GE146.out | refine below_set ?_ GE147.out | refine below_set ?_ GE160.out) | exact HB.out)))
       (case aF => exact (fun k_ hk => Kd.fresh' (rLt_ HO156) k_ hk))
       (case aO => exact (rT_ HO150))
       (case aS => exact (below_size (by repeat (first | (with_reducible first | exact HB.out | apply below_alloc | apply pw_below_drewN | apply below_drew1 | refine below_set ?_ GE146.out | refine below_set ?_ GE147.out | refine below_set ?_ GE160.out) | exact HB.out))))
       (case aL => have := LMc3.out; omega)
       intro v152 w16 ho hb hg hat
       rw [← Ny151.out] at ho
       replace BK146 := Aside0.mk (blk_grown (g := gb146) (o := .cells #[.slice A0_0 l0_0.length c0_0, .slice A0_1 l0_1.length c0_1] 26 (0, 0)) (bT_ BK146) hg (Kd.R_ne HO150.out BK146.out (by decide)))
       replace BK147 := Aside0.mk (blk_grown (g := gb147) (o := .cells #[.slice none 0 0, .slice none 0 0] 26 (0, 0)) (bT_ BK147) hg (Kd.R_ne HO150.out BK147.out (by decide)))
       replace HO156 := Aside0.mk (Kd.R_after (ok := (fun _ => True)) (rM_ HO156 (fun _ hk => ⟨trivial, hk⟩)) hg hat)
       replace BK160 := Aside0.mk (blk_grown (g := gb160) (o := .cells #[.slice none 0 0, .slice none 0 0] 26 (0, 0)) (bT_ BK160) hg (Kd.R_ne HO150.out BK160.out (by decide)))
       replace HB := Aside0.mk (hb)
       have HO153 := Aside0.mk (ho)
       clear HO150 ho hb hg hat
       refine hK.out _ _ ⟨(blk_cell BK146.out 0).trans rfl, (blk_cell BK146.out 1).trans rfl⟩ (fun hHeld => ?_)
       clear hK K
       refine nS_ (some 22) ?_
       exact norm_ (by simp only [putAll, Act.put, List.setIfInBounds_toArray, List.set_cons_zero, List.set_cons_succ] <;> rfl) (hJ0_3_4_9 (v149, v152, v155, gb160) _ ⟨hHeld, (rT_ HO153), (rM_ HO156), (bT_ BK146), (bT_ BK147), (bT_ BK160), GW160.out, GE160.out, NB146_160.out, NB160_146.out, NB147_160.out, NB160_147.out, (by repeat (first | (with_reducible first | exact HB.out | apply below_alloc | apply pw_below_drewN | apply below_drew1 | refine below_set ?_ GE146.out | refine below_set ?_ GE147.out | refine below_set ?_ GE160.out) | exact HB.out))⟩)
     ·skip
      rintro ⟨v149, v152, gb160⟩ w14 ⟨hS_, h0_, h1_, h2_, h3_, h4_, h5_, h6_, h7_, h8_, h9_, h10_⟩
      try dsimp only at h0_ h1_ h2_ h3_ h4_ h5_ h6_ h7_ h8_ h9_ h10_
      have HO153 := Aside0.mk h0_; replace BK146 := Aside0.mk h1_; replace BK147 := Aside0.mk h2_; have BK160 := Aside0.mk h3_; have GW160 := Aside0.mk h4_; have GE160 := Aside0.mk h5_; have NB146_160 := Aside0.mk h6_; have NB160_146 := Aside0.mk h7_; have NB147_160 := Aside0.mk h8_; have NB160_147 := Aside0.mk h9_; replace HB := Aside0.mk h10_; clear h0_ h1_ h2_ h3_ h4_ h5_ h6_ h7_ h8_ h9_ h10_
      have hHeld : w14.cell? ⟨gb146, 0, none⟩ = some (.slice A0_0 l0_0.length c0_0) ∧ w14.cell? ⟨gb146, 1, none⟩ = some (.slice A0_1 l0_1.length c0_1) := hS_
      refine norm_ (a' := ?_) ?_ ?_
      rotate_left
      ·simp only [putAll, Act.put, List.setIfInBounds_toArray, List.set_cons_zero, List.set_cons_succ]
       rfl
      refine one_ (i := 4) (N := some 23) #[true, true, true, true, true, true, true, false, false, true, false] rfl rfl (one_of HT_.out (by kernel_rfl)) (by decide) (fun K hK => ?_)
      refine Kd.R_lit_step (Kd.int .i64) _ 2 ?hg (N := 23) ?hd (xs := ([] : List Int)) (inner := []) (ok := fun _ => True) (okp := fun _ => True) ?hr ?hp (fun _ hk => hk) trivial (Below.refl _ _) (Nat.le_refl _) (by simp) ?_; (case hd => rfl); (case hg => rfl); (case hr => first | (go_simp; done) | (go_simp; rfl)); (case hp => exact (Reps.none _ _))
      intro v155 w15 ho16 hb hg_ hnew_
      clear hg_ hnew_
      (first | rw [← Ny154.out] at ho16 | (simp only [Int.reduceToNat] at ho16; rw [← Ny154.out] at ho16))
      have HO156 := rL_ (rN_ ho16 HO153) HB
      replace HO153 := rE_ HO153 ho16 hb; replace BK146 := bB_ BK146 hb; replace BK147 := bB_ BK147 hb; replace BK160 := bB_ BK160 hb; replace HB := bS_ HB hb; clear hb ho16
      refine hK.out _ _ ⟨(blk_cell BK146.out 0).trans rfl, (blk_cell BK146.out 1).trans rfl⟩ (fun hHeld => ?_)
      clear hK K
      refine nS_ (some 23) ?_
      exact norm_ (by simp only [putAll, Act.put, List.setIfInBounds_toArray, List.set_cons_zero, List.set_cons_succ] <;> rfl) (hJ0_3_4_9 (v149, v152, v155, gb160) _ ⟨hHeld, (rM_ HO153), (rM_ HO156), (bT_ BK146), (bT_ BK147), (bT_ BK160), GW160.out, GE160.out, NB146_160.out, NB160_146.out, NB147_160.out, NB160_147.out, (by repeat (first | (with_reducible first | exact HB.out | apply below_alloc | apply pw_below_drewN | apply below_drew1 | refine below_set ?_ GE146.out | refine below_set ?_ GE147.out | refine below_set ?_ GE160.out) | exact HB.out))⟩)
    ·skip
     rintro ⟨v149, v152, v155⟩ w15 ⟨hS_, h0_, h1_, h2_, h3_, h4_⟩
     try dsimp only at h0_ h1_ h2_ h3_ h4_
     have HO153 := Aside0.mk h0_; have HO156 := Aside0.mk h1_; replace BK146 := Aside0.mk h2_; replace BK147 := Aside0.mk h3_; replace HB := Aside0.mk h4_; clear h0_ h1_ h2_ h3_ h4_
     have hHeld : w15.cell? ⟨gb146, 0, none⟩ = some (.slice A0_0 l0_0.length c0_0) ∧ w15.cell? ⟨gb146, 1, none⟩ = some (.slice A0_1 l0_1.length c0_1) := hS_
     refine norm_ (a' := ?_) ?_ ?_
     rotate_left
     ·simp only [putAll, Act.put, List.setIfInBounds_toArray, List.set_cons_zero, List.set_cons_succ]
      rfl
     refine two_ (i := 7) (j := 9) (Ni := some 26) (Nj := some 6) #[true, true, true, true, true, true, true, true, false, false, false] #[true, true, true, true, true, true, true, false, false, true, false] rfl rfl rfl rfl (two_of HT_.out (by kernel_rfl)) (by decide) (by decide) (fun K hK => ?_) (fun K hK => ?_)
     ·skip
      refine Kd.R_append_rows_step (Kd.int .i64) (w0 := w) w.heap.size (by rfl) (.tmp 23) (.tmp 25) 22 2 (.int .i64 0) 8 rfl Try.underlying22 info2 rfl (by decide) (by omega) v155 y154 l0_1 _ _ _ (fun k_ => some k_ ≠ (v152 : Value).ownBlock) (fun _ => False) rfl rfl ?aO ?aR (fun _ _ h => h) (fun _ h => h.elim) ?aF ?aB ?aS ?aL ?_
      (case aR => repeat (first | exact (Kd.C_below HR0_1.out HB.out) | (with_reducible refine Kd.C_alloc ?_ _) | (with_reducible refine Kd.C_drewN ?_ _) | (with_reducible refine Kd.C_drew ?_)))
      (case aB => exact (by repeat (first | (with_reducible first | exact HB.out | apply below_alloc | apply pw_below_drewN | apply below_drew1 | refine below_set ?_ GE146.out | refine below_set ?_ GE147.out) | exact HB.out)))
      (case aF => exact (fun k_ hk => Kd.fresh' (rLt_ HO153) k_ hk))
      (case aO => exact (rT_ HO156))
      (case aS => exact (below_size (by repeat (first | (with_reducible first | exact HB.out | apply below_alloc | apply pw_below_drewN | apply below_drew1 | refine below_set ?_ GE146.out | refine below_set ?_ GE147.out) | exact HB.out))))
      (case aL => have := LMc4.out; omega)
      intro v158 w16 ho hb hg hat
      rw [← Ny157.out] at ho
      replace BK146 := Aside0.mk (blk_grown (g := gb146) (o := .cells #[.slice A0_0 l0_0.length c0_0, .slice A0_1 l0_1.length c0_1] 26 (0, 0)) (bT_ BK146) hg (Kd.R_ne HO156.out BK146.out (by decide)))
      replace BK147 := Aside0.mk (blk_grown (g := gb147) (o := .cells #[.slice none 0 0, .slice none 0 0] 26 (0, 0)) (bT_ BK147) hg (Kd.R_ne HO156.out BK147.out (by decide)))
      replace HO153 := Aside0.mk (Kd.R_after (ok := (fun _ => True)) (rM_ HO153 (fun _ hk => ⟨trivial, hk⟩)) hg hat)
      replace HB := Aside0.mk (hb)
      have HO159 := Aside0.mk (ho)
      clear HO156 ho hb hg hat
      obtain ⟨Ao17, co17, eo17⟩ := Kd.R_slice HO159.out
      (first | subst eo17 | (injection eo17 with f1_ f2_ f3_; have f4_ := f1_.symm; have f5_ := f3_.symm; clear f1_ f2_ f3_; subst f4_; subst f5_))
      obtain ⟨Ao18, co18, eo18⟩ := Kd.R_slice HO153.out
      (first | subst eo18 | (injection eo18 with f1_ f2_ f3_; have f4_ := f1_.symm; have f5_ := f3_.symm; clear f1_ f2_ f3_; subst f4_; subst f5_))
      refine hK.out _ _ ⟨(blk_cell BK146.out 0).trans rfl, (blk_cell BK146.out 1).trans rfl⟩ (fun hHeld => ?_)
      clear hK K
      refine nS_ (some 26) ?_
      refine pT_ 8 (some 27) #[true, true, true, true, true, true, true, true, true, false, false] HT_ ?_
      exact norm_ (by simp only [putAll, Act.put, List.setIfInBounds_toArray, List.set_cons_zero, List.set_cons_succ] <;> rfl) (hJ0_3_4_7 (v149, .slice Ao18 y151.length co18, v155, .slice Ao17 y157.length co17) _ ⟨hHeld, (rM_ HO153), (rT_ HO159), (bT_ BK146), (bT_ BK147), (by repeat (first | (with_reducible first | exact HB.out | apply below_alloc | apply pw_below_drewN | apply below_drew1 | refine below_set ?_ GE146.out | refine below_set ?_ GE147.out) | exact HB.out))⟩)
     ·skip
      refine box_step ?hg (N := 6) ?hd (cs := #[.slice none 0 0, .slice none 0 0]) (t := 26) ?hr ?_; (case hd => rfl); (case hg => rfl); (case hr => first | (go_simp; done) | (go_simp; rfl))
      intro gb160 hg w16 hbox hb
      replace HO153 := rB_ HO153 hb; replace HO156 := rB_ HO156 hb
      have BK160 := Aside0.mk (hbox)
      have GW160 := gE_ HB hg; have GE160 := gE_ HB hg; replace HB := bS_ HB hb; have NB146_160 := nL_ BK146 hg; have NB160_146 := nG_ BK146 hg; replace BK146 := bB_ BK146 hb; have NB147_160 := nL_ BK147 hg; have NB160_147 := nG_ BK147 hg; replace BK147 := bB_ BK147 hb; clear hb hbox hg
      refine hK.out _ _ ⟨(blk_cell BK146.out 0).trans rfl, (blk_cell BK146.out 1).trans rfl⟩ (fun hHeld => ?_)
      clear hK K
      refine nS_ (some 6) ?_
      exact norm_ (by simp only [putAll, Act.put, List.setIfInBounds_toArray, List.set_cons_zero, List.set_cons_succ] <;> rfl) (hJ0_3_4_9 (v149, v152, v155, gb160) _ ⟨hHeld, (rT_ HO153), (rT_ HO156), (bT_ BK146), (bT_ BK147), (bT_ BK160), GW160.out, GE160.out, NB146_160.out, NB160_146.out, NB147_160.out, NB160_147.out, (by repeat (first | (with_reducible first | exact HB.out | apply below_alloc | apply pw_below_drewN | apply below_drew1 | refine below_set ?_ GE146.out | refine below_set ?_ GE147.out | refine below_set ?_ GE160.out) | exact HB.out))⟩)
   ·skip
    rintro ⟨v149, v152, v155, gb160⟩ w16 ⟨hS_, h0_, h1_, h2_, h3_, h4_, h5_, h6_, h7_, h8_, h9_, h10_, h11_⟩
    try dsimp only at h0_ h1_ h2_ h3_ h4_ h5_ h6_ h7_ h8_ h9_ h10_ h11_
    have HO153 := Aside0.mk h0_; have HO156 := Aside0.mk h1_; replace BK146 := Aside0.mk h2_; replace BK147 := Aside0.mk h3_; have BK160 := Aside0.mk h4_; have GW160 := Aside0.mk h5_; have GE160 := Aside0.mk h6_; have NB146_160 := Aside0.mk h7_; have NB160_146 := Aside0.mk h8_; have NB147_160 := Aside0.mk h9_; have NB160_147 := Aside0.mk h10_; replace HB := Aside0.mk h11_; clear h0_ h1_ h2_ h3_ h4_ h5_ h6_ h7_ h8_ h9_ h10_ h11_
    have hHeld : w16.cell? ⟨gb146, 0, none⟩ = some (.slice A0_0 l0_0.length c0_0) ∧ w16.cell? ⟨gb146, 1, none⟩ = some (.slice A0_1 l0_1.length c0_1) := hS_
    refine norm_ (a' := ?_) ?_ ?_
    rotate_left
    ·simp only [putAll, Act.put, List.setIfInBounds_toArray, List.set_cons_zero, List.set_cons_succ]
     rfl
    refine one_ (i := 7) (N := some 26) #[true, true, true, true, true, true, true, true, false, true, false] rfl rfl (one_of HT_.out (by kernel_rfl)) (by decide) (fun K hK => ?_)
    refine Kd.R_append_rows_step (Kd.int .i64) (w0 := w) w.heap.size (by rfl) (.tmp 23) (.tmp 25) 22 2 (.int .i64 0) 8 rfl Try.underlying22 info2 rfl (by decide) (by omega) v155 y154 l0_1 _ _ _ (fun k_ => some k_ ≠ (v152 : Value).ownBlock) (fun _ => False) rfl rfl ?aO ?aR (fun _ _ h => h) (fun _ h => h.elim) ?aF ?aB ?aS ?aL ?_
    (case aR => repeat (first | exact (Kd.C_below HR0_1.out HB.out) | (with_reducible refine Kd.C_alloc ?_ _) | (with_reducible refine Kd.C_drewN ?_ _) | (with_reducible refine Kd.C_drew ?_)))
    (case aB => exact (by repeat (first | (with_reducible first | exact HB.out | apply below_alloc | apply pw_below_drewN | apply below_drew1 | refine below_set ?_ GE146.out | refine below_set ?_ GE147.out | refine below_set ?_ GE160.out) | exact HB.out)))
    (case aF => exact (fun k_ hk => Kd.fresh' (rLt_ HO153) k_ hk))
    (case aO => exact (rT_ HO156))
    (case aS => exact (below_size (by repeat (first | (with_reducible first | exact HB.out | apply below_alloc | apply pw_below_drewN | apply below_drew1 | refine below_set ?_ GE146.out | refine below_set ?_ GE147.out | refine below_set ?_ GE160.out) | exact HB.out))))
    (case aL => have := LMc4.out; omega)
    intro v158 w17 ho hb hg hat
    rw [← Ny157.out] at ho
    replace BK146 := Aside0.mk (blk_grown (g := gb146) (o := .cells #[.slice A0_0 l0_0.length c0_0, .slice A0_1 l0_1.length c0_1] 26 (0, 0)) (bT_ BK146) hg (Kd.R_ne HO156.out BK146.out (by decide)))
    replace BK147 := Aside0.mk (blk_grown (g := gb147) (o := .cells #[.slice none 0 0, .slice none 0 0] 26 (0, 0)) (bT_ BK147) hg (Kd.R_ne HO156.out BK147.out (by decide)))
    replace HO153 := Aside0.mk (Kd.R_after (ok := (fun _ => True)) (rM_ HO153 (fun _ hk => ⟨trivial, hk⟩)) hg hat)
    replace BK160 := Aside0.mk (blk_grown (g := gb160) (o := .cells #[.slice none 0 0, .slice none 0 0] 26 (0, 0)) (bT_ BK160) hg (Kd.R_ne HO156.out BK160.out (by decide)))
    replace HB := Aside0.mk (hb)
    have HO159 := Aside0.mk (ho)
    clear HO156 ho hb hg hat
    obtain ⟨Ao18, co18, eo18⟩ := Kd.R_slice HO159.out
    (first | subst eo18 | (injection eo18 with f1_ f2_ f3_; have f4_ := f1_.symm; have f5_ := f3_.symm; clear f1_ f2_ f3_; subst f4_; subst f5_))
    obtain ⟨Ao19, co19, eo19⟩ := Kd.R_slice HO153.out
    (first | subst eo19 | (injection eo19 with f1_ f2_ f3_; have f4_ := f1_.symm; have f5_ := f3_.symm; clear f1_ f2_ f3_; subst f4_; subst f5_))
    refine hK.out _ _ ⟨(blk_cell BK146.out 0).trans rfl, (blk_cell BK146.out 1).trans rfl⟩ (fun hHeld => ?_)
    clear hK K
    refine nS_ (some 26) ?_
    refine pT_ 8 (some 27) #[true, true, true, true, true, true, true, true, true, true, false] HT_ ?_
    exact norm_ (by simp only [putAll, Act.put, List.setIfInBounds_toArray, List.set_cons_zero, List.set_cons_succ] <;> rfl) (hJ0_3_4_7_9 (v149, .slice Ao19 y151.length co19, v155, .slice Ao18 y157.length co18, gb160) _ ⟨hHeld, (rM_ HO153), (rT_ HO159), (bT_ BK146), (bT_ BK147), (bT_ BK160), GW160.out, GE160.out, NB146_160.out, NB160_146.out, NB147_160.out, NB160_147.out, (by repeat (first | (with_reducible first | exact HB.out | apply below_alloc | apply pw_below_drewN | apply below_drew1 | refine below_set ?_ GE146.out | refine below_set ?_ GE147.out | refine below_set ?_ GE160.out) | exact HB.out))⟩)
  ·skip
   rintro ⟨v149, v152, v155, v158⟩ w18 ⟨hS_, h0_, h1_, h2_, h3_, h4_⟩
   try dsimp only at h0_ h1_ h2_ h3_ h4_
   have HO153 := Aside0.mk h0_; have HO159 := Aside0.mk h1_; replace BK146 := Aside0.mk h2_; replace BK147 := Aside0.mk h3_; replace HB := Aside0.mk h4_; clear h0_ h1_ h2_ h3_ h4_
   have hHeld : w18.cell? ⟨gb146, 0, none⟩ = some (.slice A0_0 l0_0.length c0_0) ∧ w18.cell? ⟨gb146, 1, none⟩ = some (.slice A0_1 l0_1.length c0_1) := hS_
   obtain ⟨Ao19, co19, eo19⟩ := Kd.R_slice HO159.out
   (first | subst eo19 | (injection eo19 with f1_ f2_ f3_; have f4_ := f1_.symm; have f5_ := f3_.symm; clear f1_ f2_ f3_; subst f4_; subst f5_))
   obtain ⟨Ao20, co20, eo20⟩ := Kd.R_slice HO153.out
   (first | subst eo20 | (injection eo20 with f1_ f2_ f3_; have f4_ := f1_.symm; have f5_ := f3_.symm; clear f1_ f2_ f3_; subst f4_; subst f5_))
   refine norm_ (a' := ?_) ?_ ?_
   rotate_left
   ·simp only [putAll, Act.put, List.setIfInBounds_toArray, List.set_cons_zero, List.set_cons_succ]
    rfl
   refine one_ (i := 9) (N := some 6) #[true, true, true, true, true, true, true, true, true, true, false] rfl rfl (one_of HT_.out (by kernel_rfl)) (by decide) (fun K hK => ?_)
   refine box_step ?hg (N := 6) ?hd (cs := #[.slice none 0 0, .slice none 0 0]) (t := 26) ?hr ?_; (case hd => rfl); (case hg => rfl); (case hr => first | (go_simp; done) | (go_simp; rfl))
   intro gb160 hg w21 hbox hb
   replace HO153 := rB_ HO153 hb; replace HO159 := rB_ HO159 hb
   have BK160 := Aside0.mk (hbox)
   have GW160 := gE_ HB hg; have GE160 := gE_ HB hg; replace HB := bS_ HB hb; have NB146_160 := nL_ BK146 hg; have NB160_146 := nG_ BK146 hg; replace BK146 := bB_ BK146 hb; have NB147_160 := nL_ BK147 hg; have NB160_147 := nG_ BK147 hg; replace BK147 := bB_ BK147 hb; clear hb hbox hg
   refine hK.out _ _ ⟨(blk_cell BK146.out 0).trans rfl, (blk_cell BK146.out 1).trans rfl⟩ (fun hHeld => ?_)
   clear hK K
   refine nS_ (some 6) ?_
   exact norm_ (by simp only [putAll, Act.put, List.setIfInBounds_toArray, List.set_cons_zero, List.set_cons_succ] <;> rfl) (hJ0_3_4_7_9 (v149, .slice Ao20 y151.length co20, v155, .slice Ao19 y157.length co19, gb160) _ ⟨hHeld, (rT_ HO153), (rT_ HO159), (bT_ BK146), (bT_ BK147), (bT_ BK160), GW160.out, GE160.out, NB146_160.out, NB160_146.out, NB147_160.out, NB160_147.out, (by repeat (first | (with_reducible first | exact HB.out | apply below_alloc | apply pw_below_drewN | apply below_drew1 | refine below_set ?_ GE146.out | refine below_set ?_ GE147.out | refine below_set ?_ GE160.out) | exact HB.out))⟩)
 rintro ⟨v149, v152, v155, v158, gb160⟩ w19 ⟨hS_, h0_, h1_, h2_, h3_, h4_, h5_, h6_, h7_, h8_, h9_, h10_, h11_⟩
 try dsimp only at h0_ h1_ h2_ h3_ h4_ h5_ h6_ h7_ h8_ h9_ h10_ h11_
 have HO153 := Aside0.mk h0_; have HO159 := Aside0.mk h1_; replace BK146 := Aside0.mk h2_; replace BK147 := Aside0.mk h3_; have BK160 := Aside0.mk h4_; have GW160 := Aside0.mk h5_; have GE160 := Aside0.mk h6_; have NB146_160 := Aside0.mk h7_; have NB160_146 := Aside0.mk h8_; have NB147_160 := Aside0.mk h9_; have NB160_147 := Aside0.mk h10_; replace HB := Aside0.mk h11_; clear h0_ h1_ h2_ h3_ h4_ h5_ h6_ h7_ h8_ h9_ h10_ h11_
 have hHeld : w19.cell? ⟨gb146, 0, none⟩ = some (.slice A0_0 l0_0.length c0_0) ∧ w19.cell? ⟨gb146, 1, none⟩ = some (.slice A0_1 l0_1.length c0_1) := hS_
 obtain ⟨Ao20, co20, eo20⟩ := Kd.R_slice HO159.out
 (first | subst eo20 | (injection eo20 with f1_ f2_ f3_; have f4_ := f1_.symm; have f5_ := f3_.symm; clear f1_ f2_ f3_; subst f4_; subst f5_))
 obtain ⟨Ao21, co21, eo21⟩ := Kd.R_slice HO153.out
 (first | subst eo21 | (injection eo21 with f1_ f2_ f3_; have f4_ := f1_.symm; have f5_ := f3_.symm; clear f1_ f2_ f3_; subst f4_; subst f5_))
 refine norm_ (a' := ?_) ?_ ?_
 rotate_left
 ·simp only [putAll, Act.put, List.setIfInBounds_toArray, List.set_cons_zero, List.set_cons_succ]
  rfl
 refine one_ (i := 10) (N := none) #[true, true, true, true, true, true, true, true, true, true, true] rfl rfl (one_of HT_.out (by kernel_rfl)) (by decide) (fun K hK => ?_)
 have hs22 : w19.cell? ⟨gb160, 0, none⟩ = some (.slice none 0 0) := (blk_cell BK160.out 0).trans rfl
 have hfs22 := blk_frozen BK160.out 0; have hns22_0 := NB146_160.out; have hns22_1 := NB147_160.out; have hms22_0 := NB160_146.out; have hms22_1 := NB160_147.out
 have hs23 : w19.cell? ⟨gb160, 1, none⟩ = some (.slice none 0 0) := (blk_cell BK160.out 1).trans rfl
 have hfs23 := blk_frozen BK160.out 1; have hns23_0 := NB146_160.out; have hns23_1 := NB147_160.out; have hms23_0 := NB160_146.out; have hms23_1 := NB160_147.out
 refine skip_ (w1 := ?_) (by rfl) rfl ?_ ?_
 rotate_left
 ·go_simp
  rfl
 refine hK.out _ _ ⟨((cell_far (p := ⟨gb160, _, none⟩) NB146_160.out _).trans (((cell_far (p := ⟨gb160, _, none⟩) NB146_160.out _).trans (hHeld.1)))), ((cell_far (p := ⟨gb160, _, none⟩) NB146_160.out _).trans (((cell_far (p := ⟨gb160, _, none⟩) NB146_160.out _).trans (hHeld.2))))⟩ (fun hHeld => ?_)
 clear hK K
 refine done_ (done_of HT_.out (by kernel_rfl)) ?_
 try go_wp2
 go_loopg [7] k (fun kq v7 w' => ∃ (x7_1 : Int) (x161000_1 : List Int) (x161001_1 : List Int) (u161000 : Value) (u161001 : Value), v7 = .int .i64 x7_1 ∧ Aside0 (spec_l17Step.l0 kq l1 (l0_0.length : Int) x7_1 l0_0 l0_1 x161000_1 x161001_1 = some (r1, r2)) ∧ Aside0 (kq ≤ k) ∧ Aside0 (Kd.R (Kd.int .i64) 2 w' w.heap.size (fun k_ => some k_ ≠ (u161001 : Value).ownBlock) u161000 x161000_1) ∧ Aside0 (Kd.R (Kd.int .i64) 2 w' w.heap.size (fun k_ => some k_ ≠ (u161000 : Value).ownBlock) u161001 x161001_1) ∧ Aside0 (w'.heap[gb146]? = some (.cells #[(.slice A0_0 l0_0.length c0_0), (.slice A0_1 l0_1.length c0_1)] 26 (0, 0))) ∧ Aside0 (w'.heap[gb147]? = some (.cells #[(.slice none 0 0), (.slice none 0 0)] 26 (0, 0))) ∧ Aside0 (w'.heap[gb160]? = some (.cells #[u161000, u161001] 26 (0, 0))) ∧ Aside0 (Below w.heap.size w w'))
 case atStart => exact ⟨(0), (y151), (y157), (.slice Ao21 y151.length co21), (.slice Ao20 y157.length co20), (by first | rfl | (simp; done) | (simp [*]; done)), H', ⟨Nat.le_refl _⟩, ⟨by (with_reducible repeat (first | apply Kd.R_alloc | apply Kd.R_drewN | apply Kd.R_drew)); exact Kd.R_mono (Kd.R_far (p := ⟨gb160, 1, none⟩) (Kd.R_far (p := ⟨gb160, 0, none⟩) (Kd.R_types HO153.out BK160.out (by decide)) (fun _ hk => hk.2) (.slice Ao21 y151.length co21)) (fun _ hk => hk.2) (.slice Ao20 y157.length co20)) (fun _ hk => hk.1)⟩, ⟨by (with_reducible repeat (first | apply Kd.R_alloc | apply Kd.R_drewN | apply Kd.R_drew)); exact Kd.R_mono (Kd.R_far (p := ⟨gb160, 1, none⟩) (Kd.R_far (p := ⟨gb160, 0, none⟩) (Kd.R_types HO159.out BK160.out (by decide)) (fun _ hk => hk.2) (.slice Ao21 y151.length co21)) (fun _ hk => hk.2) (.slice Ao20 y157.length co20)) (fun _ hk => hk.1)⟩, ⟨by (with_reducible repeat (first | refine blk_drewN ?_ _ | refine blk_drew ?_ | refine blk_alloc ?_ _)); refine blk_far ?_ NB146_160.out _; (with_reducible repeat (first | refine blk_drewN ?_ _ | refine blk_drew ?_ | refine blk_alloc ?_ _)); refine blk_far ?_ NB146_160.out _; exact bT_ BK146⟩, ⟨by (with_reducible repeat (first | refine blk_drewN ?_ _ | refine blk_drew ?_ | refine blk_alloc ?_ _)); refine blk_far ?_ NB147_160.out _; (with_reducible repeat (first | refine blk_drewN ?_ _ | refine blk_drew ?_ | refine blk_alloc ?_ _)); refine blk_far ?_ NB147_160.out _; exact bT_ BK147⟩, ⟨by (with_reducible repeat (first | refine blk_drewN ?_ _ | refine blk_drew ?_ | refine blk_alloc ?_ _)); refine blk_put (cs := #[.slice Ao21 y151.length co21, .slice none 0 0]) ?_ 1 _ rfl; (with_reducible repeat (first | refine blk_drewN ?_ _ | refine blk_drew ?_ | refine blk_alloc ?_ _)); refine blk_put (cs := #[.slice none 0 0, .slice none 0 0]) ?_ 0 _ rfl; exact bT_ BK160⟩, ⟨by repeat (first | (with_reducible first | exact HB.out | apply below_alloc | apply pw_below_drewN | apply below_drew1 | refine below_set ?_ GE146.out | refine below_set ?_ GE147.out | refine below_set ?_ GE160.out) | exact HB.out)⟩⟩
 case round =>
  clear H'; (try clear p2); (try clear c3); (try clear c4)
  obtain ⟨x7_1, x161000_1, x161001_1, u161000, u161001, rfl, HA, HK1, HO_161000, HO_161001, BK146, BK147, BK160, HB⟩ := hrel
  cases gk with
  | zero => exact absurd HA.out (by simp [spec_l17Step.l0])
  | succ k1 =>
   have H := HA.out; clear HA
   simp only [spec_l17Step.l0] at H
   by_cases c24 : x7_1 < (l0_0.length : Int)
   ·rw [if_pos c24] at H
    have c24b0 : decide (x7_1 < (l0_0.length : Int)) = true := decide_eq_true c24
    clear c24
    obtain ⟨c25, H⟩ := ifS_ H
    have c25b0 : decide (0 ≤ x7_1) = true := decide_eq_true c25
    clear c25
    obtain ⟨c26, H⟩ := ifS_ H
    have c26b0 : decide (x7_1 < (l0_0.length : Int)) = true := decide_eq_true c26
    clear c26
    obtain ⟨c27, H⟩ := ifS_ H
    have c27b0 : decide (x7_1 < (l0_1.length : Int)) = true := decide_eq_true c27
    clear c27
    by_cases c28 : (l0_0.length : Int) = 0
    ·rw [if_pos c28] at H
     exact absurd H (by simp)
    ·rw [if_neg c28] at H
     have c28b0 : ((l0_0.length : Int) == 0) = false := beq_eq_false_iff_ne.mpr c28
     have c28b1 : ((l0_0.length : Int) != 0) = true := bne_iff_ne.mpr c28
     have c28b2 : ¬ (l0_0 = []) := fun h_ => c28 (by rw [h_]; rfl)
     obtain ⟨c29, H⟩ := ifS_ H
     have c29b0 : decide (x7_1 < (l1.length : Int)) = true := decide_eq_true c29
     clear c29
     by_cases c30 : (rd l1 x7_1) < 0
     ·rw [if_pos c30] at H
      have c30b0 : decide ((rd l1 x7_1) < 0) = true := decide_eq_true c30
      clear c30; replace H := Option.bind_eq_some_iff.mp H
      obtain ⟨t166, A310, H⟩ := H
      replace H : (if x7_1 < (x161000_1.length : Int) then ((some (x161000_1.set (x7_1 : Int).toNat (wrap64 ((rd x161000_1 x7_1) - (wrap64 (Int.tdiv (wrap64 ((rd l0_0 x7_1) * (wrap64 (-(rd l1 x7_1))))) 256)))) : List Int)).bind fun y168 => (if 0 ≤ (Int.tmod (wrap64 ((wrap64 (x7_1 + (l0_0.length : Int))) - 1)) (l0_0.length : Int)) then (if (Int.tmod (wrap64 ((wrap64 (x7_1 + (l0_0.length : Int))) - 1)) (l0_0.length : Int)) < (x161000_1.length : Int) then ((some (y168.set ((Int.tmod (wrap64 ((wrap64 (x7_1 + (l0_0.length : Int))) - 1)) (l0_0.length : Int)) : Int).toNat (wrap64 ((rd y168 (Int.tmod (wrap64 ((wrap64 (x7_1 + (l0_0.length : Int))) - 1)) (l0_0.length : Int))) + (wrap64 (Int.tdiv (wrap64 ((rd l0_0 x7_1) * (wrap64 (-(rd l1 x7_1))))) 256)))) : List Int)).bind fun y170 => (if x7_1 < (x161001_1.length : Int) then ((some (x161001_1.set (x7_1 : Int).toNat (wrap64 ((rd x161001_1 x7_1) - t166)) : List Int)).bind fun y172 => (if (Int.tmod (wrap64 ((wrap64 (x7_1 + (l0_0.length : Int))) - 1)) (l0_0.length : Int)) < (x161001_1.length : Int) then ((some (y172.set ((Int.tmod (wrap64 ((wrap64 (x7_1 + (l0_0.length : Int))) - 1)) (l0_0.length : Int)) : Int).toNat (wrap64 ((rd y172 (Int.tmod (wrap64 ((wrap64 (x7_1 + (l0_0.length : Int))) - 1)) (l0_0.length : Int))) + t166)) : List Int)).bind fun y174 => (if 0 ≤ (Int.tmod (wrap64 (x7_1 + 1)) (l0_0.length : Int)) then (if (Int.tmod (wrap64 (x7_1 + 1)) (l0_0.length : Int)) < (l1.length : Int) then (if (rd l1 (Int.tmod (wrap64 (x7_1 + 1)) (l0_0.length : Int))) > 0 then ((spec_l17Part.f (wrap64 ((rd l0_1 x7_1) - t166)) (wrap64 (Int.tdiv (wrap64 ((rd l0_0 x7_1) * (rd l1 (Int.tmod (wrap64 (x7_1 + 1)) (l0_0.length : Int))))) 256)) (wrap64 ((rd l0_0 x7_1) - (wrap64 (Int.tdiv (wrap64 ((rd l0_0 x7_1) * (wrap64 (-(rd l1 x7_1))))) 256))))).bind fun t178 => ((some (y170.set (x7_1 : Int).toNat (wrap64 ((rd y170 x7_1) - (wrap64 (Int.tdiv (wrap64 ((rd l0_0 x7_1) * (rd l1 (Int.tmod (wrap64 (x7_1 + 1)) (l0_0.length : Int))))) 256)))) : List Int)).bind fun y180 => (if (Int.tmod (wrap64 (x7_1 + 1)) (l0_0.length : Int)) < (x161000_1.length : Int) then ((some (y174.set (x7_1 : Int).toNat (wrap64 ((rd y174 x7_1) - t178)) : List Int)).bind fun y184 => (if (Int.tmod (wrap64 (x7_1 + 1)) (l0_0.length : Int)) < (x161001_1.length : Int) then (spec_l17Step.l0 k1 l1 (l0_0.length : Int) (wrap64 (x7_1 + 1)) l0_0 l0_1 (y180.set ((Int.tmod (wrap64 (x7_1 + 1)) (l0_0.length : Int)) : Int).toNat (wrap64 ((rd y180 (Int.tmod (wrap64 (x7_1 + 1)) (l0_0.length : Int))) + (wrap64 (Int.tdiv (wrap64 ((rd l0_0 x7_1) * (rd l1 (Int.tmod (wrap64 (x7_1 + 1)) (l0_0.length : Int))))) 256))))) (y184.set ((Int.tmod (wrap64 (x7_1 + 1)) (l0_0.length : Int)) : Int).toNat (wrap64 ((rd y184 (Int.tmod (wrap64 (x7_1 + 1)) (l0_0.length : Int))) + t178)))) else (none))) else (none)))) else (spec_l17Step.l0 k1 l1 (l0_0.length : Int) (wrap64 (x7_1 + 1)) l0_0 l0_1 y170 y174)) else (none)) else (none))) else (none))) else (none))) else (none)) else (none))) else (none)) = some (r1, r2) := H
      have A31 := Aside0.mk A310; clear A310
      obtain ⟨c32, H⟩ := ifS_ H
      have c32b0 : decide (x7_1 < (x161000_1.length : Int)) = true := decide_eq_true c32
      clear c32
      obtain ⟨y168, hy168⟩ : ∃ y_ : List Int, y_ = (x161000_1.set (x7_1 : Int).toNat (wrap64 ((rd x161000_1 x7_1) - (wrap64 (Int.tdiv (wrap64 ((rd l0_0 x7_1) * (wrap64 (-(rd l1 x7_1))))) 256))))) := ⟨_, rfl⟩
      replace H : (if 0 ≤ (Int.tmod (wrap64 ((wrap64 (x7_1 + (l0_0.length : Int))) - 1)) (l0_0.length : Int)) then (if (Int.tmod (wrap64 ((wrap64 (x7_1 + (l0_0.length : Int))) - 1)) (l0_0.length : Int)) < (x161000_1.length : Int) then ((some (y168.set ((Int.tmod (wrap64 ((wrap64 (x7_1 + (l0_0.length : Int))) - 1)) (l0_0.length : Int)) : Int).toNat (wrap64 ((rd y168 (Int.tmod (wrap64 ((wrap64 (x7_1 + (l0_0.length : Int))) - 1)) (l0_0.length : Int))) + (wrap64 (Int.tdiv (wrap64 ((rd l0_0 x7_1) * (wrap64 (-(rd l1 x7_1))))) 256)))) : List Int)).bind fun y170 => (if x7_1 < (x161001_1.length : Int) then ((some (x161001_1.set (x7_1 : Int).toNat (wrap64 ((rd x161001_1 x7_1) - t166)) : List Int)).bind fun y172 => (if (Int.tmod (wrap64 ((wrap64 (x7_1 + (l0_0.length : Int))) - 1)) (l0_0.length : Int)) < (x161001_1.length : Int) then ((some (y172.set ((Int.tmod (wrap64 ((wrap64 (x7_1 + (l0_0.length : Int))) - 1)) (l0_0.length : Int)) : Int).toNat (wrap64 ((rd y172 (Int.tmod (wrap64 ((wrap64 (x7_1 + (l0_0.length : Int))) - 1)) (l0_0.length : Int))) + t166)) : List Int)).bind fun y174 => (if 0 ≤ (Int.tmod (wrap64 (x7_1 + 1)) (l0_0.length : Int)) then (if (Int.tmod (wrap64 (x7_1 + 1)) (l0_0.length : Int)) < (l1.length : Int) then (if (rd l1 (Int.tmod (wrap64 (x7_1 + 1)) (l0_0.length : Int))) > 0 then ((spec_l17Part.f (wrap64 ((rd l0_1 x7_1) - t166)) (wrap64 (Int.tdiv (wrap64 ((rd l0_0 x7_1) * (rd l1 (Int.tmod (wrap64 (x7_1 + 1)) (l0_0.length : Int))))) 256)) (wrap64 ((rd l0_0 x7_1) - (wrap64 (Int.tdiv (wrap64 ((rd l0_0 x7_1) * (wrap64 (-(rd l1 x7_1))))) 256))))).bind fun t178 => ((some (y170.set (x7_1 : Int).toNat (wrap64 ((rd y170 x7_1) - (wrap64 (Int.tdiv (wrap64 ((rd l0_0 x7_1) * (rd l1 (Int.tmod (wrap64 (x7_1 + 1)) (l0_0.length : Int))))) 256)))) : List Int)).bind fun y180 => (if (Int.tmod (wrap64 (x7_1 + 1)) (l0_0.length : Int)) < (x161000_1.length : Int) then ((some (y174.set (x7_1 : Int).toNat (wrap64 ((rd y174 x7_1) - t178)) : List Int)).bind fun y184 => (if (Int.tmod (wrap64 (x7_1 + 1)) (l0_0.length : Int)) < (x161001_1.length : Int) then (spec_l17Step.l0 k1 l1 (l0_0.length : Int) (wrap64 (x7_1 + 1)) l0_0 l0_1 (y180.set ((Int.tmod (wrap64 (x7_1 + 1)) (l0_0.length : Int)) : Int).toNat (wrap64 ((rd y180 (Int.tmod (wrap64 (x7_1 + 1)) (l0_0.length : Int))) + (wrap64 (Int.tdiv (wrap64 ((rd l0_0 x7_1) * (rd l1 (Int.tmod (wrap64 (x7_1 + 1)) (l0_0.length : Int))))) 256))))) (y184.set ((Int.tmod (wrap64 (x7_1 + 1)) (l0_0.length : Int)) : Int).toNat (wrap64 ((rd y184 (Int.tmod (wrap64 (x7_1 + 1)) (l0_0.length : Int))) + t178)))) else (none))) else (none)))) else (spec_l17Step.l0 k1 l1 (l0_0.length : Int) (wrap64 (x7_1 + 1)) l0_0 l0_1 y170 y174)) else (none)) else (none))) else (none))) else (none))) else (none)) else (none)) = some (r1, r2) := by first | (rw [hy168]; with_reducible exact H) | (have H2_ := (Option.bind_some _ _).symm.trans H; rw [hy168]; with_reducible exact H2_) | (have H2_ := (Option.bind_some _ _).symm.trans H; with_reducible exact H2_) | with_reducible exact H | (rw [hy168]; exact H) | exact H
      have Ny168 := Aside0.mk hy168; clear hy168
      obtain ⟨ji34, hji34⟩ : ∃ j_ : Int, (Int.tmod (wrap64 ((wrap64 (x7_1 + (l0_0.length : Int))) - 1)) (l0_0.length : Int)) = j_ := ⟨_, rfl⟩
      replace H : (if 0 ≤ (ji34) then (if (ji34) < (x161000_1.length : Int) then ((some (y168.set ((ji34) : Int).toNat (wrap64 ((rd y168 (ji34)) + (wrap64 (Int.tdiv (wrap64 ((rd l0_0 x7_1) * (wrap64 (-(rd l1 x7_1))))) 256)))) : List Int)).bind fun y170 => (if x7_1 < (x161001_1.length : Int) then ((some (x161001_1.set (x7_1 : Int).toNat (wrap64 ((rd x161001_1 x7_1) - t166)) : List Int)).bind fun y172 => (if (ji34) < (x161001_1.length : Int) then ((some (y172.set ((ji34) : Int).toNat (wrap64 ((rd y172 (ji34)) + t166)) : List Int)).bind fun y174 => (if 0 ≤ (Int.tmod (wrap64 (x7_1 + 1)) (l0_0.length : Int)) then (if (Int.tmod (wrap64 (x7_1 + 1)) (l0_0.length : Int)) < (l1.length : Int) then (if (rd l1 (Int.tmod (wrap64 (x7_1 + 1)) (l0_0.length : Int))) > 0 then ((spec_l17Part.f (wrap64 ((rd l0_1 x7_1) - t166)) (wrap64 (Int.tdiv (wrap64 ((rd l0_0 x7_1) * (rd l1 (Int.tmod (wrap64 (x7_1 + 1)) (l0_0.length : Int))))) 256)) (wrap64 ((rd l0_0 x7_1) - (wrap64 (Int.tdiv (wrap64 ((rd l0_0 x7_1) * (wrap64 (-(rd l1 x7_1))))) 256))))).bind fun t178 => ((some (y170.set (x7_1 : Int).toNat (wrap64 ((rd y170 x7_1) - (wrap64 (Int.tdiv (wrap64 ((rd l0_0 x7_1) * (rd l1 (Int.tmod (wrap64 (x7_1 + 1)) (l0_0.length : Int))))) 256)))) : List Int)).bind fun y180 => (if (Int.tmod (wrap64 (x7_1 + 1)) (l0_0.length : Int)) < (x161000_1.length : Int) then ((some (y174.set (x7_1 : Int).toNat (wrap64 ((rd y174 x7_1) - t178)) : List Int)).bind fun y184 => (if (Int.tmod (wrap64 (x7_1 + 1)) (l0_0.length : Int)) < (x161001_1.length : Int) then (spec_l17Step.l0 k1 l1 (l0_0.length : Int) (wrap64 (x7_1 + 1)) l0_0 l0_1 (y180.set ((Int.tmod (wrap64 (x7_1 + 1)) (l0_0.length : Int)) : Int).toNat (wrap64 ((rd y180 (Int.tmod (wrap64 (x7_1 + 1)) (l0_0.length : Int))) + (wrap64 (Int.tdiv (wrap64 ((rd l0_0 x7_1) * (rd l1 (Int.tmod (wrap64 (x7_1 + 1)) (l0_0.length : Int))))) 256))))) (y184.set ((Int.tmod (wrap64 (x7_1 + 1)) (l0_0.length : Int)) : Int).toNat (wrap64 ((rd y184 (Int.tmod (wrap64 (x7_1 + 1)) (l0_0.length : Int))) + t178)))) else (none))) else (none)))) else (spec_l17Step.l0 k1 l1 (l0_0.length : Int) (wrap64 (x7_1 + 1)) l0_0 l0_1 y170 y174)) else (none)) else (none))) else (none))) else (none))) else (none)) else (none)) = some (r1, r2) := by first | (rw [hji34] at H; exact H) | (simp only [hji34] at H ⊢; exact H)
      (try rw [hji34] at A31)
      obtain ⟨c35, H⟩ := ifS_ H
      have c35b0 : decide (0 ≤ (ji34)) = true := decide_eq_true c35
      clear c35
      obtain ⟨c36, H⟩ := ifS_ H
      have c36b0 : decide ((ji34) < (x161000_1.length : Int)) = true := decide_eq_true c36
      clear c36
      obtain ⟨y170, hy170⟩ : ∃ y_ : List Int, y_ = (y168.set ((ji34) : Int).toNat (wrap64 ((rd y168 (ji34)) + (wrap64 (Int.tdiv (wrap64 ((rd l0_0 x7_1) * (wrap64 (-(rd l1 x7_1))))) 256))))) := ⟨_, rfl⟩
      replace H : (if x7_1 < (x161001_1.length : Int) then ((some (x161001_1.set (x7_1 : Int).toNat (wrap64 ((rd x161001_1 x7_1) - t166)) : List Int)).bind fun y172 => (if (ji34) < (x161001_1.length : Int) then ((some (y172.set ((ji34) : Int).toNat (wrap64 ((rd y172 (ji34)) + t166)) : List Int)).bind fun y174 => (if 0 ≤ (Int.tmod (wrap64 (x7_1 + 1)) (l0_0.length : Int)) then (if (Int.tmod (wrap64 (x7_1 + 1)) (l0_0.length : Int)) < (l1.length : Int) then (if (rd l1 (Int.tmod (wrap64 (x7_1 + 1)) (l0_0.length : Int))) > 0 then ((spec_l17Part.f (wrap64 ((rd l0_1 x7_1) - t166)) (wrap64 (Int.tdiv (wrap64 ((rd l0_0 x7_1) * (rd l1 (Int.tmod (wrap64 (x7_1 + 1)) (l0_0.length : Int))))) 256)) (wrap64 ((rd l0_0 x7_1) - (wrap64 (Int.tdiv (wrap64 ((rd l0_0 x7_1) * (wrap64 (-(rd l1 x7_1))))) 256))))).bind fun t178 => ((some (y170.set (x7_1 : Int).toNat (wrap64 ((rd y170 x7_1) - (wrap64 (Int.tdiv (wrap64 ((rd l0_0 x7_1) * (rd l1 (Int.tmod (wrap64 (x7_1 + 1)) (l0_0.length : Int))))) 256)))) : List Int)).bind fun y180 => (if (Int.tmod (wrap64 (x7_1 + 1)) (l0_0.length : Int)) < (x161000_1.length : Int) then ((some (y174.set (x7_1 : Int).toNat (wrap64 ((rd y174 x7_1) - t178)) : List Int)).bind fun y184 => (if (Int.tmod (wrap64 (x7_1 + 1)) (l0_0.length : Int)) < (x161001_1.length : Int) then (spec_l17Step.l0 k1 l1 (l0_0.length : Int) (wrap64 (x7_1 + 1)) l0_0 l0_1 (y180.set ((Int.tmod (wrap64 (x7_1 + 1)) (l0_0.length : Int)) : Int).toNat (wrap64 ((rd y180 (Int.tmod (wrap64 (x7_1 + 1)) (l0_0.length : Int))) + (wrap64 (Int.tdiv (wrap64 ((rd l0_0 x7_1) * (rd l1 (Int.tmod (wrap64 (x7_1 + 1)) (l0_0.length : Int))))) 256))))) (y184.set ((Int.tmod (wrap64 (x7_1 + 1)) (l0_0.length : Int)) : Int).toNat (wrap64 ((rd y184 (Int.tmod (wrap64 (x7_1 + 1)) (l0_0.length : Int))) + t178)))) else (none))) else (none)))) else (spec_l17Step.l0 k1 l1 (l0_0.length : Int) (wrap64 (x7_1 + 1)) l0_0 l0_1 y170 y174)) else (none)) else (none))) else (none))) else (none)) = some (r1, r2) := by first | (rw [hy170]; with_reducible exact H) | (have H2_ := (Option.bind_some _ _).symm.trans H; rw [hy170]; with_reducible exact H2_) | (have H2_ := (Option.bind_some _ _).symm.trans H; with_reducible exact H2_) | with_reducible exact H | (rw [hy170]; exact H) | exact H
      have Ny170 := Aside0.mk hy170; clear hy170
      obtain ⟨c38, H⟩ := ifS_ H
      have c38b0 : decide (x7_1 < (x161001_1.length : Int)) = true := decide_eq_true c38
      clear c38
      obtain ⟨y172, hy172⟩ : ∃ y_ : List Int, y_ = (x161001_1.set (x7_1 : Int).toNat (wrap64 ((rd x161001_1 x7_1) - t166))) := ⟨_, rfl⟩
      replace H : (if (ji34) < (x161001_1.length : Int) then ((some (y172.set ((ji34) : Int).toNat (wrap64 ((rd y172 (ji34)) + t166)) : List Int)).bind fun y174 => (if 0 ≤ (Int.tmod (wrap64 (x7_1 + 1)) (l0_0.length : Int)) then (if (Int.tmod (wrap64 (x7_1 + 1)) (l0_0.length : Int)) < (l1.length : Int) then (if (rd l1 (Int.tmod (wrap64 (x7_1 + 1)) (l0_0.length : Int))) > 0 then ((spec_l17Part.f (wrap64 ((rd l0_1 x7_1) - t166)) (wrap64 (Int.tdiv (wrap64 ((rd l0_0 x7_1) * (rd l1 (Int.tmod (wrap64 (x7_1 + 1)) (l0_0.length : Int))))) 256)) (wrap64 ((rd l0_0 x7_1) - (wrap64 (Int.tdiv (wrap64 ((rd l0_0 x7_1) * (wrap64 (-(rd l1 x7_1))))) 256))))).bind fun t178 => ((some (y170.set (x7_1 : Int).toNat (wrap64 ((rd y170 x7_1) - (wrap64 (Int.tdiv (wrap64 ((rd l0_0 x7_1) * (rd l1 (Int.tmod (wrap64 (x7_1 + 1)) (l0_0.length : Int))))) 256)))) : List Int)).bind fun y180 => (if (Int.tmod (wrap64 (x7_1 + 1)) (l0_0.length : Int)) < (x161000_1.length : Int) then ((some (y174.set (x7_1 : Int).toNat (wrap64 ((rd y174 x7_1) - t178)) : List Int)).bind fun y184 => (if (Int.tmod (wrap64 (x7_1 + 1)) (l0_0.length : Int)) < (x161001_1.length : Int) then (spec_l17Step.l0 k1 l1 (l0_0.length : Int) (wrap64 (x7_1 + 1)) l0_0 l0_1 (y180.set ((Int.tmod (wrap64 (x7_1 + 1)) (l0_0.length : Int)) : Int).toNat (wrap64 ((rd y180 (Int.tmod (wrap64 (x7_1 + 1)) (l0_0.length : Int))) + (wrap64 (Int.tdiv (wrap64 ((rd l0_0 x7_1) * (rd l1 (Int.tmod (wrap64 (x7_1 + 1)) (l0_0.length : Int))))) 256))))) (y184.set ((Int.tmod (wrap64 (x7_1 + 1)) (l0_0.length : Int)) : Int).toNat (wrap64 ((rd y184 (Int.tmod (wrap64 (x7_1 + 1)) (l0_0.length : Int))) + t178)))) else (none))) else (none)))) else (spec_l17Step.l0 k1 l1 (l0_0.length : Int) (wrap64 (x7_1 + 1)) l0_0 l0_1 y170 y174)) else (none)) else (none))) else (none)) = some (r1, r2) := by first | (rw [hy172]; with_reducible exact H) | (have H2_ := (Option.bind_some _ _).symm.trans H; rw [hy172]; with_reducible exact H2_) | (have H2_ := (Option.bind_some _ _).symm.trans H; with_reducible exact H2_) | with_reducible exact H | (rw [hy172]; exact H) | exact H
      have Ny172 := Aside0.mk hy172; clear hy172
      obtain ⟨c40, H⟩ := ifS_ H
      have c40b0 : decide ((ji34) < (x161001_1.length : Int)) = true := decide_eq_true c40
      clear c40
      obtain ⟨y174, hy174⟩ : ∃ y_ : List Int, y_ = (y172.set ((ji34) : Int).toNat (wrap64 ((rd y172 (ji34)) + t166))) := ⟨_, rfl⟩
      replace H : (if 0 ≤ (Int.tmod (wrap64 (x7_1 + 1)) (l0_0.length : Int)) then (if (Int.tmod (wrap64 (x7_1 + 1)) (l0_0.length : Int)) < (l1.length : Int) then (if (rd l1 (Int.tmod (wrap64 (x7_1 + 1)) (l0_0.length : Int))) > 0 then ((spec_l17Part.f (wrap64 ((rd l0_1 x7_1) - t166)) (wrap64 (Int.tdiv (wrap64 ((rd l0_0 x7_1) * (rd l1 (Int.tmod (wrap64 (x7_1 + 1)) (l0_0.length : Int))))) 256)) (wrap64 ((rd l0_0 x7_1) - (wrap64 (Int.tdiv (wrap64 ((rd l0_0 x7_1) * (wrap64 (-(rd l1 x7_1))))) 256))))).bind fun t178 => ((some (y170.set (x7_1 : Int).toNat (wrap64 ((rd y170 x7_1) - (wrap64 (Int.tdiv (wrap64 ((rd l0_0 x7_1) * (rd l1 (Int.tmod (wrap64 (x7_1 + 1)) (l0_0.length : Int))))) 256)))) : List Int)).bind fun y180 => (if (Int.tmod (wrap64 (x7_1 + 1)) (l0_0.length : Int)) < (x161000_1.length : Int) then ((some (y174.set (x7_1 : Int).toNat (wrap64 ((rd y174 x7_1) - t178)) : List Int)).bind fun y184 => (if (Int.tmod (wrap64 (x7_1 + 1)) (l0_0.length : Int)) < (x161001_1.length : Int) then (spec_l17Step.l0 k1 l1 (l0_0.length : Int) (wrap64 (x7_1 + 1)) l0_0 l0_1 (y180.set ((Int.tmod (wrap64 (x7_1 + 1)) (l0_0.length : Int)) : Int).toNat (wrap64 ((rd y180 (Int.tmod (wrap64 (x7_1 + 1)) (l0_0.length : Int))) + (wrap64 (Int.tdiv (wrap64 ((rd l0_0 x7_1) * (rd l1 (Int.tmod (wrap64 (x7_1 + 1)) (l0_0.length : Int))))) 256))))) (y184.set ((Int.tmod (wrap64 (x7_1 + 1)) (l0_0.length : Int)) : Int).toNat (wrap64 ((rd y184 (Int.tmod (wrap64 (x7_1 + 1)) (l0_0.length : Int))) + t178)))) else (none))) else (none)))) else (spec_l17Step.l0 k1 l1 (l0_0.length : Int) (wrap64 (x7_1 + 1)) l0_0 l0_1 y170 y174)) else (none)) else (none)) = some (r1, r2) := by first | (rw [hy174]; with_reducible exact H) | (have H2_ := (Option.bind_some _ _).symm.trans H; rw [hy174]; with_reducible exact H2_) | (have H2_ := (Option.bind_some _ _).symm.trans H; with_reducible exact H2_) | with_reducible exact H | (rw [hy174]; exact H) | exact H
      have Ny174 := Aside0.mk hy174; clear hy174
      obtain ⟨ji42, hji42⟩ : ∃ j_ : Int, (Int.tmod (wrap64 (x7_1 + 1)) (l0_0.length : Int)) = j_ := ⟨_, rfl⟩
      replace H : (if 0 ≤ (ji42) then (if (ji42) < (l1.length : Int) then (if (rd l1 (ji42)) > 0 then ((spec_l17Part.f (wrap64 ((rd l0_1 x7_1) - t166)) (wrap64 (Int.tdiv (wrap64 ((rd l0_0 x7_1) * (rd l1 (ji42)))) 256)) (wrap64 ((rd l0_0 x7_1) - (wrap64 (Int.tdiv (wrap64 ((rd l0_0 x7_1) * (wrap64 (-(rd l1 x7_1))))) 256))))).bind fun t178 => ((some (y170.set (x7_1 : Int).toNat (wrap64 ((rd y170 x7_1) - (wrap64 (Int.tdiv (wrap64 ((rd l0_0 x7_1) * (rd l1 (ji42)))) 256)))) : List Int)).bind fun y180 => (if (ji42) < (x161000_1.length : Int) then ((some (y174.set (x7_1 : Int).toNat (wrap64 ((rd y174 x7_1) - t178)) : List Int)).bind fun y184 => (if (ji42) < (x161001_1.length : Int) then (spec_l17Step.l0 k1 l1 (l0_0.length : Int) (wrap64 (x7_1 + 1)) l0_0 l0_1 (y180.set ((ji42) : Int).toNat (wrap64 ((rd y180 (ji42)) + (wrap64 (Int.tdiv (wrap64 ((rd l0_0 x7_1) * (rd l1 (ji42)))) 256))))) (y184.set ((ji42) : Int).toNat (wrap64 ((rd y184 (ji42)) + t178)))) else (none))) else (none)))) else (spec_l17Step.l0 k1 l1 (l0_0.length : Int) (wrap64 (x7_1 + 1)) l0_0 l0_1 y170 y174)) else (none)) else (none)) = some (r1, r2) := by first | (rw [hji42] at H; exact H) | (simp only [hji42] at H ⊢; exact H)
      (try rw [hji42] at A31)
      obtain ⟨c43, H⟩ := ifS_ H
      have c43b0 : decide (0 ≤ (ji42)) = true := decide_eq_true c43
      clear c43
      obtain ⟨c44, H⟩ := ifS_ H
      have c44b0 : decide ((ji42) < (l1.length : Int)) = true := decide_eq_true c44
      clear c44
      by_cases c45 : (rd l1 (ji42)) > 0
      ·rw [if_pos c45] at H
       have c45b0 : decide (0 < (rd l1 (ji42))) = true := decide_eq_true c45
       clear c45; replace H := Option.bind_eq_some_iff.mp H
       obtain ⟨t178, A460, H⟩ := H
       replace H : ((some (y170.set (x7_1 : Int).toNat (wrap64 ((rd y170 x7_1) - (wrap64 (Int.tdiv (wrap64 ((rd l0_0 x7_1) * (rd l1 (ji42)))) 256)))) : List Int)).bind fun y180 => (if (ji42) < (x161000_1.length : Int) then ((some (y174.set (x7_1 : Int).toNat (wrap64 ((rd y174 x7_1) - t178)) : List Int)).bind fun y184 => (if (ji42) < (x161001_1.length : Int) then (spec_l17Step.l0 k1 l1 (l0_0.length : Int) (wrap64 (x7_1 + 1)) l0_0 l0_1 (y180.set ((ji42) : Int).toNat (wrap64 ((rd y180 (ji42)) + (wrap64 (Int.tdiv (wrap64 ((rd l0_0 x7_1) * (rd l1 (ji42)))) 256))))) (y184.set ((ji42) : Int).toNat (wrap64 ((rd y184 (ji42)) + t178)))) else (none))) else (none))) = some (r1, r2) := H
       have A46 := Aside0.mk A460; clear A460
       obtain ⟨y180, hy180⟩ : ∃ y_ : List Int, y_ = (y170.set (x7_1 : Int).toNat (wrap64 ((rd y170 x7_1) - (wrap64 (Int.tdiv (wrap64 ((rd l0_0 x7_1) * (rd l1 (ji42)))) 256))))) := ⟨_, rfl⟩
       replace H : (if (ji42) < (x161000_1.length : Int) then ((some (y174.set (x7_1 : Int).toNat (wrap64 ((rd y174 x7_1) - t178)) : List Int)).bind fun y184 => (if (ji42) < (x161001_1.length : Int) then (spec_l17Step.l0 k1 l1 (l0_0.length : Int) (wrap64 (x7_1 + 1)) l0_0 l0_1 (y180.set ((ji42) : Int).toNat (wrap64 ((rd y180 (ji42)) + (wrap64 (Int.tdiv (wrap64 ((rd l0_0 x7_1) * (rd l1 (ji42)))) 256))))) (y184.set ((ji42) : Int).toNat (wrap64 ((rd y184 (ji42)) + t178)))) else (none))) else (none)) = some (r1, r2) := by first | (rw [hy180]; with_reducible exact H) | (have H2_ := (Option.bind_some _ _).symm.trans H; rw [hy180]; with_reducible exact H2_) | (have H2_ := (Option.bind_some _ _).symm.trans H; with_reducible exact H2_) | with_reducible exact H | (rw [hy180]; exact H) | exact H
       have Ny180 := Aside0.mk hy180; clear hy180
       obtain ⟨c48, H⟩ := ifS_ H
       have c48b0 : decide ((ji42) < (x161000_1.length : Int)) = true := decide_eq_true c48
       clear c48
       obtain ⟨y182, hy182⟩ : ∃ y_ : List Int, y_ = (y180.set ((ji42) : Int).toNat (wrap64 ((rd y180 (ji42)) + (wrap64 (Int.tdiv (wrap64 ((rd l0_0 x7_1) * (rd l1 (ji42)))) 256))))) := ⟨_, rfl⟩
       replace H : ((some (y174.set (x7_1 : Int).toNat (wrap64 ((rd y174 x7_1) - t178)) : List Int)).bind fun y184 => (if (ji42) < (x161001_1.length : Int) then (spec_l17Step.l0 k1 l1 (l0_0.length : Int) (wrap64 (x7_1 + 1)) l0_0 l0_1 y182 (y184.set ((ji42) : Int).toNat (wrap64 ((rd y184 (ji42)) + t178)))) else (none))) = some (r1, r2) := by first | (rw [hy182]; with_reducible exact H) | (have H2_ := (Option.bind_some _ _).symm.trans H; rw [hy182]; with_reducible exact H2_) | (have H2_ := (Option.bind_some _ _).symm.trans H; with_reducible exact H2_) | with_reducible exact H | (rw [hy182]; exact H) | exact H
       have Ny182 := Aside0.mk hy182; clear hy182
       obtain ⟨y184, hy184⟩ : ∃ y_ : List Int, y_ = (y174.set (x7_1 : Int).toNat (wrap64 ((rd y174 x7_1) - t178))) := ⟨_, rfl⟩
       replace H : (if (ji42) < (x161001_1.length : Int) then (spec_l17Step.l0 k1 l1 (l0_0.length : Int) (wrap64 (x7_1 + 1)) l0_0 l0_1 y182 (y184.set ((ji42) : Int).toNat (wrap64 ((rd y184 (ji42)) + t178)))) else (none)) = some (r1, r2) := by first | (rw [hy184]; with_reducible exact H) | (have H2_ := (Option.bind_some _ _).symm.trans H; rw [hy184]; with_reducible exact H2_) | (have H2_ := (Option.bind_some _ _).symm.trans H; with_reducible exact H2_) | with_reducible exact H | (rw [hy184]; exact H) | exact H
       have Ny184 := Aside0.mk hy184; clear hy184
       obtain ⟨c51, H⟩ := ifS_ H
       have c51b0 : decide ((ji42) < (x161001_1.length : Int)) = true := decide_eq_true c51
       clear c51
       obtain ⟨y186, hy186⟩ : ∃ y_ : List Int, y_ = (y184.set ((ji42) : Int).toNat (wrap64 ((rd y184 (ji42)) + t178))) := ⟨_, rfl⟩
       replace H : (spec_l17Step.l0 k1 l1 (l0_0.length : Int) (wrap64 (x7_1 + 1)) l0_0 l0_1 y182 y186) = some (r1, r2) := by first | (rw [hy186]; with_reducible exact H) | (have H2_ := (Option.bind_some _ _).symm.trans H; rw [hy186]; with_reducible exact H2_) | (have H2_ := (Option.bind_some _ _).symm.trans H; with_reducible exact H2_) | with_reducible exact H | (rw [hy186]; exact H) | exact H
       have Ny186 := Aside0.mk hy186; clear hy186; have H' := Aside0.mk H; clear H; have hnb53 := NB146_147.out; have hnc53 := NB147_146.out; have hnb54 := NB146_160.out; have hnc54 := NB160_146.out
       have hcz55_0 : wr.cell? ⟨gb146, 0, none⟩ = some (.slice A0_0 l0_0.length c0_0) := (blk_cell BK146.out 0).trans rfl
       have hcz55_1 : wr.cell? ⟨gb146, 1, none⟩ = some (.slice A0_1 l0_1.length c0_1) := (blk_cell BK146.out 1).trans rfl
       have hfz55_0 := blk_frozen BK146.out 0; have hfz55_1 := blk_frozen BK146.out 1
       have p161 : 0 ≤ (x7_1 : Int) := of_decide_eq_true (by first | (with_reducible assumption) | assumption)
       have q161 : x7_1 < (l0_0.length : Int) := of_decide_eq_true (by first | (with_reducible assumption) | assumption)
       obtain ⟨ad161, e161, hx161_0⟩ := Kd.at_int HR0_0.out x7_1 p161 q161
       cases e161
       replace hx161_0 := (HB.out.cell (World.block_lt_of_cell? w _ hx161_0)).trans hx161_0
       replace p161 := eq_true p161; replace q161 := eq_true q161
       have p162 : 0 ≤ (x7_1 : Int) := of_decide_eq_true (by first | (with_reducible assumption) | assumption)
       have q162 : x7_1 < (l0_1.length : Int) := of_decide_eq_true (by first | (with_reducible assumption) | assumption)
       obtain ⟨ad162, e162, hx162_0⟩ := Kd.at_int HR0_1.out x7_1 p162 q162
       cases e162
       replace hx162_0 := (HB.out.cell (World.block_lt_of_cell? w _ hx162_0)).trans hx162_0
       replace p162 := eq_true p162; replace q162 := eq_true q162
       have p163 : 0 ≤ (x7_1 : Int) := of_decide_eq_true (by first | (with_reducible assumption) | assumption)
       have q163 : x7_1 < (l1.length : Int) := of_decide_eq_true (by first | (with_reducible assumption) | assumption)
       obtain ⟨ad163, e163, hx163_0⟩ := Kd.at_int HR1.out x7_1 p163 q163
       cases e163
       replace hx163_0 := (HB.out.cell (World.block_lt_of_cell? w _ hx163_0)).trans hx163_0
       replace p163 := eq_true p163; replace q163 := eq_true q163
       try go_wp2
       replace HO_161000 := Aside0.mk (Kd.R_drew HO_161000.out)
       replace HO_161001 := Aside0.mk (Kd.R_drew HO_161001.out)
       replace BK146 := Aside0.mk (blk_drew BK146.out)
       replace BK147 := Aside0.mk (blk_drew BK147.out)
       replace BK160 := Aside0.mk (blk_drew BK160.out)
       replace HB := Aside0.mk (below_drew1 HB.out)
       have p164 : 0 ≤ (x7_1 : Int) := of_decide_eq_true (by first | (with_reducible assumption) | assumption)
       have q164 : x7_1 < (l0_0.length : Int) := of_decide_eq_true (by first | (with_reducible assumption) | assumption)
       obtain ⟨ad164, e164, hx164_0⟩ := Kd.at_int HR0_0.out x7_1 p164 q164
       have hw164_0 := hx164_0
       obtain rfl : ad161 = ad164 := (by injection e164)
       replace hx164_0 := (HB.out.cell (World.block_lt_of_cell? w _ hx164_0)).trans hx164_0
       replace p164 := eq_true p164; replace q164 := eq_true q164
       have p165 : 0 ≤ (x7_1 : Int) := of_decide_eq_true (by first | (with_reducible assumption) | assumption)
       have q165 : x7_1 < (l1.length : Int) := of_decide_eq_true (by first | (with_reducible assumption) | assumption)
       obtain ⟨ad165, e165, hx165_0⟩ := Kd.at_int HR1.out x7_1 p165 q165
       have hw165_0 := hx165_0
       obtain rfl : ad163 = ad165 := (by injection e165)
       replace hx165_0 := (HB.out.cell (World.block_lt_of_cell? w _ hx165_0)).trans hx165_0
       replace p165 := eq_true p165; replace q165 := eq_true q165
       refine start_ (n := 13) (S := fun w' => w'.cell? ⟨gb146, 0, none⟩ = some (.slice (some ad161) l0_0.length c0_0) ∧ w'.cell? ⟨gb146, 1, none⟩ = some (.slice (some ad162) l0_1.length c0_1) ∧ w'.cell? (ad161.add (x7_1).toNat) = some (.int .i64 (rd l0_0 x7_1)) ∧ w'.cell? (ad163.add (x7_1).toNat) = some (.int .i64 (rd l1 x7_1))) (ds := []) #[false, false, false, false, false, false, false, false, false, false, false, false, false] (by kernel_rfl) rfl rfl ⟨(blk_cell BK146.out 0).trans rfl, (blk_cell BK146.out 1).trans rfl, ((HB.out.cell (World.block_lt_of_cell? w _ hw164_0)).trans hw164_0), ((HB.out.cell (World.block_lt_of_cell? w _ hw165_0)).trans hw165_0)⟩ (fun hHeld => ?_); refine with_tabW spec_l17Step.tab11 spec_l17Step.bits11 (fun HT_ HW_ => ?_)
       generalize wr.drew = w56 at HO_161000 HO_161001 BK146 BK147 BK160 HB hx164_0 hx165_0 hHeld ⊢
       refine pT_ 0 (some 58) #[true, false, false, false, false, false, false, false, false, false, false, false, false] HT_ ?_
       refine pT_ 2 (some 60) #[true, false, true, false, false, false, false, false, false, false, false, false, false] HT_ ?_
       refine pT_ 5 (some 63) #[true, false, true, false, false, true, false, false, false, false, false, false, false] HT_ ?_
       refine pT_ 6 (some 64) #[true, false, true, false, false, true, true, false, false, false, false, false, false] HT_ ?_
       refine pT_ 7 (some 65) #[true, false, true, false, false, true, true, true, false, false, false, false, false] HT_ ?_
       refine tT_ 1 (some 59) #[true, true, true, false, false, true, true, true, false, false, false, false, false] HT_ HW_ hHeld ?_ (hy := by rintro w' ⟨s0, s1, s2, s3⟩; go_simp; with_reducible rfl)
       refine pT_ 3 (some 61) #[true, true, true, true, false, true, true, true, false, false, false, false, false] HT_ ?_
       refine tT_ 4 (some 62) #[true, true, true, true, true, true, true, true, false, false, false, false, false] HT_ HW_ hHeld ?_ (hy := by rintro w' ⟨s0, s1, s2, s3⟩; go_simp; with_reducible rfl)
       refine tT_ 8 (some 66) #[true, true, true, true, true, true, true, true, true, false, false, false, false] HT_ HW_ hHeld ?_ (hy := by rintro w' ⟨s0, s1, s2, s3⟩; go_simp; with_reducible rfl)
       refine pT_ 9 (some 67) #[true, true, true, true, true, true, true, true, true, true, false, false, false] HT_ ?_
       refine pT_ 10 (some 68) #[true, true, true, true, true, true, true, true, true, true, true, false, false] HT_ ?_
       refine pT_ 11 (some 69) #[true, true, true, true, true, true, true, true, true, true, true, true, false] HT_ ?_
       refine pT_ 12 (some 12) #[true, true, true, true, true, true, true, true, true, true, true, true, true] HT_ ?_
       refine done_ (done_of HT_.out (by kernel_rfl)) ?_
       try go_wp2_with (first | ((with_reducible refine gate_callee (f := 39) rfl ?_); refine gL_ (some 73) Try.func39 #[.int .i64 (rd l0_1 x7_1), .int .i64 (wrap64 (Int.tdiv (wrap64 ((rd l0_0 x7_1) * (wrap64 (-(rd l1 x7_1))))) 256)), .int .i64 (rd l0_0 x7_1)] ?_; (with_reducible refine (spec_l17Part.calls (rd l0_1 x7_1) (wrap64 (Int.tdiv (wrap64 ((rd l0_0 x7_1) * (wrap64 (-(rd l1 x7_1))))) 256)) (rd l0_0 x7_1) t166 _ A31.out).mono ?_); rintro e w' ⟨rfl, ⟨nd, rfl⟩⟩; refine ⟨_, rfl, ?_⟩; (try (rw [drewN_self w56]; generalize hq_ : World.drewN w56 _ = w56; have n0_ : Aside0 (Kd.R (Kd.int .i64) 2 w56 w.heap.size (fun k_ => some k_ ≠ (u161001 : Value).ownBlock) u161000 x161000_1) := ⟨by rw [← hq_]; exact (rT_ HO_161000)⟩; have n1_ : Aside0 (Kd.R (Kd.int .i64) 2 w56 w.heap.size (fun k_ => some k_ ≠ (u161000 : Value).ownBlock) u161001 x161001_1) := ⟨by rw [← hq_]; exact (rT_ HO_161001)⟩; have n2_ : Aside0 (w56.heap[gb146]? = some (.cells #[.slice (some ad161) l0_0.length c0_0, .slice (some ad162) l0_1.length c0_1] 26 (0, 0))) := ⟨by rw [← hq_]; exact (bT_ BK146)⟩; have n3_ : Aside0 (w56.heap[gb147]? = some (.cells #[.slice none 0 0, .slice none 0 0] 26 (0, 0))) := ⟨by rw [← hq_]; exact (bT_ BK147)⟩; have n4_ : Aside0 (w56.heap[gb160]? = some (.cells #[u161000, u161001] 26 (0, 0))) := ⟨by rw [← hq_]; exact (bT_ BK160)⟩; have n5_ : Aside0 (Below w.heap.size w w56) := ⟨by rw [← hq_]; exact (by repeat (first | (with_reducible first | exact HB.out | apply below_alloc | apply pw_below_drewN | apply below_drew1 | refine below_set ?_ GE146.out | refine below_set ?_ GE147.out | refine below_set ?_ GE160.out) | exact HB.out))⟩; clear HO_161000 HO_161001 BK146 BK147 BK160 HB hq_; have HO_161000 := n0_; have HO_161001 := n1_; have BK146 := n2_; have BK147 := n3_; have BK160 := n4_; have HB := n5_; clear n0_ n1_ n2_ n3_ n4_ n5_))))
       replace HO_161000 := Aside0.mk (Kd.R_drew HO_161000.out)
       replace HO_161001 := Aside0.mk (Kd.R_drew HO_161001.out)
       replace BK146 := Aside0.mk (blk_drew BK146.out)
       replace BK147 := Aside0.mk (blk_drew BK147.out)
       replace BK160 := Aside0.mk (blk_drew BK160.out)
       replace HB := Aside0.mk (below_drew1 HB.out)
       obtain ⟨Ao58, co58, eo58⟩ := Kd.R_slice HO_161000.out
       (first | subst eo58 | (injection eo58 with f1_ f2_ f3_; have f4_ := f1_.symm; have f5_ := f3_.symm; clear f1_ f2_ f3_; subst f4_; subst f5_))
       have p167 : 0 ≤ (x7_1 : Int) := of_decide_eq_true (by first | (with_reducible assumption) | assumption)
       have q167 : x7_1 < (x161000_1.length : Int) := of_decide_eq_true (by first | (with_reducible assumption) | assumption)
       obtain ⟨ad167, e167, hx167_0⟩ := Kd.at_int (Kd.R_reads' HO_161000.out).2.2 x7_1 p167 q167
       cases e167
       replace p167 := eq_true p167; replace q167 := eq_true q167
       have p33 : 0 ≤ (x7_1 : Int) := of_decide_eq_true (by first | (with_reducible assumption) | assumption)
       have q33 : (x7_1 : Int) < ((x161000_1.length : Int) : Int) := of_decide_eq_true (by first | (with_reducible assumption) | assumption)
       obtain ⟨go33, co33, eo33, gb33, gl33, cl33, HG33⟩ := Kd.R_form HO_161000.out (by omega)
       (first | cases eo33 | (injection eo33 with ea_ en_ ec_; (first | subst ea_ | (injection ea_ with ea_; subst ea_)); subst ec_; clear en_))
       have GB33 := Aside0.mk gb33; have GG33 := Aside0.mk HG33; clear gb33 gl33 HG33
       (first | simp only [add_plain] at hx167_0 | skip)
       obtain ⟨hx33_0, hf33_0⟩ := Kd.R_celln 0 HO_161000.out (x7_1 : Int) p33 q33
       replace p33 := eq_true p33; replace q33 := eq_true q33
       have HP59 := Kd.R_putn HO_161000.out (x7_1 : Int) (wrap64 ((rd x161000_1 x7_1) - (wrap64 (Int.tdiv (wrap64 ((rd l0_0 x7_1) * (wrap64 (-(rd l1 x7_1))))) 256))))
       rw [← Ny168.out] at HP59
       have HQ59 := Aside0.mk HP59; clear HP59
       refine start_ (n := 12) (S := fun w' => w'.cell? ⟨gb160, 0, none⟩ = some (.slice (some ⟨go33, 0, none⟩) x161000_1.length co58) ∧ w'.cell? ⟨gb160, 1, none⟩ = some (u161001) ∧ w'.cell? ⟨go33, (x7_1).toNat, none⟩ = some (.int .i64 (rd x161000_1 x7_1))) (ds := [11]) #[false, false, false, false, false, false, false, false, false, false, false, false] (by kernel_rfl) rfl rfl ⟨(blk_cell BK160.out 0).trans rfl, (blk_cell BK160.out 1).trans rfl, hx167_0⟩ (fun hHeld => ?_); refine with_tabW spec_l17Step.tab13 spec_l17Step.bits13 (fun HT_ HW_ => ?_)
       generalize w56.drew = w57 at HO_161000 HO_161001 BK146 BK147 BK160 HB GG33 HQ59 hf33_0 hx167_0 hx33_0 hHeld ⊢
       refine pT_ 0 (some 74) #[true, false, false, false, false, false, false, false, false, false, false, false] HT_ ?_
       refine pT_ 2 (some 76) #[true, false, true, false, false, false, false, false, false, false, false, false] HT_ ?_
       refine pT_ 3 (some 77) #[true, false, true, true, false, false, false, false, false, false, false, false] HT_ ?_
       refine pT_ 5 (some 79) #[true, false, true, true, false, true, false, false, false, false, false, false] HT_ ?_
       refine pT_ 8 (some 82) #[true, false, true, true, false, true, false, false, true, false, false, false] HT_ ?_
       refine tT_ 1 (some 75) #[true, true, true, true, false, true, false, false, true, false, false, false] HT_ HW_ hHeld ?_ (hy := by rintro w' ⟨s0, s1, s2⟩; go_simp; with_reducible rfl)
       refine tT_ 4 (some 78) #[true, true, true, true, true, true, false, false, true, false, false, false] HT_ HW_ hHeld ?_ (hy := by rintro w' ⟨s0, s1, s2⟩; go_simp; with_reducible rfl)
       refine pT_ 6 (some 80) #[true, true, true, true, true, true, true, false, true, false, false, false] HT_ ?_
       refine tT_ 7 (some 81) #[true, true, true, true, true, true, true, true, true, false, false, false] HT_ HW_ hHeld ?_ (hy := by rintro w' ⟨s0, s1, s2⟩; go_simp; with_reducible rfl)
       refine pT_ 9 (some 83) #[true, true, true, true, true, true, true, true, true, true, false, false] HT_ ?_
       refine pT_ 10 (some 84) #[true, true, true, true, true, true, true, true, true, true, true, false] HT_ ?_
       refine last_ (i := 11) (N := none) #[true, true, true, true, true, true, true, true, true, true, true, true] rfl rfl (one_of HT_.out (by kernel_rfl)) (by decide) (fun K hK => ?_)
       refine skip_ (w1 := ?_) (by rfl) rfl ?_ ?_
       rotate_left
       ·go_simp
        rfl
       refine hK.out _ _ ?_
       clear hK K
       refine done_ (done_of HT_.out (by kernel_rfl)) ?_
       try go_wp2
       have n0_ : Aside0 (Kd.R (Kd.int .i64) 2 (w57.setCell ⟨go33, (x7_1 : Int).toNat, none⟩ (.int .i64 (wrap64 ((rd x161000_1 x7_1) - (wrap64 (Int.tdiv (wrap64 ((rd l0_0 x7_1) * (wrap64 (-(rd l1 x7_1))))) 256)))))) w.heap.size (fun k_ => some k_ ≠ (u161001 : Value).ownBlock) (.slice (some ⟨go33, 0, none⟩) x161000_1.length co58) y168) := ⟨by (with_reducible repeat (first | apply Kd.R_alloc | apply Kd.R_drewN | apply Kd.R_drew)); exact HQ59.out⟩
       have n1_ : Aside0 (Kd.R (Kd.int .i64) 2 (w57.setCell ⟨go33, (x7_1 : Int).toNat, none⟩ (.int .i64 (wrap64 ((rd x161000_1 x7_1) - (wrap64 (Int.tdiv (wrap64 ((rd l0_0 x7_1) * (wrap64 (-(rd l1 x7_1))))) 256)))))) w.heap.size (fun k_ => some k_ ≠ (.slice (some ⟨go33, 0, none⟩) x161000_1.length co58 : Value).ownBlock) u161001 x161001_1) := ⟨by (with_reducible repeat (first | apply Kd.R_alloc | apply Kd.R_drewN | apply Kd.R_drew)); exact Kd.R_mono (Kd.R_far (p := ⟨go33, (x7_1 : Int).toNat, none⟩) (Kd.R_mono HO_161001.out (fun k_ hk => (⟨hk, fun e_ => hk (by rw [e_]; rfl)⟩ : _ ∧ k_ ≠ go33))) (fun _ hk => hk.2) (.int .i64 (wrap64 ((rd x161000_1 x7_1) - (wrap64 (Int.tdiv (wrap64 ((rd l0_0 x7_1) * (wrap64 (-(rd l1 x7_1))))) 256)))))) (fun _ hk => hk.1)⟩
       have n2_ : Aside0 ((w57.setCell ⟨go33, (x7_1 : Int).toNat, none⟩ (.int .i64 (wrap64 ((rd x161000_1 x7_1) - (wrap64 (Int.tdiv (wrap64 ((rd l0_0 x7_1) * (wrap64 (-(rd l1 x7_1))))) 256)))))).heap[gb146]? = some (.cells #[.slice (some ad161) l0_0.length c0_0, .slice (some ad162) l0_1.length c0_1] 26 (0, 0))) := ⟨by (with_reducible repeat (first | refine blk_drewN ?_ _ | refine blk_drew ?_ | refine blk_alloc ?_ _)); refine blk_far ?_ (by have h_ := Kd.R_ne HO_161000.out BK146.out (by decide); intro e_; exact h_ (by rw [e_]; rfl)) _; exact bT_ BK146⟩
       have n3_ : Aside0 ((w57.setCell ⟨go33, (x7_1 : Int).toNat, none⟩ (.int .i64 (wrap64 ((rd x161000_1 x7_1) - (wrap64 (Int.tdiv (wrap64 ((rd l0_0 x7_1) * (wrap64 (-(rd l1 x7_1))))) 256)))))).heap[gb147]? = some (.cells #[.slice none 0 0, .slice none 0 0] 26 (0, 0))) := ⟨by (with_reducible repeat (first | refine blk_drewN ?_ _ | refine blk_drew ?_ | refine blk_alloc ?_ _)); refine blk_far ?_ (by have h_ := Kd.R_ne HO_161000.out BK147.out (by decide); intro e_; exact h_ (by rw [e_]; rfl)) _; exact bT_ BK147⟩
       have n4_ : Aside0 ((w57.setCell ⟨go33, (x7_1 : Int).toNat, none⟩ (.int .i64 (wrap64 ((rd x161000_1 x7_1) - (wrap64 (Int.tdiv (wrap64 ((rd l0_0 x7_1) * (wrap64 (-(rd l1 x7_1))))) 256)))))).heap[gb160]? = some (.cells #[.slice (some ⟨go33, 0, none⟩) x161000_1.length co58, u161001] 26 (0, 0))) := ⟨by (with_reducible repeat (first | refine blk_drewN ?_ _ | refine blk_drew ?_ | refine blk_alloc ?_ _)); refine blk_far ?_ (by have h_ := Kd.R_ne HO_161000.out BK160.out (by decide); intro e_; exact h_ (by rw [e_]; rfl)) _; exact bT_ BK160⟩
       have n5_ : Aside0 (Below w.heap.size w (w57.setCell ⟨go33, (x7_1 : Int).toNat, none⟩ (.int .i64 (wrap64 ((rd x161000_1 x7_1) - (wrap64 (Int.tdiv (wrap64 ((rd l0_0 x7_1) * (wrap64 (-(rd l1 x7_1))))) 256))))))) := ⟨by repeat (first | (with_reducible first | exact HB.out | apply below_alloc | apply pw_below_drewN | apply below_drew1 | refine below_set ?_ GB33.out | refine below_set ?_ GE146.out | refine below_set ?_ GE147.out | refine below_set ?_ GE160.out) | exact HB.out)⟩
       (try clear HO_161000); (try clear HO_161001); (try clear BK146); (try clear BK147); (try clear BK160); (try clear HB)
       generalize (w57.setCell ⟨go33, (x7_1 : Int).toNat, none⟩ (.int .i64 (wrap64 ((rd x161000_1 x7_1) - (wrap64 (Int.tdiv (wrap64 ((rd l0_0 x7_1) * (wrap64 (-(rd l1 x7_1))))) 256)))))) = w60 at n0_ n1_ n2_ n3_ n4_ n5_ ⊢
       have HO_161000 := n0_; have HO_161001 := n1_; have BK146 := n2_; have BK147 := n3_; have BK160 := n4_; have HB := n5_; clear n0_ n1_ n2_ n3_ n4_ n5_
       replace HO_161000 := Aside0.mk (Kd.R_drew HO_161000.out)
       replace HO_161001 := Aside0.mk (Kd.R_drew HO_161001.out)
       replace BK146 := Aside0.mk (blk_drew BK146.out)
       replace BK147 := Aside0.mk (blk_drew BK147.out)
       replace BK160 := Aside0.mk (blk_drew BK160.out)
       replace HB := Aside0.mk (below_drew1 HB.out)
       have p169 : 0 ≤ ((ji34) : Int) := of_decide_eq_true (by first | (with_reducible assumption) | assumption)
       have q169 : (ji34) < (y168.length : Int) := (by have h_ : ((ji34) : Int) < ((x161000_1.length : Int) : Int) := of_decide_eq_true (by first | (with_reducible assumption) | assumption); first | (have e_ := (Kd.R_reads' HO_161000.out).1; omega) | simpa only [Ny168.out, List.length_set] using h_)
       have ql169 : (((ji34) : Int) < ((x161000_1.length : Int) : Int)) = True := eq_true (of_decide_eq_true (by first | (with_reducible assumption) | assumption))
       obtain ⟨ad169, e169, hx169_0⟩ := Kd.at_int (Kd.R_reads' HO_161000.out).2.2 (ji34) p169 q169
       obtain rfl : (⟨go33, 0, none⟩ : Addr) = ad169 := (by injection e169)
       (first | simp only [add_plain] at hx169_0 | simp only [add_at] at hx169_0 | simp only [Addr.add, Nat.zero_add] at hx169_0 | skip)
       replace p169 := eq_true p169; replace q169 := eq_true q169
       have p37 : 0 ≤ ((ji34) : Int) := of_decide_eq_true (by first | (with_reducible assumption) | assumption)
       have q37 : ((ji34) : Int) < ((x161000_1.length : Int) : Int) := of_decide_eq_true (by first | (with_reducible assumption) | assumption)
       obtain ⟨hx37_0, hf37_0⟩ := Kd.R_celln 0 HO_161000.out ((ji34) : Int) p37 q37
       replace p37 := eq_true p37; replace q37 := eq_true q37
       have HP62 := Kd.R_putn HO_161000.out ((ji34) : Int) (wrap64 ((rd y168 (ji34)) + (wrap64 (Int.tdiv (wrap64 ((rd l0_0 x7_1) * (wrap64 (-(rd l1 x7_1))))) 256))))
       rw [← Ny170.out] at HP62
       have HQ62 := Aside0.mk HP62; clear HP62
       refine start_ (n := 12) (S := fun w' => w'.cell? ⟨gb160, 0, none⟩ = some (.slice (some ⟨go33, 0, none⟩) x161000_1.length co58) ∧ w'.cell? ⟨gb160, 1, none⟩ = some (u161001) ∧ w'.cell? ⟨go33, ((ji34)).toNat, none⟩ = some (.int .i64 (rd y168 (ji34)))) (ds := [11]) #[false, false, false, false, false, false, false, false, false, false, false, false] (by kernel_rfl) rfl rfl ⟨(blk_cell BK160.out 0).trans rfl, (blk_cell BK160.out 1).trans rfl, hx169_0⟩ (fun hHeld => ?_); refine with_tabW spec_l17Step.tab14 spec_l17Step.bits14 (fun HT_ HW_ => ?_)
       generalize w60.drew = w61 at HO_161000 HO_161001 BK146 BK147 BK160 HB HQ59 HQ62 hf37_0 hx169_0 hx37_0 hHeld ⊢
       refine pT_ 0 (some 85) #[true, false, false, false, false, false, false, false, false, false, false, false] HT_ ?_
       refine pT_ 2 (some 87) #[true, false, true, false, false, false, false, false, false, false, false, false] HT_ ?_
       refine pT_ 3 (some 88) #[true, false, true, true, false, false, false, false, false, false, false, false] HT_ ?_
       refine pT_ 5 (some 90) #[true, false, true, true, false, true, false, false, false, false, false, false] HT_ ?_
       refine pT_ 8 (some 93) #[true, false, true, true, false, true, false, false, true, false, false, false] HT_ ?_
       refine tT_ 1 (some 86) #[true, true, true, true, false, true, false, false, true, false, false, false] HT_ HW_ hHeld ?_ (hy := by rintro w' ⟨s0, s1, s2⟩; go_simp; with_reducible rfl)
       refine tT_ 4 (some 89) #[true, true, true, true, true, true, false, false, true, false, false, false] HT_ HW_ hHeld ?_ (hy := by rintro w' ⟨s0, s1, s2⟩; go_simp; with_reducible rfl)
       refine pT_ 6 (some 91) #[true, true, true, true, true, true, true, false, true, false, false, false] HT_ ?_
       refine tT_ 7 (some 92) #[true, true, true, true, true, true, true, true, true, false, false, false] HT_ HW_ hHeld ?_ (hy := by rintro w' ⟨s0, s1, s2⟩; go_simp; with_reducible rfl)
       refine pT_ 9 (some 94) #[true, true, true, true, true, true, true, true, true, true, false, false] HT_ ?_
       refine pT_ 10 (some 95) #[true, true, true, true, true, true, true, true, true, true, true, false] HT_ ?_
       refine last_ (i := 11) (N := none) #[true, true, true, true, true, true, true, true, true, true, true, true] rfl rfl (one_of HT_.out (by kernel_rfl)) (by decide) (fun K hK => ?_)
       refine skip_ (w1 := ?_) (by rfl) rfl ?_ ?_
       rotate_left
       ·go_simp
        rfl
       refine hK.out _ _ ?_
       clear hK K
       refine done_ (done_of HT_.out (by kernel_rfl)) ?_
       try go_wp2
       have n0_ : Aside0 (Kd.R (Kd.int .i64) 2 (w61.setCell ⟨go33, ((ji34) : Int).toNat, none⟩ (.int .i64 (wrap64 ((rd y168 (ji34)) + (wrap64 (Int.tdiv (wrap64 ((rd l0_0 x7_1) * (wrap64 (-(rd l1 x7_1))))) 256)))))) w.heap.size (fun k_ => some k_ ≠ (u161001 : Value).ownBlock) (.slice (some ⟨go33, 0, none⟩) x161000_1.length co58) y170) := ⟨by (with_reducible repeat (first | apply Kd.R_alloc | apply Kd.R_drewN | apply Kd.R_drew)); exact HQ62.out⟩
       have n1_ : Aside0 (Kd.R (Kd.int .i64) 2 (w61.setCell ⟨go33, ((ji34) : Int).toNat, none⟩ (.int .i64 (wrap64 ((rd y168 (ji34)) + (wrap64 (Int.tdiv (wrap64 ((rd l0_0 x7_1) * (wrap64 (-(rd l1 x7_1))))) 256)))))) w.heap.size (fun k_ => some k_ ≠ (.slice (some ⟨go33, 0, none⟩) x161000_1.length co58 : Value).ownBlock) u161001 x161001_1) := ⟨by (with_reducible repeat (first | apply Kd.R_alloc | apply Kd.R_drewN | apply Kd.R_drew)); exact Kd.R_mono (Kd.R_far (p := ⟨go33, ((ji34) : Int).toNat, none⟩) (Kd.R_mono HO_161001.out (fun k_ hk => (⟨hk, fun e_ => hk (by rw [e_]; rfl)⟩ : _ ∧ k_ ≠ go33))) (fun _ hk => hk.2) (.int .i64 (wrap64 ((rd y168 (ji34)) + (wrap64 (Int.tdiv (wrap64 ((rd l0_0 x7_1) * (wrap64 (-(rd l1 x7_1))))) 256)))))) (fun _ hk => hk.1)⟩
       have n2_ : Aside0 ((w61.setCell ⟨go33, ((ji34) : Int).toNat, none⟩ (.int .i64 (wrap64 ((rd y168 (ji34)) + (wrap64 (Int.tdiv (wrap64 ((rd l0_0 x7_1) * (wrap64 (-(rd l1 x7_1))))) 256)))))).heap[gb146]? = some (.cells #[.slice (some ad161) l0_0.length c0_0, .slice (some ad162) l0_1.length c0_1] 26 (0, 0))) := ⟨by (with_reducible repeat (first | refine blk_drewN ?_ _ | refine blk_drew ?_ | refine blk_alloc ?_ _)); refine blk_far ?_ (by have h_ := Kd.R_ne HO_161000.out BK146.out (by decide); intro e_; exact h_ (by rw [e_]; rfl)) _; exact bT_ BK146⟩
       have n3_ : Aside0 ((w61.setCell ⟨go33, ((ji34) : Int).toNat, none⟩ (.int .i64 (wrap64 ((rd y168 (ji34)) + (wrap64 (Int.tdiv (wrap64 ((rd l0_0 x7_1) * (wrap64 (-(rd l1 x7_1))))) 256)))))).heap[gb147]? = some (.cells #[.slice none 0 0, .slice none 0 0] 26 (0, 0))) := ⟨by (with_reducible repeat (first | refine blk_drewN ?_ _ | refine blk_drew ?_ | refine blk_alloc ?_ _)); refine blk_far ?_ (by have h_ := Kd.R_ne HO_161000.out BK147.out (by decide); intro e_; exact h_ (by rw [e_]; rfl)) _; exact bT_ BK147⟩
       have n4_ : Aside0 ((w61.setCell ⟨go33, ((ji34) : Int).toNat, none⟩ (.int .i64 (wrap64 ((rd y168 (ji34)) + (wrap64 (Int.tdiv (wrap64 ((rd l0_0 x7_1) * (wrap64 (-(rd l1 x7_1))))) 256)))))).heap[gb160]? = some (.cells #[.slice (some ⟨go33, 0, none⟩) x161000_1.length co58, u161001] 26 (0, 0))) := ⟨by (with_reducible repeat (first | refine blk_drewN ?_ _ | refine blk_drew ?_ | refine blk_alloc ?_ _)); refine blk_far ?_ (by have h_ := Kd.R_ne HO_161000.out BK160.out (by decide); intro e_; exact h_ (by rw [e_]; rfl)) _; exact bT_ BK160⟩
       have n5_ : Aside0 (Below w.heap.size w (w61.setCell ⟨go33, ((ji34) : Int).toNat, none⟩ (.int .i64 (wrap64 ((rd y168 (ji34)) + (wrap64 (Int.tdiv (wrap64 ((rd l0_0 x7_1) * (wrap64 (-(rd l1 x7_1))))) 256))))))) := ⟨by repeat (first | (with_reducible first | exact HB.out | apply below_alloc | apply pw_below_drewN | apply below_drew1 | refine below_set ?_ GB33.out | refine below_set ?_ GE146.out | refine below_set ?_ GE147.out | refine below_set ?_ GE160.out) | exact HB.out)⟩
       (try clear HO_161000); (try clear HO_161001); (try clear BK146); (try clear BK147); (try clear BK160); (try clear HB)
       generalize (w61.setCell ⟨go33, ((ji34) : Int).toNat, none⟩ (.int .i64 (wrap64 ((rd y168 (ji34)) + (wrap64 (Int.tdiv (wrap64 ((rd l0_0 x7_1) * (wrap64 (-(rd l1 x7_1))))) 256)))))) = w63 at n0_ n1_ n2_ n3_ n4_ n5_ ⊢
       have HO_161000 := n0_; have HO_161001 := n1_; have BK146 := n2_; have BK147 := n3_; have BK160 := n4_; have HB := n5_; clear n0_ n1_ n2_ n3_ n4_ n5_
       replace HO_161000 := Aside0.mk (Kd.R_drew HO_161000.out)
       replace HO_161001 := Aside0.mk (Kd.R_drew HO_161001.out)
       replace BK146 := Aside0.mk (blk_drew BK146.out)
       replace BK147 := Aside0.mk (blk_drew BK147.out)
       replace BK160 := Aside0.mk (blk_drew BK160.out)
       replace HB := Aside0.mk (below_drew1 HB.out)
       obtain ⟨Ao65, co65, eo65⟩ := Kd.R_slice HO_161001.out
       (first | subst eo65 | (injection eo65 with f1_ f2_ f3_; have f4_ := f1_.symm; have f5_ := f3_.symm; clear f1_ f2_ f3_; subst f4_; subst f5_))
       have p171 : 0 ≤ (x7_1 : Int) := of_decide_eq_true (by first | (with_reducible assumption) | assumption)
       have q171 : x7_1 < (x161001_1.length : Int) := of_decide_eq_true (by first | (with_reducible assumption) | assumption)
       obtain ⟨ad171, e171, hx171_0⟩ := Kd.at_int (Kd.R_reads' HO_161001.out).2.2 x7_1 p171 q171
       cases e171
       replace p171 := eq_true p171; replace q171 := eq_true q171
       have p39 : 0 ≤ (x7_1 : Int) := of_decide_eq_true (by first | (with_reducible assumption) | assumption)
       have q39 : (x7_1 : Int) < ((x161001_1.length : Int) : Int) := of_decide_eq_true (by first | (with_reducible assumption) | assumption)
       obtain ⟨go39, co39, eo39, gb39, gl39, cl39, HG39⟩ := Kd.R_form HO_161001.out (by omega)
       (first | cases eo39 | (injection eo39 with ea_ en_ ec_; (first | subst ea_ | (injection ea_ with ea_; subst ea_)); subst ec_; clear en_))
       have GB39 := Aside0.mk gb39; have GG39 := Aside0.mk HG39; clear gb39 gl39 HG39
       (first | simp only [add_plain] at hx171_0 | skip)
       obtain ⟨hx39_0, hf39_0⟩ := Kd.R_celln 0 HO_161001.out (x7_1 : Int) p39 q39
       replace p39 := eq_true p39; replace q39 := eq_true q39
       have HP66 := Kd.R_putn HO_161001.out (x7_1 : Int) (wrap64 ((rd x161001_1 x7_1) - t166))
       rw [← Ny172.out] at HP66
       have HQ66 := Aside0.mk HP66; clear HP66
       refine start_ (n := 12) (S := fun w' => w'.cell? ⟨gb160, 0, none⟩ = some (.slice (some ⟨go33, 0, none⟩) x161000_1.length co58) ∧ w'.cell? ⟨gb160, 1, none⟩ = some (.slice (some ⟨go39, 0, none⟩) x161001_1.length co65) ∧ w'.cell? ⟨go39, (x7_1).toNat, none⟩ = some (.int .i64 (rd x161001_1 x7_1))) (ds := [11]) #[false, false, false, false, false, false, false, false, false, false, false, false] (by kernel_rfl) rfl rfl ⟨(blk_cell BK160.out 0).trans rfl, (blk_cell BK160.out 1).trans rfl, hx171_0⟩ (fun hHeld => ?_); refine with_tabW spec_l17Step.tab15 spec_l17Step.bits15 (fun HT_ HW_ => ?_)
       generalize w63.drew = w64 at HO_161000 HO_161001 BK146 BK147 BK160 HB GG39 HQ62 HQ66 hf39_0 hx171_0 hx39_0 hHeld ⊢
       refine pT_ 0 (some 96) #[true, false, false, false, false, false, false, false, false, false, false, false] HT_ ?_
       refine pT_ 2 (some 98) #[true, false, true, false, false, false, false, false, false, false, false, false] HT_ ?_
       refine pT_ 3 (some 99) #[true, false, true, true, false, false, false, false, false, false, false, false] HT_ ?_
       refine pT_ 5 (some 101) #[true, false, true, true, false, true, false, false, false, false, false, false] HT_ ?_
       refine pT_ 8 (some 104) #[true, false, true, true, false, true, false, false, true, false, false, false] HT_ ?_
       refine tT_ 1 (some 97) #[true, true, true, true, false, true, false, false, true, false, false, false] HT_ HW_ hHeld ?_ (hy := by rintro w' ⟨s0, s1, s2⟩; go_simp; with_reducible rfl)
       refine tT_ 4 (some 100) #[true, true, true, true, true, true, false, false, true, false, false, false] HT_ HW_ hHeld ?_ (hy := by rintro w' ⟨s0, s1, s2⟩; go_simp; with_reducible rfl)
       refine pT_ 6 (some 102) #[true, true, true, true, true, true, true, false, true, false, false, false] HT_ ?_
       refine tT_ 7 (some 103) #[true, true, true, true, true, true, true, true, true, false, false, false] HT_ HW_ hHeld ?_ (hy := by rintro w' ⟨s0, s1, s2⟩; go_simp; with_reducible rfl)
       refine pT_ 9 (some 105) #[true, true, true, true, true, true, true, true, true, true, false, false] HT_ ?_
       refine pT_ 10 (some 106) #[true, true, true, true, true, true, true, true, true, true, true, false] HT_ ?_
       refine last_ (i := 11) (N := none) #[true, true, true, true, true, true, true, true, true, true, true, true] rfl rfl (one_of HT_.out (by kernel_rfl)) (by decide) (fun K hK => ?_)
       refine skip_ (w1 := ?_) (by rfl) rfl ?_ ?_
       rotate_left
       ·go_simp
        rfl
       refine hK.out _ _ ?_
       clear hK K
       refine done_ (done_of HT_.out (by kernel_rfl)) ?_
       try go_wp2
       have n0_ : Aside0 (Kd.R (Kd.int .i64) 2 (w64.setCell ⟨go39, (x7_1 : Int).toNat, none⟩ (.int .i64 (wrap64 ((rd x161001_1 x7_1) - t166)))) w.heap.size (fun k_ => some k_ ≠ (.slice (some ⟨go39, 0, none⟩) x161001_1.length co65 : Value).ownBlock) (.slice (some ⟨go33, 0, none⟩) x161000_1.length co58) y170) := ⟨by (with_reducible repeat (first | apply Kd.R_alloc | apply Kd.R_drewN | apply Kd.R_drew)); exact Kd.R_mono (Kd.R_far (p := ⟨go39, (x7_1 : Int).toNat, none⟩) (Kd.R_mono HO_161000.out (fun k_ hk => (⟨hk, fun e_ => hk (by rw [e_]; rfl)⟩ : _ ∧ k_ ≠ go39))) (fun _ hk => hk.2) (.int .i64 (wrap64 ((rd x161001_1 x7_1) - t166)))) (fun _ hk => hk.1)⟩
       have n1_ : Aside0 (Kd.R (Kd.int .i64) 2 (w64.setCell ⟨go39, (x7_1 : Int).toNat, none⟩ (.int .i64 (wrap64 ((rd x161001_1 x7_1) - t166)))) w.heap.size (fun k_ => some k_ ≠ (.slice (some ⟨go33, 0, none⟩) x161000_1.length co58 : Value).ownBlock) (.slice (some ⟨go39, 0, none⟩) x161001_1.length co65) y172) := ⟨by (with_reducible repeat (first | apply Kd.R_alloc | apply Kd.R_drewN | apply Kd.R_drew)); exact HQ66.out⟩
       have n2_ : Aside0 ((w64.setCell ⟨go39, (x7_1 : Int).toNat, none⟩ (.int .i64 (wrap64 ((rd x161001_1 x7_1) - t166)))).heap[gb146]? = some (.cells #[.slice (some ad161) l0_0.length c0_0, .slice (some ad162) l0_1.length c0_1] 26 (0, 0))) := ⟨by (with_reducible repeat (first | refine blk_drewN ?_ _ | refine blk_drew ?_ | refine blk_alloc ?_ _)); refine blk_far ?_ (by have h_ := Kd.R_ne HO_161001.out BK146.out (by decide); intro e_; exact h_ (by rw [e_]; rfl)) _; exact bT_ BK146⟩
       have n3_ : Aside0 ((w64.setCell ⟨go39, (x7_1 : Int).toNat, none⟩ (.int .i64 (wrap64 ((rd x161001_1 x7_1) - t166)))).heap[gb147]? = some (.cells #[.slice none 0 0, .slice none 0 0] 26 (0, 0))) := ⟨by (with_reducible repeat (first | refine blk_drewN ?_ _ | refine blk_drew ?_ | refine blk_alloc ?_ _)); refine blk_far ?_ (by have h_ := Kd.R_ne HO_161001.out BK147.out (by decide); intro e_; exact h_ (by rw [e_]; rfl)) _; exact bT_ BK147⟩
       have n4_ : Aside0 ((w64.setCell ⟨go39, (x7_1 : Int).toNat, none⟩ (.int .i64 (wrap64 ((rd x161001_1 x7_1) - t166)))).heap[gb160]? = some (.cells #[.slice (some ⟨go33, 0, none⟩) x161000_1.length co58, .slice (some ⟨go39, 0, none⟩) x161001_1.length co65] 26 (0, 0))) := ⟨by (with_reducible repeat (first | refine blk_drewN ?_ _ | refine blk_drew ?_ | refine blk_alloc ?_ _)); refine blk_far ?_ (by have h_ := Kd.R_ne HO_161001.out BK160.out (by decide); intro e_; exact h_ (by rw [e_]; rfl)) _; exact bT_ BK160⟩
       have n5_ : Aside0 (Below w.heap.size w (w64.setCell ⟨go39, (x7_1 : Int).toNat, none⟩ (.int .i64 (wrap64 ((rd x161001_1 x7_1) - t166))))) := ⟨by repeat (first | (with_reducible first | exact HB.out | apply below_alloc | apply pw_below_drewN | apply below_drew1 | refine below_set ?_ GB39.out | refine below_set ?_ GE146.out | refine below_set ?_ GE147.out | refine below_set ?_ GE160.out) | exact HB.out)⟩
       (try clear HO_161000); (try clear HO_161001); (try clear BK146); (try clear BK147); (try clear BK160); (try clear HB)
       generalize (w64.setCell ⟨go39, (x7_1 : Int).toNat, none⟩ (.int .i64 (wrap64 ((rd x161001_1 x7_1) - t166)))) = w67 at n0_ n1_ n2_ n3_ n4_ n5_ ⊢
       have HO_161000 := n0_; have HO_161001 := n1_; have BK146 := n2_; have BK147 := n3_; have BK160 := n4_; have HB := n5_; clear n0_ n1_ n2_ n3_ n4_ n5_
       replace HO_161000 := Aside0.mk (Kd.R_drew HO_161000.out)
       replace HO_161001 := Aside0.mk (Kd.R_drew HO_161001.out)
       replace BK146 := Aside0.mk (blk_drew BK146.out)
       replace BK147 := Aside0.mk (blk_drew BK147.out)
       replace BK160 := Aside0.mk (blk_drew BK160.out)
       replace HB := Aside0.mk (below_drew1 HB.out)
       have p173 : 0 ≤ ((ji34) : Int) := of_decide_eq_true (by first | (with_reducible assumption) | assumption)
       have q173 : (ji34) < (y172.length : Int) := (by have h_ : ((ji34) : Int) < ((x161001_1.length : Int) : Int) := of_decide_eq_true (by first | (with_reducible assumption) | assumption); first | (have e_ := (Kd.R_reads' HO_161001.out).1; omega) | simpa only [Ny172.out, List.length_set] using h_)
       have ql173 : (((ji34) : Int) < ((x161001_1.length : Int) : Int)) = True := eq_true (of_decide_eq_true (by first | (with_reducible assumption) | assumption))
       obtain ⟨ad173, e173, hx173_0⟩ := Kd.at_int (Kd.R_reads' HO_161001.out).2.2 (ji34) p173 q173
       obtain rfl : (⟨go39, 0, none⟩ : Addr) = ad173 := (by injection e173)
       (first | simp only [add_plain] at hx173_0 | simp only [add_at] at hx173_0 | simp only [Addr.add, Nat.zero_add] at hx173_0 | skip)
       replace p173 := eq_true p173; replace q173 := eq_true q173
       have p41 : 0 ≤ ((ji34) : Int) := of_decide_eq_true (by first | (with_reducible assumption) | assumption)
       have q41 : ((ji34) : Int) < ((x161001_1.length : Int) : Int) := of_decide_eq_true (by first | (with_reducible assumption) | assumption)
       obtain ⟨hx41_0, hf41_0⟩ := Kd.R_celln 0 HO_161001.out ((ji34) : Int) p41 q41
       replace p41 := eq_true p41; replace q41 := eq_true q41
       have HP69 := Kd.R_putn HO_161001.out ((ji34) : Int) (wrap64 ((rd y172 (ji34)) + t166))
       rw [← Ny174.out] at HP69
       have HQ69 := Aside0.mk HP69; clear HP69
       refine start_ (n := 12) (S := fun w' => w'.cell? ⟨gb160, 0, none⟩ = some (.slice (some ⟨go33, 0, none⟩) x161000_1.length co58) ∧ w'.cell? ⟨gb160, 1, none⟩ = some (.slice (some ⟨go39, 0, none⟩) x161001_1.length co65) ∧ w'.cell? ⟨go39, ((ji34)).toNat, none⟩ = some (.int .i64 (rd y172 (ji34)))) (ds := [11]) #[false, false, false, false, false, false, false, false, false, false, false, false] (by kernel_rfl) rfl rfl ⟨(blk_cell BK160.out 0).trans rfl, (blk_cell BK160.out 1).trans rfl, hx173_0⟩ (fun hHeld => ?_); refine with_tabW spec_l17Step.tab16 spec_l17Step.bits16 (fun HT_ HW_ => ?_)
       generalize w67.drew = w68 at HO_161000 HO_161001 BK146 BK147 BK160 HB HQ66 HQ69 hf41_0 hx173_0 hx41_0 hHeld ⊢
       refine pT_ 0 (some 107) #[true, false, false, false, false, false, false, false, false, false, false, false] HT_ ?_
       refine pT_ 2 (some 109) #[true, false, true, false, false, false, false, false, false, false, false, false] HT_ ?_
       refine pT_ 3 (some 110) #[true, false, true, true, false, false, false, false, false, false, false, false] HT_ ?_
       refine pT_ 5 (some 112) #[true, false, true, true, false, true, false, false, false, false, false, false] HT_ ?_
       refine pT_ 8 (some 115) #[true, false, true, true, false, true, false, false, true, false, false, false] HT_ ?_
       refine tT_ 1 (some 108) #[true, true, true, true, false, true, false, false, true, false, false, false] HT_ HW_ hHeld ?_ (hy := by rintro w' ⟨s0, s1, s2⟩; go_simp; with_reducible rfl)
       refine tT_ 4 (some 111) #[true, true, true, true, true, true, false, false, true, false, false, false] HT_ HW_ hHeld ?_ (hy := by rintro w' ⟨s0, s1, s2⟩; go_simp; with_reducible rfl)
       refine pT_ 6 (some 113) #[true, true, true, true, true, true, true, false, true, false, false, false] HT_ ?_
       refine tT_ 7 (some 114) #[true, true, true, true, true, true, true, true, true, false, false, false] HT_ HW_ hHeld ?_ (hy := by rintro w' ⟨s0, s1, s2⟩; go_simp; with_reducible rfl)
       refine pT_ 9 (some 116) #[true, true, true, true, true, true, true, true, true, true, false, false] HT_ ?_
       refine pT_ 10 (some 117) #[true, true, true, true, true, true, true, true, true, true, true, false] HT_ ?_
       refine last_ (i := 11) (N := none) #[true, true, true, true, true, true, true, true, true, true, true, true] rfl rfl (one_of HT_.out (by kernel_rfl)) (by decide) (fun K hK => ?_)
       refine skip_ (w1 := ?_) (by rfl) rfl ?_ ?_
       rotate_left
       ·go_simp
        rfl
       refine hK.out _ _ ?_
       clear hK K
       refine done_ (done_of HT_.out (by kernel_rfl)) ?_
       have p175 : 0 ≤ ((ji42) : Int) := of_decide_eq_true (by first | (with_reducible assumption) | assumption)
       have q175 : (ji42) < (l1.length : Int) := of_decide_eq_true (by first | (with_reducible assumption) | assumption)
       obtain ⟨ad175, e175, hx175_0⟩ := Kd.at_int HR1.out (ji42) p175 q175
       obtain rfl : ad163 = ad175 := (by injection e175)
       have hn175_0 : ad163.block ≠ go39 := Nat.ne_of_lt (Nat.lt_of_lt_of_le (by have := World.block_lt_of_cell? _ _ hx175_0; first | rwa [add_block] at this | exact this) GB39.out)
       replace hx175_0 := (HB.out.cell (World.block_lt_of_cell? w _ hx175_0)).trans hx175_0
       replace hx175_0 := (cell_far (p := ⟨go39, ((ji34) : Int).toNat, none⟩) (by first | (rw [add_block]; exact hn175_0) | (show (Addr.add _ _).block ≠ _; rw [add_block]; exact hn175_0) | exact hn175_0) (.int .i64 (wrap64 ((rd y172 (ji34)) + t166)))).trans hx175_0
       clear hn175_0; replace p175 := eq_true p175; replace q175 := eq_true q175
       try go_wp2
       have n0_ : Aside0 (Kd.R (Kd.int .i64) 2 (w68.setCell ⟨go39, ((ji34) : Int).toNat, none⟩ (.int .i64 (wrap64 ((rd y172 (ji34)) + t166)))) w.heap.size (fun k_ => some k_ ≠ (.slice (some ⟨go39, 0, none⟩) x161001_1.length co65 : Value).ownBlock) (.slice (some ⟨go33, 0, none⟩) x161000_1.length co58) y170) := ⟨by (with_reducible repeat (first | apply Kd.R_alloc | apply Kd.R_drewN | apply Kd.R_drew)); exact Kd.R_mono (Kd.R_far (p := ⟨go39, ((ji34) : Int).toNat, none⟩) (Kd.R_mono HO_161000.out (fun k_ hk => (⟨hk, fun e_ => hk (by rw [e_]; rfl)⟩ : _ ∧ k_ ≠ go39))) (fun _ hk => hk.2) (.int .i64 (wrap64 ((rd y172 (ji34)) + t166)))) (fun _ hk => hk.1)⟩
       have n1_ : Aside0 (Kd.R (Kd.int .i64) 2 (w68.setCell ⟨go39, ((ji34) : Int).toNat, none⟩ (.int .i64 (wrap64 ((rd y172 (ji34)) + t166)))) w.heap.size (fun k_ => some k_ ≠ (.slice (some ⟨go33, 0, none⟩) x161000_1.length co58 : Value).ownBlock) (.slice (some ⟨go39, 0, none⟩) x161001_1.length co65) y174) := ⟨by (with_reducible repeat (first | apply Kd.R_alloc | apply Kd.R_drewN | apply Kd.R_drew)); exact HQ69.out⟩
       have n2_ : Aside0 ((w68.setCell ⟨go39, ((ji34) : Int).toNat, none⟩ (.int .i64 (wrap64 ((rd y172 (ji34)) + t166)))).heap[gb146]? = some (.cells #[.slice (some ad161) l0_0.length c0_0, .slice (some ad162) l0_1.length c0_1] 26 (0, 0))) := ⟨by (with_reducible repeat (first | refine blk_drewN ?_ _ | refine blk_drew ?_ | refine blk_alloc ?_ _)); refine blk_far ?_ (by have h_ := Kd.R_ne HO_161001.out BK146.out (by decide); intro e_; exact h_ (by rw [e_]; rfl)) _; exact bT_ BK146⟩
       have n3_ : Aside0 ((w68.setCell ⟨go39, ((ji34) : Int).toNat, none⟩ (.int .i64 (wrap64 ((rd y172 (ji34)) + t166)))).heap[gb147]? = some (.cells #[.slice none 0 0, .slice none 0 0] 26 (0, 0))) := ⟨by (with_reducible repeat (first | refine blk_drewN ?_ _ | refine blk_drew ?_ | refine blk_alloc ?_ _)); refine blk_far ?_ (by have h_ := Kd.R_ne HO_161001.out BK147.out (by decide); intro e_; exact h_ (by rw [e_]; rfl)) _; exact bT_ BK147⟩
       have n4_ : Aside0 ((w68.setCell ⟨go39, ((ji34) : Int).toNat, none⟩ (.int .i64 (wrap64 ((rd y172 (ji34)) + t166)))).heap[gb160]? = some (.cells #[.slice (some ⟨go33, 0, none⟩) x161000_1.length co58, .slice (some ⟨go39, 0, none⟩) x161001_1.length co65] 26 (0, 0))) := ⟨by (with_reducible repeat (first | refine blk_drewN ?_ _ | refine blk_drew ?_ | refine blk_alloc ?_ _)); refine blk_far ?_ (by have h_ := Kd.R_ne HO_161001.out BK160.out (by decide); intro e_; exact h_ (by rw [e_]; rfl)) _; exact bT_ BK160⟩
       have n5_ : Aside0 (Below w.heap.size w (w68.setCell ⟨go39, ((ji34) : Int).toNat, none⟩ (.int .i64 (wrap64 ((rd y172 (ji34)) + t166))))) := ⟨by repeat (first | (with_reducible first | exact HB.out | apply below_alloc | apply pw_below_drewN | apply below_drew1 | refine below_set ?_ GB39.out | refine below_set ?_ GE146.out | refine below_set ?_ GE147.out | refine below_set ?_ GE160.out) | exact HB.out)⟩
       (try clear HO_161000); (try clear HO_161001); (try clear BK146); (try clear BK147); (try clear BK160); (try clear HB)
       generalize (w68.setCell ⟨go39, ((ji34) : Int).toNat, none⟩ (.int .i64 (wrap64 ((rd y172 (ji34)) + t166)))) = w70 at n0_ n1_ n2_ n3_ n4_ n5_ ⊢
       have HO_161000 := n0_; have HO_161001 := n1_; have BK146 := n2_; have BK147 := n3_; have BK160 := n4_; have HB := n5_; clear n0_ n1_ n2_ n3_ n4_ n5_
       replace HO_161000 := Aside0.mk (Kd.R_drew HO_161000.out)
       replace HO_161001 := Aside0.mk (Kd.R_drew HO_161001.out)
       replace BK146 := Aside0.mk (blk_drew BK146.out)
       replace BK147 := Aside0.mk (blk_drew BK147.out)
       replace BK160 := Aside0.mk (blk_drew BK160.out)
       replace HB := Aside0.mk (below_drew1 HB.out)
       have p176 : 0 ≤ (x7_1 : Int) := of_decide_eq_true (by first | (with_reducible assumption) | assumption)
       have q176 : x7_1 < (l0_0.length : Int) := of_decide_eq_true (by first | (with_reducible assumption) | assumption)
       obtain ⟨ad176, e176, hx176_0⟩ := Kd.at_int HR0_0.out x7_1 p176 q176
       have hw176_0 := hx176_0
       obtain rfl : ad161 = ad176 := (by injection e176)
       replace hx176_0 := (HB.out.cell (World.block_lt_of_cell? w _ hx176_0)).trans hx176_0
       replace p176 := eq_true p176; replace q176 := eq_true q176
       have p177 : 0 ≤ ((ji42) : Int) := of_decide_eq_true (by first | (with_reducible assumption) | assumption)
       have q177 : (ji42) < (l1.length : Int) := of_decide_eq_true (by first | (with_reducible assumption) | assumption)
       obtain ⟨ad177, e177, hx177_0⟩ := Kd.at_int HR1.out (ji42) p177 q177
       have hw177_0 := hx177_0
       obtain rfl : ad163 = ad177 := (by injection e177)
       replace hx177_0 := (HB.out.cell (World.block_lt_of_cell? w _ hx177_0)).trans hx177_0
       replace p177 := eq_true p177; replace q177 := eq_true q177
       refine start_ (n := 12) (S := fun w' => w'.cell? ⟨gb146, 0, none⟩ = some (.slice (some ad161) l0_0.length c0_0) ∧ w'.cell? ⟨gb146, 1, none⟩ = some (.slice (some ad162) l0_1.length c0_1) ∧ w'.cell? (ad161.add (x7_1).toNat) = some (.int .i64 (rd l0_0 x7_1)) ∧ w'.cell? (ad163.add ((ji42)).toNat) = some (.int .i64 (rd l1 (ji42)))) (ds := []) #[false, false, false, false, false, false, false, false, false, false, false, false] (by kernel_rfl) rfl rfl ⟨(blk_cell BK146.out 0).trans rfl, (blk_cell BK146.out 1).trans rfl, ((HB.out.cell (World.block_lt_of_cell? w _ hw176_0)).trans hw176_0), ((HB.out.cell (World.block_lt_of_cell? w _ hw177_0)).trans hw177_0)⟩ (fun hHeld => ?_); refine with_tabW spec_l17Step.tab20 spec_l17Step.bits20 (fun HT_ HW_ => ?_)
       generalize w70.drew = w71 at HO_161000 HO_161001 BK146 BK147 BK160 HB HQ69 hx176_0 hx177_0 hHeld ⊢
       refine pT_ 0 (some 129) #[true, false, false, false, false, false, false, false, false, false, false, false] HT_ ?_
       refine pT_ 2 (some 131) #[true, false, true, false, false, false, false, false, false, false, false, false] HT_ ?_
       refine pT_ 5 (some 134) #[true, false, true, false, false, true, false, false, false, false, false, false] HT_ ?_
       refine pT_ 6 (some 135) #[true, false, true, false, false, true, true, false, false, false, false, false] HT_ ?_
       refine pT_ 7 (some 136) #[true, false, true, false, false, true, true, true, false, false, false, false] HT_ ?_
       refine tT_ 1 (some 130) #[true, true, true, false, false, true, true, true, false, false, false, false] HT_ HW_ hHeld ?_ (hy := by rintro w' ⟨s0, s1, s2, s3⟩; go_simp; with_reducible rfl)
       refine pT_ 3 (some 132) #[true, true, true, true, false, true, true, true, false, false, false, false] HT_ ?_
       refine tT_ 4 (some 133) #[true, true, true, true, true, true, true, true, false, false, false, false] HT_ HW_ hHeld ?_ (hy := by rintro w' ⟨s0, s1, s2, s3⟩; go_simp; with_reducible rfl)
       refine tT_ 8 (some 137) #[true, true, true, true, true, true, true, true, true, false, false, false] HT_ HW_ hHeld ?_ (hy := by rintro w' ⟨s0, s1, s2, s3⟩; go_simp; with_reducible rfl)
       refine pT_ 9 (some 138) #[true, true, true, true, true, true, true, true, true, true, false, false] HT_ ?_
       refine pT_ 10 (some 139) #[true, true, true, true, true, true, true, true, true, true, true, false] HT_ ?_
       refine pT_ 11 (some 14) #[true, true, true, true, true, true, true, true, true, true, true, true] HT_ ?_
       refine done_ (done_of HT_.out (by kernel_rfl)) ?_
       try go_wp2_with (first | ((with_reducible refine gate_callee (f := 39) rfl ?_); refine goesL_ (some 143) rfl rfl Try.func39 (by kernel_rfl) rfl #[.int .i64 (wrap64 ((rd l0_1 x7_1) - t166)), .int .i64 (wrap64 (Int.tdiv (wrap64 ((rd l0_0 x7_1) * (rd l1 (ji42)))) 256)), .int .i64 (wrap64 ((rd l0_0 x7_1) - (wrap64 (Int.tdiv (wrap64 ((rd l0_0 x7_1) * (wrap64 (-(rd l1 x7_1))))) 256))))] rfl (by (try simp only [List.map_toArray, List.map_cons, List.map_nil]); first | done | (simp only [hji42]; rfl) | rfl | (simp only [List.length_drop, List.length_take]; rfl)) ?_; (with_reducible refine (spec_l17Part.calls (wrap64 ((rd l0_1 x7_1) - t166)) (wrap64 (Int.tdiv (wrap64 ((rd l0_0 x7_1) * (rd l1 (ji42)))) 256)) (wrap64 ((rd l0_0 x7_1) - (wrap64 (Int.tdiv (wrap64 ((rd l0_0 x7_1) * (wrap64 (-(rd l1 x7_1))))) 256)))) t178 _ A46.out).mono ?_); rintro e w' ⟨rfl, ⟨nd, rfl⟩⟩; refine ⟨_, rfl, ?_⟩; (try (rw [drewN_self w71]; generalize hq_ : World.drewN w71 _ = w71; have n0_ : Aside0 (Kd.R (Kd.int .i64) 2 w71 w.heap.size (fun k_ => some k_ ≠ (.slice (some ⟨go39, 0, none⟩) x161001_1.length co65 : Value).ownBlock) (.slice (some ⟨go33, 0, none⟩) x161000_1.length co58) y170) := ⟨by rw [← hq_]; exact (rT_ HO_161000)⟩; have n1_ : Aside0 (Kd.R (Kd.int .i64) 2 w71 w.heap.size (fun k_ => some k_ ≠ (.slice (some ⟨go33, 0, none⟩) x161000_1.length co58 : Value).ownBlock) (.slice (some ⟨go39, 0, none⟩) x161001_1.length co65) y174) := ⟨by rw [← hq_]; exact (rT_ HO_161001)⟩; have n2_ : Aside0 (w71.heap[gb146]? = some (.cells #[.slice (some ad161) l0_0.length c0_0, .slice (some ad162) l0_1.length c0_1] 26 (0, 0))) := ⟨by rw [← hq_]; exact (bT_ BK146)⟩; have n3_ : Aside0 (w71.heap[gb147]? = some (.cells #[.slice none 0 0, .slice none 0 0] 26 (0, 0))) := ⟨by rw [← hq_]; exact (bT_ BK147)⟩; have n4_ : Aside0 (w71.heap[gb160]? = some (.cells #[.slice (some ⟨go33, 0, none⟩) x161000_1.length co58, .slice (some ⟨go39, 0, none⟩) x161001_1.length co65] 26 (0, 0))) := ⟨by rw [← hq_]; exact (bT_ BK160)⟩; have n5_ : Aside0 (Below w.heap.size w w71) := ⟨by rw [← hq_]; exact (by repeat (first | (with_reducible first | exact HB.out | apply below_alloc | apply pw_below_drewN | apply below_drew1 | refine below_set ?_ GE146.out | refine below_set ?_ GE147.out | refine below_set ?_ GE160.out) | exact HB.out))⟩; clear HO_161000 HO_161001 BK146 BK147 BK160 HB hq_; have HO_161000 := n0_; have HO_161001 := n1_; have BK146 := n2_; have BK147 := n3_; have BK160 := n4_; have HB := n5_; clear n0_ n1_ n2_ n3_ n4_ n5_))))
       replace HO_161000 := Aside0.mk (Kd.R_drew HO_161000.out)
       replace HO_161001 := Aside0.mk (Kd.R_drew HO_161001.out)
       replace BK146 := Aside0.mk (blk_drew BK146.out)
       replace BK147 := Aside0.mk (blk_drew BK147.out)
       replace BK160 := Aside0.mk (blk_drew BK160.out)
       replace HB := Aside0.mk (below_drew1 HB.out)
       have p179 : 0 ≤ (x7_1 : Int) := of_decide_eq_true (by first | (with_reducible assumption) | assumption)
       have q179 : x7_1 < (y170.length : Int) := (by have h_ : (x7_1 : Int) < ((x161000_1.length : Int) : Int) := of_decide_eq_true (by first | (with_reducible assumption) | assumption); first | (have e_ := (Kd.R_reads' HO_161000.out).1; omega) | simpa only [Ny168.out, Ny170.out, List.length_set] using h_)
       have ql179 : ((x7_1 : Int) < ((x161000_1.length : Int) : Int)) = True := eq_true (of_decide_eq_true (by first | (with_reducible assumption) | assumption))
       obtain ⟨ad179, e179, hx179_0⟩ := Kd.at_int (Kd.R_reads' HO_161000.out).2.2 x7_1 p179 q179
       obtain rfl : (⟨go33, 0, none⟩ : Addr) = ad179 := (by injection e179)
       (first | simp only [add_plain] at hx179_0 | simp only [add_at] at hx179_0 | simp only [Addr.add, Nat.zero_add] at hx179_0 | skip)
       replace p179 := eq_true p179; replace q179 := eq_true q179
       have p47 : 0 ≤ (x7_1 : Int) := of_decide_eq_true (by first | (with_reducible assumption) | assumption)
       have q47 : (x7_1 : Int) < ((x161000_1.length : Int) : Int) := of_decide_eq_true (by first | (with_reducible assumption) | assumption)
       obtain ⟨hx47_0, hf47_0⟩ := Kd.R_celln 0 HO_161000.out (x7_1 : Int) p47 q47
       replace p47 := eq_true p47; replace q47 := eq_true q47
       have HP73 := Kd.R_putn HO_161000.out (x7_1 : Int) (wrap64 ((rd y170 x7_1) - (wrap64 (Int.tdiv (wrap64 ((rd l0_0 x7_1) * (rd l1 (ji42)))) 256))))
       rw [← Ny180.out] at HP73
       have HQ73 := Aside0.mk HP73; clear HP73
       refine start_ (n := 12) (S := fun w' => w'.cell? ⟨gb160, 0, none⟩ = some (.slice (some ⟨go33, 0, none⟩) x161000_1.length co58) ∧ w'.cell? ⟨gb160, 1, none⟩ = some (.slice (some ⟨go39, 0, none⟩) x161001_1.length co65) ∧ w'.cell? ⟨go33, (x7_1).toNat, none⟩ = some (.int .i64 (rd y170 x7_1))) (ds := [11]) #[false, false, false, false, false, false, false, false, false, false, false, false] (by kernel_rfl) rfl rfl ⟨(blk_cell BK160.out 0).trans rfl, (blk_cell BK160.out 1).trans rfl, hx179_0⟩ (fun hHeld => ?_); refine with_tabW spec_l17Step.tab22 spec_l17Step.bits22 (fun HT_ HW_ => ?_)
       generalize w71.drew = w72 at HO_161000 HO_161001 BK146 BK147 BK160 HB HQ73 hf47_0 hx179_0 hx47_0 hHeld ⊢
       refine pT_ 0 (some 144) #[true, false, false, false, false, false, false, false, false, false, false, false] HT_ ?_
       refine pT_ 2 (some 146) #[true, false, true, false, false, false, false, false, false, false, false, false] HT_ ?_
       refine pT_ 3 (some 147) #[true, false, true, true, false, false, false, false, false, false, false, false] HT_ ?_
       refine pT_ 5 (some 149) #[true, false, true, true, false, true, false, false, false, false, false, false] HT_ ?_
       refine pT_ 8 (some 152) #[true, false, true, true, false, true, false, false, true, false, false, false] HT_ ?_
       refine tT_ 1 (some 145) #[true, true, true, true, false, true, false, false, true, false, false, false] HT_ HW_ hHeld ?_ (hy := by rintro w' ⟨s0, s1, s2⟩; go_simp; with_reducible rfl)
       refine tT_ 4 (some 148) #[true, true, true, true, true, true, false, false, true, false, false, false] HT_ HW_ hHeld ?_ (hy := by rintro w' ⟨s0, s1, s2⟩; go_simp; with_reducible rfl)
       refine pT_ 6 (some 150) #[true, true, true, true, true, true, true, false, true, false, false, false] HT_ ?_
       refine tT_ 7 (some 151) #[true, true, true, true, true, true, true, true, true, false, false, false] HT_ HW_ hHeld ?_ (hy := by rintro w' ⟨s0, s1, s2⟩; go_simp; with_reducible rfl)
       refine pT_ 9 (some 153) #[true, true, true, true, true, true, true, true, true, true, false, false] HT_ ?_
       refine pT_ 10 (some 154) #[true, true, true, true, true, true, true, true, true, true, true, false] HT_ ?_
       refine last_ (i := 11) (N := none) #[true, true, true, true, true, true, true, true, true, true, true, true] rfl rfl (one_of HT_.out (by kernel_rfl)) (by decide) (fun K hK => ?_)
       refine skip_ (w1 := ?_) (by rfl) rfl ?_ ?_
       rotate_left
       ·go_simp
        rfl
       refine hK.out _ _ ?_
       clear hK K
       refine done_ (done_of HT_.out (by kernel_rfl)) ?_
       try go_wp2
       have n0_ : Aside0 (Kd.R (Kd.int .i64) 2 (w72.setCell ⟨go33, (x7_1 : Int).toNat, none⟩ (.int .i64 (wrap64 ((rd y170 x7_1) - (wrap64 (Int.tdiv (wrap64 ((rd l0_0 x7_1) * (rd l1 (ji42)))) 256)))))) w.heap.size (fun k_ => some k_ ≠ (.slice (some ⟨go39, 0, none⟩) x161001_1.length co65 : Value).ownBlock) (.slice (some ⟨go33, 0, none⟩) x161000_1.length co58) y180) := ⟨by (with_reducible repeat (first | apply Kd.R_alloc | apply Kd.R_drewN | apply Kd.R_drew)); exact HQ73.out⟩
       have n1_ : Aside0 (Kd.R (Kd.int .i64) 2 (w72.setCell ⟨go33, (x7_1 : Int).toNat, none⟩ (.int .i64 (wrap64 ((rd y170 x7_1) - (wrap64 (Int.tdiv (wrap64 ((rd l0_0 x7_1) * (rd l1 (ji42)))) 256)))))) w.heap.size (fun k_ => some k_ ≠ (.slice (some ⟨go33, 0, none⟩) x161000_1.length co58 : Value).ownBlock) (.slice (some ⟨go39, 0, none⟩) x161001_1.length co65) y174) := ⟨by (with_reducible repeat (first | apply Kd.R_alloc | apply Kd.R_drewN | apply Kd.R_drew)); exact Kd.R_mono (Kd.R_far (p := ⟨go33, (x7_1 : Int).toNat, none⟩) (Kd.R_mono HO_161001.out (fun k_ hk => (⟨hk, fun e_ => hk (by rw [e_]; rfl)⟩ : _ ∧ k_ ≠ go33))) (fun _ hk => hk.2) (.int .i64 (wrap64 ((rd y170 x7_1) - (wrap64 (Int.tdiv (wrap64 ((rd l0_0 x7_1) * (rd l1 (ji42)))) 256)))))) (fun _ hk => hk.1)⟩
       have n2_ : Aside0 ((w72.setCell ⟨go33, (x7_1 : Int).toNat, none⟩ (.int .i64 (wrap64 ((rd y170 x7_1) - (wrap64 (Int.tdiv (wrap64 ((rd l0_0 x7_1) * (rd l1 (ji42)))) 256)))))).heap[gb146]? = some (.cells #[.slice (some ad161) l0_0.length c0_0, .slice (some ad162) l0_1.length c0_1] 26 (0, 0))) := ⟨by (with_reducible repeat (first | refine blk_drewN ?_ _ | refine blk_drew ?_ | refine blk_alloc ?_ _)); refine blk_far ?_ (by have h_ := Kd.R_ne HO_161000.out BK146.out (by decide); intro e_; exact h_ (by rw [e_]; rfl)) _; exact bT_ BK146⟩
       have n3_ : Aside0 ((w72.setCell ⟨go33, (x7_1 : Int).toNat, none⟩ (.int .i64 (wrap64 ((rd y170 x7_1) - (wrap64 (Int.tdiv (wrap64 ((rd l0_0 x7_1) * (rd l1 (ji42)))) 256)))))).heap[gb147]? = some (.cells #[.slice none 0 0, .slice none 0 0] 26 (0, 0))) := ⟨by (with_reducible repeat (first | refine blk_drewN ?_ _ | refine blk_drew ?_ | refine blk_alloc ?_ _)); refine blk_far ?_ (by have h_ := Kd.R_ne HO_161000.out BK147.out (by decide); intro e_; exact h_ (by rw [e_]; rfl)) _; exact bT_ BK147⟩
       have n4_ : Aside0 ((w72.setCell ⟨go33, (x7_1 : Int).toNat, none⟩ (.int .i64 (wrap64 ((rd y170 x7_1) - (wrap64 (Int.tdiv (wrap64 ((rd l0_0 x7_1) * (rd l1 (ji42)))) 256)))))).heap[gb160]? = some (.cells #[.slice (some ⟨go33, 0, none⟩) x161000_1.length co58, .slice (some ⟨go39, 0, none⟩) x161001_1.length co65] 26 (0, 0))) := ⟨by (with_reducible repeat (first | refine blk_drewN ?_ _ | refine blk_drew ?_ | refine blk_alloc ?_ _)); refine blk_far ?_ (by have h_ := Kd.R_ne HO_161000.out BK160.out (by decide); intro e_; exact h_ (by rw [e_]; rfl)) _; exact bT_ BK160⟩
       have n5_ : Aside0 (Below w.heap.size w (w72.setCell ⟨go33, (x7_1 : Int).toNat, none⟩ (.int .i64 (wrap64 ((rd y170 x7_1) - (wrap64 (Int.tdiv (wrap64 ((rd l0_0 x7_1) * (rd l1 (ji42)))) 256))))))) := ⟨by repeat (first | (with_reducible first | exact HB.out | apply below_alloc | apply pw_below_drewN | apply below_drew1 | refine below_set ?_ GB33.out | refine below_set ?_ GE146.out | refine below_set ?_ GE147.out | refine below_set ?_ GE160.out) | exact HB.out)⟩
       (try clear HO_161000); (try clear HO_161001); (try clear BK146); (try clear BK147); (try clear BK160); (try clear HB)
       generalize (w72.setCell ⟨go33, (x7_1 : Int).toNat, none⟩ (.int .i64 (wrap64 ((rd y170 x7_1) - (wrap64 (Int.tdiv (wrap64 ((rd l0_0 x7_1) * (rd l1 (ji42)))) 256)))))) = w74 at n0_ n1_ n2_ n3_ n4_ n5_ ⊢
       have HO_161000 := n0_; have HO_161001 := n1_; have BK146 := n2_; have BK147 := n3_; have BK160 := n4_; have HB := n5_; clear n0_ n1_ n2_ n3_ n4_ n5_
       replace HO_161000 := Aside0.mk (Kd.R_drew HO_161000.out)
       replace HO_161001 := Aside0.mk (Kd.R_drew HO_161001.out)
       replace BK146 := Aside0.mk (blk_drew BK146.out)
       replace BK147 := Aside0.mk (blk_drew BK147.out)
       replace BK160 := Aside0.mk (blk_drew BK160.out)
       replace HB := Aside0.mk (below_drew1 HB.out)
       have p181 : 0 ≤ ((ji42) : Int) := of_decide_eq_true (by first | (with_reducible assumption) | assumption)
       have q181 : (ji42) < (y180.length : Int) := (by have h_ : ((ji42) : Int) < ((x161000_1.length : Int) : Int) := of_decide_eq_true (by first | (with_reducible assumption) | assumption); first | (have e_ := (Kd.R_reads' HO_161000.out).1; omega) | simpa only [Ny168.out, Ny170.out, Ny180.out, List.length_set] using h_)
       have ql181 : (((ji42) : Int) < ((x161000_1.length : Int) : Int)) = True := eq_true (of_decide_eq_true (by first | (with_reducible assumption) | assumption))
       obtain ⟨ad181, e181, hx181_0⟩ := Kd.at_int (Kd.R_reads' HO_161000.out).2.2 (ji42) p181 q181
       obtain rfl : (⟨go33, 0, none⟩ : Addr) = ad181 := (by injection e181)
       (first | simp only [add_plain] at hx181_0 | simp only [add_at] at hx181_0 | simp only [Addr.add, Nat.zero_add] at hx181_0 | skip)
       replace p181 := eq_true p181; replace q181 := eq_true q181
       have p49 : 0 ≤ ((ji42) : Int) := of_decide_eq_true (by first | (with_reducible assumption) | assumption)
       have q49 : ((ji42) : Int) < ((x161000_1.length : Int) : Int) := of_decide_eq_true (by first | (with_reducible assumption) | assumption)
       obtain ⟨hx49_0, hf49_0⟩ := Kd.R_celln 0 HO_161000.out ((ji42) : Int) p49 q49
       replace p49 := eq_true p49; replace q49 := eq_true q49
       have HP76 := Kd.R_putn HO_161000.out ((ji42) : Int) (wrap64 ((rd y180 (ji42)) + (wrap64 (Int.tdiv (wrap64 ((rd l0_0 x7_1) * (rd l1 (ji42)))) 256))))
       rw [← Ny182.out] at HP76
       have HQ76 := Aside0.mk HP76; clear HP76
       refine start_ (n := 12) (S := fun w' => w'.cell? ⟨gb160, 0, none⟩ = some (.slice (some ⟨go33, 0, none⟩) x161000_1.length co58) ∧ w'.cell? ⟨gb160, 1, none⟩ = some (.slice (some ⟨go39, 0, none⟩) x161001_1.length co65) ∧ w'.cell? ⟨go33, ((ji42)).toNat, none⟩ = some (.int .i64 (rd y180 (ji42)))) (ds := [11]) #[false, false, false, false, false, false, false, false, false, false, false, false] (by kernel_rfl) rfl rfl ⟨(blk_cell BK160.out 0).trans rfl, (blk_cell BK160.out 1).trans rfl, hx181_0⟩ (fun hHeld => ?_); refine with_tabW spec_l17Step.tab23 spec_l17Step.bits23 (fun HT_ HW_ => ?_)
       generalize w74.drew = w75 at HO_161000 HO_161001 BK146 BK147 BK160 HB HQ73 HQ76 hf49_0 hx181_0 hx49_0 hHeld ⊢
       refine pT_ 0 (some 155) #[true, false, false, false, false, false, false, false, false, false, false, false] HT_ ?_
       refine pT_ 2 (some 157) #[true, false, true, false, false, false, false, false, false, false, false, false] HT_ ?_
       refine pT_ 3 (some 158) #[true, false, true, true, false, false, false, false, false, false, false, false] HT_ ?_
       refine pT_ 5 (some 160) #[true, false, true, true, false, true, false, false, false, false, false, false] HT_ ?_
       refine pT_ 8 (some 163) #[true, false, true, true, false, true, false, false, true, false, false, false] HT_ ?_
       refine tT_ 1 (some 156) #[true, true, true, true, false, true, false, false, true, false, false, false] HT_ HW_ hHeld ?_ (hy := by rintro w' ⟨s0, s1, s2⟩; go_simp; with_reducible rfl)
       refine tT_ 4 (some 159) #[true, true, true, true, true, true, false, false, true, false, false, false] HT_ HW_ hHeld ?_ (hy := by rintro w' ⟨s0, s1, s2⟩; go_simp; with_reducible rfl)
       refine pT_ 6 (some 161) #[true, true, true, true, true, true, true, false, true, false, false, false] HT_ ?_
       refine tT_ 7 (some 162) #[true, true, true, true, true, true, true, true, true, false, false, false] HT_ HW_ hHeld ?_ (hy := by rintro w' ⟨s0, s1, s2⟩; go_simp; with_reducible rfl)
       refine pT_ 9 (some 164) #[true, true, true, true, true, true, true, true, true, true, false, false] HT_ ?_
       refine pT_ 10 (some 165) #[true, true, true, true, true, true, true, true, true, true, true, false] HT_ ?_
       refine last_ (i := 11) (N := none) #[true, true, true, true, true, true, true, true, true, true, true, true] rfl rfl (one_of HT_.out (by kernel_rfl)) (by decide) (fun K hK => ?_)
       refine skip_ (w1 := ?_) (by rfl) rfl ?_ ?_
       rotate_left
       ·go_simp
        rfl
       refine hK.out _ _ ?_
       clear hK K
       refine done_ (done_of HT_.out (by kernel_rfl)) ?_
       try go_wp2
       have n0_ : Aside0 (Kd.R (Kd.int .i64) 2 (w75.setCell ⟨go33, ((ji42) : Int).toNat, none⟩ (.int .i64 (wrap64 ((rd y180 (ji42)) + (wrap64 (Int.tdiv (wrap64 ((rd l0_0 x7_1) * (rd l1 (ji42)))) 256)))))) w.heap.size (fun k_ => some k_ ≠ (.slice (some ⟨go39, 0, none⟩) x161001_1.length co65 : Value).ownBlock) (.slice (some ⟨go33, 0, none⟩) x161000_1.length co58) y182) := ⟨by (with_reducible repeat (first | apply Kd.R_alloc | apply Kd.R_drewN | apply Kd.R_drew)); exact HQ76.out⟩
       have n1_ : Aside0 (Kd.R (Kd.int .i64) 2 (w75.setCell ⟨go33, ((ji42) : Int).toNat, none⟩ (.int .i64 (wrap64 ((rd y180 (ji42)) + (wrap64 (Int.tdiv (wrap64 ((rd l0_0 x7_1) * (rd l1 (ji42)))) 256)))))) w.heap.size (fun k_ => some k_ ≠ (.slice (some ⟨go33, 0, none⟩) x161000_1.length co58 : Value).ownBlock) (.slice (some ⟨go39, 0, none⟩) x161001_1.length co65) y174) := ⟨by (with_reducible repeat (first | apply Kd.R_alloc | apply Kd.R_drewN | apply Kd.R_drew)); exact Kd.R_mono (Kd.R_far (p := ⟨go33, ((ji42) : Int).toNat, none⟩) (Kd.R_mono HO_161001.out (fun k_ hk => (⟨hk, fun e_ => hk (by rw [e_]; rfl)⟩ : _ ∧ k_ ≠ go33))) (fun _ hk => hk.2) (.int .i64 (wrap64 ((rd y180 (ji42)) + (wrap64 (Int.tdiv (wrap64 ((rd l0_0 x7_1) * (rd l1 (ji42)))) 256)))))) (fun _ hk => hk.1)⟩
       have n2_ : Aside0 ((w75.setCell ⟨go33, ((ji42) : Int).toNat, none⟩ (.int .i64 (wrap64 ((rd y180 (ji42)) + (wrap64 (Int.tdiv (wrap64 ((rd l0_0 x7_1) * (rd l1 (ji42)))) 256)))))).heap[gb146]? = some (.cells #[.slice (some ad161) l0_0.length c0_0, .slice (some ad162) l0_1.length c0_1] 26 (0, 0))) := ⟨by (with_reducible repeat (first | refine blk_drewN ?_ _ | refine blk_drew ?_ | refine blk_alloc ?_ _)); refine blk_far ?_ (by have h_ := Kd.R_ne HO_161000.out BK146.out (by decide); intro e_; exact h_ (by rw [e_]; rfl)) _; exact bT_ BK146⟩
       have n3_ : Aside0 ((w75.setCell ⟨go33, ((ji42) : Int).toNat, none⟩ (.int .i64 (wrap64 ((rd y180 (ji42)) + (wrap64 (Int.tdiv (wrap64 ((rd l0_0 x7_1) * (rd l1 (ji42)))) 256)))))).heap[gb147]? = some (.cells #[.slice none 0 0, .slice none 0 0] 26 (0, 0))) := ⟨by (with_reducible repeat (first | refine blk_drewN ?_ _ | refine blk_drew ?_ | refine blk_alloc ?_ _)); refine blk_far ?_ (by have h_ := Kd.R_ne HO_161000.out BK147.out (by decide); intro e_; exact h_ (by rw [e_]; rfl)) _; exact bT_ BK147⟩
       have n4_ : Aside0 ((w75.setCell ⟨go33, ((ji42) : Int).toNat, none⟩ (.int .i64 (wrap64 ((rd y180 (ji42)) + (wrap64 (Int.tdiv (wrap64 ((rd l0_0 x7_1) * (rd l1 (ji42)))) 256)))))).heap[gb160]? = some (.cells #[.slice (some ⟨go33, 0, none⟩) x161000_1.length co58, .slice (some ⟨go39, 0, none⟩) x161001_1.length co65] 26 (0, 0))) := ⟨by (with_reducible repeat (first | refine blk_drewN ?_ _ | refine blk_drew ?_ | refine blk_alloc ?_ _)); refine blk_far ?_ (by have h_ := Kd.R_ne HO_161000.out BK160.out (by decide); intro e_; exact h_ (by rw [e_]; rfl)) _; exact bT_ BK160⟩
       have n5_ : Aside0 (Below w.heap.size w (w75.setCell ⟨go33, ((ji42) : Int).toNat, none⟩ (.int .i64 (wrap64 ((rd y180 (ji42)) + (wrap64 (Int.tdiv (wrap64 ((rd l0_0 x7_1) * (rd l1 (ji42)))) 256))))))) := ⟨by repeat (first | (with_reducible first | exact HB.out | apply below_alloc | apply pw_below_drewN | apply below_drew1 | refine below_set ?_ GB33.out | refine below_set ?_ GE146.out | refine below_set ?_ GE147.out | refine below_set ?_ GE160.out) | exact HB.out)⟩
       (try clear HO_161000); (try clear HO_161001); (try clear BK146); (try clear BK147); (try clear BK160); (try clear HB)
       generalize (w75.setCell ⟨go33, ((ji42) : Int).toNat, none⟩ (.int .i64 (wrap64 ((rd y180 (ji42)) + (wrap64 (Int.tdiv (wrap64 ((rd l0_0 x7_1) * (rd l1 (ji42)))) 256)))))) = w77 at n0_ n1_ n2_ n3_ n4_ n5_ ⊢
       have HO_161000 := n0_; have HO_161001 := n1_; have BK146 := n2_; have BK147 := n3_; have BK160 := n4_; have HB := n5_; clear n0_ n1_ n2_ n3_ n4_ n5_
       replace HO_161000 := Aside0.mk (Kd.R_drew HO_161000.out)
       replace HO_161001 := Aside0.mk (Kd.R_drew HO_161001.out)
       replace BK146 := Aside0.mk (blk_drew BK146.out)
       replace BK147 := Aside0.mk (blk_drew BK147.out)
       replace BK160 := Aside0.mk (blk_drew BK160.out)
       replace HB := Aside0.mk (below_drew1 HB.out)
       have p183 : 0 ≤ (x7_1 : Int) := of_decide_eq_true (by first | (with_reducible assumption) | assumption)
       have q183 : x7_1 < (y174.length : Int) := (by have h_ : (x7_1 : Int) < ((x161001_1.length : Int) : Int) := of_decide_eq_true (by first | (with_reducible assumption) | assumption); first | (have e_ := (Kd.R_reads' HO_161001.out).1; omega) | simpa only [Ny172.out, Ny174.out, List.length_set] using h_)
       have ql183 : ((x7_1 : Int) < ((x161001_1.length : Int) : Int)) = True := eq_true (of_decide_eq_true (by first | (with_reducible assumption) | assumption))
       obtain ⟨ad183, e183, hx183_0⟩ := Kd.at_int (Kd.R_reads' HO_161001.out).2.2 x7_1 p183 q183
       obtain rfl : (⟨go39, 0, none⟩ : Addr) = ad183 := (by injection e183)
       (first | simp only [add_plain] at hx183_0 | simp only [add_at] at hx183_0 | simp only [Addr.add, Nat.zero_add] at hx183_0 | skip)
       replace p183 := eq_true p183; replace q183 := eq_true q183
       have p50 : 0 ≤ (x7_1 : Int) := of_decide_eq_true (by first | (with_reducible assumption) | assumption)
       have q50 : (x7_1 : Int) < ((x161001_1.length : Int) : Int) := of_decide_eq_true (by first | (with_reducible assumption) | assumption)
       obtain ⟨hx50_0, hf50_0⟩ := Kd.R_celln 0 HO_161001.out (x7_1 : Int) p50 q50
       replace p50 := eq_true p50; replace q50 := eq_true q50
       have HP79 := Kd.R_putn HO_161001.out (x7_1 : Int) (wrap64 ((rd y174 x7_1) - t178))
       rw [← Ny184.out] at HP79
       have HQ79 := Aside0.mk HP79; clear HP79
       refine start_ (n := 12) (S := fun w' => w'.cell? ⟨gb160, 0, none⟩ = some (.slice (some ⟨go33, 0, none⟩) x161000_1.length co58) ∧ w'.cell? ⟨gb160, 1, none⟩ = some (.slice (some ⟨go39, 0, none⟩) x161001_1.length co65) ∧ w'.cell? ⟨go39, (x7_1).toNat, none⟩ = some (.int .i64 (rd y174 x7_1))) (ds := [11]) #[false, false, false, false, false, false, false, false, false, false, false, false] (by kernel_rfl) rfl rfl ⟨(blk_cell BK160.out 0).trans rfl, (blk_cell BK160.out 1).trans rfl, hx183_0⟩ (fun hHeld => ?_); refine with_tabW spec_l17Step.tab24 spec_l17Step.bits24 (fun HT_ HW_ => ?_)
       generalize w77.drew = w78 at HO_161000 HO_161001 BK146 BK147 BK160 HB HQ76 HQ79 hf50_0 hx183_0 hx50_0 hHeld ⊢
       refine pT_ 0 (some 166) #[true, false, false, false, false, false, false, false, false, false, false, false] HT_ ?_
       refine pT_ 2 (some 168) #[true, false, true, false, false, false, false, false, false, false, false, false] HT_ ?_
       refine pT_ 3 (some 169) #[true, false, true, true, false, false, false, false, false, false, false, false] HT_ ?_
       refine pT_ 5 (some 171) #[true, false, true, true, false, true, false, false, false, false, false, false] HT_ ?_
       refine pT_ 8 (some 174) #[true, false, true, true, false, true, false, false, true, false, false, false] HT_ ?_
       refine tT_ 1 (some 167) #[true, true, true, true, false, true, false, false, true, false, false, false] HT_ HW_ hHeld ?_ (hy := by rintro w' ⟨s0, s1, s2⟩; go_simp; with_reducible rfl)
       refine tT_ 4 (some 170) #[true, true, true, true, true, true, false, false, true, false, false, false] HT_ HW_ hHeld ?_ (hy := by rintro w' ⟨s0, s1, s2⟩; go_simp; with_reducible rfl)
       refine pT_ 6 (some 172) #[true, true, true, true, true, true, true, false, true, false, false, false] HT_ ?_
       refine tT_ 7 (some 173) #[true, true, true, true, true, true, true, true, true, false, false, false] HT_ HW_ hHeld ?_ (hy := by rintro w' ⟨s0, s1, s2⟩; go_simp; with_reducible rfl)
       refine pT_ 9 (some 175) #[true, true, true, true, true, true, true, true, true, true, false, false] HT_ ?_
       refine pT_ 10 (some 176) #[true, true, true, true, true, true, true, true, true, true, true, false] HT_ ?_
       refine last_ (i := 11) (N := none) #[true, true, true, true, true, true, true, true, true, true, true, true] rfl rfl (one_of HT_.out (by kernel_rfl)) (by decide) (fun K hK => ?_)
       refine skip_ (w1 := ?_) (by rfl) rfl ?_ ?_
       rotate_left
       ·go_simp
        rfl
       refine hK.out _ _ ?_
       clear hK K
       refine done_ (done_of HT_.out (by kernel_rfl)) ?_
       try go_wp2
       have n0_ : Aside0 (Kd.R (Kd.int .i64) 2 (w78.setCell ⟨go39, (x7_1 : Int).toNat, none⟩ (.int .i64 (wrap64 ((rd y174 x7_1) - t178)))) w.heap.size (fun k_ => some k_ ≠ (.slice (some ⟨go39, 0, none⟩) x161001_1.length co65 : Value).ownBlock) (.slice (some ⟨go33, 0, none⟩) x161000_1.length co58) y182) := ⟨by (with_reducible repeat (first | apply Kd.R_alloc | apply Kd.R_drewN | apply Kd.R_drew)); exact Kd.R_mono (Kd.R_far (p := ⟨go39, (x7_1 : Int).toNat, none⟩) (Kd.R_mono HO_161000.out (fun k_ hk => (⟨hk, fun e_ => hk (by rw [e_]; rfl)⟩ : _ ∧ k_ ≠ go39))) (fun _ hk => hk.2) (.int .i64 (wrap64 ((rd y174 x7_1) - t178)))) (fun _ hk => hk.1)⟩
       have n1_ : Aside0 (Kd.R (Kd.int .i64) 2 (w78.setCell ⟨go39, (x7_1 : Int).toNat, none⟩ (.int .i64 (wrap64 ((rd y174 x7_1) - t178)))) w.heap.size (fun k_ => some k_ ≠ (.slice (some ⟨go33, 0, none⟩) x161000_1.length co58 : Value).ownBlock) (.slice (some ⟨go39, 0, none⟩) x161001_1.length co65) y184) := ⟨by (with_reducible repeat (first | apply Kd.R_alloc | apply Kd.R_drewN | apply Kd.R_drew)); exact HQ79.out⟩
       have n2_ : Aside0 ((w78.setCell ⟨go39, (x7_1 : Int).toNat, none⟩ (.int .i64 (wrap64 ((rd y174 x7_1) - t178)))).heap[gb146]? = some (.cells #[.slice (some ad161) l0_0.length c0_0, .slice (some ad162) l0_1.length c0_1] 26 (0, 0))) := ⟨by (with_reducible repeat (first | refine blk_drewN ?_ _ | refine blk_drew ?_ | refine blk_alloc ?_ _)); refine blk_far ?_ (by have h_ := Kd.R_ne HO_161001.out BK146.out (by decide); intro e_; exact h_ (by rw [e_]; rfl)) _; exact bT_ BK146⟩
       have n3_ : Aside0 ((w78.setCell ⟨go39, (x7_1 : Int).toNat, none⟩ (.int .i64 (wrap64 ((rd y174 x7_1) - t178)))).heap[gb147]? = some (.cells #[.slice none 0 0, .slice none 0 0] 26 (0, 0))) := ⟨by (with_reducible repeat (first | refine blk_drewN ?_ _ | refine blk_drew ?_ | refine blk_alloc ?_ _)); refine blk_far ?_ (by have h_ := Kd.R_ne HO_161001.out BK147.out (by decide); intro e_; exact h_ (by rw [e_]; rfl)) _; exact bT_ BK147⟩
       have n4_ : Aside0 ((w78.setCell ⟨go39, (x7_1 : Int).toNat, none⟩ (.int .i64 (wrap64 ((rd y174 x7_1) - t178)))).heap[gb160]? = some (.cells #[.slice (some ⟨go33, 0, none⟩) x161000_1.length co58, .slice (some ⟨go39, 0, none⟩) x161001_1.length co65] 26 (0, 0))) := ⟨by (with_reducible repeat (first | refine blk_drewN ?_ _ | refine blk_drew ?_ | refine blk_alloc ?_ _)); refine blk_far ?_ (by have h_ := Kd.R_ne HO_161001.out BK160.out (by decide); intro e_; exact h_ (by rw [e_]; rfl)) _; exact bT_ BK160⟩
       have n5_ : Aside0 (Below w.heap.size w (w78.setCell ⟨go39, (x7_1 : Int).toNat, none⟩ (.int .i64 (wrap64 ((rd y174 x7_1) - t178))))) := ⟨by repeat (first | (with_reducible first | exact HB.out | apply below_alloc | apply pw_below_drewN | apply below_drew1 | refine below_set ?_ GB39.out | refine below_set ?_ GE146.out | refine below_set ?_ GE147.out | refine below_set ?_ GE160.out) | exact HB.out)⟩
       (try clear HO_161000); (try clear HO_161001); (try clear BK146); (try clear BK147); (try clear BK160); (try clear HB)
       generalize (w78.setCell ⟨go39, (x7_1 : Int).toNat, none⟩ (.int .i64 (wrap64 ((rd y174 x7_1) - t178)))) = w80 at n0_ n1_ n2_ n3_ n4_ n5_ ⊢
       have HO_161000 := n0_; have HO_161001 := n1_; have BK146 := n2_; have BK147 := n3_; have BK160 := n4_; have HB := n5_; clear n0_ n1_ n2_ n3_ n4_ n5_
       replace HO_161000 := Aside0.mk (Kd.R_drew HO_161000.out)
       replace HO_161001 := Aside0.mk (Kd.R_drew HO_161001.out)
       replace BK146 := Aside0.mk (blk_drew BK146.out)
       replace BK147 := Aside0.mk (blk_drew BK147.out)
       replace BK160 := Aside0.mk (blk_drew BK160.out)
       replace HB := Aside0.mk (below_drew1 HB.out)
       have p185 : 0 ≤ ((ji42) : Int) := of_decide_eq_true (by first | (with_reducible assumption) | assumption)
       have q185 : (ji42) < (y184.length : Int) := (by have h_ : ((ji42) : Int) < ((x161001_1.length : Int) : Int) := of_decide_eq_true (by first | (with_reducible assumption) | assumption); first | (have e_ := (Kd.R_reads' HO_161001.out).1; omega) | simpa only [Ny172.out, Ny174.out, Ny184.out, List.length_set] using h_)
       have ql185 : (((ji42) : Int) < ((x161001_1.length : Int) : Int)) = True := eq_true (of_decide_eq_true (by first | (with_reducible assumption) | assumption))
       obtain ⟨ad185, e185, hx185_0⟩ := Kd.at_int (Kd.R_reads' HO_161001.out).2.2 (ji42) p185 q185
       obtain rfl : (⟨go39, 0, none⟩ : Addr) = ad185 := (by injection e185)
       (first | simp only [add_plain] at hx185_0 | simp only [add_at] at hx185_0 | simp only [Addr.add, Nat.zero_add] at hx185_0 | skip)
       replace p185 := eq_true p185; replace q185 := eq_true q185
       have p52 : 0 ≤ ((ji42) : Int) := of_decide_eq_true (by first | (with_reducible assumption) | assumption)
       have q52 : ((ji42) : Int) < ((x161001_1.length : Int) : Int) := of_decide_eq_true (by first | (with_reducible assumption) | assumption)
       obtain ⟨hx52_0, hf52_0⟩ := Kd.R_celln 0 HO_161001.out ((ji42) : Int) p52 q52
       replace p52 := eq_true p52; replace q52 := eq_true q52
       have HP82 := Kd.R_putn HO_161001.out ((ji42) : Int) (wrap64 ((rd y184 (ji42)) + t178))
       rw [← Ny186.out] at HP82
       have HQ82 := Aside0.mk HP82; clear HP82
       refine start_ (n := 12) (S := fun w' => w'.cell? ⟨gb160, 0, none⟩ = some (.slice (some ⟨go33, 0, none⟩) x161000_1.length co58) ∧ w'.cell? ⟨gb160, 1, none⟩ = some (.slice (some ⟨go39, 0, none⟩) x161001_1.length co65) ∧ w'.cell? ⟨go39, ((ji42)).toNat, none⟩ = some (.int .i64 (rd y184 (ji42)))) (ds := [11]) #[false, false, false, false, false, false, false, false, false, false, false, false] (by kernel_rfl) rfl rfl ⟨(blk_cell BK160.out 0).trans rfl, (blk_cell BK160.out 1).trans rfl, hx185_0⟩ (fun hHeld => ?_); refine with_tabW spec_l17Step.tab25 spec_l17Step.bits25 (fun HT_ HW_ => ?_)
       generalize w80.drew = w81 at HO_161000 HO_161001 BK146 BK147 BK160 HB HQ79 HQ82 hf52_0 hx185_0 hx52_0 hHeld ⊢
       refine pT_ 0 (some 177) #[true, false, false, false, false, false, false, false, false, false, false, false] HT_ ?_
       refine pT_ 2 (some 179) #[true, false, true, false, false, false, false, false, false, false, false, false] HT_ ?_
       refine pT_ 3 (some 180) #[true, false, true, true, false, false, false, false, false, false, false, false] HT_ ?_
       refine pT_ 5 (some 182) #[true, false, true, true, false, true, false, false, false, false, false, false] HT_ ?_
       refine pT_ 8 (some 185) #[true, false, true, true, false, true, false, false, true, false, false, false] HT_ ?_
       refine tT_ 1 (some 178) #[true, true, true, true, false, true, false, false, true, false, false, false] HT_ HW_ hHeld ?_ (hy := by rintro w' ⟨s0, s1, s2⟩; go_simp; with_reducible rfl)
       refine tT_ 4 (some 181) #[true, true, true, true, true, true, false, false, true, false, false, false] HT_ HW_ hHeld ?_ (hy := by rintro w' ⟨s0, s1, s2⟩; go_simp; with_reducible rfl)
       refine pT_ 6 (some 183) #[true, true, true, true, true, true, true, false, true, false, false, false] HT_ ?_
       refine tT_ 7 (some 184) #[true, true, true, true, true, true, true, true, true, false, false, false] HT_ HW_ hHeld ?_ (hy := by rintro w' ⟨s0, s1, s2⟩; go_simp; with_reducible rfl)
       refine pT_ 9 (some 186) #[true, true, true, true, true, true, true, true, true, true, false, false] HT_ ?_
       refine pT_ 10 (some 187) #[true, true, true, true, true, true, true, true, true, true, true, false] HT_ ?_
       refine last_ (i := 11) (N := none) #[true, true, true, true, true, true, true, true, true, true, true, true] rfl rfl (one_of HT_.out (by kernel_rfl)) (by decide) (fun K hK => ?_)
       refine skip_ (w1 := ?_) (by rfl) rfl ?_ ?_
       rotate_left
       ·go_simp
        rfl
       refine hK.out _ _ ?_
       clear hK K
       refine done_ (done_of HT_.out (by kernel_rfl)) ?_
       try go_wp2
       go_roundg k1
       case measure => have := HK1.out; omega
       case rel => exact ⟨(wrap64 (x7_1 + 1)), (y182), (y186), (.slice (some ⟨go33, 0, none⟩) x161000_1.length co58), (.slice (some ⟨go39, 0, none⟩) x161001_1.length co65), (by first | rfl | (simp; done) | (simp [*]; done)), H', ⟨by have := HK1.out; omega⟩, ⟨by (with_reducible repeat (first | apply Kd.R_alloc | apply Kd.R_drewN | apply Kd.R_drew)); exact Kd.R_mono (Kd.R_far (p := ⟨go39, ((ji42) : Int).toNat, none⟩) (Kd.R_mono HO_161000.out (fun k_ hk => (⟨hk, fun e_ => hk (by rw [e_]; rfl)⟩ : _ ∧ k_ ≠ go39))) (fun _ hk => hk.2) (.int .i64 (wrap64 ((rd y184 (ji42)) + t178)))) (fun _ hk => hk.1)⟩, ⟨by (with_reducible repeat (first | apply Kd.R_alloc | apply Kd.R_drewN | apply Kd.R_drew)); exact HQ82.out⟩, ⟨by (with_reducible repeat (first | refine blk_drewN ?_ _ | refine blk_drew ?_ | refine blk_alloc ?_ _)); refine blk_far ?_ (by have h_ := Kd.R_ne HO_161001.out BK146.out (by decide); intro e_; exact h_ (by rw [e_]; rfl)) _; exact bT_ BK146⟩, ⟨by (with_reducible repeat (first | refine blk_drewN ?_ _ | refine blk_drew ?_ | refine blk_alloc ?_ _)); refine blk_far ?_ (by have h_ := Kd.R_ne HO_161001.out BK147.out (by decide); intro e_; exact h_ (by rw [e_]; rfl)) _; exact bT_ BK147⟩, ⟨by (with_reducible repeat (first | refine blk_drewN ?_ _ | refine blk_drew ?_ | refine blk_alloc ?_ _)); refine blk_far ?_ (by have h_ := Kd.R_ne HO_161001.out BK160.out (by decide); intro e_; exact h_ (by rw [e_]; rfl)) _; exact bT_ BK160⟩, ⟨by repeat (first | (with_reducible first | exact HB.out | apply below_alloc | apply pw_below_drewN | apply below_drew1 | refine below_set ?_ GB39.out | refine below_set ?_ GE146.out | refine below_set ?_ GE147.out | refine below_set ?_ GE160.out) | exact HB.out)⟩⟩
      ·rw [if_neg c45] at H
       have c45b0 : decide (0 < (rd l1 (ji42))) = false := decide_eq_false c45
       clear c45; have H' := Aside0.mk H; clear H; have hnb83 := NB146_147.out; have hnc83 := NB147_146.out; have hnb84 := NB146_160.out; have hnc84 := NB160_146.out
       have hcz85_0 : wr.cell? ⟨gb146, 0, none⟩ = some (.slice A0_0 l0_0.length c0_0) := (blk_cell BK146.out 0).trans rfl
       have hcz85_1 : wr.cell? ⟨gb146, 1, none⟩ = some (.slice A0_1 l0_1.length c0_1) := (blk_cell BK146.out 1).trans rfl
       have hfz85_0 := blk_frozen BK146.out 0; have hfz85_1 := blk_frozen BK146.out 1
       have p161 : 0 ≤ (x7_1 : Int) := of_decide_eq_true (by first | (with_reducible assumption) | assumption)
       have q161 : x7_1 < (l0_0.length : Int) := of_decide_eq_true (by first | (with_reducible assumption) | assumption)
       obtain ⟨ad161, e161, hx161_0⟩ := Kd.at_int HR0_0.out x7_1 p161 q161
       cases e161
       replace hx161_0 := (HB.out.cell (World.block_lt_of_cell? w _ hx161_0)).trans hx161_0
       replace p161 := eq_true p161; replace q161 := eq_true q161
       have p162 : 0 ≤ (x7_1 : Int) := of_decide_eq_true (by first | (with_reducible assumption) | assumption)
       have q162 : x7_1 < (l0_1.length : Int) := of_decide_eq_true (by first | (with_reducible assumption) | assumption)
       obtain ⟨ad162, e162, hx162_0⟩ := Kd.at_int HR0_1.out x7_1 p162 q162
       cases e162
       replace hx162_0 := (HB.out.cell (World.block_lt_of_cell? w _ hx162_0)).trans hx162_0
       replace p162 := eq_true p162; replace q162 := eq_true q162
       have p163 : 0 ≤ (x7_1 : Int) := of_decide_eq_true (by first | (with_reducible assumption) | assumption)
       have q163 : x7_1 < (l1.length : Int) := of_decide_eq_true (by first | (with_reducible assumption) | assumption)
       obtain ⟨ad163, e163, hx163_0⟩ := Kd.at_int HR1.out x7_1 p163 q163
       cases e163
       replace hx163_0 := (HB.out.cell (World.block_lt_of_cell? w _ hx163_0)).trans hx163_0
       replace p163 := eq_true p163; replace q163 := eq_true q163
       try go_wp2
       replace HO_161000 := Aside0.mk (Kd.R_drew HO_161000.out)
       replace HO_161001 := Aside0.mk (Kd.R_drew HO_161001.out)
       replace BK146 := Aside0.mk (blk_drew BK146.out)
       replace BK147 := Aside0.mk (blk_drew BK147.out)
       replace BK160 := Aside0.mk (blk_drew BK160.out)
       replace HB := Aside0.mk (below_drew1 HB.out)
       have p164 : 0 ≤ (x7_1 : Int) := of_decide_eq_true (by first | (with_reducible assumption) | assumption)
       have q164 : x7_1 < (l0_0.length : Int) := of_decide_eq_true (by first | (with_reducible assumption) | assumption)
       obtain ⟨ad164, e164, hx164_0⟩ := Kd.at_int HR0_0.out x7_1 p164 q164
       have hw164_0 := hx164_0
       obtain rfl : ad161 = ad164 := (by injection e164)
       replace hx164_0 := (HB.out.cell (World.block_lt_of_cell? w _ hx164_0)).trans hx164_0
       replace p164 := eq_true p164; replace q164 := eq_true q164
       have p165 : 0 ≤ (x7_1 : Int) := of_decide_eq_true (by first | (with_reducible assumption) | assumption)
       have q165 : x7_1 < (l1.length : Int) := of_decide_eq_true (by first | (with_reducible assumption) | assumption)
       obtain ⟨ad165, e165, hx165_0⟩ := Kd.at_int HR1.out x7_1 p165 q165
       have hw165_0 := hx165_0
       obtain rfl : ad163 = ad165 := (by injection e165)
       replace hx165_0 := (HB.out.cell (World.block_lt_of_cell? w _ hx165_0)).trans hx165_0
       replace p165 := eq_true p165; replace q165 := eq_true q165
       refine start_ (n := 13) (S := fun w' => w'.cell? ⟨gb146, 0, none⟩ = some (.slice (some ad161) l0_0.length c0_0) ∧ w'.cell? ⟨gb146, 1, none⟩ = some (.slice (some ad162) l0_1.length c0_1) ∧ w'.cell? (ad161.add (x7_1).toNat) = some (.int .i64 (rd l0_0 x7_1)) ∧ w'.cell? (ad163.add (x7_1).toNat) = some (.int .i64 (rd l1 x7_1))) (ds := []) #[false, false, false, false, false, false, false, false, false, false, false, false, false] (by kernel_rfl) rfl rfl ⟨(blk_cell BK146.out 0).trans rfl, (blk_cell BK146.out 1).trans rfl, ((HB.out.cell (World.block_lt_of_cell? w _ hw164_0)).trans hw164_0), ((HB.out.cell (World.block_lt_of_cell? w _ hw165_0)).trans hw165_0)⟩ (fun hHeld => ?_); refine with_tabW spec_l17Step.tab11 spec_l17Step.bits11 (fun HT_ HW_ => ?_)
       generalize wr.drew = w86 at HO_161000 HO_161001 BK146 BK147 BK160 HB hx164_0 hx165_0 hHeld ⊢
       refine pT_ 0 (some 58) #[true, false, false, false, false, false, false, false, false, false, false, false, false] HT_ ?_
       refine pT_ 2 (some 60) #[true, false, true, false, false, false, false, false, false, false, false, false, false] HT_ ?_
       refine pT_ 5 (some 63) #[true, false, true, false, false, true, false, false, false, false, false, false, false] HT_ ?_
       refine pT_ 6 (some 64) #[true, false, true, false, false, true, true, false, false, false, false, false, false] HT_ ?_
       refine pT_ 7 (some 65) #[true, false, true, false, false, true, true, true, false, false, false, false, false] HT_ ?_
       refine tT_ 1 (some 59) #[true, true, true, false, false, true, true, true, false, false, false, false, false] HT_ HW_ hHeld ?_ (hy := by rintro w' ⟨s0, s1, s2, s3⟩; go_simp; with_reducible rfl)
       refine pT_ 3 (some 61) #[true, true, true, true, false, true, true, true, false, false, false, false, false] HT_ ?_
       refine tT_ 4 (some 62) #[true, true, true, true, true, true, true, true, false, false, false, false, false] HT_ HW_ hHeld ?_ (hy := by rintro w' ⟨s0, s1, s2, s3⟩; go_simp; with_reducible rfl)
       refine tT_ 8 (some 66) #[true, true, true, true, true, true, true, true, true, false, false, false, false] HT_ HW_ hHeld ?_ (hy := by rintro w' ⟨s0, s1, s2, s3⟩; go_simp; with_reducible rfl)
       refine pT_ 9 (some 67) #[true, true, true, true, true, true, true, true, true, true, false, false, false] HT_ ?_
       refine pT_ 10 (some 68) #[true, true, true, true, true, true, true, true, true, true, true, false, false] HT_ ?_
       refine pT_ 11 (some 69) #[true, true, true, true, true, true, true, true, true, true, true, true, false] HT_ ?_
       refine pT_ 12 (some 12) #[true, true, true, true, true, true, true, true, true, true, true, true, true] HT_ ?_
       refine done_ (done_of HT_.out (by kernel_rfl)) ?_
       try go_wp2_with (first | ((with_reducible refine gate_callee (f := 39) rfl ?_); refine gL_ (some 73) Try.func39 #[.int .i64 (rd l0_1 x7_1), .int .i64 (wrap64 (Int.tdiv (wrap64 ((rd l0_0 x7_1) * (wrap64 (-(rd l1 x7_1))))) 256)), .int .i64 (rd l0_0 x7_1)] ?_; (with_reducible refine (spec_l17Part.calls (rd l0_1 x7_1) (wrap64 (Int.tdiv (wrap64 ((rd l0_0 x7_1) * (wrap64 (-(rd l1 x7_1))))) 256)) (rd l0_0 x7_1) t166 _ A31.out).mono ?_); rintro e w' ⟨rfl, ⟨nd, rfl⟩⟩; refine ⟨_, rfl, ?_⟩; (try (rw [drewN_self w86]; generalize hq_ : World.drewN w86 _ = w86; have n0_ : Aside0 (Kd.R (Kd.int .i64) 2 w86 w.heap.size (fun k_ => some k_ ≠ (u161001 : Value).ownBlock) u161000 x161000_1) := ⟨by rw [← hq_]; exact (rT_ HO_161000)⟩; have n1_ : Aside0 (Kd.R (Kd.int .i64) 2 w86 w.heap.size (fun k_ => some k_ ≠ (u161000 : Value).ownBlock) u161001 x161001_1) := ⟨by rw [← hq_]; exact (rT_ HO_161001)⟩; have n2_ : Aside0 (w86.heap[gb146]? = some (.cells #[.slice (some ad161) l0_0.length c0_0, .slice (some ad162) l0_1.length c0_1] 26 (0, 0))) := ⟨by rw [← hq_]; exact (bT_ BK146)⟩; have n3_ : Aside0 (w86.heap[gb147]? = some (.cells #[.slice none 0 0, .slice none 0 0] 26 (0, 0))) := ⟨by rw [← hq_]; exact (bT_ BK147)⟩; have n4_ : Aside0 (w86.heap[gb160]? = some (.cells #[u161000, u161001] 26 (0, 0))) := ⟨by rw [← hq_]; exact (bT_ BK160)⟩; have n5_ : Aside0 (Below w.heap.size w w86) := ⟨by rw [← hq_]; exact (by repeat (first | (with_reducible first | exact HB.out | apply below_alloc | apply pw_below_drewN | apply below_drew1 | refine below_set ?_ GE146.out | refine below_set ?_ GE147.out | refine below_set ?_ GE160.out) | exact HB.out))⟩; clear HO_161000 HO_161001 BK146 BK147 BK160 HB hq_; have HO_161000 := n0_; have HO_161001 := n1_; have BK146 := n2_; have BK147 := n3_; have BK160 := n4_; have HB := n5_; clear n0_ n1_ n2_ n3_ n4_ n5_))))
       replace HO_161000 := Aside0.mk (Kd.R_drew HO_161000.out)
       replace HO_161001 := Aside0.mk (Kd.R_drew HO_161001.out)
       replace BK146 := Aside0.mk (blk_drew BK146.out)
       replace BK147 := Aside0.mk (blk_drew BK147.out)
       replace BK160 := Aside0.mk (blk_drew BK160.out)
       replace HB := Aside0.mk (below_drew1 HB.out)
       obtain ⟨Ao88, co88, eo88⟩ := Kd.R_slice HO_161000.out
       (first | subst eo88 | (injection eo88 with f1_ f2_ f3_; have f4_ := f1_.symm; have f5_ := f3_.symm; clear f1_ f2_ f3_; subst f4_; subst f5_))
       have p167 : 0 ≤ (x7_1 : Int) := of_decide_eq_true (by first | (with_reducible assumption) | assumption)
       have q167 : x7_1 < (x161000_1.length : Int) := of_decide_eq_true (by first | (with_reducible assumption) | assumption)
       obtain ⟨ad167, e167, hx167_0⟩ := Kd.at_int (Kd.R_reads' HO_161000.out).2.2 x7_1 p167 q167
       cases e167
       replace p167 := eq_true p167; replace q167 := eq_true q167
       have p33 : 0 ≤ (x7_1 : Int) := of_decide_eq_true (by first | (with_reducible assumption) | assumption)
       have q33 : (x7_1 : Int) < ((x161000_1.length : Int) : Int) := of_decide_eq_true (by first | (with_reducible assumption) | assumption)
       obtain ⟨go33, co33, eo33, gb33, gl33, cl33, HG33⟩ := Kd.R_form HO_161000.out (by omega)
       (first | cases eo33 | (injection eo33 with ea_ en_ ec_; (first | subst ea_ | (injection ea_ with ea_; subst ea_)); subst ec_; clear en_))
       have GB33 := Aside0.mk gb33; have GG33 := Aside0.mk HG33; clear gb33 gl33 HG33
       (first | simp only [add_plain] at hx167_0 | skip)
       obtain ⟨hx33_0, hf33_0⟩ := Kd.R_celln 0 HO_161000.out (x7_1 : Int) p33 q33
       replace p33 := eq_true p33; replace q33 := eq_true q33
       have HP89 := Kd.R_putn HO_161000.out (x7_1 : Int) (wrap64 ((rd x161000_1 x7_1) - (wrap64 (Int.tdiv (wrap64 ((rd l0_0 x7_1) * (wrap64 (-(rd l1 x7_1))))) 256))))
       rw [← Ny168.out] at HP89
       have HQ89 := Aside0.mk HP89; clear HP89
       refine start_ (n := 12) (S := fun w' => w'.cell? ⟨gb160, 0, none⟩ = some (.slice (some ⟨go33, 0, none⟩) x161000_1.length co88) ∧ w'.cell? ⟨gb160, 1, none⟩ = some (u161001) ∧ w'.cell? ⟨go33, (x7_1).toNat, none⟩ = some (.int .i64 (rd x161000_1 x7_1))) (ds := [11]) #[false, false, false, false, false, false, false, false, false, false, false, false] (by kernel_rfl) rfl rfl ⟨(blk_cell BK160.out 0).trans rfl, (blk_cell BK160.out 1).trans rfl, hx167_0⟩ (fun hHeld => ?_); refine with_tabW spec_l17Step.tab13 spec_l17Step.bits13 (fun HT_ HW_ => ?_)
       generalize w86.drew = w87 at HO_161000 HO_161001 BK146 BK147 BK160 HB GG33 HQ89 hf33_0 hx167_0 hx33_0 hHeld ⊢
       refine pT_ 0 (some 74) #[true, false, false, false, false, false, false, false, false, false, false, false] HT_ ?_
       refine pT_ 2 (some 76) #[true, false, true, false, false, false, false, false, false, false, false, false] HT_ ?_
       refine pT_ 3 (some 77) #[true, false, true, true, false, false, false, false, false, false, false, false] HT_ ?_
       refine pT_ 5 (some 79) #[true, false, true, true, false, true, false, false, false, false, false, false] HT_ ?_
       refine pT_ 8 (some 82) #[true, false, true, true, false, true, false, false, true, false, false, false] HT_ ?_
       refine tT_ 1 (some 75) #[true, true, true, true, false, true, false, false, true, false, false, false] HT_ HW_ hHeld ?_ (hy := by rintro w' ⟨s0, s1, s2⟩; go_simp; with_reducible rfl)
       refine tT_ 4 (some 78) #[true, true, true, true, true, true, false, false, true, false, false, false] HT_ HW_ hHeld ?_ (hy := by rintro w' ⟨s0, s1, s2⟩; go_simp; with_reducible rfl)
       refine pT_ 6 (some 80) #[true, true, true, true, true, true, true, false, true, false, false, false] HT_ ?_
       refine tT_ 7 (some 81) #[true, true, true, true, true, true, true, true, true, false, false, false] HT_ HW_ hHeld ?_ (hy := by rintro w' ⟨s0, s1, s2⟩; go_simp; with_reducible rfl)
       refine pT_ 9 (some 83) #[true, true, true, true, true, true, true, true, true, true, false, false] HT_ ?_
       refine pT_ 10 (some 84) #[true, true, true, true, true, true, true, true, true, true, true, false] HT_ ?_
       refine last_ (i := 11) (N := none) #[true, true, true, true, true, true, true, true, true, true, true, true] rfl rfl (one_of HT_.out (by kernel_rfl)) (by decide) (fun K hK => ?_)
       refine skip_ (w1 := ?_) (by rfl) rfl ?_ ?_
       rotate_left
       ·go_simp
        rfl
       refine hK.out _ _ ?_
       clear hK K
       refine done_ (done_of HT_.out (by kernel_rfl)) ?_
       try go_wp2
       have n0_ : Aside0 (Kd.R (Kd.int .i64) 2 (w87.setCell ⟨go33, (x7_1 : Int).toNat, none⟩ (.int .i64 (wrap64 ((rd x161000_1 x7_1) - (wrap64 (Int.tdiv (wrap64 ((rd l0_0 x7_1) * (wrap64 (-(rd l1 x7_1))))) 256)))))) w.heap.size (fun k_ => some k_ ≠ (u161001 : Value).ownBlock) (.slice (some ⟨go33, 0, none⟩) x161000_1.length co88) y168) := ⟨by (with_reducible repeat (first | apply Kd.R_alloc | apply Kd.R_drewN | apply Kd.R_drew)); exact HQ89.out⟩
       have n1_ : Aside0 (Kd.R (Kd.int .i64) 2 (w87.setCell ⟨go33, (x7_1 : Int).toNat, none⟩ (.int .i64 (wrap64 ((rd x161000_1 x7_1) - (wrap64 (Int.tdiv (wrap64 ((rd l0_0 x7_1) * (wrap64 (-(rd l1 x7_1))))) 256)))))) w.heap.size (fun k_ => some k_ ≠ (.slice (some ⟨go33, 0, none⟩) x161000_1.length co88 : Value).ownBlock) u161001 x161001_1) := ⟨by (with_reducible repeat (first | apply Kd.R_alloc | apply Kd.R_drewN | apply Kd.R_drew)); exact Kd.R_mono (Kd.R_far (p := ⟨go33, (x7_1 : Int).toNat, none⟩) (Kd.R_mono HO_161001.out (fun k_ hk => (⟨hk, fun e_ => hk (by rw [e_]; rfl)⟩ : _ ∧ k_ ≠ go33))) (fun _ hk => hk.2) (.int .i64 (wrap64 ((rd x161000_1 x7_1) - (wrap64 (Int.tdiv (wrap64 ((rd l0_0 x7_1) * (wrap64 (-(rd l1 x7_1))))) 256)))))) (fun _ hk => hk.1)⟩
       have n2_ : Aside0 ((w87.setCell ⟨go33, (x7_1 : Int).toNat, none⟩ (.int .i64 (wrap64 ((rd x161000_1 x7_1) - (wrap64 (Int.tdiv (wrap64 ((rd l0_0 x7_1) * (wrap64 (-(rd l1 x7_1))))) 256)))))).heap[gb146]? = some (.cells #[.slice (some ad161) l0_0.length c0_0, .slice (some ad162) l0_1.length c0_1] 26 (0, 0))) := ⟨by (with_reducible repeat (first | refine blk_drewN ?_ _ | refine blk_drew ?_ | refine blk_alloc ?_ _)); refine blk_far ?_ (by have h_ := Kd.R_ne HO_161000.out BK146.out (by decide); intro e_; exact h_ (by rw [e_]; rfl)) _; exact bT_ BK146⟩
       have n3_ : Aside0 ((w87.setCell ⟨go33, (x7_1 : Int).toNat, none⟩ (.int .i64 (wrap64 ((rd x161000_1 x7_1) - (wrap64 (Int.tdiv (wrap64 ((rd l0_0 x7_1) * (wrap64 (-(rd l1 x7_1))))) 256)))))).heap[gb147]? = some (.cells #[.slice none 0 0, .slice none 0 0] 26 (0, 0))) := ⟨by (with_reducible repeat (first | refine blk_drewN ?_ _ | refine blk_drew ?_ | refine blk_alloc ?_ _)); refine blk_far ?_ (by have h_ := Kd.R_ne HO_161000.out BK147.out (by decide); intro e_; exact h_ (by rw [e_]; rfl)) _; exact bT_ BK147⟩
       have n4_ : Aside0 ((w87.setCell ⟨go33, (x7_1 : Int).toNat, none⟩ (.int .i64 (wrap64 ((rd x161000_1 x7_1) - (wrap64 (Int.tdiv (wrap64 ((rd l0_0 x7_1) * (wrap64 (-(rd l1 x7_1))))) 256)))))).heap[gb160]? = some (.cells #[.slice (some ⟨go33, 0, none⟩) x161000_1.length co88, u161001] 26 (0, 0))) := ⟨by (with_reducible repeat (first | refine blk_drewN ?_ _ | refine blk_drew ?_ | refine blk_alloc ?_ _)); refine blk_far ?_ (by have h_ := Kd.R_ne HO_161000.out BK160.out (by decide); intro e_; exact h_ (by rw [e_]; rfl)) _; exact bT_ BK160⟩
       have n5_ : Aside0 (Below w.heap.size w (w87.setCell ⟨go33, (x7_1 : Int).toNat, none⟩ (.int .i64 (wrap64 ((rd x161000_1 x7_1) - (wrap64 (Int.tdiv (wrap64 ((rd l0_0 x7_1) * (wrap64 (-(rd l1 x7_1))))) 256))))))) := ⟨by repeat (first | (with_reducible first | exact HB.out | apply below_alloc | apply pw_below_drewN | apply below_drew1 | refine below_set ?_ GB33.out | refine below_set ?_ GE146.out | refine below_set ?_ GE147.out | refine below_set ?_ GE160.out) | exact HB.out)⟩
       (try clear HO_161000); (try clear HO_161001); (try clear BK146); (try clear BK147); (try clear BK160); (try clear HB)
       generalize (w87.setCell ⟨go33, (x7_1 : Int).toNat, none⟩ (.int .i64 (wrap64 ((rd x161000_1 x7_1) - (wrap64 (Int.tdiv (wrap64 ((rd l0_0 x7_1) * (wrap64 (-(rd l1 x7_1))))) 256)))))) = w90 at n0_ n1_ n2_ n3_ n4_ n5_ ⊢
       have HO_161000 := n0_; have HO_161001 := n1_; have BK146 := n2_; have BK147 := n3_; have BK160 := n4_; have HB := n5_; clear n0_ n1_ n2_ n3_ n4_ n5_
       replace HO_161000 := Aside0.mk (Kd.R_drew HO_161000.out)
       replace HO_161001 := Aside0.mk (Kd.R_drew HO_161001.out)
       replace BK146 := Aside0.mk (blk_drew BK146.out)
       replace BK147 := Aside0.mk (blk_drew BK147.out)
       replace BK160 := Aside0.mk (blk_drew BK160.out)
       replace HB := Aside0.mk (below_drew1 HB.out)
       have p169 : 0 ≤ ((ji34) : Int) := of_decide_eq_true (by first | (with_reducible assumption) | assumption)
       have q169 : (ji34) < (y168.length : Int) := (by have h_ : ((ji34) : Int) < ((x161000_1.length : Int) : Int) := of_decide_eq_true (by first | (with_reducible assumption) | assumption); first | (have e_ := (Kd.R_reads' HO_161000.out).1; omega) | simpa only [Ny168.out, List.length_set] using h_)
       have ql169 : (((ji34) : Int) < ((x161000_1.length : Int) : Int)) = True := eq_true (of_decide_eq_true (by first | (with_reducible assumption) | assumption))
       obtain ⟨ad169, e169, hx169_0⟩ := Kd.at_int (Kd.R_reads' HO_161000.out).2.2 (ji34) p169 q169
       obtain rfl : (⟨go33, 0, none⟩ : Addr) = ad169 := (by injection e169)
       (first | simp only [add_plain] at hx169_0 | simp only [add_at] at hx169_0 | simp only [Addr.add, Nat.zero_add] at hx169_0 | skip)
       replace p169 := eq_true p169; replace q169 := eq_true q169
       have p37 : 0 ≤ ((ji34) : Int) := of_decide_eq_true (by first | (with_reducible assumption) | assumption)
       have q37 : ((ji34) : Int) < ((x161000_1.length : Int) : Int) := of_decide_eq_true (by first | (with_reducible assumption) | assumption)
       obtain ⟨hx37_0, hf37_0⟩ := Kd.R_celln 0 HO_161000.out ((ji34) : Int) p37 q37
       replace p37 := eq_true p37; replace q37 := eq_true q37
       have HP92 := Kd.R_putn HO_161000.out ((ji34) : Int) (wrap64 ((rd y168 (ji34)) + (wrap64 (Int.tdiv (wrap64 ((rd l0_0 x7_1) * (wrap64 (-(rd l1 x7_1))))) 256))))
       rw [← Ny170.out] at HP92
       have HQ92 := Aside0.mk HP92; clear HP92
       refine start_ (n := 12) (S := fun w' => w'.cell? ⟨gb160, 0, none⟩ = some (.slice (some ⟨go33, 0, none⟩) x161000_1.length co88) ∧ w'.cell? ⟨gb160, 1, none⟩ = some (u161001) ∧ w'.cell? ⟨go33, ((ji34)).toNat, none⟩ = some (.int .i64 (rd y168 (ji34)))) (ds := [11]) #[false, false, false, false, false, false, false, false, false, false, false, false] (by kernel_rfl) rfl rfl ⟨(blk_cell BK160.out 0).trans rfl, (blk_cell BK160.out 1).trans rfl, hx169_0⟩ (fun hHeld => ?_); refine with_tabW spec_l17Step.tab14 spec_l17Step.bits14 (fun HT_ HW_ => ?_)
       generalize w90.drew = w91 at HO_161000 HO_161001 BK146 BK147 BK160 HB HQ89 HQ92 hf37_0 hx169_0 hx37_0 hHeld ⊢
       refine pT_ 0 (some 85) #[true, false, false, false, false, false, false, false, false, false, false, false] HT_ ?_
       refine pT_ 2 (some 87) #[true, false, true, false, false, false, false, false, false, false, false, false] HT_ ?_
       refine pT_ 3 (some 88) #[true, false, true, true, false, false, false, false, false, false, false, false] HT_ ?_
       refine pT_ 5 (some 90) #[true, false, true, true, false, true, false, false, false, false, false, false] HT_ ?_
       refine pT_ 8 (some 93) #[true, false, true, true, false, true, false, false, true, false, false, false] HT_ ?_
       refine tT_ 1 (some 86) #[true, true, true, true, false, true, false, false, true, false, false, false] HT_ HW_ hHeld ?_ (hy := by rintro w' ⟨s0, s1, s2⟩; go_simp; with_reducible rfl)
       refine tT_ 4 (some 89) #[true, true, true, true, true, true, false, false, true, false, false, false] HT_ HW_ hHeld ?_ (hy := by rintro w' ⟨s0, s1, s2⟩; go_simp; with_reducible rfl)
       refine pT_ 6 (some 91) #[true, true, true, true, true, true, true, false, true, false, false, false] HT_ ?_
       refine tT_ 7 (some 92) #[true, true, true, true, true, true, true, true, true, false, false, false] HT_ HW_ hHeld ?_ (hy := by rintro w' ⟨s0, s1, s2⟩; go_simp; with_reducible rfl)
       refine pT_ 9 (some 94) #[true, true, true, true, true, true, true, true, true, true, false, false] HT_ ?_
       refine pT_ 10 (some 95) #[true, true, true, true, true, true, true, true, true, true, true, false] HT_ ?_
       refine last_ (i := 11) (N := none) #[true, true, true, true, true, true, true, true, true, true, true, true] rfl rfl (one_of HT_.out (by kernel_rfl)) (by decide) (fun K hK => ?_)
       refine skip_ (w1 := ?_) (by rfl) rfl ?_ ?_
       rotate_left
       ·go_simp
        rfl
       refine hK.out _ _ ?_
       clear hK K
       refine done_ (done_of HT_.out (by kernel_rfl)) ?_
       try go_wp2
       have n0_ : Aside0 (Kd.R (Kd.int .i64) 2 (w91.setCell ⟨go33, ((ji34) : Int).toNat, none⟩ (.int .i64 (wrap64 ((rd y168 (ji34)) + (wrap64 (Int.tdiv (wrap64 ((rd l0_0 x7_1) * (wrap64 (-(rd l1 x7_1))))) 256)))))) w.heap.size (fun k_ => some k_ ≠ (u161001 : Value).ownBlock) (.slice (some ⟨go33, 0, none⟩) x161000_1.length co88) y170) := ⟨by (with_reducible repeat (first | apply Kd.R_alloc | apply Kd.R_drewN | apply Kd.R_drew)); exact HQ92.out⟩
       have n1_ : Aside0 (Kd.R (Kd.int .i64) 2 (w91.setCell ⟨go33, ((ji34) : Int).toNat, none⟩ (.int .i64 (wrap64 ((rd y168 (ji34)) + (wrap64 (Int.tdiv (wrap64 ((rd l0_0 x7_1) * (wrap64 (-(rd l1 x7_1))))) 256)))))) w.heap.size (fun k_ => some k_ ≠ (.slice (some ⟨go33, 0, none⟩) x161000_1.length co88 : Value).ownBlock) u161001 x161001_1) := ⟨by (with_reducible repeat (first | apply Kd.R_alloc | apply Kd.R_drewN | apply Kd.R_drew)); exact Kd.R_mono (Kd.R_far (p := ⟨go33, ((ji34) : Int).toNat, none⟩) (Kd.R_mono HO_161001.out (fun k_ hk => (⟨hk, fun e_ => hk (by rw [e_]; rfl)⟩ : _ ∧ k_ ≠ go33))) (fun _ hk => hk.2) (.int .i64 (wrap64 ((rd y168 (ji34)) + (wrap64 (Int.tdiv (wrap64 ((rd l0_0 x7_1) * (wrap64 (-(rd l1 x7_1))))) 256)))))) (fun _ hk => hk.1)⟩
       have n2_ : Aside0 ((w91.setCell ⟨go33, ((ji34) : Int).toNat, none⟩ (.int .i64 (wrap64 ((rd y168 (ji34)) + (wrap64 (Int.tdiv (wrap64 ((rd l0_0 x7_1) * (wrap64 (-(rd l1 x7_1))))) 256)))))).heap[gb146]? = some (.cells #[.slice (some ad161) l0_0.length c0_0, .slice (some ad162) l0_1.length c0_1] 26 (0, 0))) := ⟨by (with_reducible repeat (first | refine blk_drewN ?_ _ | refine blk_drew ?_ | refine blk_alloc ?_ _)); refine blk_far ?_ (by have h_ := Kd.R_ne HO_161000.out BK146.out (by decide); intro e_; exact h_ (by rw [e_]; rfl)) _; exact bT_ BK146⟩
       have n3_ : Aside0 ((w91.setCell ⟨go33, ((ji34) : Int).toNat, none⟩ (.int .i64 (wrap64 ((rd y168 (ji34)) + (wrap64 (Int.tdiv (wrap64 ((rd l0_0 x7_1) * (wrap64 (-(rd l1 x7_1))))) 256)))))).heap[gb147]? = some (.cells #[.slice none 0 0, .slice none 0 0] 26 (0, 0))) := ⟨by (with_reducible repeat (first | refine blk_drewN ?_ _ | refine blk_drew ?_ | refine blk_alloc ?_ _)); refine blk_far ?_ (by have h_ := Kd.R_ne HO_161000.out BK147.out (by decide); intro e_; exact h_ (by rw [e_]; rfl)) _; exact bT_ BK147⟩
       have n4_ : Aside0 ((w91.setCell ⟨go33, ((ji34) : Int).toNat, none⟩ (.int .i64 (wrap64 ((rd y168 (ji34)) + (wrap64 (Int.tdiv (wrap64 ((rd l0_0 x7_1) * (wrap64 (-(rd l1 x7_1))))) 256)))))).heap[gb160]? = some (.cells #[.slice (some ⟨go33, 0, none⟩) x161000_1.length co88, u161001] 26 (0, 0))) := ⟨by (with_reducible repeat (first | refine blk_drewN ?_ _ | refine blk_drew ?_ | refine blk_alloc ?_ _)); refine blk_far ?_ (by have h_ := Kd.R_ne HO_161000.out BK160.out (by decide); intro e_; exact h_ (by rw [e_]; rfl)) _; exact bT_ BK160⟩
       have n5_ : Aside0 (Below w.heap.size w (w91.setCell ⟨go33, ((ji34) : Int).toNat, none⟩ (.int .i64 (wrap64 ((rd y168 (ji34)) + (wrap64 (Int.tdiv (wrap64 ((rd l0_0 x7_1) * (wrap64 (-(rd l1 x7_1))))) 256))))))) := ⟨by repeat (first | (with_reducible first | exact HB.out | apply below_alloc | apply pw_below_drewN | apply below_drew1 | refine below_set ?_ GB33.out | refine below_set ?_ GE146.out | refine below_set ?_ GE147.out | refine below_set ?_ GE160.out) | exact HB.out)⟩
       (try clear HO_161000); (try clear HO_161001); (try clear BK146); (try clear BK147); (try clear BK160); (try clear HB)
       generalize (w91.setCell ⟨go33, ((ji34) : Int).toNat, none⟩ (.int .i64 (wrap64 ((rd y168 (ji34)) + (wrap64 (Int.tdiv (wrap64 ((rd l0_0 x7_1) * (wrap64 (-(rd l1 x7_1))))) 256)))))) = w93 at n0_ n1_ n2_ n3_ n4_ n5_ ⊢
       have HO_161000 := n0_; have HO_161001 := n1_; have BK146 := n2_; have BK147 := n3_; have BK160 := n4_; have HB := n5_; clear n0_ n1_ n2_ n3_ n4_ n5_
       replace HO_161000 := Aside0.mk (Kd.R_drew HO_161000.out)
       replace HO_161001 := Aside0.mk (Kd.R_drew HO_161001.out)
       replace BK146 := Aside0.mk (blk_drew BK146.out)
       replace BK147 := Aside0.mk (blk_drew BK147.out)
       replace BK160 := Aside0.mk (blk_drew BK160.out)
       replace HB := Aside0.mk (below_drew1 HB.out)
       obtain ⟨Ao95, co95, eo95⟩ := Kd.R_slice HO_161001.out
       (first | subst eo95 | (injection eo95 with f1_ f2_ f3_; have f4_ := f1_.symm; have f5_ := f3_.symm; clear f1_ f2_ f3_; subst f4_; subst f5_))
       have p171 : 0 ≤ (x7_1 : Int) := of_decide_eq_true (by first | (with_reducible assumption) | assumption)
       have q171 : x7_1 < (x161001_1.length : Int) := of_decide_eq_true (by first | (with_reducible assumption) | assumption)
       obtain ⟨ad171, e171, hx171_0⟩ := Kd.at_int (Kd.R_reads' HO_161001.out).2.2 x7_1 p171 q171
       cases e171
       replace p171 := eq_true p171; replace q171 := eq_true q171
       have p39 : 0 ≤ (x7_1 : Int) := of_decide_eq_true (by first | (with_reducible assumption) | assumption)
       have q39 : (x7_1 : Int) < ((x161001_1.length : Int) : Int) := of_decide_eq_true (by first | (with_reducible assumption) | assumption)
       obtain ⟨go39, co39, eo39, gb39, gl39, cl39, HG39⟩ := Kd.R_form HO_161001.out (by omega)
       (first | cases eo39 | (injection eo39 with ea_ en_ ec_; (first | subst ea_ | (injection ea_ with ea_; subst ea_)); subst ec_; clear en_))
       have GB39 := Aside0.mk gb39; have GG39 := Aside0.mk HG39; clear gb39 gl39 HG39
       (first | simp only [add_plain] at hx171_0 | skip)
       obtain ⟨hx39_0, hf39_0⟩ := Kd.R_celln 0 HO_161001.out (x7_1 : Int) p39 q39
       replace p39 := eq_true p39; replace q39 := eq_true q39
       have HP96 := Kd.R_putn HO_161001.out (x7_1 : Int) (wrap64 ((rd x161001_1 x7_1) - t166))
       rw [← Ny172.out] at HP96
       have HQ96 := Aside0.mk HP96; clear HP96
       refine start_ (n := 12) (S := fun w' => w'.cell? ⟨gb160, 0, none⟩ = some (.slice (some ⟨go33, 0, none⟩) x161000_1.length co88) ∧ w'.cell? ⟨gb160, 1, none⟩ = some (.slice (some ⟨go39, 0, none⟩) x161001_1.length co95) ∧ w'.cell? ⟨go39, (x7_1).toNat, none⟩ = some (.int .i64 (rd x161001_1 x7_1))) (ds := [11]) #[false, false, false, false, false, false, false, false, false, false, false, false] (by kernel_rfl) rfl rfl ⟨(blk_cell BK160.out 0).trans rfl, (blk_cell BK160.out 1).trans rfl, hx171_0⟩ (fun hHeld => ?_); refine with_tabW spec_l17Step.tab15 spec_l17Step.bits15 (fun HT_ HW_ => ?_)
       generalize w93.drew = w94 at HO_161000 HO_161001 BK146 BK147 BK160 HB GG39 HQ92 HQ96 hf39_0 hx171_0 hx39_0 hHeld ⊢
       refine pT_ 0 (some 96) #[true, false, false, false, false, false, false, false, false, false, false, false] HT_ ?_
       refine pT_ 2 (some 98) #[true, false, true, false, false, false, false, false, false, false, false, false] HT_ ?_
       refine pT_ 3 (some 99) #[true, false, true, true, false, false, false, false, false, false, false, false] HT_ ?_
       refine pT_ 5 (some 101) #[true, false, true, true, false, true, false, false, false, false, false, false] HT_ ?_
       refine pT_ 8 (some 104) #[true, false, true, true, false, true, false, false, true, false, false, false] HT_ ?_
       refine tT_ 1 (some 97) #[true, true, true, true, false, true, false, false, true, false, false, false] HT_ HW_ hHeld ?_ (hy := by rintro w' ⟨s0, s1, s2⟩; go_simp; with_reducible rfl)
       refine tT_ 4 (some 100) #[true, true, true, true, true, true, false, false, true, false, false, false] HT_ HW_ hHeld ?_ (hy := by rintro w' ⟨s0, s1, s2⟩; go_simp; with_reducible rfl)
       refine pT_ 6 (some 102) #[true, true, true, true, true, true, true, false, true, false, false, false] HT_ ?_
       refine tT_ 7 (some 103) #[true, true, true, true, true, true, true, true, true, false, false, false] HT_ HW_ hHeld ?_ (hy := by rintro w' ⟨s0, s1, s2⟩; go_simp; with_reducible rfl)
       refine pT_ 9 (some 105) #[true, true, true, true, true, true, true, true, true, true, false, false] HT_ ?_
       refine pT_ 10 (some 106) #[true, true, true, true, true, true, true, true, true, true, true, false] HT_ ?_
       refine last_ (i := 11) (N := none) #[true, true, true, true, true, true, true, true, true, true, true, true] rfl rfl (one_of HT_.out (by kernel_rfl)) (by decide) (fun K hK => ?_)
       refine skip_ (w1 := ?_) (by rfl) rfl ?_ ?_
       rotate_left
       ·go_simp
        rfl
       refine hK.out _ _ ?_
       clear hK K
       refine done_ (done_of HT_.out (by kernel_rfl)) ?_
       try go_wp2
       have n0_ : Aside0 (Kd.R (Kd.int .i64) 2 (w94.setCell ⟨go39, (x7_1 : Int).toNat, none⟩ (.int .i64 (wrap64 ((rd x161001_1 x7_1) - t166)))) w.heap.size (fun k_ => some k_ ≠ (.slice (some ⟨go39, 0, none⟩) x161001_1.length co95 : Value).ownBlock) (.slice (some ⟨go33, 0, none⟩) x161000_1.length co88) y170) := ⟨by (with_reducible repeat (first | apply Kd.R_alloc | apply Kd.R_drewN | apply Kd.R_drew)); exact Kd.R_mono (Kd.R_far (p := ⟨go39, (x7_1 : Int).toNat, none⟩) (Kd.R_mono HO_161000.out (fun k_ hk => (⟨hk, fun e_ => hk (by rw [e_]; rfl)⟩ : _ ∧ k_ ≠ go39))) (fun _ hk => hk.2) (.int .i64 (wrap64 ((rd x161001_1 x7_1) - t166)))) (fun _ hk => hk.1)⟩
       have n1_ : Aside0 (Kd.R (Kd.int .i64) 2 (w94.setCell ⟨go39, (x7_1 : Int).toNat, none⟩ (.int .i64 (wrap64 ((rd x161001_1 x7_1) - t166)))) w.heap.size (fun k_ => some k_ ≠ (.slice (some ⟨go33, 0, none⟩) x161000_1.length co88 : Value).ownBlock) (.slice (some ⟨go39, 0, none⟩) x161001_1.length co95) y172) := ⟨by (with_reducible repeat (first | apply Kd.R_alloc | apply Kd.R_drewN | apply Kd.R_drew)); exact HQ96.out⟩
       have n2_ : Aside0 ((w94.setCell ⟨go39, (x7_1 : Int).toNat, none⟩ (.int .i64 (wrap64 ((rd x161001_1 x7_1) - t166)))).heap[gb146]? = some (.cells #[.slice (some ad161) l0_0.length c0_0, .slice (some ad162) l0_1.length c0_1] 26 (0, 0))) := ⟨by (with_reducible repeat (first | refine blk_drewN ?_ _ | refine blk_drew ?_ | refine blk_alloc ?_ _)); refine blk_far ?_ (by have h_ := Kd.R_ne HO_161001.out BK146.out (by decide); intro e_; exact h_ (by rw [e_]; rfl)) _; exact bT_ BK146⟩
       have n3_ : Aside0 ((w94.setCell ⟨go39, (x7_1 : Int).toNat, none⟩ (.int .i64 (wrap64 ((rd x161001_1 x7_1) - t166)))).heap[gb147]? = some (.cells #[.slice none 0 0, .slice none 0 0] 26 (0, 0))) := ⟨by (with_reducible repeat (first | refine blk_drewN ?_ _ | refine blk_drew ?_ | refine blk_alloc ?_ _)); refine blk_far ?_ (by have h_ := Kd.R_ne HO_161001.out BK147.out (by decide); intro e_; exact h_ (by rw [e_]; rfl)) _; exact bT_ BK147⟩
       have n4_ : Aside0 ((w94.setCell ⟨go39, (x7_1 : Int).toNat, none⟩ (.int .i64 (wrap64 ((rd x161001_1 x7_1) - t166)))).heap[gb160]? = some (.cells #[.slice (some ⟨go33, 0, none⟩) x161000_1.length co88, .slice (some ⟨go39, 0, none⟩) x161001_1.length co95] 26 (0, 0))) := ⟨by (with_reducible repeat (first | refine blk_drewN ?_ _ | refine blk_drew ?_ | refine blk_alloc ?_ _)); refine blk_far ?_ (by have h_ := Kd.R_ne HO_161001.out BK160.out (by decide); intro e_; exact h_ (by rw [e_]; rfl)) _; exact bT_ BK160⟩
       have n5_ : Aside0 (Below w.heap.size w (w94.setCell ⟨go39, (x7_1 : Int).toNat, none⟩ (.int .i64 (wrap64 ((rd x161001_1 x7_1) - t166))))) := ⟨by repeat (first | (with_reducible first | exact HB.out | apply below_alloc | apply pw_below_drewN | apply below_drew1 | refine below_set ?_ GB39.out | refine below_set ?_ GE146.out | refine below_set ?_ GE147.out | refine below_set ?_ GE160.out) | exact HB.out)⟩
       (try clear HO_161000); (try clear HO_161001); (try clear BK146); (try clear BK147); (try clear BK160); (try clear HB)
       generalize (w94.setCell ⟨go39, (x7_1 : Int).toNat, none⟩ (.int .i64 (wrap64 ((rd x161001_1 x7_1) - t166)))) = w97 at n0_ n1_ n2_ n3_ n4_ n5_ ⊢
       have HO_161000 := n0_; have HO_161001 := n1_; have BK146 := n2_; have BK147 := n3_; have BK160 := n4_; have HB := n5_; clear n0_ n1_ n2_ n3_ n4_ n5_
       replace HO_161000 := Aside0.mk (Kd.R_drew HO_161000.out)
       replace HO_161001 := Aside0.mk (Kd.R_drew HO_161001.out)
       replace BK146 := Aside0.mk (blk_drew BK146.out)
       replace BK147 := Aside0.mk (blk_drew BK147.out)
       replace BK160 := Aside0.mk (blk_drew BK160.out)
       replace HB := Aside0.mk (below_drew1 HB.out)
       have p173 : 0 ≤ ((ji34) : Int) := of_decide_eq_true (by first | (with_reducible assumption) | assumption)
       have q173 : (ji34) < (y172.length : Int) := (by have h_ : ((ji34) : Int) < ((x161001_1.length : Int) : Int) := of_decide_eq_true (by first | (with_reducible assumption) | assumption); first | (have e_ := (Kd.R_reads' HO_161001.out).1; omega) | simpa only [Ny172.out, List.length_set] using h_)
       have ql173 : (((ji34) : Int) < ((x161001_1.length : Int) : Int)) = True := eq_true (of_decide_eq_true (by first | (with_reducible assumption) | assumption))
       obtain ⟨ad173, e173, hx173_0⟩ := Kd.at_int (Kd.R_reads' HO_161001.out).2.2 (ji34) p173 q173
       obtain rfl : (⟨go39, 0, none⟩ : Addr) = ad173 := (by injection e173)
       (first | simp only [add_plain] at hx173_0 | simp only [add_at] at hx173_0 | simp only [Addr.add, Nat.zero_add] at hx173_0 | skip)
       replace p173 := eq_true p173; replace q173 := eq_true q173
       have p41 : 0 ≤ ((ji34) : Int) := of_decide_eq_true (by first | (with_reducible assumption) | assumption)
       have q41 : ((ji34) : Int) < ((x161001_1.length : Int) : Int) := of_decide_eq_true (by first | (with_reducible assumption) | assumption)
       obtain ⟨hx41_0, hf41_0⟩ := Kd.R_celln 0 HO_161001.out ((ji34) : Int) p41 q41
       replace p41 := eq_true p41; replace q41 := eq_true q41
       have HP99 := Kd.R_putn HO_161001.out ((ji34) : Int) (wrap64 ((rd y172 (ji34)) + t166))
       rw [← Ny174.out] at HP99
       have HQ99 := Aside0.mk HP99; clear HP99
       refine start_ (n := 12) (S := fun w' => w'.cell? ⟨gb160, 0, none⟩ = some (.slice (some ⟨go33, 0, none⟩) x161000_1.length co88) ∧ w'.cell? ⟨gb160, 1, none⟩ = some (.slice (some ⟨go39, 0, none⟩) x161001_1.length co95) ∧ w'.cell? ⟨go39, ((ji34)).toNat, none⟩ = some (.int .i64 (rd y172 (ji34)))) (ds := [11]) #[false, false, false, false, false, false, false, false, false, false, false, false] (by kernel_rfl) rfl rfl ⟨(blk_cell BK160.out 0).trans rfl, (blk_cell BK160.out 1).trans rfl, hx173_0⟩ (fun hHeld => ?_); refine with_tabW spec_l17Step.tab16 spec_l17Step.bits16 (fun HT_ HW_ => ?_)
       generalize w97.drew = w98 at HO_161000 HO_161001 BK146 BK147 BK160 HB HQ96 HQ99 hf41_0 hx173_0 hx41_0 hHeld ⊢
       refine pT_ 0 (some 107) #[true, false, false, false, false, false, false, false, false, false, false, false] HT_ ?_
       refine pT_ 2 (some 109) #[true, false, true, false, false, false, false, false, false, false, false, false] HT_ ?_
       refine pT_ 3 (some 110) #[true, false, true, true, false, false, false, false, false, false, false, false] HT_ ?_
       refine pT_ 5 (some 112) #[true, false, true, true, false, true, false, false, false, false, false, false] HT_ ?_
       refine pT_ 8 (some 115) #[true, false, true, true, false, true, false, false, true, false, false, false] HT_ ?_
       refine tT_ 1 (some 108) #[true, true, true, true, false, true, false, false, true, false, false, false] HT_ HW_ hHeld ?_ (hy := by rintro w' ⟨s0, s1, s2⟩; go_simp; with_reducible rfl)
       refine tT_ 4 (some 111) #[true, true, true, true, true, true, false, false, true, false, false, false] HT_ HW_ hHeld ?_ (hy := by rintro w' ⟨s0, s1, s2⟩; go_simp; with_reducible rfl)
       refine pT_ 6 (some 113) #[true, true, true, true, true, true, true, false, true, false, false, false] HT_ ?_
       refine tT_ 7 (some 114) #[true, true, true, true, true, true, true, true, true, false, false, false] HT_ HW_ hHeld ?_ (hy := by rintro w' ⟨s0, s1, s2⟩; go_simp; with_reducible rfl)
       refine pT_ 9 (some 116) #[true, true, true, true, true, true, true, true, true, true, false, false] HT_ ?_
       refine pT_ 10 (some 117) #[true, true, true, true, true, true, true, true, true, true, true, false] HT_ ?_
       refine last_ (i := 11) (N := none) #[true, true, true, true, true, true, true, true, true, true, true, true] rfl rfl (one_of HT_.out (by kernel_rfl)) (by decide) (fun K hK => ?_)
       refine skip_ (w1 := ?_) (by rfl) rfl ?_ ?_
       rotate_left
       ·go_simp
        rfl
       refine hK.out _ _ ?_
       clear hK K
       refine done_ (done_of HT_.out (by kernel_rfl)) ?_
       have p175 : 0 ≤ ((ji42) : Int) := of_decide_eq_true (by first | (with_reducible assumption) | assumption)
       have q175 : (ji42) < (l1.length : Int) := of_decide_eq_true (by first | (with_reducible assumption) | assumption)
       obtain ⟨ad175, e175, hx175_0⟩ := Kd.at_int HR1.out (ji42) p175 q175
       obtain rfl : ad163 = ad175 := (by injection e175)
       have hn175_0 : ad163.block ≠ go39 := Nat.ne_of_lt (Nat.lt_of_lt_of_le (by have := World.block_lt_of_cell? _ _ hx175_0; first | rwa [add_block] at this | exact this) GB39.out)
       replace hx175_0 := (HB.out.cell (World.block_lt_of_cell? w _ hx175_0)).trans hx175_0
       replace hx175_0 := (cell_far (p := ⟨go39, ((ji34) : Int).toNat, none⟩) (by first | (rw [add_block]; exact hn175_0) | (show (Addr.add _ _).block ≠ _; rw [add_block]; exact hn175_0) | exact hn175_0) (.int .i64 (wrap64 ((rd y172 (ji34)) + t166)))).trans hx175_0
       clear hn175_0; replace p175 := eq_true p175; replace q175 := eq_true q175
       try go_wp2
       go_roundg k1
       case measure => have := HK1.out; omega
       case rel => exact ⟨(wrap64 (x7_1 + 1)), (y170), (y174), (.slice (some ⟨go33, 0, none⟩) x161000_1.length co88), (.slice (some ⟨go39, 0, none⟩) x161001_1.length co95), (by first | rfl | (simp; done) | (simp [*]; done)), H', ⟨by have := HK1.out; omega⟩, ⟨by (with_reducible repeat (first | apply Kd.R_alloc | apply Kd.R_drewN | apply Kd.R_drew)); exact Kd.R_mono (Kd.R_far (p := ⟨go39, ((ji34) : Int).toNat, none⟩) (Kd.R_mono HO_161000.out (fun k_ hk => (⟨hk, fun e_ => hk (by rw [e_]; rfl)⟩ : _ ∧ k_ ≠ go39))) (fun _ hk => hk.2) (.int .i64 (wrap64 ((rd y172 (ji34)) + t166)))) (fun _ hk => hk.1)⟩, ⟨by (with_reducible repeat (first | apply Kd.R_alloc | apply Kd.R_drewN | apply Kd.R_drew)); exact HQ99.out⟩, ⟨by (with_reducible repeat (first | refine blk_drewN ?_ _ | refine blk_drew ?_ | refine blk_alloc ?_ _)); refine blk_far ?_ (by have h_ := Kd.R_ne HO_161001.out BK146.out (by decide); intro e_; exact h_ (by rw [e_]; rfl)) _; exact bT_ BK146⟩, ⟨by (with_reducible repeat (first | refine blk_drewN ?_ _ | refine blk_drew ?_ | refine blk_alloc ?_ _)); refine blk_far ?_ (by have h_ := Kd.R_ne HO_161001.out BK147.out (by decide); intro e_; exact h_ (by rw [e_]; rfl)) _; exact bT_ BK147⟩, ⟨by (with_reducible repeat (first | refine blk_drewN ?_ _ | refine blk_drew ?_ | refine blk_alloc ?_ _)); refine blk_far ?_ (by have h_ := Kd.R_ne HO_161001.out BK160.out (by decide); intro e_; exact h_ (by rw [e_]; rfl)) _; exact bT_ BK160⟩, ⟨by repeat (first | (with_reducible first | exact HB.out | apply below_alloc | apply pw_below_drewN | apply below_drew1 | refine below_set ?_ GB39.out | refine below_set ?_ GE146.out | refine below_set ?_ GE147.out | refine below_set ?_ GE160.out) | exact HB.out)⟩⟩
     ·rw [if_neg c30] at H
      have c30b0 : decide ((rd l1 x7_1) < 0) = false := decide_eq_false c30
      clear c30
      obtain ⟨ji100, hji100⟩ : ∃ j_ : Int, (Int.tmod (wrap64 (x7_1 + 1)) (l0_0.length : Int)) = j_ := ⟨_, rfl⟩
      replace H : (if 0 ≤ (ji100) then (if (ji100) < (l1.length : Int) then (if (rd l1 (ji100)) > 0 then ((spec_l17Part.f (rd l0_1 x7_1) (wrap64 (Int.tdiv (wrap64 ((rd l0_0 x7_1) * (rd l1 (ji100)))) 256)) (rd l0_0 x7_1)).bind fun t190 => (if x7_1 < (x161000_1.length : Int) then ((some (x161000_1.set (x7_1 : Int).toNat (wrap64 ((rd x161000_1 x7_1) - (wrap64 (Int.tdiv (wrap64 ((rd l0_0 x7_1) * (rd l1 (ji100)))) 256)))) : List Int)).bind fun y192 => (if (ji100) < (x161000_1.length : Int) then (if x7_1 < (x161001_1.length : Int) then ((some (x161001_1.set (x7_1 : Int).toNat (wrap64 ((rd x161001_1 x7_1) - t190)) : List Int)).bind fun y196 => (if (ji100) < (x161001_1.length : Int) then (spec_l17Step.l0 k1 l1 (l0_0.length : Int) (wrap64 (x7_1 + 1)) l0_0 l0_1 (y192.set ((ji100) : Int).toNat (wrap64 ((rd y192 (ji100)) + (wrap64 (Int.tdiv (wrap64 ((rd l0_0 x7_1) * (rd l1 (ji100)))) 256))))) (y196.set ((ji100) : Int).toNat (wrap64 ((rd y196 (ji100)) + t190)))) else (none))) else (none)) else (none))) else (none))) else (spec_l17Step.l0 k1 l1 (l0_0.length : Int) (wrap64 (x7_1 + 1)) l0_0 l0_1 x161000_1 x161001_1)) else (none)) else (none)) = some (r1, r2) := by first | (rw [hji100] at H; exact H) | (simp only [hji100] at H ⊢; exact H)
      obtain ⟨c101, H⟩ := ifS_ H
      have c101b0 : decide (0 ≤ (ji100)) = true := decide_eq_true c101
      clear c101
      obtain ⟨c102, H⟩ := ifS_ H
      have c102b0 : decide ((ji100) < (l1.length : Int)) = true := decide_eq_true c102
      clear c102
      by_cases c103 : (rd l1 (ji100)) > 0
      ·rw [if_pos c103] at H
       have c103b0 : decide (0 < (rd l1 (ji100))) = true := decide_eq_true c103
       clear c103; replace H := Option.bind_eq_some_iff.mp H
       obtain ⟨t190, A1040, H⟩ := H
       replace H : (if x7_1 < (x161000_1.length : Int) then ((some (x161000_1.set (x7_1 : Int).toNat (wrap64 ((rd x161000_1 x7_1) - (wrap64 (Int.tdiv (wrap64 ((rd l0_0 x7_1) * (rd l1 (ji100)))) 256)))) : List Int)).bind fun y192 => (if (ji100) < (x161000_1.length : Int) then (if x7_1 < (x161001_1.length : Int) then ((some (x161001_1.set (x7_1 : Int).toNat (wrap64 ((rd x161001_1 x7_1) - t190)) : List Int)).bind fun y196 => (if (ji100) < (x161001_1.length : Int) then (spec_l17Step.l0 k1 l1 (l0_0.length : Int) (wrap64 (x7_1 + 1)) l0_0 l0_1 (y192.set ((ji100) : Int).toNat (wrap64 ((rd y192 (ji100)) + (wrap64 (Int.tdiv (wrap64 ((rd l0_0 x7_1) * (rd l1 (ji100)))) 256))))) (y196.set ((ji100) : Int).toNat (wrap64 ((rd y196 (ji100)) + t190)))) else (none))) else (none)) else (none))) else (none)) = some (r1, r2) := H
       have A104 := Aside0.mk A1040; clear A1040
       obtain ⟨c105, H⟩ := ifS_ H
       have c105b0 : decide (x7_1 < (x161000_1.length : Int)) = true := decide_eq_true c105
       clear c105
       obtain ⟨y192, hy192⟩ : ∃ y_ : List Int, y_ = (x161000_1.set (x7_1 : Int).toNat (wrap64 ((rd x161000_1 x7_1) - (wrap64 (Int.tdiv (wrap64 ((rd l0_0 x7_1) * (rd l1 (ji100)))) 256))))) := ⟨_, rfl⟩
       replace H : (if (ji100) < (x161000_1.length : Int) then (if x7_1 < (x161001_1.length : Int) then ((some (x161001_1.set (x7_1 : Int).toNat (wrap64 ((rd x161001_1 x7_1) - t190)) : List Int)).bind fun y196 => (if (ji100) < (x161001_1.length : Int) then (spec_l17Step.l0 k1 l1 (l0_0.length : Int) (wrap64 (x7_1 + 1)) l0_0 l0_1 (y192.set ((ji100) : Int).toNat (wrap64 ((rd y192 (ji100)) + (wrap64 (Int.tdiv (wrap64 ((rd l0_0 x7_1) * (rd l1 (ji100)))) 256))))) (y196.set ((ji100) : Int).toNat (wrap64 ((rd y196 (ji100)) + t190)))) else (none))) else (none)) else (none)) = some (r1, r2) := by first | (rw [hy192]; with_reducible exact H) | (have H2_ := (Option.bind_some _ _).symm.trans H; rw [hy192]; with_reducible exact H2_) | (have H2_ := (Option.bind_some _ _).symm.trans H; with_reducible exact H2_) | with_reducible exact H | (rw [hy192]; exact H) | exact H
       have Ny192 := Aside0.mk hy192; clear hy192
       obtain ⟨c107, H⟩ := ifS_ H
       have c107b0 : decide ((ji100) < (x161000_1.length : Int)) = true := decide_eq_true c107
       clear c107
       obtain ⟨y194, hy194⟩ : ∃ y_ : List Int, y_ = (y192.set ((ji100) : Int).toNat (wrap64 ((rd y192 (ji100)) + (wrap64 (Int.tdiv (wrap64 ((rd l0_0 x7_1) * (rd l1 (ji100)))) 256))))) := ⟨_, rfl⟩
       replace H : (if x7_1 < (x161001_1.length : Int) then ((some (x161001_1.set (x7_1 : Int).toNat (wrap64 ((rd x161001_1 x7_1) - t190)) : List Int)).bind fun y196 => (if (ji100) < (x161001_1.length : Int) then (spec_l17Step.l0 k1 l1 (l0_0.length : Int) (wrap64 (x7_1 + 1)) l0_0 l0_1 y194 (y196.set ((ji100) : Int).toNat (wrap64 ((rd y196 (ji100)) + t190)))) else (none))) else (none)) = some (r1, r2) := by first | (rw [hy194]; with_reducible exact H) | (have H2_ := (Option.bind_some _ _).symm.trans H; rw [hy194]; with_reducible exact H2_) | (have H2_ := (Option.bind_some _ _).symm.trans H; with_reducible exact H2_) | with_reducible exact H | (rw [hy194]; exact H) | exact H
       have Ny194 := Aside0.mk hy194; clear hy194
       obtain ⟨c109, H⟩ := ifS_ H
       have c109b0 : decide (x7_1 < (x161001_1.length : Int)) = true := decide_eq_true c109
       clear c109
       obtain ⟨y196, hy196⟩ : ∃ y_ : List Int, y_ = (x161001_1.set (x7_1 : Int).toNat (wrap64 ((rd x161001_1 x7_1) - t190))) := ⟨_, rfl⟩
       replace H : (if (ji100) < (x161001_1.length : Int) then (spec_l17Step.l0 k1 l1 (l0_0.length : Int) (wrap64 (x7_1 + 1)) l0_0 l0_1 y194 (y196.set ((ji100) : Int).toNat (wrap64 ((rd y196 (ji100)) + t190)))) else (none)) = some (r1, r2) := by first | (rw [hy196]; with_reducible exact H) | (have H2_ := (Option.bind_some _ _).symm.trans H; rw [hy196]; with_reducible exact H2_) | (have H2_ := (Option.bind_some _ _).symm.trans H; with_reducible exact H2_) | with_reducible exact H | (rw [hy196]; exact H) | exact H
       have Ny196 := Aside0.mk hy196; clear hy196
       obtain ⟨c111, H⟩ := ifS_ H
       have c111b0 : decide ((ji100) < (x161001_1.length : Int)) = true := decide_eq_true c111
       clear c111
       obtain ⟨y198, hy198⟩ : ∃ y_ : List Int, y_ = (y196.set ((ji100) : Int).toNat (wrap64 ((rd y196 (ji100)) + t190))) := ⟨_, rfl⟩
       replace H : (spec_l17Step.l0 k1 l1 (l0_0.length : Int) (wrap64 (x7_1 + 1)) l0_0 l0_1 y194 y198) = some (r1, r2) := by first | (rw [hy198]; with_reducible exact H) | (have H2_ := (Option.bind_some _ _).symm.trans H; rw [hy198]; with_reducible exact H2_) | (have H2_ := (Option.bind_some _ _).symm.trans H; with_reducible exact H2_) | with_reducible exact H | (rw [hy198]; exact H) | exact H
       have Ny198 := Aside0.mk hy198; clear hy198; have H' := Aside0.mk H; clear H; have hnb113 := NB146_147.out; have hnc113 := NB147_146.out; have hnb114 := NB146_160.out; have hnc114 := NB160_146.out
       have hcz115_0 : wr.cell? ⟨gb146, 0, none⟩ = some (.slice A0_0 l0_0.length c0_0) := (blk_cell BK146.out 0).trans rfl
       have hcz115_1 : wr.cell? ⟨gb146, 1, none⟩ = some (.slice A0_1 l0_1.length c0_1) := (blk_cell BK146.out 1).trans rfl
       have hfz115_0 := blk_frozen BK146.out 0; have hfz115_1 := blk_frozen BK146.out 1
       have p161 : 0 ≤ (x7_1 : Int) := of_decide_eq_true (by first | (with_reducible assumption) | assumption)
       have q161 : x7_1 < (l0_0.length : Int) := of_decide_eq_true (by first | (with_reducible assumption) | assumption)
       obtain ⟨ad161, e161, hx161_0⟩ := Kd.at_int HR0_0.out x7_1 p161 q161
       cases e161
       replace hx161_0 := (HB.out.cell (World.block_lt_of_cell? w _ hx161_0)).trans hx161_0
       replace p161 := eq_true p161; replace q161 := eq_true q161
       have p162 : 0 ≤ (x7_1 : Int) := of_decide_eq_true (by first | (with_reducible assumption) | assumption)
       have q162 : x7_1 < (l0_1.length : Int) := of_decide_eq_true (by first | (with_reducible assumption) | assumption)
       obtain ⟨ad162, e162, hx162_0⟩ := Kd.at_int HR0_1.out x7_1 p162 q162
       cases e162
       replace hx162_0 := (HB.out.cell (World.block_lt_of_cell? w _ hx162_0)).trans hx162_0
       replace p162 := eq_true p162; replace q162 := eq_true q162
       have p163 : 0 ≤ (x7_1 : Int) := of_decide_eq_true (by first | (with_reducible assumption) | assumption)
       have q163 : x7_1 < (l1.length : Int) := of_decide_eq_true (by first | (with_reducible assumption) | assumption)
       obtain ⟨ad163, e163, hx163_0⟩ := Kd.at_int HR1.out x7_1 p163 q163
       cases e163
       replace hx163_0 := (HB.out.cell (World.block_lt_of_cell? w _ hx163_0)).trans hx163_0
       replace p163 := eq_true p163; replace q163 := eq_true q163
       have p187 : 0 ≤ ((ji100) : Int) := of_decide_eq_true (by first | (with_reducible assumption) | assumption)
       have q187 : (ji100) < (l1.length : Int) := of_decide_eq_true (by first | (with_reducible assumption) | assumption)
       obtain ⟨ad187, e187, hx187_0⟩ := Kd.at_int HR1.out (ji100) p187 q187
       obtain rfl : ad163 = ad187 := (by injection e187)
       replace hx187_0 := (HB.out.cell (World.block_lt_of_cell? w _ hx187_0)).trans hx187_0
       replace p187 := eq_true p187; replace q187 := eq_true q187
       try go_wp2
       replace HO_161000 := Aside0.mk (Kd.R_drew HO_161000.out)
       replace HO_161001 := Aside0.mk (Kd.R_drew HO_161001.out)
       replace BK146 := Aside0.mk (blk_drew BK146.out)
       replace BK147 := Aside0.mk (blk_drew BK147.out)
       replace BK160 := Aside0.mk (blk_drew BK160.out)
       replace HB := Aside0.mk (below_drew1 HB.out)
       have p188 : 0 ≤ (x7_1 : Int) := of_decide_eq_true (by first | (with_reducible assumption) | assumption)
       have q188 : x7_1 < (l0_0.length : Int) := of_decide_eq_true (by first | (with_reducible assumption) | assumption)
       obtain ⟨ad188, e188, hx188_0⟩ := Kd.at_int HR0_0.out x7_1 p188 q188
       have hw188_0 := hx188_0
       obtain rfl : ad161 = ad188 := (by injection e188)
       replace hx188_0 := (HB.out.cell (World.block_lt_of_cell? w _ hx188_0)).trans hx188_0
       replace p188 := eq_true p188; replace q188 := eq_true q188
       have p189 : 0 ≤ ((ji100) : Int) := of_decide_eq_true (by first | (with_reducible assumption) | assumption)
       have q189 : (ji100) < (l1.length : Int) := of_decide_eq_true (by first | (with_reducible assumption) | assumption)
       obtain ⟨ad189, e189, hx189_0⟩ := Kd.at_int HR1.out (ji100) p189 q189
       have hw189_0 := hx189_0
       obtain rfl : ad163 = ad189 := (by injection e189)
       replace hx189_0 := (HB.out.cell (World.block_lt_of_cell? w _ hx189_0)).trans hx189_0
       replace p189 := eq_true p189; replace q189 := eq_true q189
       refine start_ (n := 12) (S := fun w' => w'.cell? ⟨gb146, 0, none⟩ = some (.slice (some ad161) l0_0.length c0_0) ∧ w'.cell? ⟨gb146, 1, none⟩ = some (.slice (some ad162) l0_1.length c0_1) ∧ w'.cell? (ad161.add (x7_1).toNat) = some (.int .i64 (rd l0_0 x7_1)) ∧ w'.cell? (ad163.add ((ji100)).toNat) = some (.int .i64 (rd l1 (ji100)))) (ds := []) #[false, false, false, false, false, false, false, false, false, false, false, false] (by kernel_rfl) rfl rfl ⟨(blk_cell BK146.out 0).trans rfl, (blk_cell BK146.out 1).trans rfl, ((HB.out.cell (World.block_lt_of_cell? w _ hw188_0)).trans hw188_0), ((HB.out.cell (World.block_lt_of_cell? w _ hw189_0)).trans hw189_0)⟩ (fun hHeld => ?_); refine with_tabW spec_l17Step.tab20 spec_l17Step.bits20 (fun HT_ HW_ => ?_)
       generalize wr.drew = w116 at HO_161000 HO_161001 BK146 BK147 BK160 HB hx188_0 hx189_0 hHeld ⊢
       refine pT_ 0 (some 129) #[true, false, false, false, false, false, false, false, false, false, false, false] HT_ ?_
       refine pT_ 2 (some 131) #[true, false, true, false, false, false, false, false, false, false, false, false] HT_ ?_
       refine pT_ 5 (some 134) #[true, false, true, false, false, true, false, false, false, false, false, false] HT_ ?_
       refine pT_ 6 (some 135) #[true, false, true, false, false, true, true, false, false, false, false, false] HT_ ?_
       refine pT_ 7 (some 136) #[true, false, true, false, false, true, true, true, false, false, false, false] HT_ ?_
       refine tT_ 1 (some 130) #[true, true, true, false, false, true, true, true, false, false, false, false] HT_ HW_ hHeld ?_ (hy := by rintro w' ⟨s0, s1, s2, s3⟩; go_simp; with_reducible rfl)
       refine pT_ 3 (some 132) #[true, true, true, true, false, true, true, true, false, false, false, false] HT_ ?_
       refine tT_ 4 (some 133) #[true, true, true, true, true, true, true, true, false, false, false, false] HT_ HW_ hHeld ?_ (hy := by rintro w' ⟨s0, s1, s2, s3⟩; go_simp; with_reducible rfl)
       refine tT_ 8 (some 137) #[true, true, true, true, true, true, true, true, true, false, false, false] HT_ HW_ hHeld ?_ (hy := by rintro w' ⟨s0, s1, s2, s3⟩; go_simp; with_reducible rfl)
       refine pT_ 9 (some 138) #[true, true, true, true, true, true, true, true, true, true, false, false] HT_ ?_
       refine pT_ 10 (some 139) #[true, true, true, true, true, true, true, true, true, true, true, false] HT_ ?_
       refine pT_ 11 (some 14) #[true, true, true, true, true, true, true, true, true, true, true, true] HT_ ?_
       refine done_ (done_of HT_.out (by kernel_rfl)) ?_
       try go_wp2_with (first | ((with_reducible refine gate_callee (f := 39) rfl ?_); refine goesL_ (some 143) rfl rfl Try.func39 (by kernel_rfl) rfl #[.int .i64 (rd l0_1 x7_1), .int .i64 (wrap64 (Int.tdiv (wrap64 ((rd l0_0 x7_1) * (rd l1 (ji100)))) 256)), .int .i64 (rd l0_0 x7_1)] rfl (by (try simp only [List.map_toArray, List.map_cons, List.map_nil]); first | done | (simp only [hji100]; rfl) | rfl | (simp only [List.length_drop, List.length_take]; rfl)) ?_; (with_reducible refine (spec_l17Part.calls (rd l0_1 x7_1) (wrap64 (Int.tdiv (wrap64 ((rd l0_0 x7_1) * (rd l1 (ji100)))) 256)) (rd l0_0 x7_1) t190 _ A104.out).mono ?_); rintro e w' ⟨rfl, ⟨nd, rfl⟩⟩; refine ⟨_, rfl, ?_⟩; (try (rw [drewN_self w116]; generalize hq_ : World.drewN w116 _ = w116; have n0_ : Aside0 (Kd.R (Kd.int .i64) 2 w116 w.heap.size (fun k_ => some k_ ≠ (u161001 : Value).ownBlock) u161000 x161000_1) := ⟨by rw [← hq_]; exact (rT_ HO_161000)⟩; have n1_ : Aside0 (Kd.R (Kd.int .i64) 2 w116 w.heap.size (fun k_ => some k_ ≠ (u161000 : Value).ownBlock) u161001 x161001_1) := ⟨by rw [← hq_]; exact (rT_ HO_161001)⟩; have n2_ : Aside0 (w116.heap[gb146]? = some (.cells #[.slice (some ad161) l0_0.length c0_0, .slice (some ad162) l0_1.length c0_1] 26 (0, 0))) := ⟨by rw [← hq_]; exact (bT_ BK146)⟩; have n3_ : Aside0 (w116.heap[gb147]? = some (.cells #[.slice none 0 0, .slice none 0 0] 26 (0, 0))) := ⟨by rw [← hq_]; exact (bT_ BK147)⟩; have n4_ : Aside0 (w116.heap[gb160]? = some (.cells #[u161000, u161001] 26 (0, 0))) := ⟨by rw [← hq_]; exact (bT_ BK160)⟩; have n5_ : Aside0 (Below w.heap.size w w116) := ⟨by rw [← hq_]; exact (by repeat (first | (with_reducible first | exact HB.out | apply below_alloc | apply pw_below_drewN | apply below_drew1 | refine below_set ?_ GE146.out | refine below_set ?_ GE147.out | refine below_set ?_ GE160.out) | exact HB.out))⟩; clear HO_161000 HO_161001 BK146 BK147 BK160 HB hq_; have HO_161000 := n0_; have HO_161001 := n1_; have BK146 := n2_; have BK147 := n3_; have BK160 := n4_; have HB := n5_; clear n0_ n1_ n2_ n3_ n4_ n5_))))
       replace HO_161000 := Aside0.mk (Kd.R_drew HO_161000.out)
       replace HO_161001 := Aside0.mk (Kd.R_drew HO_161001.out)
       replace BK146 := Aside0.mk (blk_drew BK146.out)
       replace BK147 := Aside0.mk (blk_drew BK147.out)
       replace BK160 := Aside0.mk (blk_drew BK160.out)
       replace HB := Aside0.mk (below_drew1 HB.out)
       obtain ⟨Ao118, co118, eo118⟩ := Kd.R_slice HO_161000.out
       (first | subst eo118 | (injection eo118 with f1_ f2_ f3_; have f4_ := f1_.symm; have f5_ := f3_.symm; clear f1_ f2_ f3_; subst f4_; subst f5_))
       have p191 : 0 ≤ (x7_1 : Int) := of_decide_eq_true (by first | (with_reducible assumption) | assumption)
       have q191 : x7_1 < (x161000_1.length : Int) := of_decide_eq_true (by first | (with_reducible assumption) | assumption)
       obtain ⟨ad191, e191, hx191_0⟩ := Kd.at_int (Kd.R_reads' HO_161000.out).2.2 x7_1 p191 q191
       cases e191
       replace p191 := eq_true p191; replace q191 := eq_true q191
       have p106 : 0 ≤ (x7_1 : Int) := of_decide_eq_true (by first | (with_reducible assumption) | assumption)
       have q106 : (x7_1 : Int) < ((x161000_1.length : Int) : Int) := of_decide_eq_true (by first | (with_reducible assumption) | assumption)
       obtain ⟨go106, co106, eo106, gb106, gl106, cl106, HG106⟩ := Kd.R_form HO_161000.out (by omega)
       (first | cases eo106 | (injection eo106 with ea_ en_ ec_; (first | subst ea_ | (injection ea_ with ea_; subst ea_)); subst ec_; clear en_))
       have GB106 := Aside0.mk gb106; have GG106 := Aside0.mk HG106; clear gb106 gl106 HG106
       (first | simp only [add_plain] at hx191_0 | skip)
       obtain ⟨hx106_0, hf106_0⟩ := Kd.R_celln 0 HO_161000.out (x7_1 : Int) p106 q106
       replace p106 := eq_true p106; replace q106 := eq_true q106
       have HP119 := Kd.R_putn HO_161000.out (x7_1 : Int) (wrap64 ((rd x161000_1 x7_1) - (wrap64 (Int.tdiv (wrap64 ((rd l0_0 x7_1) * (rd l1 (ji100)))) 256))))
       rw [← Ny192.out] at HP119
       have HQ119 := Aside0.mk HP119; clear HP119
       refine start_ (n := 12) (S := fun w' => w'.cell? ⟨gb160, 0, none⟩ = some (.slice (some ⟨go106, 0, none⟩) x161000_1.length co118) ∧ w'.cell? ⟨gb160, 1, none⟩ = some (u161001) ∧ w'.cell? ⟨go106, (x7_1).toNat, none⟩ = some (.int .i64 (rd x161000_1 x7_1))) (ds := [11]) #[false, false, false, false, false, false, false, false, false, false, false, false] (by kernel_rfl) rfl rfl ⟨(blk_cell BK160.out 0).trans rfl, (blk_cell BK160.out 1).trans rfl, hx191_0⟩ (fun hHeld => ?_); refine with_tabW spec_l17Step.tab22 spec_l17Step.bits22 (fun HT_ HW_ => ?_)
       generalize w116.drew = w117 at HO_161000 HO_161001 BK146 BK147 BK160 HB GG106 HQ119 hf106_0 hx106_0 hx191_0 hHeld ⊢
       refine pT_ 0 (some 144) #[true, false, false, false, false, false, false, false, false, false, false, false] HT_ ?_
       refine pT_ 2 (some 146) #[true, false, true, false, false, false, false, false, false, false, false, false] HT_ ?_
       refine pT_ 3 (some 147) #[true, false, true, true, false, false, false, false, false, false, false, false] HT_ ?_
       refine pT_ 5 (some 149) #[true, false, true, true, false, true, false, false, false, false, false, false] HT_ ?_
       refine pT_ 8 (some 152) #[true, false, true, true, false, true, false, false, true, false, false, false] HT_ ?_
       refine tT_ 1 (some 145) #[true, true, true, true, false, true, false, false, true, false, false, false] HT_ HW_ hHeld ?_ (hy := by rintro w' ⟨s0, s1, s2⟩; go_simp; with_reducible rfl)
       refine tT_ 4 (some 148) #[true, true, true, true, true, true, false, false, true, false, false, false] HT_ HW_ hHeld ?_ (hy := by rintro w' ⟨s0, s1, s2⟩; go_simp; with_reducible rfl)
       refine pT_ 6 (some 150) #[true, true, true, true, true, true, true, false, true, false, false, false] HT_ ?_
       refine tT_ 7 (some 151) #[true, true, true, true, true, true, true, true, true, false, false, false] HT_ HW_ hHeld ?_ (hy := by rintro w' ⟨s0, s1, s2⟩; go_simp; with_reducible rfl)
       refine pT_ 9 (some 153) #[true, true, true, true, true, true, true, true, true, true, false, false] HT_ ?_
       refine pT_ 10 (some 154) #[true, true, true, true, true, true, true, true, true, true, true, false] HT_ ?_
       refine last_ (i := 11) (N := none) #[true, true, true, true, true, true, true, true, true, true, true, true] rfl rfl (one_of HT_.out (by kernel_rfl)) (by decide) (fun K hK => ?_)
       refine skip_ (w1 := ?_) (by rfl) rfl ?_ ?_
       rotate_left
       ·go_simp
        rfl
       refine hK.out _ _ ?_
       clear hK K
       refine done_ (done_of HT_.out (by kernel_rfl)) ?_
       try go_wp2
       have n0_ : Aside0 (Kd.R (Kd.int .i64) 2 (w117.setCell ⟨go106, (x7_1 : Int).toNat, none⟩ (.int .i64 (wrap64 ((rd x161000_1 x7_1) - (wrap64 (Int.tdiv (wrap64 ((rd l0_0 x7_1) * (rd l1 (ji100)))) 256)))))) w.heap.size (fun k_ => some k_ ≠ (u161001 : Value).ownBlock) (.slice (some ⟨go106, 0, none⟩) x161000_1.length co118) y192) := ⟨by (with_reducible repeat (first | apply Kd.R_alloc | apply Kd.R_drewN | apply Kd.R_drew)); exact HQ119.out⟩
       have n1_ : Aside0 (Kd.R (Kd.int .i64) 2 (w117.setCell ⟨go106, (x7_1 : Int).toNat, none⟩ (.int .i64 (wrap64 ((rd x161000_1 x7_1) - (wrap64 (Int.tdiv (wrap64 ((rd l0_0 x7_1) * (rd l1 (ji100)))) 256)))))) w.heap.size (fun k_ => some k_ ≠ (.slice (some ⟨go106, 0, none⟩) x161000_1.length co118 : Value).ownBlock) u161001 x161001_1) := ⟨by (with_reducible repeat (first | apply Kd.R_alloc | apply Kd.R_drewN | apply Kd.R_drew)); exact Kd.R_mono (Kd.R_far (p := ⟨go106, (x7_1 : Int).toNat, none⟩) (Kd.R_mono HO_161001.out (fun k_ hk => (⟨hk, fun e_ => hk (by rw [e_]; rfl)⟩ : _ ∧ k_ ≠ go106))) (fun _ hk => hk.2) (.int .i64 (wrap64 ((rd x161000_1 x7_1) - (wrap64 (Int.tdiv (wrap64 ((rd l0_0 x7_1) * (rd l1 (ji100)))) 256)))))) (fun _ hk => hk.1)⟩
       have n2_ : Aside0 ((w117.setCell ⟨go106, (x7_1 : Int).toNat, none⟩ (.int .i64 (wrap64 ((rd x161000_1 x7_1) - (wrap64 (Int.tdiv (wrap64 ((rd l0_0 x7_1) * (rd l1 (ji100)))) 256)))))).heap[gb146]? = some (.cells #[.slice (some ad161) l0_0.length c0_0, .slice (some ad162) l0_1.length c0_1] 26 (0, 0))) := ⟨by (with_reducible repeat (first | refine blk_drewN ?_ _ | refine blk_drew ?_ | refine blk_alloc ?_ _)); refine blk_far ?_ (by have h_ := Kd.R_ne HO_161000.out BK146.out (by decide); intro e_; exact h_ (by rw [e_]; rfl)) _; exact bT_ BK146⟩
       have n3_ : Aside0 ((w117.setCell ⟨go106, (x7_1 : Int).toNat, none⟩ (.int .i64 (wrap64 ((rd x161000_1 x7_1) - (wrap64 (Int.tdiv (wrap64 ((rd l0_0 x7_1) * (rd l1 (ji100)))) 256)))))).heap[gb147]? = some (.cells #[.slice none 0 0, .slice none 0 0] 26 (0, 0))) := ⟨by (with_reducible repeat (first | refine blk_drewN ?_ _ | refine blk_drew ?_ | refine blk_alloc ?_ _)); refine blk_far ?_ (by have h_ := Kd.R_ne HO_161000.out BK147.out (by decide); intro e_; exact h_ (by rw [e_]; rfl)) _; exact bT_ BK147⟩
       have n4_ : Aside0 ((w117.setCell ⟨go106, (x7_1 : Int).toNat, none⟩ (.int .i64 (wrap64 ((rd x161000_1 x7_1) - (wrap64 (Int.tdiv (wrap64 ((rd l0_0 x7_1) * (rd l1 (ji100)))) 256)))))).heap[gb160]? = some (.cells #[.slice (some ⟨go106, 0, none⟩) x161000_1.length co118, u161001] 26 (0, 0))) := ⟨by (with_reducible repeat (first | refine blk_drewN ?_ _ | refine blk_drew ?_ | refine blk_alloc ?_ _)); refine blk_far ?_ (by have h_ := Kd.R_ne HO_161000.out BK160.out (by decide); intro e_; exact h_ (by rw [e_]; rfl)) _; exact bT_ BK160⟩
       have n5_ : Aside0 (Below w.heap.size w (w117.setCell ⟨go106, (x7_1 : Int).toNat, none⟩ (.int .i64 (wrap64 ((rd x161000_1 x7_1) - (wrap64 (Int.tdiv (wrap64 ((rd l0_0 x7_1) * (rd l1 (ji100)))) 256))))))) := ⟨by repeat (first | (with_reducible first | exact HB.out | apply below_alloc | apply pw_below_drewN | apply below_drew1 | refine below_set ?_ GB106.out | refine below_set ?_ GE146.out | refine below_set ?_ GE147.out | refine below_set ?_ GE160.out) | exact HB.out)⟩
       (try clear HO_161000); (try clear HO_161001); (try clear BK146); (try clear BK147); (try clear BK160); (try clear HB)
       generalize (w117.setCell ⟨go106, (x7_1 : Int).toNat, none⟩ (.int .i64 (wrap64 ((rd x161000_1 x7_1) - (wrap64 (Int.tdiv (wrap64 ((rd l0_0 x7_1) * (rd l1 (ji100)))) 256)))))) = w120 at n0_ n1_ n2_ n3_ n4_ n5_ ⊢
       have HO_161000 := n0_; have HO_161001 := n1_; have BK146 := n2_; have BK147 := n3_; have BK160 := n4_; have HB := n5_; clear n0_ n1_ n2_ n3_ n4_ n5_
       replace HO_161000 := Aside0.mk (Kd.R_drew HO_161000.out)
       replace HO_161001 := Aside0.mk (Kd.R_drew HO_161001.out)
       replace BK146 := Aside0.mk (blk_drew BK146.out)
       replace BK147 := Aside0.mk (blk_drew BK147.out)
       replace BK160 := Aside0.mk (blk_drew BK160.out)
       replace HB := Aside0.mk (below_drew1 HB.out)
       have p193 : 0 ≤ ((ji100) : Int) := of_decide_eq_true (by first | (with_reducible assumption) | assumption)
       have q193 : (ji100) < (y192.length : Int) := (by have h_ : ((ji100) : Int) < ((x161000_1.length : Int) : Int) := of_decide_eq_true (by first | (with_reducible assumption) | assumption); first | (have e_ := (Kd.R_reads' HO_161000.out).1; omega) | simpa only [Ny192.out, List.length_set] using h_)
       have ql193 : (((ji100) : Int) < ((x161000_1.length : Int) : Int)) = True := eq_true (of_decide_eq_true (by first | (with_reducible assumption) | assumption))
       obtain ⟨ad193, e193, hx193_0⟩ := Kd.at_int (Kd.R_reads' HO_161000.out).2.2 (ji100) p193 q193
       obtain rfl : (⟨go106, 0, none⟩ : Addr) = ad193 := (by injection e193)
       (first | simp only [add_plain] at hx193_0 | simp only [add_at] at hx193_0 | simp only [Addr.add, Nat.zero_add] at hx193_0 | skip)
       replace p193 := eq_true p193; replace q193 := eq_true q193
       have p108 : 0 ≤ ((ji100) : Int) := of_decide_eq_true (by first | (with_reducible assumption) | assumption)
       have q108 : ((ji100) : Int) < ((x161000_1.length : Int) : Int) := of_decide_eq_true (by first | (with_reducible assumption) | assumption)
       obtain ⟨hx108_0, hf108_0⟩ := Kd.R_celln 0 HO_161000.out ((ji100) : Int) p108 q108
       replace p108 := eq_true p108; replace q108 := eq_true q108
       have HP122 := Kd.R_putn HO_161000.out ((ji100) : Int) (wrap64 ((rd y192 (ji100)) + (wrap64 (Int.tdiv (wrap64 ((rd l0_0 x7_1) * (rd l1 (ji100)))) 256))))
       rw [← Ny194.out] at HP122
       have HQ122 := Aside0.mk HP122; clear HP122
       refine start_ (n := 12) (S := fun w' => w'.cell? ⟨gb160, 0, none⟩ = some (.slice (some ⟨go106, 0, none⟩) x161000_1.length co118) ∧ w'.cell? ⟨gb160, 1, none⟩ = some (u161001) ∧ w'.cell? ⟨go106, ((ji100)).toNat, none⟩ = some (.int .i64 (rd y192 (ji100)))) (ds := [11]) #[false, false, false, false, false, false, false, false, false, false, false, false] (by kernel_rfl) rfl rfl ⟨(blk_cell BK160.out 0).trans rfl, (blk_cell BK160.out 1).trans rfl, hx193_0⟩ (fun hHeld => ?_); refine with_tabW spec_l17Step.tab23 spec_l17Step.bits23 (fun HT_ HW_ => ?_)
       generalize w120.drew = w121 at HO_161000 HO_161001 BK146 BK147 BK160 HB HQ119 HQ122 hf108_0 hx108_0 hx193_0 hHeld ⊢
       refine pT_ 0 (some 155) #[true, false, false, false, false, false, false, false, false, false, false, false] HT_ ?_
       refine pT_ 2 (some 157) #[true, false, true, false, false, false, false, false, false, false, false, false] HT_ ?_
       refine pT_ 3 (some 158) #[true, false, true, true, false, false, false, false, false, false, false, false] HT_ ?_
       refine pT_ 5 (some 160) #[true, false, true, true, false, true, false, false, false, false, false, false] HT_ ?_
       refine pT_ 8 (some 163) #[true, false, true, true, false, true, false, false, true, false, false, false] HT_ ?_
       refine tT_ 1 (some 156) #[true, true, true, true, false, true, false, false, true, false, false, false] HT_ HW_ hHeld ?_ (hy := by rintro w' ⟨s0, s1, s2⟩; go_simp; with_reducible rfl)
       refine tT_ 4 (some 159) #[true, true, true, true, true, true, false, false, true, false, false, false] HT_ HW_ hHeld ?_ (hy := by rintro w' ⟨s0, s1, s2⟩; go_simp; with_reducible rfl)
       refine pT_ 6 (some 161) #[true, true, true, true, true, true, true, false, true, false, false, false] HT_ ?_
       refine tT_ 7 (some 162) #[true, true, true, true, true, true, true, true, true, false, false, false] HT_ HW_ hHeld ?_ (hy := by rintro w' ⟨s0, s1, s2⟩; go_simp; with_reducible rfl)
       refine pT_ 9 (some 164) #[true, true, true, true, true, true, true, true, true, true, false, false] HT_ ?_
       refine pT_ 10 (some 165) #[true, true, true, true, true, true, true, true, true, true, true, false] HT_ ?_
       refine last_ (i := 11) (N := none) #[true, true, true, true, true, true, true, true, true, true, true, true] rfl rfl (one_of HT_.out (by kernel_rfl)) (by decide) (fun K hK => ?_)
       refine skip_ (w1 := ?_) (by rfl) rfl ?_ ?_
       rotate_left
       ·go_simp
        rfl
       refine hK.out _ _ ?_
       clear hK K
       refine done_ (done_of HT_.out (by kernel_rfl)) ?_
       try go_wp2
       have n0_ : Aside0 (Kd.R (Kd.int .i64) 2 (w121.setCell ⟨go106, ((ji100) : Int).toNat, none⟩ (.int .i64 (wrap64 ((rd y192 (ji100)) + (wrap64 (Int.tdiv (wrap64 ((rd l0_0 x7_1) * (rd l1 (ji100)))) 256)))))) w.heap.size (fun k_ => some k_ ≠ (u161001 : Value).ownBlock) (.slice (some ⟨go106, 0, none⟩) x161000_1.length co118) y194) := ⟨by (with_reducible repeat (first | apply Kd.R_alloc | apply Kd.R_drewN | apply Kd.R_drew)); exact HQ122.out⟩
       have n1_ : Aside0 (Kd.R (Kd.int .i64) 2 (w121.setCell ⟨go106, ((ji100) : Int).toNat, none⟩ (.int .i64 (wrap64 ((rd y192 (ji100)) + (wrap64 (Int.tdiv (wrap64 ((rd l0_0 x7_1) * (rd l1 (ji100)))) 256)))))) w.heap.size (fun k_ => some k_ ≠ (.slice (some ⟨go106, 0, none⟩) x161000_1.length co118 : Value).ownBlock) u161001 x161001_1) := ⟨by (with_reducible repeat (first | apply Kd.R_alloc | apply Kd.R_drewN | apply Kd.R_drew)); exact Kd.R_mono (Kd.R_far (p := ⟨go106, ((ji100) : Int).toNat, none⟩) (Kd.R_mono HO_161001.out (fun k_ hk => (⟨hk, fun e_ => hk (by rw [e_]; rfl)⟩ : _ ∧ k_ ≠ go106))) (fun _ hk => hk.2) (.int .i64 (wrap64 ((rd y192 (ji100)) + (wrap64 (Int.tdiv (wrap64 ((rd l0_0 x7_1) * (rd l1 (ji100)))) 256)))))) (fun _ hk => hk.1)⟩
       have n2_ : Aside0 ((w121.setCell ⟨go106, ((ji100) : Int).toNat, none⟩ (.int .i64 (wrap64 ((rd y192 (ji100)) + (wrap64 (Int.tdiv (wrap64 ((rd l0_0 x7_1) * (rd l1 (ji100)))) 256)))))).heap[gb146]? = some (.cells #[.slice (some ad161) l0_0.length c0_0, .slice (some ad162) l0_1.length c0_1] 26 (0, 0))) := ⟨by (with_reducible repeat (first | refine blk_drewN ?_ _ | refine blk_drew ?_ | refine blk_alloc ?_ _)); refine blk_far ?_ (by have h_ := Kd.R_ne HO_161000.out BK146.out (by decide); intro e_; exact h_ (by rw [e_]; rfl)) _; exact bT_ BK146⟩
       have n3_ : Aside0 ((w121.setCell ⟨go106, ((ji100) : Int).toNat, none⟩ (.int .i64 (wrap64 ((rd y192 (ji100)) + (wrap64 (Int.tdiv (wrap64 ((rd l0_0 x7_1) * (rd l1 (ji100)))) 256)))))).heap[gb147]? = some (.cells #[.slice none 0 0, .slice none 0 0] 26 (0, 0))) := ⟨by (with_reducible repeat (first | refine blk_drewN ?_ _ | refine blk_drew ?_ | refine blk_alloc ?_ _)); refine blk_far ?_ (by have h_ := Kd.R_ne HO_161000.out BK147.out (by decide); intro e_; exact h_ (by rw [e_]; rfl)) _; exact bT_ BK147⟩
       have n4_ : Aside0 ((w121.setCell ⟨go106, ((ji100) : Int).toNat, none⟩ (.int .i64 (wrap64 ((rd y192 (ji100)) + (wrap64 (Int.tdiv (wrap64 ((rd l0_0 x7_1) * (rd l1 (ji100)))) 256)))))).heap[gb160]? = some (.cells #[.slice (some ⟨go106, 0, none⟩) x161000_1.length co118, u161001] 26 (0, 0))) := ⟨by (with_reducible repeat (first | refine blk_drewN ?_ _ | refine blk_drew ?_ | refine blk_alloc ?_ _)); refine blk_far ?_ (by have h_ := Kd.R_ne HO_161000.out BK160.out (by decide); intro e_; exact h_ (by rw [e_]; rfl)) _; exact bT_ BK160⟩
       have n5_ : Aside0 (Below w.heap.size w (w121.setCell ⟨go106, ((ji100) : Int).toNat, none⟩ (.int .i64 (wrap64 ((rd y192 (ji100)) + (wrap64 (Int.tdiv (wrap64 ((rd l0_0 x7_1) * (rd l1 (ji100)))) 256))))))) := ⟨by repeat (first | (with_reducible first | exact HB.out | apply below_alloc | apply pw_below_drewN | apply below_drew1 | refine below_set ?_ GB106.out | refine below_set ?_ GE146.out | refine below_set ?_ GE147.out | refine below_set ?_ GE160.out) | exact HB.out)⟩
       (try clear HO_161000); (try clear HO_161001); (try clear BK146); (try clear BK147); (try clear BK160); (try clear HB)
       generalize (w121.setCell ⟨go106, ((ji100) : Int).toNat, none⟩ (.int .i64 (wrap64 ((rd y192 (ji100)) + (wrap64 (Int.tdiv (wrap64 ((rd l0_0 x7_1) * (rd l1 (ji100)))) 256)))))) = w123 at n0_ n1_ n2_ n3_ n4_ n5_ ⊢
       have HO_161000 := n0_; have HO_161001 := n1_; have BK146 := n2_; have BK147 := n3_; have BK160 := n4_; have HB := n5_; clear n0_ n1_ n2_ n3_ n4_ n5_
       replace HO_161000 := Aside0.mk (Kd.R_drew HO_161000.out)
       replace HO_161001 := Aside0.mk (Kd.R_drew HO_161001.out)
       replace BK146 := Aside0.mk (blk_drew BK146.out)
       replace BK147 := Aside0.mk (blk_drew BK147.out)
       replace BK160 := Aside0.mk (blk_drew BK160.out)
       replace HB := Aside0.mk (below_drew1 HB.out)
       obtain ⟨Ao125, co125, eo125⟩ := Kd.R_slice HO_161001.out
       (first | subst eo125 | (injection eo125 with f1_ f2_ f3_; have f4_ := f1_.symm; have f5_ := f3_.symm; clear f1_ f2_ f3_; subst f4_; subst f5_))
       have p195 : 0 ≤ (x7_1 : Int) := of_decide_eq_true (by first | (with_reducible assumption) | assumption)
       have q195 : x7_1 < (x161001_1.length : Int) := of_decide_eq_true (by first | (with_reducible assumption) | assumption)
       obtain ⟨ad195, e195, hx195_0⟩ := Kd.at_int (Kd.R_reads' HO_161001.out).2.2 x7_1 p195 q195
       cases e195
       replace p195 := eq_true p195; replace q195 := eq_true q195
       have p110 : 0 ≤ (x7_1 : Int) := of_decide_eq_true (by first | (with_reducible assumption) | assumption)
       have q110 : (x7_1 : Int) < ((x161001_1.length : Int) : Int) := of_decide_eq_true (by first | (with_reducible assumption) | assumption)
       obtain ⟨go110, co110, eo110, gb110, gl110, cl110, HG110⟩ := Kd.R_form HO_161001.out (by omega)
       (first | cases eo110 | (injection eo110 with ea_ en_ ec_; (first | subst ea_ | (injection ea_ with ea_; subst ea_)); subst ec_; clear en_))
       have GB110 := Aside0.mk gb110; have GG110 := Aside0.mk HG110; clear gb110 gl110 HG110
       (first | simp only [add_plain] at hx195_0 | skip)
       obtain ⟨hx110_0, hf110_0⟩ := Kd.R_celln 0 HO_161001.out (x7_1 : Int) p110 q110
       replace p110 := eq_true p110; replace q110 := eq_true q110
       have HP126 := Kd.R_putn HO_161001.out (x7_1 : Int) (wrap64 ((rd x161001_1 x7_1) - t190))
       rw [← Ny196.out] at HP126
       have HQ126 := Aside0.mk HP126; clear HP126
       refine start_ (n := 12) (S := fun w' => w'.cell? ⟨gb160, 0, none⟩ = some (.slice (some ⟨go106, 0, none⟩) x161000_1.length co118) ∧ w'.cell? ⟨gb160, 1, none⟩ = some (.slice (some ⟨go110, 0, none⟩) x161001_1.length co125) ∧ w'.cell? ⟨go110, (x7_1).toNat, none⟩ = some (.int .i64 (rd x161001_1 x7_1))) (ds := [11]) #[false, false, false, false, false, false, false, false, false, false, false, false] (by kernel_rfl) rfl rfl ⟨(blk_cell BK160.out 0).trans rfl, (blk_cell BK160.out 1).trans rfl, hx195_0⟩ (fun hHeld => ?_); refine with_tabW spec_l17Step.tab24 spec_l17Step.bits24 (fun HT_ HW_ => ?_)
       generalize w123.drew = w124 at HO_161000 HO_161001 BK146 BK147 BK160 HB GG110 HQ122 HQ126 hf110_0 hx110_0 hx195_0 hHeld ⊢
       refine pT_ 0 (some 166) #[true, false, false, false, false, false, false, false, false, false, false, false] HT_ ?_
       refine pT_ 2 (some 168) #[true, false, true, false, false, false, false, false, false, false, false, false] HT_ ?_
       refine pT_ 3 (some 169) #[true, false, true, true, false, false, false, false, false, false, false, false] HT_ ?_
       refine pT_ 5 (some 171) #[true, false, true, true, false, true, false, false, false, false, false, false] HT_ ?_
       refine pT_ 8 (some 174) #[true, false, true, true, false, true, false, false, true, false, false, false] HT_ ?_
       refine tT_ 1 (some 167) #[true, true, true, true, false, true, false, false, true, false, false, false] HT_ HW_ hHeld ?_ (hy := by rintro w' ⟨s0, s1, s2⟩; go_simp; with_reducible rfl)
       refine tT_ 4 (some 170) #[true, true, true, true, true, true, false, false, true, false, false, false] HT_ HW_ hHeld ?_ (hy := by rintro w' ⟨s0, s1, s2⟩; go_simp; with_reducible rfl)
       refine pT_ 6 (some 172) #[true, true, true, true, true, true, true, false, true, false, false, false] HT_ ?_
       refine tT_ 7 (some 173) #[true, true, true, true, true, true, true, true, true, false, false, false] HT_ HW_ hHeld ?_ (hy := by rintro w' ⟨s0, s1, s2⟩; go_simp; with_reducible rfl)
       refine pT_ 9 (some 175) #[true, true, true, true, true, true, true, true, true, true, false, false] HT_ ?_
       refine pT_ 10 (some 176) #[true, true, true, true, true, true, true, true, true, true, true, false] HT_ ?_
       refine last_ (i := 11) (N := none) #[true, true, true, true, true, true, true, true, true, true, true, true] rfl rfl (one_of HT_.out (by kernel_rfl)) (by decide) (fun K hK => ?_)
       refine skip_ (w1 := ?_) (by rfl) rfl ?_ ?_
       rotate_left
       ·go_simp
        rfl
       refine hK.out _ _ ?_
       clear hK K
       refine done_ (done_of HT_.out (by kernel_rfl)) ?_
       try go_wp2
       have n0_ : Aside0 (Kd.R (Kd.int .i64) 2 (w124.setCell ⟨go110, (x7_1 : Int).toNat, none⟩ (.int .i64 (wrap64 ((rd x161001_1 x7_1) - t190)))) w.heap.size (fun k_ => some k_ ≠ (.slice (some ⟨go110, 0, none⟩) x161001_1.length co125 : Value).ownBlock) (.slice (some ⟨go106, 0, none⟩) x161000_1.length co118) y194) := ⟨by (with_reducible repeat (first | apply Kd.R_alloc | apply Kd.R_drewN | apply Kd.R_drew)); exact Kd.R_mono (Kd.R_far (p := ⟨go110, (x7_1 : Int).toNat, none⟩) (Kd.R_mono HO_161000.out (fun k_ hk => (⟨hk, fun e_ => hk (by rw [e_]; rfl)⟩ : _ ∧ k_ ≠ go110))) (fun _ hk => hk.2) (.int .i64 (wrap64 ((rd x161001_1 x7_1) - t190)))) (fun _ hk => hk.1)⟩
       have n1_ : Aside0 (Kd.R (Kd.int .i64) 2 (w124.setCell ⟨go110, (x7_1 : Int).toNat, none⟩ (.int .i64 (wrap64 ((rd x161001_1 x7_1) - t190)))) w.heap.size (fun k_ => some k_ ≠ (.slice (some ⟨go106, 0, none⟩) x161000_1.length co118 : Value).ownBlock) (.slice (some ⟨go110, 0, none⟩) x161001_1.length co125) y196) := ⟨by (with_reducible repeat (first | apply Kd.R_alloc | apply Kd.R_drewN | apply Kd.R_drew)); exact HQ126.out⟩
       have n2_ : Aside0 ((w124.setCell ⟨go110, (x7_1 : Int).toNat, none⟩ (.int .i64 (wrap64 ((rd x161001_1 x7_1) - t190)))).heap[gb146]? = some (.cells #[.slice (some ad161) l0_0.length c0_0, .slice (some ad162) l0_1.length c0_1] 26 (0, 0))) := ⟨by (with_reducible repeat (first | refine blk_drewN ?_ _ | refine blk_drew ?_ | refine blk_alloc ?_ _)); refine blk_far ?_ (by have h_ := Kd.R_ne HO_161001.out BK146.out (by decide); intro e_; exact h_ (by rw [e_]; rfl)) _; exact bT_ BK146⟩
       have n3_ : Aside0 ((w124.setCell ⟨go110, (x7_1 : Int).toNat, none⟩ (.int .i64 (wrap64 ((rd x161001_1 x7_1) - t190)))).heap[gb147]? = some (.cells #[.slice none 0 0, .slice none 0 0] 26 (0, 0))) := ⟨by (with_reducible repeat (first | refine blk_drewN ?_ _ | refine blk_drew ?_ | refine blk_alloc ?_ _)); refine blk_far ?_ (by have h_ := Kd.R_ne HO_161001.out BK147.out (by decide); intro e_; exact h_ (by rw [e_]; rfl)) _; exact bT_ BK147⟩
       have n4_ : Aside0 ((w124.setCell ⟨go110, (x7_1 : Int).toNat, none⟩ (.int .i64 (wrap64 ((rd x161001_1 x7_1) - t190)))).heap[gb160]? = some (.cells #[.slice (some ⟨go106, 0, none⟩) x161000_1.length co118, .slice (some ⟨go110, 0, none⟩) x161001_1.length co125] 26 (0, 0))) := ⟨by (with_reducible repeat (first | refine blk_drewN ?_ _ | refine blk_drew ?_ | refine blk_alloc ?_ _)); refine blk_far ?_ (by have h_ := Kd.R_ne HO_161001.out BK160.out (by decide); intro e_; exact h_ (by rw [e_]; rfl)) _; exact bT_ BK160⟩
       have n5_ : Aside0 (Below w.heap.size w (w124.setCell ⟨go110, (x7_1 : Int).toNat, none⟩ (.int .i64 (wrap64 ((rd x161001_1 x7_1) - t190))))) := ⟨by repeat (first | (with_reducible first | exact HB.out | apply below_alloc | apply pw_below_drewN | apply below_drew1 | refine below_set ?_ GB110.out | refine below_set ?_ GE146.out | refine below_set ?_ GE147.out | refine below_set ?_ GE160.out) | exact HB.out)⟩
       (try clear HO_161000); (try clear HO_161001); (try clear BK146); (try clear BK147); (try clear BK160); (try clear HB)
       generalize (w124.setCell ⟨go110, (x7_1 : Int).toNat, none⟩ (.int .i64 (wrap64 ((rd x161001_1 x7_1) - t190)))) = w127 at n0_ n1_ n2_ n3_ n4_ n5_ ⊢
       have HO_161000 := n0_; have HO_161001 := n1_; have BK146 := n2_; have BK147 := n3_; have BK160 := n4_; have HB := n5_; clear n0_ n1_ n2_ n3_ n4_ n5_
       replace HO_161000 := Aside0.mk (Kd.R_drew HO_161000.out)
       replace HO_161001 := Aside0.mk (Kd.R_drew HO_161001.out)
       replace BK146 := Aside0.mk (blk_drew BK146.out)
       replace BK147 := Aside0.mk (blk_drew BK147.out)
       replace BK160 := Aside0.mk (blk_drew BK160.out)
       replace HB := Aside0.mk (below_drew1 HB.out)
       have p197 : 0 ≤ ((ji100) : Int) := of_decide_eq_true (by first | (with_reducible assumption) | assumption)
       have q197 : (ji100) < (y196.length : Int) := (by have h_ : ((ji100) : Int) < ((x161001_1.length : Int) : Int) := of_decide_eq_true (by first | (with_reducible assumption) | assumption); first | (have e_ := (Kd.R_reads' HO_161001.out).1; omega) | simpa only [Ny196.out, List.length_set] using h_)
       have ql197 : (((ji100) : Int) < ((x161001_1.length : Int) : Int)) = True := eq_true (of_decide_eq_true (by first | (with_reducible assumption) | assumption))
       obtain ⟨ad197, e197, hx197_0⟩ := Kd.at_int (Kd.R_reads' HO_161001.out).2.2 (ji100) p197 q197
       obtain rfl : (⟨go110, 0, none⟩ : Addr) = ad197 := (by injection e197)
       (first | simp only [add_plain] at hx197_0 | simp only [add_at] at hx197_0 | simp only [Addr.add, Nat.zero_add] at hx197_0 | skip)
       replace p197 := eq_true p197; replace q197 := eq_true q197
       have p112 : 0 ≤ ((ji100) : Int) := of_decide_eq_true (by first | (with_reducible assumption) | assumption)
       have q112 : ((ji100) : Int) < ((x161001_1.length : Int) : Int) := of_decide_eq_true (by first | (with_reducible assumption) | assumption)
       obtain ⟨hx112_0, hf112_0⟩ := Kd.R_celln 0 HO_161001.out ((ji100) : Int) p112 q112
       replace p112 := eq_true p112; replace q112 := eq_true q112
       have HP129 := Kd.R_putn HO_161001.out ((ji100) : Int) (wrap64 ((rd y196 (ji100)) + t190))
       rw [← Ny198.out] at HP129
       have HQ129 := Aside0.mk HP129; clear HP129
       refine start_ (n := 12) (S := fun w' => w'.cell? ⟨gb160, 0, none⟩ = some (.slice (some ⟨go106, 0, none⟩) x161000_1.length co118) ∧ w'.cell? ⟨gb160, 1, none⟩ = some (.slice (some ⟨go110, 0, none⟩) x161001_1.length co125) ∧ w'.cell? ⟨go110, ((ji100)).toNat, none⟩ = some (.int .i64 (rd y196 (ji100)))) (ds := [11]) #[false, false, false, false, false, false, false, false, false, false, false, false] (by kernel_rfl) rfl rfl ⟨(blk_cell BK160.out 0).trans rfl, (blk_cell BK160.out 1).trans rfl, hx197_0⟩ (fun hHeld => ?_); refine with_tabW spec_l17Step.tab25 spec_l17Step.bits25 (fun HT_ HW_ => ?_)
       generalize w127.drew = w128 at HO_161000 HO_161001 BK146 BK147 BK160 HB HQ126 HQ129 hf112_0 hx112_0 hx197_0 hHeld ⊢
       refine pT_ 0 (some 177) #[true, false, false, false, false, false, false, false, false, false, false, false] HT_ ?_
       refine pT_ 2 (some 179) #[true, false, true, false, false, false, false, false, false, false, false, false] HT_ ?_
       refine pT_ 3 (some 180) #[true, false, true, true, false, false, false, false, false, false, false, false] HT_ ?_
       refine pT_ 5 (some 182) #[true, false, true, true, false, true, false, false, false, false, false, false] HT_ ?_
       refine pT_ 8 (some 185) #[true, false, true, true, false, true, false, false, true, false, false, false] HT_ ?_
       refine tT_ 1 (some 178) #[true, true, true, true, false, true, false, false, true, false, false, false] HT_ HW_ hHeld ?_ (hy := by rintro w' ⟨s0, s1, s2⟩; go_simp; with_reducible rfl)
       refine tT_ 4 (some 181) #[true, true, true, true, true, true, false, false, true, false, false, false] HT_ HW_ hHeld ?_ (hy := by rintro w' ⟨s0, s1, s2⟩; go_simp; with_reducible rfl)
       refine pT_ 6 (some 183) #[true, true, true, true, true, true, true, false, true, false, false, false] HT_ ?_
       refine tT_ 7 (some 184) #[true, true, true, true, true, true, true, true, true, false, false, false] HT_ HW_ hHeld ?_ (hy := by rintro w' ⟨s0, s1, s2⟩; go_simp; with_reducible rfl)
       refine pT_ 9 (some 186) #[true, true, true, true, true, true, true, true, true, true, false, false] HT_ ?_
       refine pT_ 10 (some 187) #[true, true, true, true, true, true, true, true, true, true, true, false] HT_ ?_
       refine last_ (i := 11) (N := none) #[true, true, true, true, true, true, true, true, true, true, true, true] rfl rfl (one_of HT_.out (by kernel_rfl)) (by decide) (fun K hK => ?_)
       refine skip_ (w1 := ?_) (by rfl) rfl ?_ ?_
       rotate_left
       ·go_simp
        rfl
       refine hK.out _ _ ?_
       clear hK K
       refine done_ (done_of HT_.out (by kernel_rfl)) ?_
       try go_wp2
       go_roundg k1
       case measure => have := HK1.out; omega
       case rel => exact ⟨(wrap64 (x7_1 + 1)), (y194), (y198), (.slice (some ⟨go106, 0, none⟩) x161000_1.length co118), (.slice (some ⟨go110, 0, none⟩) x161001_1.length co125), (by first | rfl | (simp; done) | (simp [*]; done)), H', ⟨by have := HK1.out; omega⟩, ⟨by (with_reducible repeat (first | apply Kd.R_alloc | apply Kd.R_drewN | apply Kd.R_drew)); exact Kd.R_mono (Kd.R_far (p := ⟨go110, ((ji100) : Int).toNat, none⟩) (Kd.R_mono HO_161000.out (fun k_ hk => (⟨hk, fun e_ => hk (by rw [e_]; rfl)⟩ : _ ∧ k_ ≠ go110))) (fun _ hk => hk.2) (.int .i64 (wrap64 ((rd y196 (ji100)) + t190)))) (fun _ hk => hk.1)⟩, ⟨by (with_reducible repeat (first | apply Kd.R_alloc | apply Kd.R_drewN | apply Kd.R_drew)); exact HQ129.out⟩, ⟨by (with_reducible repeat (first | refine blk_drewN ?_ _ | refine blk_drew ?_ | refine blk_alloc ?_ _)); refine blk_far ?_ (by have h_ := Kd.R_ne HO_161001.out BK146.out (by decide); intro e_; exact h_ (by rw [e_]; rfl)) _; exact bT_ BK146⟩, ⟨by (with_reducible repeat (first | refine blk_drewN ?_ _ | refine blk_drew ?_ | refine blk_alloc ?_ _)); refine blk_far ?_ (by have h_ := Kd.R_ne HO_161001.out BK147.out (by decide); intro e_; exact h_ (by rw [e_]; rfl)) _; exact bT_ BK147⟩, ⟨by (with_reducible repeat (first | refine blk_drewN ?_ _ | refine blk_drew ?_ | refine blk_alloc ?_ _)); refine blk_far ?_ (by have h_ := Kd.R_ne HO_161001.out BK160.out (by decide); intro e_; exact h_ (by rw [e_]; rfl)) _; exact bT_ BK160⟩, ⟨by repeat (first | (with_reducible first | exact HB.out | apply below_alloc | apply pw_below_drewN | apply below_drew1 | refine below_set ?_ GB110.out | refine below_set ?_ GE146.out | refine below_set ?_ GE147.out | refine below_set ?_ GE160.out) | exact HB.out)⟩⟩
      ·rw [if_neg c103] at H
       have c103b0 : decide (0 < (rd l1 (ji100))) = false := decide_eq_false c103
       clear c103; have H' := Aside0.mk H; clear H; have hnb130 := NB146_147.out; have hnc130 := NB147_146.out; have hnb131 := NB146_160.out; have hnc131 := NB160_146.out
       have hcz132_0 : wr.cell? ⟨gb146, 0, none⟩ = some (.slice A0_0 l0_0.length c0_0) := (blk_cell BK146.out 0).trans rfl
       have hcz132_1 : wr.cell? ⟨gb146, 1, none⟩ = some (.slice A0_1 l0_1.length c0_1) := (blk_cell BK146.out 1).trans rfl
       have hfz132_0 := blk_frozen BK146.out 0; have hfz132_1 := blk_frozen BK146.out 1
       have p161 : 0 ≤ (x7_1 : Int) := of_decide_eq_true (by first | (with_reducible assumption) | assumption)
       have q161 : x7_1 < (l0_0.length : Int) := of_decide_eq_true (by first | (with_reducible assumption) | assumption)
       obtain ⟨ad161, e161, hx161_0⟩ := Kd.at_int HR0_0.out x7_1 p161 q161
       cases e161
       replace hx161_0 := (HB.out.cell (World.block_lt_of_cell? w _ hx161_0)).trans hx161_0
       replace p161 := eq_true p161; replace q161 := eq_true q161
       have p162 : 0 ≤ (x7_1 : Int) := of_decide_eq_true (by first | (with_reducible assumption) | assumption)
       have q162 : x7_1 < (l0_1.length : Int) := of_decide_eq_true (by first | (with_reducible assumption) | assumption)
       obtain ⟨ad162, e162, hx162_0⟩ := Kd.at_int HR0_1.out x7_1 p162 q162
       cases e162
       replace hx162_0 := (HB.out.cell (World.block_lt_of_cell? w _ hx162_0)).trans hx162_0
       replace p162 := eq_true p162; replace q162 := eq_true q162
       have p163 : 0 ≤ (x7_1 : Int) := of_decide_eq_true (by first | (with_reducible assumption) | assumption)
       have q163 : x7_1 < (l1.length : Int) := of_decide_eq_true (by first | (with_reducible assumption) | assumption)
       obtain ⟨ad163, e163, hx163_0⟩ := Kd.at_int HR1.out x7_1 p163 q163
       cases e163
       replace hx163_0 := (HB.out.cell (World.block_lt_of_cell? w _ hx163_0)).trans hx163_0
       replace p163 := eq_true p163; replace q163 := eq_true q163
       have p187 : 0 ≤ ((ji100) : Int) := of_decide_eq_true (by first | (with_reducible assumption) | assumption)
       have q187 : (ji100) < (l1.length : Int) := of_decide_eq_true (by first | (with_reducible assumption) | assumption)
       obtain ⟨ad187, e187, hx187_0⟩ := Kd.at_int HR1.out (ji100) p187 q187
       obtain rfl : ad163 = ad187 := (by injection e187)
       replace hx187_0 := (HB.out.cell (World.block_lt_of_cell? w _ hx187_0)).trans hx187_0
       replace p187 := eq_true p187; replace q187 := eq_true q187
       go_wp2
       go_roundg k1
       case measure => have := HK1.out; omega
       case rel => exact ⟨(wrap64 (x7_1 + 1)), (x161000_1), (x161001_1), (u161000), (u161001), (by first | rfl | (simp; done) | (simp [*]; done)), H', ⟨by have := HK1.out; omega⟩, ⟨by (with_reducible repeat (first | apply Kd.R_alloc | apply Kd.R_drewN | apply Kd.R_drew)); exact HO_161000.out⟩, ⟨by (with_reducible repeat (first | apply Kd.R_alloc | apply Kd.R_drewN | apply Kd.R_drew)); exact HO_161001.out⟩, ⟨by exact bT_ BK146⟩, ⟨by exact bT_ BK147⟩, ⟨by exact bT_ BK160⟩, ⟨by repeat (first | (with_reducible first | exact HB.out | apply below_alloc | apply pw_below_drewN | apply below_drew1 | refine below_set ?_ GE146.out | refine below_set ?_ GE147.out | refine below_set ?_ GE160.out) | exact HB.out)⟩⟩
   ·rw [if_neg c24] at H
    have c24b0 : decide (x7_1 < (l0_0.length : Int)) = false := decide_eq_false c24
    clear c24
    simp only [Option.some.injEq, Prod.mk.injEq] at H
    obtain ⟨rfl, rfl⟩ := H
    have hnb133 := NB160_146.out; have hnc133 := NB146_160.out; have hnb134 := NB160_147.out; have hnc134 := NB147_160.out
    have hcz135_0 : wr.cell? ⟨gb160, 0, none⟩ = some (u161000) := (blk_cell BK160.out 0).trans rfl
    have hcz135_1 : wr.cell? ⟨gb160, 1, none⟩ = some (u161001) := (blk_cell BK160.out 1).trans rfl
    have hfz135_0 := blk_frozen BK160.out 0; have hfz135_1 := blk_frozen BK160.out 1
    obtain ⟨Ao136, co136, eo136⟩ := Kd.R_slice HO_161000.out
    subst eo136
    have hnb137 := NB147_146.out; have hnc137 := NB146_147.out
    have hcz138_0 : wr.cell? ⟨gb147, 0, none⟩ = some (.slice none 0 0) := (blk_cell BK147.out 0).trans rfl
    have hcz138_1 : wr.cell? ⟨gb147, 1, none⟩ = some (.slice none 0 0) := (blk_cell BK147.out 1).trans rfl
    have hfz138_0 := blk_frozen BK147.out 0; have hfz138_1 := blk_frozen BK147.out 1
    obtain ⟨Ao139, co139, eo139⟩ := Kd.R_slice HO_161001.out
    subst eo139
    go_wp2
    refine bodyPost_ret (results_cell_row rfl _ _ gb147 26 #[.slice Ao136 x161000_1.length co136, .slice Ao139 x161001_1.length co139] (0, 0) _ rfl (by (with_reducible repeat (first | refine blk_drewN ?_ _ | refine blk_drew ?_ | refine blk_alloc ?_ _)); refine blk_put (cs := #[.slice Ao136 x161000_1.length co136, .slice none 0 0]) ?_ 1 _ rfl; (with_reducible repeat (first | refine blk_drewN ?_ _ | refine blk_drew ?_ | refine blk_alloc ?_ _)); refine blk_put (cs := #[.slice none 0 0, .slice none 0 0]) ?_ 0 _ rfl; exact bT_ BK147) Try.underlying26 rfl (by kernel_rfl)) rfl ?_
    exact ⟨_, _, by first | rfl | (simp [errW_none, errW_some] <;> rfl) | (simp [*, errW_none, errW_some] <;> rfl), by (with_reducible repeat (first | apply Kd.R_alloc | apply Kd.R_drewN | apply Kd.R_drew)); exact Kd.R_mono (Kd.R_far (p := ⟨gb147, 1, none⟩) (Kd.R_far (p := ⟨gb147, 0, none⟩) (Kd.R_types HO_161000.out BK147.out (by decide)) (fun _ hk => hk.2) (.slice Ao136 x161000_1.length co136)) (fun _ hk => hk.2) (.slice Ao139 x161001_1.length co139)) (fun _ hk => hk.1), by (with_reducible repeat (first | apply Kd.R_alloc | apply Kd.R_drewN | apply Kd.R_drew)); exact Kd.R_mono (Kd.R_far (p := ⟨gb147, 1, none⟩) (Kd.R_far (p := ⟨gb147, 0, none⟩) (Kd.R_types HO_161001.out BK147.out (by decide)) (fun _ hk => hk.2) (.slice Ao136 x161000_1.length co136)) (fun _ hk => hk.2) (.slice Ao139 x161001_1.length co139)) (fun _ hk => hk.1), by repeat (first | (with_reducible first | exact HB.out | apply below_alloc | apply pw_below_drewN | apply below_drew1 | refine below_set ?_ GE146.out | refine below_set ?_ GE147.out | refine below_set ?_ GE160.out) | exact HB.out)⟩

end Go.Proofs.Ytjmpgngndnheaaa.QFnExactRunRing
